-- declarations that this claim needs, copied by a program of the session
import Derived.Test.YtiahbcaoikoogabDoorKbM0
namespace Go.Proofs.YtiahbcaoikoogabDoor
open Go.RowKit Go.Proofs.YtiahbcaoikoogabDoorW.PrintWords Go.Proofs.YtiahbcaoikoogabDoorW.PrintLast Go.Proofs.YtiahbcaoikoogabDoorW.PrintMore
attribute [local go_sem] max2_int min2_int max_two min_two max_three min_three max_four min_four   
set_option linter.unusedVariables false
set_option linter.unusedSimpArgs false
theorem C_lit2 {e : Nat} {w : World} {A0 A1 : Option Addr} {c0 c1 b : Nat} {l0 l1 : List Int} (h0 : Kd.C (Kd.int .u8) w A0 l0.length l0) (h1 : Kd.C (Kd.int .u8) w A1 l1.length l1) (hc0 : l0.length ≤ c0) (hc1 : l1.length ≤ c1)
  (hx : w.cell? ⟨b, 0, none⟩ = some (.slice A0 l0.length c0)) (hy : w.cell? ⟨b, 1, none⟩ = some (.slice A1 l1.length c1)) : Kd.C (Kd.slice e (Kd.int .u8)) w (some ⟨b, 0, none⟩) 2 [l0, l1] := by
 refine ⟨rfl, by omega, fun _ => ⟨_, rfl, fun j p hj => ?_⟩⟩
 rcases j with _ | _ | j
 ·obtain rfl : l0 = p := by simpa using hj
  refine ⟨[.slice A0 l0.length c0], rfl, ⟨A0, c0, rfl, hc0, h0⟩, fun i u hu => ?_⟩
  rcases i with _ | i
  ·obtain rfl := Option.some.inj hu
   rw [add_plain]
   exact hx
  ·simp at hu
 ·obtain rfl : l1 = p := by simpa using hj
  refine ⟨[.slice A1 l1.length c1], rfl, ⟨A1, c1, rfl, hc1, h1⟩, fun i u hu => ?_⟩
  rcases i with _ | i
  ·obtain rfl := Option.some.inj hu
   rw [add_plain]
   exact hy
  ·simp at hu
 ·simp at hj
def bits_Join.l0 : Nat → Int → List Int → Int → Int → List Int → Int → List Int → Int → Option (List Int × Int)
 | 0, _, _, _, _, _, _, _, _ => none
 | k + 1, x5, x32, x33, x34, x102000, x102001, x103000, x103001 => if x34 < x33 then (if 0 ≤ x34 then (if x34 < (x32.length : Int) then (if 0 ≤ (wrap64 ((x102000.length : Int) - 1)) then (if (wrap64 ((x102000.length : Int) - 1)) < (x102000.length : Int) then (if 0 ≤ x5 then ((some (x102000.set ((wrap64 ((x102000.length : Int) - 1)) : Int).toNat (Go.bits .or .u8 (rd x102000 (wrap64 ((x102000.length : Int) - 1))) (shr .u8 (rd x32 x34) x5)) : List Int)).bind fun y112 => (if 0 ≤ (wrap64 (8 - x5)) then (if y112.length < 140737488355328 then (bits_Join.l0 k x5 x32 x33 (wrap64 (x34 + 1)) (y112 ++ [shl .u8 (rd x32 x34) (wrap64 (8 - x5))]) x102001 x103000 x103001) else (none)) else (none))) else (none)) else (none)) else (none)) else (none)) else (none)) else (if 0 ≤ (wrap64 (Int.tdiv (wrap64 ((wrap64 (x102001 + x103001)) + 7)) 8)) then (if (wrap64 (Int.tdiv (wrap64 ((wrap64 (x102001 + x103001)) + 7)) 8)) ≤ (x102000.length : Int) then (some ((x102000.take ((wrap64 (Int.tdiv (wrap64 ((wrap64 (x102001 + x103001)) + 7)) 8)) : Int).toNat), wrap64 (x102001 + x103001))) else (none)) else (none))
def bits_Join.f (k : Nat) (l0_0 : List Int) (a0_1 : Int) (l1_0 : List Int) (a1_1 : Int) : Option (List Int × Int) := if (Int.tmod a0_1 8) = 0 then ((slices_Concat_byte_byte.f [l0_0, l1_0]).bind fun t104 => (some (t104, wrap64 (a0_1 + a1_1)))) else ((slices_Clone_byte_byte.f l0_0).bind fun t107 => (bits_Join.l0 k (Int.tmod a0_1 8) l1_0 (l1_0.length : Int) 0 t107 a0_1 l1_0 a1_1))
def bits_Join.T2 : Bool × List (List Nat × List Nat) := (true, [([], []), ([0], [0]), ([], []), ([2], [2]), ([1, 3], [1, 3]), ([4], [4]), ([], []), ([6], [6]), ([], []), ([8], [8]), ([7, 9], [7, 9]), ([5, 10], [5, 10]), ([11, 5, 0, 1, 2, 3, 4, 5, 6, 7, 8, 9, 10, 11], [11])])
def bits_Join.B2 : List Nat := [0, 1, 0, 4, 15, 31, 0, 64, 0, 256, 960, 2047, 4095]
theorem bits_Join.tab2 : rtab .any (opsOf Tryd.f23 2) = bits_Join.T2 := by kernel_rfl
theorem bits_Join.bits2 : waitsOk bits_Join.T2.2 bits_Join.B2 = true := by kernel_rfl
def bits_Join.T8 : Bool × List (List Nat × List Nat) := (true, [([], []), ([0], [0]), ([], []), ([2], [2]), ([3], [3]), ([4], [4]), ([1, 5], [1, 5]), ([6], [6]), ([], []), ([], []), ([8, 9], [8, 9]), ([7, 10], [7, 10]), ([1, 5, 0, 1, 2, 3, 4, 5, 6, 7, 8, 9, 10, 11], [1, 5]), ([12, 11, 0, 1, 2, 3, 4, 5, 6, 7, 8, 9, 10, 11], [11, 12])])
def bits_Join.B8 : List Nat := [0, 1, 0, 4, 12, 28, 63, 127, 0, 0, 768, 2047, 4095, 8191]
theorem bits_Join.tab8 : rtab .any (opsOf Tryd.f23 8) = bits_Join.T8 := by kernel_rfl
theorem bits_Join.bits8 : waitsOk bits_Join.T8.2 bits_Join.B8 = true := by kernel_rfl
def bits_Join.T9 : Bool × List (List Nat × List Nat) := (true, [([], []), ([0], [0]), ([], []), ([], []), ([3], [3]), ([2, 4], [2, 4]), ([5], [5]), ([1, 6], [1, 6]), ([0, 1, 2, 3, 4, 5, 6, 7], []), ([8, 7, 7, 0, 1, 2, 3, 4, 5, 6, 7], [7, 8])])
def bits_Join.B9 : List Nat := [0, 1, 0, 0, 8, 28, 60, 127, 255, 511]
theorem bits_Join.tab9 : rtab .any (opsOf Tryd.f23 9) = bits_Join.T9 := by kernel_rfl
theorem bits_Join.bits9 : waitsOk bits_Join.T9.2 bits_Join.B9 = true := by kernel_rfl
set_option maxHeartbeats 8000000 in
set_option maxRecDepth 100000 in
theorem bits_Join.calls (k : Nat) (A0_0 : Option Addr) (c0_0 : Nat) (l0_0 : List Int) (a0_1 : Int) (A1_0 : Option Addr) (c1_0 : Nat) (l1_0 : List Int) (a1_1 : Int) (r1 : List Int) (r2 : Int) (w : World) (hr0_0 : Kd.C (Kd.int .u8) w A0_0 l0_0.length l0_0) (hc0_0 : l0_0.length ≤ c0_0) (hr1_0 : Kd.C (Kd.int .u8) w A1_0 l1_0.length l1_0) (hc1_0 : l1_0.length ≤ c1_0) (h : bits_Join.f k l0_0 a0_1 l1_0 a1_1 = some (r1, r2)) :
  Calls Tryd.prog 23 #[.agg #[.slice A0_0 l0_0.length c0_0, .int .i64 a0_1], .agg #[.slice A1_0 l1_0.length c1_0, .int .i64 a1_1]] w fun e w' => ∃ v0_ : Value, e = .returned (.agg #[v0_, .int .i64 r2]) ∧ Kd.R (Kd.int .u8) 5 w' w.heap.size (fun _ => True) v0_ r1 ∧ Below w.heap.size w w' := by
 have hu56 := Tryd.underlying56
 have HR0_0 := Aside0.mk hr0_0
 have HC0_0 := Aside0.mk hc0_0
 clear hr0_0 hc0_0
 have HR1_0 := Aside0.mk hr1_0
 have HC1_0 := Aside0.mk hc1_0
 clear hr1_0 hc1_0
 have HB := Aside0.mk (Below.refl w.heap.size w)
 have H : (if (Int.tmod a0_1 8) = 0 then ((slices_Concat_byte_byte.f [l0_0, l1_0]).bind fun t104 => (some (t104, wrap64 (a0_1 + a1_1)))) else ((slices_Clone_byte_byte.f l0_0).bind fun t107 => (bits_Join.l0 k (Int.tmod a0_1 8) l1_0 (l1_0.length : Int) 0 t107 a0_1 l1_0 a1_1))) = some (r1, r2) := h
 clear h
 by_cases c3 : (Int.tmod a0_1 8) = 0
 ·rw [if_pos c3] at H
  have c3b0 : ((Int.tmod a0_1 8) == 0) = true := beq_iff_eq.mpr c3
  have c3b1 : ((Int.tmod a0_1 8) != 0) = false := bne_eq_false_iff_eq.mpr c3
  clear c3
  replace H := Option.bind_eq_some_iff.mp H
  obtain ⟨t104, A40, H⟩ := H
  replace H : (some (t104, wrap64 (a0_1 + a1_1))) = some (r1, r2) := H
  have A4 := Aside0.mk A40
  clear A40
  simp only [Option.some.injEq, Prod.mk.injEq] at H
  obtain ⟨rfl, rfl⟩ := H
  go_enter Tryd.func23, Tryd.ntmps23
  try go_wp2_with (first | ((with_reducible refine gate_dst (N := 2) rfl ?_); refine box_event ?hg (N := 2) ?hd (cs := #[.slice A0_0 l0_0.length c0_0, .int .i64 a0_1]) (t := 56) ?hr ?_; (case hd => rfl); (case hg => rfl); (case hr => first | (go_simp; done) | (go_simp; rfl)); intro gb101 hg w5 hbox hb; have BK101 := Aside0.mk (hbox); have GW101 := kG hg HB; have GE101 := kG hg HB; replace HB := kH HB hb; clear hb hbox hg) | ((with_reducible refine gate_dst (N := 3) rfl ?_); refine box_event ?hg (N := 3) ?hd (cs := #[.slice A1_0 l1_0.length c1_0, .int .i64 a1_1]) (t := 56) ?hr ?_; (case hd => rfl); (case hg => rfl); (case hr => first | (go_simp; done) | (go_simp; rfl)); intro gb102 hg w6 hbox hb; have BK102 := Aside0.mk (hbox); have GW102 := kG hg HB; have GE102 := kG hg HB; replace HB := kH HB hb; obtain ⟨NB101_102, NB102_101⟩ := kN hg BK101; replace BK101 := kB BK101 hb; clear hb hbox hg) | ((with_reducible refine gate_dst (N := 4) rfl ?_); refine box_event ?hg (N := 4) ?hd (cs := #[.slice none 0 0, .int .i64 0]) (t := 56) ?hr ?_; (case hd => rfl); (case hg => rfl); (case hr => first | (go_simp; done) | (go_simp; rfl)); intro gb103 hg w7 hbox hb; have BK103 := Aside0.mk (hbox); have GW103 := kG hg HB; have GE103 := kG hg HB; replace HB := kH HB hb; obtain ⟨NB101_103, NB103_101⟩ := kN hg BK101; replace BK101 := kB BK101 hb; obtain ⟨NB102_103, NB103_102⟩ := kN hg BK102; replace BK102 := kB BK102 hb; clear hb hbox hg; have hnb8 := NB101_102.out; have hnc8 := NB102_101.out; have hnb9 := NB101_103.out; have hnc9 := NB103_101.out; have hcz10_0 : w7.cell? ⟨gb101, 0, none⟩ = some (.slice A0_0 l0_0.length c0_0) := (blk_cell BK101.out 0).trans rfl; have hcz10_1 : w7.cell? ⟨gb101, 1, none⟩ = some (.int .i64 a0_1) := (blk_cell BK101.out 1).trans rfl; have hfz10_0 := blk_frozen BK101.out 0; have hfz10_1 := blk_frozen BK101.out 1))
  replace BK101 := Aside0.mk (blk_drew BK101.out)
  replace BK102 := Aside0.mk (blk_drew BK102.out)
  replace BK103 := Aside0.mk (blk_drew BK103.out)
  replace HB := Aside0.mk (below_drew1 HB.out)
  refine start_ (n := 13) (S := fun w' => w'.cell? ⟨gb101, 0, none⟩ = some (.slice A0_0 l0_0.length c0_0) ∧ w'.cell? ⟨gb101, 1, none⟩ = some (.int .i64 a0_1) ∧ w'.cell? ⟨gb102, 0, none⟩ = some (.slice A1_0 l1_0.length c1_0) ∧ w'.cell? ⟨gb102, 1, none⟩ = some (.int .i64 a1_1)) (ds := []) (bl 13 0) (by kernel_rfl) rfl rfl kz (fun hHeld => ?_); refine with_tabW bits_Join.tab2 bits_Join.bits2 (fun HT_ HW_ => ?_)
  generalize w7.drew = w11 at BK101 BK102 BK103 HB hHeld ⊢
  refine pu 0 (some 12) (bl 13 1) (h := ?_)
  refine pu 2 (some 14) (bl 13 5) (h := ?_)
  refine pu 6 (some 18) (bl 13 69) (h := ?_)
  refine pu 8 (some 20) (bl 13 325) (h := ?_)
  refine ta 1 (some 13) (bl 13 327) (h := ?_)
  refine ta 3 (some 15) (bl 13 335) (h := ?_)
  refine ta 7 (some 19) (bl 13 463) (h := ?_)
  refine ta 9 (some 21) (bl 13 975) (h := ?_)
  refine pu 10 (some 22) (bl 13 1999) (h := ?_)
  refine one_ (i := 4) (N := some 16) #[true, true, true, true, true, false, true, true, true, true, true, false, false] rfl rfl (one_of HT_.out (by kernel_rfl)) (by decide) (fun K hK => ?_)
  refine event_step (by rfl) (w1 := w11.alloc (.cells #[.slice A0_0 l0_0.length c0_0, .slice A1_0 l1_0.length c1_0] 23)) (v := .slice (some ⟨w11.heap.size, 0, none⟩) 2 2) (by go_simp) ?_
  have hb : Below w11.heap.size w11 (w11.alloc (.cells #[.slice A0_0 l0_0.length c0_0, .slice A1_0 l1_0.length c1_0] 23)) := below_alloc (Below.refl _ _) _
  have n0_ := Aside0.mk (blk_below (g := gb101) (o := .cells #[.slice A0_0 l0_0.length c0_0, .int .i64 a0_1] 56 (0, 0)) BK101.out hb)
  have n1_ := Aside0.mk (blk_below (g := gb102) (o := .cells #[.slice A1_0 l1_0.length c1_0, .int .i64 a1_1] 56 (0, 0)) BK102.out hb)
  have n2_ := Aside0.mk (blk_below (g := gb103) (o := .cells #[.slice none 0 0, .int .i64 0] 56 (0, 0)) BK103.out hb)
  have n3_ := Aside0.mk (below_step HB.out hb)
  have hw_ : Below w.heap.size w (w11.alloc (.cells #[.slice A0_0 l0_0.length c0_0, .slice A1_0 l1_0.length c1_0] 23)) := n3_.out
  have CL : Aside0 (Kd.C (Kd.slice 5 (Kd.int .u8)) (w11.alloc (.cells #[.slice A0_0 l0_0.length c0_0, .slice A1_0 l1_0.length c1_0] 23)) (some ⟨w11.heap.size, 0, none⟩) 2 [l0_0, l1_0]) := ⟨C_lit2 (Kd.C_below HR0_0.out hw_) (Kd.C_below HR1_0.out hw_) HC0_0.out HC1_0.out ((blk_cell (blk_new w11 (.cells #[.slice A0_0 l0_0.length c0_0, .slice A1_0 l1_0.length c1_0] 23)) 0).trans rfl) ((blk_cell (blk_new w11 (.cells #[.slice A0_0 l0_0.length c0_0, .slice A1_0 l1_0.length c1_0] 23)) 1).trans rfl)⟩
  clear BK101
  clear BK102
  clear BK103
  clear HB hw_ hb
  have BK101 := n0_
  have BK102 := n1_
  have BK103 := n2_
  have HB := n3_
  clear n0_ n1_ n2_ n3_
  generalize (w11.alloc (.cells #[.slice A0_0 l0_0.length c0_0, .slice A1_0 l1_0.length c1_0] 23)) = wl_ at BK101 BK102 BK103 HB CL ⊢
  refine hK.out _ _ kz (fun hHeld => ?_)
  clear hK K
  refine norm_ (a' := ?_) ?_ ?_
  rotate_left
  ·show Act.put _ (some 16) _ = _
   simp only [Act.put, List.setIfInBounds_toArray, List.set_cons_zero, List.set_cons_succ, i64_w, i32_w]
   rfl
  refine one_ (i := 5) (N := some 17) #[true, true, true, true, true, true, true, true, true, true, true, false, false] rfl rfl (one_of HT_.out (by kernel_rfl)) (by decide) (fun K hK => ?_)
  refine goes_ Tryd.func37 (by kernel_rfl) rfl #[.slice (some ⟨w11.heap.size, 0, none⟩) 2 2] (by rfl) rfl rfl km ?_
  refine (slices_Concat_byte_byte.calls (some ⟨w11.heap.size, 0, none⟩) 2 [l0_0, l1_0] t104 _ ?side1 ?side2 A4.out).mono ?_
  (case side1 => exact CL.out)
  (case side2 => exact Nat.le_refl _)
  rintro e w12 ⟨v105, rfl, ho0, hb⟩
  refine ⟨_, rfl, ?_⟩
  have HO106 := Aside0.mk (Kd.R_lower ho0 (below_size (kl HB)))
  replace BK101 := kB BK101 hb
  replace BK102 := kB BK102 hb
  replace BK103 := kB BK103 hb
  replace HB := kH HB hb
  (try clear hb)
  (try clear hb2)
  (try clear hk)
  (try clear hi)
  (try clear hgw)
  (try clear ho0)
  obtain ⟨Ao13, co13, eo13⟩ := Kd.R_slice HO106.out
  (first | subst eo13 | (injection eo13 with f1_ f2_ f3_; have f4_ := f1_.symm; have f5_ := f3_.symm; clear f1_ f2_ f3_; subst f4_; subst f5_))
  refine hK.out _ _ kz (fun hHeld => ?_)
  clear hK K
  refine norm_ (a' := ?_) ?_ ?_
  rotate_left
  ·show Act.put _ (some 17) _ = _
   simp only [Act.put, List.setIfInBounds_toArray, List.set_cons_zero, List.set_cons_succ, i64_w, i32_w]
   rfl
  refine pu 11 (some 23) (bl 13 4095) (h := ?_)
  refine one_ (i := 12) (N := none) #[true, true, true, true, true, true, true, true, true, true, true, true, true] rfl rfl (one_of HT_.out (by kernel_rfl)) (by decide) (fun K hK => ?_)
  have hs14 : w12.cell? ⟨gb103, 0, none⟩ = some (.slice none 0 0) := (blk_cell BK103.out 0).trans rfl
  have hfs14 := blk_frozen BK103.out 0
  have hns14_0 := NB101_103.out
  have hns14_1 := NB102_103.out
  have hms14_0 := NB103_101.out
  have hms14_1 := NB103_102.out
  have hs15 : w12.cell? ⟨gb103, 1, none⟩ = some (.int .i64 0) := (blk_cell BK103.out 1).trans rfl
  have hfs15 := blk_frozen BK103.out 1
  refine skip_ (w1 := ?_) (by rfl) rfl ?_ ?_
  rotate_left
  ·go_simp
   rfl
  refine hK.out _ _ (ks hHeld) (fun hHeld => ?_)
  clear hK K
  refine done_ (done_of HT_.out (by kernel_rfl)) ?_
  try go_wp2
  refine bodyPost_ret (results_cell_row rfl _ _ gb103 56 #[.slice Ao13 t104.length co13, .int .i64 (wrap64 (a0_1 + a1_1))] (0, 0) _ rfl (kb BK103) Tryd.underlying56 rfl (by kernel_rfl)) rfl ?_
  exact ⟨_, by first | rfl | (simp [errW_none, errW_some] <;> rfl) | (simp [*, errW_none, errW_some] <;> rfl), by (with_reducible repeat (first | apply Kd.R_alloc | apply Kd.R_drewN | apply Kd.R_drew)); exact Kd.R_mono (Kd.R_far (p := ⟨gb103, 1, none⟩) (Kd.R_far (p := ⟨gb103, 0, none⟩) (Kd.R_types HO106.out BK103.out (by decide)) (fun _ hk => hk.2) (.slice Ao13 t104.length co13)) (fun _ hk => hk.2) (.int .i64 (wrap64 (a0_1 + a1_1)))) (fun _ hk => trivial), (kl HB)⟩
 ·rw [if_neg c3] at H
  have c3b0 : ((Int.tmod a0_1 8) == 0) = false := beq_eq_false_iff_ne.mpr c3
  have c3b1 : ((Int.tmod a0_1 8) != 0) = true := bne_iff_ne.mpr c3
  replace H := Option.bind_eq_some_iff.mp H
  obtain ⟨t107, A160, H⟩ := H
  replace H : (bits_Join.l0 k (Int.tmod a0_1 8) l1_0 (l1_0.length : Int) 0 t107 a0_1 l1_0 a1_1) = some (r1, r2) := H
  have A16 := Aside0.mk A160
  clear A160
  have H' := Aside0.mk H
  clear H
  go_enter Tryd.func23, Tryd.ntmps23
  go_wp2_with (first | ((with_reducible refine gate_dst (N := 2) rfl ?_); refine box_event ?hg (N := 2) ?hd (cs := #[.slice A0_0 l0_0.length c0_0, .int .i64 a0_1]) (t := 56) ?hr ?_; (case hd => rfl); (case hg => rfl); (case hr => first | (go_simp; done) | (go_simp; rfl)); intro gb101 hg w17 hbox hb; have BK101 := Aside0.mk (hbox); have GW101 := kG hg HB; have GE101 := kG hg HB; replace HB := kH HB hb; clear hb hbox hg) | ((with_reducible refine gate_dst (N := 3) rfl ?_); refine box_event ?hg (N := 3) ?hd (cs := #[.slice A1_0 l1_0.length c1_0, .int .i64 a1_1]) (t := 56) ?hr ?_; (case hd => rfl); (case hg => rfl); (case hr => first | (go_simp; done) | (go_simp; rfl)); intro gb102 hg w18 hbox hb; have BK102 := Aside0.mk (hbox); have GW102 := kG hg HB; have GE102 := kG hg HB; replace HB := kH HB hb; obtain ⟨NB101_102, NB102_101⟩ := kN hg BK101; replace BK101 := kB BK101 hb; clear hb hbox hg) | ((with_reducible refine gate_dst (N := 4) rfl ?_); refine box_event ?hg (N := 4) ?hd (cs := #[.slice none 0 0, .int .i64 0]) (t := 56) ?hr ?_; (case hd => rfl); (case hg => rfl); (case hr => first | (go_simp; done) | (go_simp; rfl)); intro gb103 hg w19 hbox hb; have BK103 := Aside0.mk (hbox); have GW103 := kG hg HB; have GE103 := kG hg HB; replace HB := kH HB hb; obtain ⟨NB101_103, NB103_101⟩ := kN hg BK101; replace BK101 := kB BK101 hb; obtain ⟨NB102_103, NB103_102⟩ := kN hg BK102; replace BK102 := kB BK102 hb; clear hb hbox hg; have hnb20 := NB101_102.out; have hnc20 := NB102_101.out; have hnb21 := NB101_103.out; have hnc21 := NB103_101.out; have hcz22_0 : w19.cell? ⟨gb101, 0, none⟩ = some (.slice A0_0 l0_0.length c0_0) := (blk_cell BK101.out 0).trans rfl; have hcz22_1 : w19.cell? ⟨gb101, 1, none⟩ = some (.int .i64 a0_1) := (blk_cell BK101.out 1).trans rfl; have hfz22_0 := blk_frozen BK101.out 0; have hfz22_1 := blk_frozen BK101.out 1) | ((with_reducible refine gate_callee (f := 38) rfl ?_); refine goesL_ (some 26) rfl rfl Tryd.func38 (by kernel_rfl) rfl #[.slice A0_0 l0_0.length c0_0] rfl km ?_; (with_reducible refine (slices_Clone_byte_byte.calls _ _ l0_0 t107 _ ?side1 ?side2 A16.out).mono ?_); (case side1 => repeat (first | exact (Kd.C_below HR0_0.out HB.out) | (with_reducible refine Kd.C_alloc ?_ _) | (with_reducible refine Kd.C_drewN ?_ _) | (with_reducible refine Kd.C_drew ?_))); (case side2 => exact HC0_0.out); rintro e w23 ⟨v108, rfl, ho0, hb⟩; refine ⟨_, rfl, ?_⟩; have HO109 := Aside0.mk (Kd.R_lower ho0 (below_size (kl HB))); replace BK101 := kB BK101 hb; replace BK102 := kB BK102 hb; replace BK103 := kB BK103 hb; replace HB := kH HB hb; (try clear hb); (try clear hb2); (try clear hk); (try clear hi); (try clear hgw); (try clear ho0); obtain ⟨Ao24, co24, eo24⟩ := Kd.R_slice HO109.out; subst eo24; have hcz25_0 : w23.cell? ⟨gb101, 0, none⟩ = some (.slice A0_0 l0_0.length c0_0) := (blk_cell BK101.out 0).trans rfl; have hcz25_1 : w23.cell? ⟨gb101, 1, none⟩ = some (.int .i64 a0_1) := (blk_cell BK101.out 1).trans rfl; have hfz25_0 := blk_frozen BK101.out 0; have hfz25_1 := blk_frozen BK101.out 1; have hnb26 := NB102_103.out; have hnc26 := NB103_102.out; have hcz27_0 : w23.cell? ⟨gb102, 0, none⟩ = some (.slice A1_0 l1_0.length c1_0) := (blk_cell BK102.out 0).trans rfl; have hcz27_1 : w23.cell? ⟨gb102, 1, none⟩ = some (.int .i64 a1_1) := (blk_cell BK102.out 1).trans rfl; have hfz27_0 := blk_frozen BK102.out 0; have hfz27_1 := blk_frozen BK102.out 1))
  go_loopg [34] k (fun kq v34 w' => ∃ (x34_1 : Int) (x102000_1 : List Int) (u102000 : Value), v34 = .int .i64 x34_1 ∧ Aside0 (bits_Join.l0 kq (Int.tmod a0_1 8) l1_0 (l1_0.length : Int) x34_1 x102000_1 a0_1 l1_0 a1_1 = some (r1, r2)) ∧ Aside0 (kq ≤ k) ∧ Aside0 (Kd.R (Kd.int .u8) 5 w' w.heap.size (fun _ => True) u102000 x102000_1) ∧ Aside0 (w'.heap[gb101]? = some (.cells #[u102000, .int .i64 a0_1] 56 (0, 0))) ∧ Aside0 (w'.heap[gb102]? = some (.cells #[(.slice A1_0 l1_0.length c1_0), .int .i64 a1_1] 56 (0, 0))) ∧ Aside0 (w'.heap[gb103]? = some (.cells #[(.slice none 0 0), .int .i64 0] 56 (0, 0))) ∧ Aside0 (Below w.heap.size w w'))
  case atStart => exact ⟨(0), (t107), (.slice Ao24 t107.length co24), (by first | rfl | (simp; done) | (simp [*]; done)), H', ⟨Nat.le_refl _⟩, ⟨by (with_reducible repeat (first | apply Kd.R_alloc | apply Kd.R_drewN | apply Kd.R_drew)); exact Kd.R_mono (Kd.R_far (p := ⟨gb101, 0, none⟩) (Kd.R_types HO109.out BK101.out (by decide)) (fun _ hk => hk.2) (.slice Ao24 t107.length co24)) (fun _ hk => trivial)⟩, ⟨(kb BK101)⟩, ⟨(kb BK102)⟩, ⟨(kb BK103)⟩, ⟨(kl HB)⟩⟩
  case round =>
   clear H'
   try clear c1
   try clear c2
   try clear p2
   try clear c3
   try clear c3b0
   try clear c3b1
   try clear p6
   try clear c8
   try clear c9
   try clear c20
   try clear c21
   try clear c23
   try clear c26
   try clear hcz10_0
   try clear hcz10_1
   try clear hcz22_0
   try clear hcz22_1
   try clear hcz25_0
   try clear hcz25_1
   try clear hcz27_0
   try clear hcz27_1
   try clear hfz10_0
   try clear hfz10_1
   try clear hfz22_0
   try clear hfz22_1
   try clear hfz25_0
   try clear hfz25_1
   try clear hfz27_0
   try clear hfz27_1
   obtain ⟨x34_1, x102000_1, u102000, rfl, HA, HK1, HO_102000, BK101, BK102, BK103, HB⟩ := hrel
   cases gk with
   | zero => exact absurd HA.out (by simp [bits_Join.l0])
   | succ k1 =>
    have H := HA.out
    clear HA
    simp only [bits_Join.l0] at H
    by_cases c28 : x34_1 < (l1_0.length : Int)
    ·rw [if_pos c28] at H
     have c28b0 : decide (x34_1 < (l1_0.length : Int)) = true := decide_eq_true c28
     clear c28
     by_cases c29 : 0 ≤ x34_1
     ·rw [if_pos c29] at H
      have c29b0 : decide (0 ≤ x34_1) = true := decide_eq_true c29
      clear c29
      by_cases c30 : x34_1 < (l1_0.length : Int)
      ·rw [if_pos c30] at H
       have c30b0 : decide (x34_1 < (l1_0.length : Int)) = true := decide_eq_true c30
       clear c30
       obtain ⟨ji31, hji31⟩ : ∃ j_ : Int, (wrap64 ((x102000_1.length : Int) - 1)) = j_ := ⟨_, rfl⟩
       replace H : (if 0 ≤ (ji31) then (if (ji31) < (x102000_1.length : Int) then (if 0 ≤ (Int.tmod a0_1 8) then ((some (x102000_1.set ((ji31) : Int).toNat (Go.bits .or .u8 (rd x102000_1 (ji31)) (shr .u8 (rd l1_0 x34_1) (Int.tmod a0_1 8))) : List Int)).bind fun y112 => (if 0 ≤ (wrap64 (8 - (Int.tmod a0_1 8))) then (if y112.length < 140737488355328 then (bits_Join.l0 k1 (Int.tmod a0_1 8) l1_0 (l1_0.length : Int) (wrap64 (x34_1 + 1)) (y112 ++ [shl .u8 (rd l1_0 x34_1) (wrap64 (8 - (Int.tmod a0_1 8)))]) a0_1 l1_0 a1_1) else (none)) else (none))) else (none)) else (none)) else (none)) = some (r1, r2) := by first | (rw [hji31] at H; exact H) | (simp only [hji31] at H ⊢; exact H)
       have hji31w : (IntKind.i64.wrap ((x102000_1.length : Int) - 1)) = ji31 := (i64_w _).trans hji31
       by_cases c32 : 0 ≤ (ji31)
       ·rw [if_pos c32] at H
        have c32b0 : decide (0 ≤ (ji31)) = true := decide_eq_true c32
        clear c32
        by_cases c33 : (ji31) < (x102000_1.length : Int)
        ·rw [if_pos c33] at H
         have c33b0 : decide ((ji31) < (x102000_1.length : Int)) = true := decide_eq_true c33
         clear c33
         obtain ⟨ji34, hji34⟩ : ∃ j_ : Int, (Int.tmod a0_1 8) = j_ := ⟨_, rfl⟩
         replace H : (if 0 ≤ (ji34) then ((some (x102000_1.set ((ji31) : Int).toNat (Go.bits .or .u8 (rd x102000_1 (ji31)) (shr .u8 (rd l1_0 x34_1) (ji34))) : List Int)).bind fun y112 => (if 0 ≤ (wrap64 (8 - (ji34))) then (if y112.length < 140737488355328 then (bits_Join.l0 k1 (ji34) l1_0 (l1_0.length : Int) (wrap64 (x34_1 + 1)) (y112 ++ [shl .u8 (rd l1_0 x34_1) (wrap64 (8 - (ji34)))]) a0_1 l1_0 a1_1) else (none)) else (none))) else (none)) = some (r1, r2) := by first | (rw [hji34] at H; exact H) | (simp only [hji34] at H ⊢; exact H)
         (try rw [hji34] at c3b0)
         (try rw [hji34] at c3b1)
         by_cases c35 : 0 ≤ (ji34)
         ·rw [if_pos c35] at H
          have c35b0 := eq_true c35
          have c35b1 : decide (0 ≤ (ji34)) = true := decide_eq_true c35
          clear c35
          obtain ⟨ji36, hji36⟩ : ∃ j_ : Int, (shr .u8 (rd l1_0 x34_1) (ji34)) = j_ := ⟨_, rfl⟩
          replace H : ((some (x102000_1.set ((ji31) : Int).toNat (Go.bits .or .u8 (rd x102000_1 (ji31)) (ji36)) : List Int)).bind fun y112 => (if 0 ≤ (wrap64 (8 - (ji34))) then (if y112.length < 140737488355328 then (bits_Join.l0 k1 (ji34) l1_0 (l1_0.length : Int) (wrap64 (x34_1 + 1)) (y112 ++ [shl .u8 (rd l1_0 x34_1) (wrap64 (8 - (ji34)))]) a0_1 l1_0 a1_1) else (none)) else (none))) = some (r1, r2) := by first | (rw [hji36] at H; exact H) | (simp only [hji36] at H ⊢; exact H)
          have hji36_ : ((rd l1_0 x34_1) / 2 ^ min (ji34).toNat 8) = ji36 := hji36
          have hji36z : (ji34) ≤ 8 → ((rd l1_0 x34_1) / 2 ^ (ji34).toNat) = ji36 := shr_small hji36
          obtain ⟨y112, hy112⟩ : ∃ y_ : List Int, y_ = (x102000_1.set ((ji31) : Int).toNat (Go.bits .or .u8 (rd x102000_1 (ji31)) (ji36))) := ⟨_, rfl⟩
          replace H : (if 0 ≤ (wrap64 (8 - (ji34))) then (if y112.length < 140737488355328 then (bits_Join.l0 k1 (ji34) l1_0 (l1_0.length : Int) (wrap64 (x34_1 + 1)) (y112 ++ [shl .u8 (rd l1_0 x34_1) (wrap64 (8 - (ji34)))]) a0_1 l1_0 a1_1) else (none)) else (none)) = some (r1, r2) := by first | (rw [hy112]; with_reducible exact H) | (have H2_ := (Option.bind_some _ _).symm.trans H; rw [hy112]; with_reducible exact H2_) | (have H2_ := (Option.bind_some _ _).symm.trans H; with_reducible exact H2_) | with_reducible exact H | (rw [hy112]; exact H) | exact H
          have Ny112 := Aside0.mk hy112
          clear hy112
          obtain ⟨ji38, hji38⟩ : ∃ j_ : Int, (wrap64 (8 - (ji34))) = j_ := ⟨_, rfl⟩
          replace H : (if 0 ≤ (ji38) then (if y112.length < 140737488355328 then (bits_Join.l0 k1 (ji34) l1_0 (l1_0.length : Int) (wrap64 (x34_1 + 1)) (y112 ++ [shl .u8 (rd l1_0 x34_1) (ji38)]) a0_1 l1_0 a1_1) else (none)) else (none)) = some (r1, r2) := by first | (rw [hji38] at H; exact H) | (simp only [hji38] at H ⊢; exact H)
          have hji38w : (IntKind.i64.wrap (8 - (ji34))) = ji38 := (i64_w _).trans hji38
          by_cases c39 : 0 ≤ (ji38)
          ·rw [if_pos c39] at H
           have c39b0 := eq_true c39
           have c39b1 : decide (0 ≤ (ji38)) = true := decide_eq_true c39
           clear c39
           obtain ⟨ji40, hji40⟩ : ∃ j_ : Int, (shl .u8 (rd l1_0 x34_1) (ji38)) = j_ := ⟨_, rfl⟩
           replace H : (if y112.length < 140737488355328 then (bits_Join.l0 k1 (ji34) l1_0 (l1_0.length : Int) (wrap64 (x34_1 + 1)) (y112 ++ [ji40]) a0_1 l1_0 a1_1) else (none)) = some (r1, r2) := by first | (rw [hji40] at H; exact H) | (simp only [hji40] at H ⊢; exact H)
           have hji40_ : (IntKind.u8.wrap ((rd l1_0 x34_1) * 2 ^ min (ji38).toNat 8)) = ji40 := hji40
           have hji40z : (ji38) ≤ 8 → (IntKind.u8.wrap ((rd l1_0 x34_1) * 2 ^ (ji38).toNat)) = ji40 := shl_small hji40
           have hji40m : ((rd l1_0 x34_1) * 2 ^ min (ji38).toNat 8) % 256 = ji40 := (IntKind.wrap_u8 _).symm.trans hji40_
           have hji40n : (ji38) ≤ 8 → ((rd l1_0 x34_1) * 2 ^ (ji38).toNat) % 256 = ji40 := fun h_ => (IntKind.wrap_u8 _).symm.trans (hji40z h_)
           by_cases c41 : y112.length < 140737488355328
           ·rw [if_pos c41] at H
            have LMc41 := Aside0.mk c41
            clear c41
            obtain ⟨y113, hy113⟩ : ∃ y_ : List Int, y_ = (y112 ++ [ji40]) := ⟨_, rfl⟩
            replace H : (bits_Join.l0 k1 (ji34) l1_0 (l1_0.length : Int) (wrap64 (x34_1 + 1)) y113 a0_1 l1_0 a1_1) = some (r1, r2) := by first | (rw [hy113]; with_reducible exact H) | (have H2_ := (Option.bind_some _ _).symm.trans H; rw [hy113]; with_reducible exact H2_) | (have H2_ := (Option.bind_some _ _).symm.trans H; with_reducible exact H2_) | with_reducible exact H | (rw [hy113]; exact H) | exact H
            have Ny113 := Aside0.mk hy113
            clear hy113
            have H' := Aside0.mk H
            clear H
            have p110 : 0 ≤ (x34_1 : Int) := of_decide_eq_true (by first | (with_reducible assumption) | assumption)
            have q110 : x34_1 < (l1_0.length : Int) := of_decide_eq_true (by first | (with_reducible assumption) | assumption)
            obtain ⟨ad110, e110, hx110_0⟩ := Kd.at_int HR1_0.out x34_1 p110 q110
            cases e110
            replace hx110_0 := (HB.out.cell (World.block_lt_of_cell? w _ hx110_0)).trans hx110_0
            replace p110 := eq_true p110
            (try (have q110s := q110; simp only [List.length_drop, List.length_take] at q110s; replace q110s := eq_true q110s)); replace q110 := eq_true q110
            try go_wp2
            replace HO_102000 := Aside0.mk (Kd.R_drew HO_102000.out)
            replace BK101 := Aside0.mk (blk_drew BK101.out)
            replace BK102 := Aside0.mk (blk_drew BK102.out)
            replace BK103 := Aside0.mk (blk_drew BK103.out)
            replace HB := Aside0.mk (below_drew1 HB.out)
            obtain ⟨Ao43, co43, eo43⟩ := Kd.R_slice HO_102000.out
            (first | subst eo43 | (injection eo43 with f1_ f2_ f3_; have f4_ := f1_.symm; have f5_ := f3_.symm; clear f1_ f2_ f3_; subst f4_; subst f5_))
            have p111 : 0 ≤ ((ji31) : Int) := of_decide_eq_true (by first | (with_reducible assumption) | assumption)
            have q111 : (ji31) < (x102000_1.length : Int) := of_decide_eq_true (by first | (with_reducible assumption) | assumption)
            obtain ⟨ad111, e111, hx111_0⟩ := Kd.at_int (Kd.R_reads' HO_102000.out).2.2 (ji31) p111 q111
            cases e111
            replace p111 := eq_true p111
            (try (have q111s := q111; simp only [List.length_drop, List.length_take] at q111s; replace q111s := eq_true q111s)); replace q111 := eq_true q111
            have p37 : 0 ≤ ((ji31) : Int) := of_decide_eq_true (by first | (with_reducible assumption) | assumption)
            have q37 : ((ji31) : Int) < ((x102000_1.length : Int) : Int) := of_decide_eq_true (by first | (with_reducible assumption) | assumption)
            obtain ⟨go37, co37, eo37, gb37, gl37, cl37, HG37⟩ := Kd.R_form HO_102000.out (by omega)
            (first | cases eo37 | (injection eo37 with ea_ en_ ec_; (first | subst ea_ | (injection ea_ with ea_; subst ea_)); subst ec_; clear en_))
            have GB37 := Aside0.mk gb37
            have GG37 := Aside0.mk HG37
            clear gb37 gl37 HG37
            (first | simp only [add_plain] at hx111_0 | skip)
            obtain ⟨hx37_0, hf37_0⟩ := Kd.R_celln 0 HO_102000.out ((ji31) : Int) p37 q37
            replace p37 := eq_true p37
            (try (have q37s := q37; simp only [List.length_drop, List.length_take] at q37s; replace q37s := eq_true q37s)); replace q37 := eq_true q37
            have HP44 := Kd.R_putn HO_102000.out ((ji31) : Int) (Go.bits .or .u8 (rd x102000_1 (ji31)) (ji36))
            rw [← Ny112.out] at HP44
            have HQ44 := Aside0.mk HP44
            clear HP44
            refine start_ (n := 14) (S := fun w' => w'.cell? ⟨gb101, 0, none⟩ = some (.slice (some ⟨go37, 0, none⟩) x102000_1.length co43) ∧ w'.cell? ⟨gb101, 1, none⟩ = some (.int .i64 a0_1) ∧ w'.cell? ⟨go37, ((ji31)).toNat, none⟩ = some (.int .u8 (rd x102000_1 (ji31)))) (ds := [13]) (bl 14 0) (by kernel_rfl) rfl rfl ⟨(blk_cell BK101.out 0).trans rfl, (blk_cell BK101.out 1).trans rfl, hx111_0⟩ (fun hHeld => ?_); refine with_tabW bits_Join.tab8 bits_Join.bits8 (fun HT_ HW_ => ?_)
            generalize wr.drew = w42 at HO_102000 BK101 BK102 BK103 HB GG37 HQ44 hf37_0 hx111_0 hx37_0 hHeld ⊢
            refine pu 0 (some 38) (bl 14 1) (h := ?_)
            refine pu 2 (some 40) (bl 14 5) (h := ?_)
            refine pu 8 (some 46) (bl 14 261) (h := ?_)
            refine pu 9 (some 47) (bl 14 773) (h := ?_)
            refine pu 10 (some 48) (bl 14 1797) (h := ?_)
            refine ta 1 (some 39) (bl 14 1799) (h := ?_)
            refine ta 3 (some 41) (bl 14 1807) (h := ?_)
            refine pu 4 (some 42) (bl 14 1823) (h := ?_)
            refine pu 5 (some 43) (bl 14 1855) (h := ?_)
            refine pu 6 (some 44) (bl 14 1919) (h := ?_)
            refine ta 7 (some 45) (bl 14 2047) (h := ?_)
            refine pu 11 (some 49) (bl 14 4095) (h := ?_)
            refine pu 12 (some 50) (bl 14 8191) (h := ?_)
            refine last_ (i := 13) (N := none) #[true, true, true, true, true, true, true, true, true, true, true, true, true, true] rfl rfl (one_of HT_.out (by kernel_rfl)) (by decide) (fun K hK => ?_)
            refine skip_ (w1 := ?_) (by rfl) rfl ?_ ?_
            rotate_left
            ·go_simp
             rfl
            refine hK.out _ _ ?_
            clear hK K
            refine done_ (done_of HT_.out (by kernel_rfl)) ?_
            generalize hw_ : (w42.setCell ⟨go37, ((ji31) : Int).toNat, none⟩ (.int .u8 (Go.bits .or .u8 (rd x102000_1 (ji31)) (ji36)))) = w45
            have n0_ : Aside0 (Kd.R (Kd.int .u8) 5 w45 w.heap.size (fun _ => True) (.slice (some ⟨go37, 0, none⟩) x102000_1.length co43) y112) := ⟨by rw [← hw_]; (with_reducible repeat (first | apply Kd.R_alloc | apply Kd.R_drewN | apply Kd.R_drew)); exact HQ44.out⟩
            have n1_ : Aside0 (w45.heap[gb101]? = some (.cells #[.slice (some ⟨go37, 0, none⟩) x102000_1.length co43, .int .i64 a0_1] 56 (0, 0))) := ⟨by rw [← hw_]; (with_reducible repeat (first | refine blk_drewN ?_ _ | refine blk_drew ?_ | refine blk_alloc ?_ _)); refine blk_far ?_ (by have h_ := Kd.R_ne HO_102000.out BK101.out (by decide); intro e_; exact h_ (by rw [e_]; rfl)) _; (with_reducible repeat (first | refine blk_drewN ?_ _ | refine blk_drew ?_ | refine blk_alloc ?_ _)); exact BK101.out⟩
            have n2_ : Aside0 (w45.heap[gb102]? = some (.cells #[.slice (some ad110) l1_0.length c1_0, .int .i64 a1_1] 56 (0, 0))) := ⟨by rw [← hw_]; (with_reducible repeat (first | refine blk_drewN ?_ _ | refine blk_drew ?_ | refine blk_alloc ?_ _)); refine blk_far ?_ (by have h_ := Kd.R_ne HO_102000.out BK102.out (by decide); intro e_; exact h_ (by rw [e_]; rfl)) _; (with_reducible repeat (first | refine blk_drewN ?_ _ | refine blk_drew ?_ | refine blk_alloc ?_ _)); exact BK102.out⟩
            have n3_ : Aside0 (w45.heap[gb103]? = some (.cells #[.slice none 0 0, .int .i64 0] 56 (0, 0))) := ⟨by rw [← hw_]; (with_reducible repeat (first | refine blk_drewN ?_ _ | refine blk_drew ?_ | refine blk_alloc ?_ _)); refine blk_far ?_ (by have h_ := Kd.R_ne HO_102000.out BK103.out (by decide); intro e_; exact h_ (by rw [e_]; rfl)) _; (with_reducible repeat (first | refine blk_drewN ?_ _ | refine blk_drew ?_ | refine blk_alloc ?_ _)); exact BK103.out⟩
            have n4_ : Aside0 (Below w.heap.size w w45) := ⟨by rw [← hw_]; repeat (first | (with_reducible first | exact HB.out | apply below_alloc | apply pw_below_drewN | apply below_drew1 | refine below_set ?_ GB37.out | refine below_set ?_ GE101.out | refine below_set ?_ GE102.out | refine below_set ?_ GE103.out) | exact HB.out)⟩
            (try clear HO_102000)
            (try clear BK101)
            (try clear BK102)
            (try clear BK103)
            (try clear HB)
            clear hw_
            have HO_102000 := n0_
            have BK101 := n1_
            have BK102 := n2_
            have BK103 := n3_
            have HB := n4_
            clear n0_ n1_ n2_ n3_ n4_
            try go_wp2
            replace HO_102000 := Aside0.mk (Kd.R_drew HO_102000.out)
            replace BK101 := Aside0.mk (blk_drew BK101.out)
            replace BK102 := Aside0.mk (blk_drew BK102.out)
            replace BK103 := Aside0.mk (blk_drew BK103.out)
            replace HB := Aside0.mk (below_drew1 HB.out)
            refine start_ (n := 10) (S := fun w' => w'.cell? ⟨gb101, 0, none⟩ = some (.slice (some ⟨go37, 0, none⟩) x102000_1.length co43) ∧ w'.cell? ⟨gb101, 1, none⟩ = some (.int .i64 a0_1)) (ds := [9]) (bl 10 0) (by kernel_rfl) rfl rfl kz (fun hHeld => ?_); refine with_tabW bits_Join.tab9 bits_Join.bits9 (fun HT_ HW_ => ?_)
            generalize w45.drew = w46 at HO_102000 BK101 BK102 BK103 HB hHeld ⊢
            refine pu 0 (some 51) (bl 10 1) (h := ?_)
            refine pu 2 (some 53) (bl 10 5) (h := ?_)
            refine pu 3 (some 54) (bl 10 13) (h := ?_)
            refine pu 4 (some 55) (bl 10 29) (h := ?_)
            refine pu 5 (some 56) (bl 10 61) (h := ?_)
            refine ta 1 (some 52) (bl 10 63) (h := ?_)
            refine one_ (i := 6) (N := some 57) #[true, true, true, true, true, true, true, false, false, false] rfl rfl (one_of HT_.out (by kernel_rfl)) (by decide) (fun K hK => ?_)
            refine value_ (w1 := ?_) (v := ?_) (by rfl) rfl ?_ ?_
            rotate_left 2
            ·go_simp
             constructor
             ·rfl
             ·rfl
            refine hK.out _ _ ⟨(blk_cell (blk_alloc BK101.out _) 0).trans rfl, (blk_cell (blk_alloc BK101.out _) 1).trans rfl⟩ (fun hHeld => ?_)
            clear hK K
            refine norm_ (a' := ?_) ?_ ?_
            rotate_left
            ·show Act.put _ (some 57) _ = _
             simp only [Act.put, List.setIfInBounds_toArray, List.set_cons_zero, List.set_cons_succ, i64_w, i32_w]
             rfl
            refine one_ (i := 7) (N := some 58) #[true, true, true, true, true, true, true, true, false, false] rfl rfl (one_of HT_.out (by kernel_rfl)) (by decide) (fun K hK => ?_)
            refine Kd.R_append_step (Kd.int .u8) (w0 := w) w.heap.size (by rfl) (.tmp 52) (.tmp 57) 23 5 (.int .u8 0) 1 rfl Tryd.underlying23 infoU8 rfl (by decide) (by omega) (.slice (some ⟨go37, 0, none⟩) x102000_1.length co43) y112 ji40 [.int .u8 ji40] (fun _ => True) (fun _ => False) rfl rfl ?aP (fun _ hk => hk.elim) ?aF ?aO ?aB ?aS ?aL ?_
            (case aP => exact rfl)
            (case aB => exact (kl HB))
            (case aF => exact (fun _ _ => trivial))
            (case aO => exact (kr HO_102000))
            (case aS => exact (below_size (kl HB)))
            (case aL => have := LMc41.out; omega)
            intro v114 w47 ho hb hg hat
            rw [← Ny113.out] at ho
            have n0_ := Aside0.mk (blk_grown (g := gb101) (o := .cells #[.slice (some ⟨go37, 0, none⟩) x102000_1.length co43, .int .i64 a0_1] 56 (0, 0)) (kb BK101) hg (Kd.R_ne HO_102000.out BK101.out (by decide)))
            have n1_ := Aside0.mk (blk_grown (g := gb102) (o := .cells #[.slice (some ad110) l1_0.length c1_0, .int .i64 a1_1] 56 (0, 0)) (kb BK102) hg (Kd.R_ne HO_102000.out BK102.out (by decide)))
            have n2_ := Aside0.mk (blk_grown (g := gb103) (o := .cells #[.slice none 0 0, .int .i64 0] 56 (0, 0)) (kb BK103) hg (Kd.R_ne HO_102000.out BK103.out (by decide)))
            have n3_ := Aside0.mk (hb)
            have n4_ := Aside0.mk (ho)
            clear BK101
            clear BK102
            clear BK103
            clear HB
            clear HO_102000
            have BK101 := n0_
            have BK102 := n1_
            have BK103 := n2_
            have HB := n3_
            have HO115 := n4_
            clear n0_ n1_ n2_ n3_ n4_
            clear ho hb hg hat
            obtain ⟨Ao48, co48, eo48⟩ := Kd.R_slice HO115.out
            (first | subst eo48 | (injection eo48 with f1_ f2_ f3_; have f4_ := f1_.symm; have f5_ := f3_.symm; clear f1_ f2_ f3_; subst f4_; subst f5_))
            refine hK.out _ _ kz (fun hHeld => ?_)
            clear hK K
            refine norm_ (a' := ?_) ?_ ?_
            rotate_left
            ·show Act.put _ (some 58) _ = _
             simp only [Act.put, List.setIfInBounds_toArray, List.set_cons_zero, List.set_cons_succ, i64_w, i32_w]
             rfl
            refine pu 8 (some 59) (bl 10 511) (h := ?_)
            refine last_ (i := 9) (N := none) #[true, true, true, true, true, true, true, true, true, true] rfl rfl (one_of HT_.out (by kernel_rfl)) (by decide) (fun K hK => ?_)
            have hs49 : w47.cell? ⟨gb101, 0, none⟩ = some (.slice (some ⟨go37, 0, none⟩) x102000_1.length co43) := (blk_cell BK101.out 0).trans rfl
            have hfs49 := blk_frozen BK101.out 0
            have hns49_1 := NB102_101.out
            have hns49_2 := NB103_101.out
            have hms49_1 := NB101_102.out
            have hms49_2 := NB101_103.out
            refine skip_ (w1 := ?_) (by rfl) rfl ?_ ?_
            rotate_left
            ·go_simp
             rfl
            refine hK.out _ _ ?_
            clear hK K
            refine done_ (done_of HT_.out (by kernel_rfl)) ?_
            try go_wp2
            go_roundg k1
            case measure => have := HK1.out; omega
            case rel => exact ⟨(wrap64 (x34_1 + 1)), (y113), (.slice Ao48 y113.length co48), (by first | rfl | (simp; done) | (simp [*]; done)), (by rw [hji34]; exact H'), ⟨by have := HK1.out; omega⟩, ⟨by (with_reducible repeat (first | apply Kd.R_alloc | apply Kd.R_drewN | apply Kd.R_drew)); exact Kd.R_mono (Kd.R_far (p := ⟨gb101, 0, none⟩) (Kd.R_types HO115.out BK101.out (by decide)) (fun _ hk => hk.2) (.slice Ao48 y113.length co48)) (fun _ hk => trivial)⟩, ⟨(kb BK101)⟩, ⟨(kb BK102)⟩, ⟨(kb BK103)⟩, ⟨(kl HB)⟩⟩
           ·rw [if_neg c41] at H
            exact absurd H (by simp)
          ·rw [if_neg c39] at H
           exact absurd H (by simp)
         ·rw [if_neg c35] at H
          exact absurd H (by simp)
        ·rw [if_neg c33] at H
         exact absurd H (by simp)
       ·rw [if_neg c32] at H
        exact absurd H (by simp)
      ·rw [if_neg c30] at H
       exact absurd H (by simp)
     ·rw [if_neg c29] at H
      exact absurd H (by simp)
    ·rw [if_neg c28] at H
     have c28b0 : decide (x34_1 < (l1_0.length : Int)) = false := decide_eq_false c28
     clear c28
     obtain ⟨ji50, hji50⟩ : ∃ j_ : Int, (wrap64 (Int.tdiv (wrap64 ((wrap64 (a0_1 + a1_1)) + 7)) 8)) = j_ := ⟨_, rfl⟩
     replace H : (if 0 ≤ (ji50) then (if (ji50) ≤ (x102000_1.length : Int) then (some ((x102000_1.take ((ji50) : Int).toNat), wrap64 (a0_1 + a1_1))) else (none)) else (none)) = some (r1, r2) := by first | (rw [hji50] at H; exact H) | (simp only [hji50] at H ⊢; exact H)
     have hji50w : (IntKind.i64.wrap (Int.tdiv (wrap64 ((wrap64 (a0_1 + a1_1)) + 7)) 8)) = ji50 := (i64_w _).trans hji50
     by_cases c51 : 0 ≤ (ji50)
     ·rw [if_pos c51] at H
      have c51b0 := eq_true c51
      have c51b1 : decide (0 ≤ (ji50)) = true := decide_eq_true c51
      clear c51
      by_cases c52 : (ji50) ≤ (x102000_1.length : Int)
      ·rw [if_pos c52] at H
       have c52b0 := eq_true c52
       have c52b1 : decide ((ji50) ≤ (x102000_1.length : Int)) = true := decide_eq_true c52
       clear c52
       obtain ⟨y116, hy116⟩ : ∃ y_ : List Int, y_ = (x102000_1.take ((ji50) : Int).toNat) := ⟨_, rfl⟩
       replace H : (some (y116, wrap64 (a0_1 + a1_1))) = some (r1, r2) := by first | (rw [hy116]; with_reducible exact H) | (have H2_ := (Option.bind_some _ _).symm.trans H; rw [hy116]; with_reducible exact H2_) | (have H2_ := (Option.bind_some _ _).symm.trans H; with_reducible exact H2_) | with_reducible exact H | (rw [hy116]; exact H) | exact H
       have Ny116 := Aside0.mk hy116
       clear hy116
       simp only [Option.some.injEq, Prod.mk.injEq] at H
       obtain ⟨rfl, rfl⟩ := H
       have hnb53 := NB101_102.out
       have hnc53 := NB102_101.out
       have hnb54 := NB101_103.out
       have hnc54 := NB103_101.out
       obtain ⟨hcz55_0, hcz55_1⟩ := kc2 BK101
       obtain ⟨hfz55_0, hfz55_1⟩ := kf2 BK101
       have hnb56 := NB102_103.out
       have hnc56 := NB103_102.out
       obtain ⟨hcz57_0, hcz57_1⟩ := kc2 BK102
       obtain ⟨hfz57_0, hfz57_1⟩ := kf2 BK102
       go_wp2_with (first | ((with_reducible refine gate_store (t := 3) (p := 66) rfl ?_); refine store_event (t := 3) (p := 66) (v := ?vo_w58) (w1 := (wr.setCell ⟨gb101, 1, none⟩ (.int .i64 (wrap64 (a0_1 + a1_1))))) ?hg ?ho ?hn ?hr ?_; (case ho => rfl); (case hg => rfl); (case hn => rfl); (case hr => first | (go_simp; done) | (go_simp; rfl)); intro w58 hw; have n0_ : Aside0 (Kd.R (Kd.int .u8) 5 w58 w.heap.size (fun _ => True) u102000 x102000_1) := ⟨(by rw [hw]; exact (by (with_reducible repeat (first | apply Kd.R_alloc | apply Kd.R_drewN | apply Kd.R_drew)); exact Kd.R_mono (Kd.R_far (p := ⟨gb101, 1, none⟩) (Kd.R_types HO_102000.out BK101.out (by decide)) (fun _ hk => hk.2) (.int .i64 (wrap64 (a0_1 + a1_1)))) (fun _ hk => trivial)))⟩; have n1_ : Aside0 (w58.heap[gb101]? = some (.cells #[u102000, .int .i64 (wrap64 (a0_1 + a1_1))] 56 (0, 0))) := ⟨(by rw [hw]; exact (kb BK101))⟩; have n2_ : Aside0 (w58.heap[gb102]? = some (.cells #[.slice A1_0 l1_0.length c1_0, .int .i64 a1_1] 56 (0, 0))) := ⟨(by rw [hw]; exact (kb BK102))⟩; have n3_ : Aside0 (w58.heap[gb103]? = some (.cells #[.slice none 0 0, .int .i64 0] 56 (0, 0))) := ⟨(by rw [hw]; exact (kb BK103))⟩; have n4_ : Aside0 (Below w.heap.size w w58) := ⟨(by rw [hw]; exact (kl HB))⟩; clear hw; clear HO_102000; clear BK101; clear BK102; clear BK103; clear HB; have HO_102000 := n0_; have BK101 := n1_; have BK102 := n2_; have BK103 := n3_; have HB := n4_; clear n0_ n1_ n2_ n3_ n4_; have hcz59_0 : w58.cell? ⟨gb101, 0, none⟩ = some (u102000) := (blk_cell BK101.out 0).trans rfl; have hcz59_1 : w58.cell? ⟨gb101, 1, none⟩ = some (.int .i64 (wrap64 (a0_1 + a1_1))) := (blk_cell BK101.out 1).trans rfl; have hfz59_0 := blk_frozen BK101.out 0; have hfz59_1 := blk_frozen BK101.out 1; obtain ⟨Ao60, co60, eo60⟩ := Kd.R_slice HO_102000.out; subst eo60; have q61 : ((ji50) : Int) ≤ ((x102000_1.length : Int) : Int) := of_decide_eq_true (by first | (with_reducible assumption) | assumption); obtain ⟨i061, hi061, _, hsz61, _⟩ := info_parts infoU8; have hcut61 := cut_to (P := Tryd.prog) 23 5 .i64 Tryd.underlying23 hi061 Ao60 x102000_1.length co60 (ji50) (of_decide_eq_true (by first | (with_reducible assumption) | assumption)) q61 (Kd.R_reads' HO_102000.out).2.1; have hr61 := Kd.R_take (m := ((ji50) : Int).toNat) HO_102000.out (by omega); have hy61 : y116.length = ((ji50) : Int).toNat := (by rw [Ny116.out, List.length_take]; omega); rw [← Ny116.out] at hr61; rw [← hy61] at hr61 hcut61; clear hy61 hi061 hsz61 HO_102000; have HO118 := Aside0.mk hr61; clear hr61; (try (have q61s := q61; simp only [List.length_drop, List.length_take] at q61s; replace q61s := eq_true q61s)); replace q61 := eq_true q61; have hcz62_0 : w58.cell? ⟨gb103, 0, none⟩ = some (.slice none 0 0) := (blk_cell BK103.out 0).trans rfl; have hcz62_1 : w58.cell? ⟨gb103, 1, none⟩ = some (.int .i64 0) := (blk_cell BK103.out 1).trans rfl; have hfz62_0 := blk_frozen BK103.out 0; have hfz62_1 := blk_frozen BK103.out 1))
       refine bodyPost_ret (results_cell_row rfl _ _ gb103 56 #[.slice Ao60 y116.length co60, .int .i64 (wrap64 (a0_1 + a1_1))] (0, 0) _ rfl (kb BK103) Tryd.underlying56 rfl (by kernel_rfl)) rfl ?_
       exact ⟨_, by first | rfl | (simp [errW_none, errW_some] <;> rfl) | (simp only [← hji50]; first | rfl | (simp [errW_none, errW_some] <;> rfl)) | (simp [*, errW_none, errW_some] <;> rfl), by (with_reducible repeat (first | apply Kd.R_alloc | apply Kd.R_drewN | apply Kd.R_drew)); exact Kd.R_mono (Kd.R_far (p := ⟨gb103, 1, none⟩) (Kd.R_far (p := ⟨gb103, 0, none⟩) (Kd.R_far (p := ⟨gb101, 0, none⟩) (Kd.R_types (Kd.R_types HO118.out BK101.out (by decide)) BK103.out (by decide)) (fun _ hk => hk.1.2) (.slice Ao60 y116.length co60)) (fun _ hk => hk.2) (.slice Ao60 y116.length co60)) (fun _ hk => hk.2) (.int .i64 (wrap64 (a0_1 + a1_1)))) (fun _ hk => trivial), (kl HB)⟩
      ·rw [if_neg c52] at H
       exact absurd H (by simp)
     ·rw [if_neg c51] at H
      exact absurd H (by simp)
end Go.Proofs.YtiahbcaoikoogabDoor
