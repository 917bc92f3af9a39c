-- written by a program of the session out of the translation; Lean checks it
import Derived.Test.YtiahbcaoikoogaaAllx0
namespace Go.Proofs.Ytiahbcaoikoogaa.All
open Go.RowKit Go.Proofs.YtiahbcaoikoogaaW.PrintWords Go.Proofs.YtiahbcaoikoogaaW.PrintLast Go.Proofs.YtiahbcaoikoogaaW.PrintMore
attribute [local go_sem] max2_int min2_int max_two min_two max_three min_three max_four min_four   -- for this text's walks alone
set_option linter.unusedVariables false
set_option linter.unusedSimpArgs false

attribute [local go_sem high] errW_cells errW_match run_store_errW
/-! ### gaiterlaw14_list: function 24 -/
def gaiterlaw14_list.l0 : Nat → List (S72) → List (S79) → Int → Option ((List (S79)))
 | 0, _, _, _ => none
 | k + 1, x0, x3, x4 => if x4 < (x0.length : Int) then (if 0 ≤ x4 then (if x3.length < 4398046511104 then (gaiterlaw14_list.l0 k x0 (x3 ++ [(⟨(rd_T72 x0 x4).f0, (rd_T72 x0 x4).f1, (rd_T72 x0 x4).f2, (rd_T72 x0 x4).f3⟩ : S79)]) (wrap64 (x4 + 1))) else (none)) else (none)) else (some x3)
def gaiterlaw14_list.f (k : Nat) (l0 : List (S72)) : Option ((List (S79))) := gaiterlaw14_list.l0 k l0 ([] : List (S79)) 0
theorem gaiterlaw14_list.mono_l : ∀ k, (∀ y0 y1 y2, LeO (gaiterlaw14_list.l0 k y0 y1 y2) (gaiterlaw14_list.l0 (k + 1) y0 y1 y2))
 | 0 => fun _ _ _ r h => by simp [gaiterlaw14_list.l0] at h
 | k + 1 => by
  have ih0 := gaiterlaw14_list.mono_l k
  ·intro y0 y1 y2
   unfold gaiterlaw14_list.l0
   repeat' first
   | (with_reducible exact ih0 _ _ _)
   | (with_reducible exact LeO.refl _)
   | (with_reducible exact LeO.none _)
   | (with_reducible refine LeO.ite ?_ ?_)
   | (with_reducible refine LeO.bind ?_ (fun _ => ?_))
   | exact ih0 _ _ _
   | exact LeO.none _
   | refine LeO.ite ?_ ?_
   | refine LeO.bind ?_ (fun _ => ?_)
theorem gaiterlaw14_list.mono : ∀ a0 k, LeO (gaiterlaw14_list.f k a0) (gaiterlaw14_list.f (k + 1) a0) := by
 intro a0 k
 have ih0 := gaiterlaw14_list.mono_l k
 unfold gaiterlaw14_list.f
 repeat' first
   | (with_reducible exact ih0 _ _ _)
   | (with_reducible exact LeO.refl _)
   | (with_reducible exact LeO.none _)
   | (with_reducible refine LeO.ite ?_ ?_)
   | (with_reducible refine LeO.bind ?_ (fun _ => ?_))
   | exact ih0 _ _ _
   | exact LeO.none _
   | refine LeO.ite ?_ ?_
   | refine LeO.bind ?_ (fun _ => ?_)
def gaiterlaw14_list.T5 : Bool × List (List Nat × List Nat) := (true, [([], []), ([], []), ([], []), ([1, 2], [1, 2]), ([3], [3]), ([4], [4]), ([], []), ([], []), ([6, 7], [6, 7]), ([8], [8]), ([9], [9]), ([], []), ([], []), ([11, 12], [11, 12]), ([13], [13]), ([14], [14]), ([], []), ([], []), ([16, 17], [16, 17]), ([18], [18]), ([19], [19]), ([5, 10, 15, 20], [5, 10, 15, 20]), ([21], [21]), ([0, 22], [0, 22]), ([23, 23, 0, 1, 2, 3, 4, 5, 6, 7, 8, 9, 10, 11, 12, 13, 14, 15, 16, 17, 18, 19, 20, 21, 22, 23], [0, 23])])
def gaiterlaw14_list.B5 : List Nat := [0, 0, 0, 6, 14, 30, 0, 0, 192, 448, 960, 0, 0, 6144, 14336, 30720, 0, 0, 196608, 458752, 983040, 2097150, 4194302, 8388607, 16777215]
theorem gaiterlaw14_list.tab5 : rtab .any (opsOf Try.f24 5) = gaiterlaw14_list.T5 := by kernel_rfl
theorem gaiterlaw14_list.bits5 : waitsOk gaiterlaw14_list.T5.2 gaiterlaw14_list.B5 = true := by kernel_rfl
set_option maxHeartbeats 8000000 in
set_option maxRecDepth 100000 in
theorem gaiterlaw14_list.calls (k : Nat) (A0 : Option Addr) (c0 : Nat) (l0 : List (S72)) (r : List (S79)) (w : World) (hr0 : Kd.C k72 w A0 l0.length l0) (hc0 : l0.length ≤ c0) (h : gaiterlaw14_list.f k l0 = some r) :
  Calls Try.prog 24 #[.slice A0 l0.length c0] w fun e w' => ∃ v0_ : Value, e = .returned (v0_) ∧ Kd.R k79 79 w' w.heap.size (fun _ => True) v0_ r ∧ Below w.heap.size w w' := by
 have hu79 := Try.underlying79
 have HR0 := Aside0.mk hr0
 have HC0 := Aside0.mk hc0
 clear hr0 hc0
 have HB := Aside0.mk (Below.refl w.heap.size w)
 have H : (gaiterlaw14_list.l0 k l0 ([] : List (S79)) 0) = some r := h
 clear h
 have H' := Aside0.mk H
 clear H
 go_enter Try.func24, Try.ntmps24
 go_wp2
 go_loopg [3, 4] k (fun kq v3 v4 w' => ∃ (x3_1 : List (S79)) (x4_1 : Int), v4 = .int .i64 x4_1 ∧ Aside0 (gaiterlaw14_list.l0 kq l0 x3_1 x4_1 = some r) ∧ Aside0 (kq ≤ k) ∧ Aside0 (Kd.R k79 79 w' w.heap.size (fun _ => True) v3 x3_1) ∧ Aside0 (Below w.heap.size w w'))
 case atStart => exact ⟨(([] : List (S79))), (0), (by first | rfl | (simp; done) | (simp [*]; done)), H', ⟨Nat.le_refl _⟩, ⟨by first | exact Kd.R_nil _ _ _ _ _ | exact Kd.N_nil _ _ _ _ _ | exact Kd.V_nil _ _ _ _ _ | exact Kd.Q_nil _ _ _ _ _ | exact Kd.S_nil _ _ _ _ _⟩, ⟨(kl HB)⟩⟩
 case round =>
  clear H'
  obtain ⟨x3_1, x4_1, rfl, HA, HK1, HO_3, HB⟩ := hrel
  cases gk with
  | zero => exact absurd HA.out (by simp [gaiterlaw14_list.l0])
  | succ k1 =>
   have H := HA.out
   clear HA
   simp only [gaiterlaw14_list.l0] at H
   by_cases c2 : x4_1 < (l0.length : Int)
   ·rw [if_pos c2] at H
    have c2b0 : decide (x4_1 < (l0.length : Int)) = true := decide_eq_true c2
    clear c2
    by_cases c3 : 0 ≤ x4_1
    ·rw [if_pos c3] at H
     have c3b0 : decide (0 ≤ x4_1) = true := decide_eq_true c3
     clear c3
     by_cases c4 : x3_1.length < 4398046511104
     ·rw [if_pos c4] at H
      have LMc4 := Aside0.mk c4
      clear c4
      obtain ⟨y367, hy367⟩ : ∃ y_ : List (S79), y_ = (x3_1 ++ [(⟨(rd_T72 l0 x4_1).f0, (rd_T72 l0 x4_1).f1, (rd_T72 l0 x4_1).f2, (rd_T72 l0 x4_1).f3⟩ : S79)]) := ⟨_, rfl⟩
      replace H : (gaiterlaw14_list.l0 k1 l0 y367 (wrap64 (x4_1 + 1))) = some r := by first | (rw [hy367]; with_reducible exact H) | (have H2_ := (Option.bind_some _ _).symm.trans H; rw [hy367]; with_reducible exact H2_) | (have H2_ := (Option.bind_some _ _).symm.trans H; with_reducible exact H2_) | with_reducible exact H | (rw [hy367]; exact H) | exact H
      have Ny367 := Aside0.mk hy367
      clear hy367
      have H' := Aside0.mk H
      clear H
      try go_wp2
      replace HO_3 := Aside0.mk (Kd.R_drew HO_3.out)
      replace HB := Aside0.mk (below_drew1 HB.out)
      have p363 : 0 ≤ (x4_1 : Int) := of_decide_eq_true (by first | (with_reducible assumption) | assumption)
      have q363 : x4_1 < (l0.length : Int) := of_decide_eq_true (by first | (with_reducible assumption) | assumption)
      obtain ⟨ad363, e363, hx363_0, hx363_1, hx363_2, hx363_3⟩ := at_T72 HR0.out x4_1 p363 q363
      have hw363_3 := hx363_3
      have hw363_2 := hx363_2
      have hw363_1 := hx363_1
      have hw363_0 := hx363_0
      cases e363
      replace hx363_0 := (HB.out.cell (World.block_lt_of_cell? w _ hx363_0)).trans hx363_0
      replace hx363_1 := (HB.out.cell (World.block_lt_of_cell? w _ hx363_1)).trans hx363_1
      replace hx363_2 := (HB.out.cell (World.block_lt_of_cell? w _ hx363_2)).trans hx363_2
      replace hx363_3 := (HB.out.cell (World.block_lt_of_cell? w _ hx363_3)).trans hx363_3
      replace p363 := eq_true p363
      (try (have q363s := q363; simp only [List.length_drop, List.length_take] at q363s; replace q363s := eq_true q363s)); replace q363 := eq_true q363
      have p364 : 0 ≤ (x4_1 : Int) := of_decide_eq_true (by first | (with_reducible assumption) | assumption)
      have q364 : x4_1 < (l0.length : Int) := of_decide_eq_true (by first | (with_reducible assumption) | assumption)
      obtain ⟨ad364, e364, hx364_0, hx364_1, hx364_2, hx364_3⟩ := at_T72 HR0.out x4_1 p364 q364
      have hw364_3 := hx364_3
      have hw364_2 := hx364_2
      have hw364_1 := hx364_1
      have hw364_0 := hx364_0
      obtain rfl : ad363 = ad364 := (by injection e364)
      replace hx364_0 := (HB.out.cell (World.block_lt_of_cell? w _ hx364_0)).trans hx364_0
      replace hx364_1 := (HB.out.cell (World.block_lt_of_cell? w _ hx364_1)).trans hx364_1
      replace hx364_2 := (HB.out.cell (World.block_lt_of_cell? w _ hx364_2)).trans hx364_2
      replace hx364_3 := (HB.out.cell (World.block_lt_of_cell? w _ hx364_3)).trans hx364_3
      replace p364 := eq_true p364
      (try (have q364s := q364; simp only [List.length_drop, List.length_take] at q364s; replace q364s := eq_true q364s)); replace q364 := eq_true q364
      have p365 : 0 ≤ (x4_1 : Int) := of_decide_eq_true (by first | (with_reducible assumption) | assumption)
      have q365 : x4_1 < (l0.length : Int) := of_decide_eq_true (by first | (with_reducible assumption) | assumption)
      obtain ⟨ad365, e365, hx365_0, hx365_1, hx365_2, hx365_3⟩ := at_T72 HR0.out x4_1 p365 q365
      have hw365_3 := hx365_3
      have hw365_2 := hx365_2
      have hw365_1 := hx365_1
      have hw365_0 := hx365_0
      obtain rfl : ad363 = ad365 := (by injection e365)
      replace hx365_0 := (HB.out.cell (World.block_lt_of_cell? w _ hx365_0)).trans hx365_0
      replace hx365_1 := (HB.out.cell (World.block_lt_of_cell? w _ hx365_1)).trans hx365_1
      replace hx365_2 := (HB.out.cell (World.block_lt_of_cell? w _ hx365_2)).trans hx365_2
      replace hx365_3 := (HB.out.cell (World.block_lt_of_cell? w _ hx365_3)).trans hx365_3
      replace p365 := eq_true p365
      (try (have q365s := q365; simp only [List.length_drop, List.length_take] at q365s; replace q365s := eq_true q365s)); replace q365 := eq_true q365
      have p366 : 0 ≤ (x4_1 : Int) := of_decide_eq_true (by first | (with_reducible assumption) | assumption)
      have q366 : x4_1 < (l0.length : Int) := of_decide_eq_true (by first | (with_reducible assumption) | assumption)
      obtain ⟨ad366, e366, hx366_0, hx366_1, hx366_2, hx366_3⟩ := at_T72 HR0.out x4_1 p366 q366
      have hw366_3 := hx366_3
      have hw366_2 := hx366_2
      have hw366_1 := hx366_1
      have hw366_0 := hx366_0
      obtain rfl : ad363 = ad366 := (by injection e366)
      replace hx366_0 := (HB.out.cell (World.block_lt_of_cell? w _ hx366_0)).trans hx366_0
      replace hx366_1 := (HB.out.cell (World.block_lt_of_cell? w _ hx366_1)).trans hx366_1
      replace hx366_2 := (HB.out.cell (World.block_lt_of_cell? w _ hx366_2)).trans hx366_2
      replace hx366_3 := (HB.out.cell (World.block_lt_of_cell? w _ hx366_3)).trans hx366_3
      replace p366 := eq_true p366
      (try (have q366s := q366; simp only [List.length_drop, List.length_take] at q366s; replace q366s := eq_true q366s)); replace q366 := eq_true q366
      refine start_ (n := 25) (S := fun w' => w'.cell? (ad363.add ((x4_1).toNat * 4)) = some (.int .i64 ((rd_T72 l0 x4_1).f0)) ∧ w'.cell? ⟨(ad363.add ((x4_1).toNat * 4)).block, (ad363.add ((x4_1).toNat * 4)).off + 1, none⟩ = some (.int .i64 ((rd_T72 l0 x4_1).f1)) ∧ w'.cell? ⟨(ad363.add ((x4_1).toNat * 4)).block, (ad363.add ((x4_1).toNat * 4)).off + 2, none⟩ = some (.int .i64 ((rd_T72 l0 x4_1).f2)) ∧ w'.cell? ⟨(ad363.add ((x4_1).toNat * 4)).block, (ad363.add ((x4_1).toNat * 4)).off + 3, none⟩ = some (.int .i64 ((rd_T72 l0 x4_1).f3)) ∧ w'.cell? (ad363.add ((x4_1).toNat * 4)) = some (.int .i64 ((rd_T72 l0 x4_1).f0)) ∧ w'.cell? ⟨(ad363.add ((x4_1).toNat * 4)).block, (ad363.add ((x4_1).toNat * 4)).off + 1, none⟩ = some (.int .i64 ((rd_T72 l0 x4_1).f1)) ∧ w'.cell? ⟨(ad363.add ((x4_1).toNat * 4)).block, (ad363.add ((x4_1).toNat * 4)).off + 2, none⟩ = some (.int .i64 ((rd_T72 l0 x4_1).f2)) ∧ w'.cell? ⟨(ad363.add ((x4_1).toNat * 4)).block, (ad363.add ((x4_1).toNat * 4)).off + 3, none⟩ = some (.int .i64 ((rd_T72 l0 x4_1).f3)) ∧ w'.cell? (ad363.add ((x4_1).toNat * 4)) = some (.int .i64 ((rd_T72 l0 x4_1).f0)) ∧ w'.cell? ⟨(ad363.add ((x4_1).toNat * 4)).block, (ad363.add ((x4_1).toNat * 4)).off + 1, none⟩ = some (.int .i64 ((rd_T72 l0 x4_1).f1)) ∧ w'.cell? ⟨(ad363.add ((x4_1).toNat * 4)).block, (ad363.add ((x4_1).toNat * 4)).off + 2, none⟩ = some (.int .i64 ((rd_T72 l0 x4_1).f2)) ∧ w'.cell? ⟨(ad363.add ((x4_1).toNat * 4)).block, (ad363.add ((x4_1).toNat * 4)).off + 3, none⟩ = some (.int .i64 ((rd_T72 l0 x4_1).f3)) ∧ w'.cell? (ad363.add ((x4_1).toNat * 4)) = some (.int .i64 ((rd_T72 l0 x4_1).f0)) ∧ w'.cell? ⟨(ad363.add ((x4_1).toNat * 4)).block, (ad363.add ((x4_1).toNat * 4)).off + 1, none⟩ = some (.int .i64 ((rd_T72 l0 x4_1).f1)) ∧ w'.cell? ⟨(ad363.add ((x4_1).toNat * 4)).block, (ad363.add ((x4_1).toNat * 4)).off + 2, none⟩ = some (.int .i64 ((rd_T72 l0 x4_1).f2)) ∧ w'.cell? ⟨(ad363.add ((x4_1).toNat * 4)).block, (ad363.add ((x4_1).toNat * 4)).off + 3, none⟩ = some (.int .i64 ((rd_T72 l0 x4_1).f3))) (ds := []) (bl 25 0) (by kernel_rfl) rfl rfl ⟨((HB.out.cell (World.block_lt_of_cell? w _ hw363_0)).trans hw363_0), ((HB.out.cell (World.block_lt_of_cell? w _ hw363_1)).trans hw363_1), ((HB.out.cell (World.block_lt_of_cell? w _ hw363_2)).trans hw363_2), ((HB.out.cell (World.block_lt_of_cell? w _ hw363_3)).trans hw363_3), ((HB.out.cell (World.block_lt_of_cell? w _ hw364_0)).trans hw364_0), ((HB.out.cell (World.block_lt_of_cell? w _ hw364_1)).trans hw364_1), ((HB.out.cell (World.block_lt_of_cell? w _ hw364_2)).trans hw364_2), ((HB.out.cell (World.block_lt_of_cell? w _ hw364_3)).trans hw364_3), ((HB.out.cell (World.block_lt_of_cell? w _ hw365_0)).trans hw365_0), ((HB.out.cell (World.block_lt_of_cell? w _ hw365_1)).trans hw365_1), ((HB.out.cell (World.block_lt_of_cell? w _ hw365_2)).trans hw365_2), ((HB.out.cell (World.block_lt_of_cell? w _ hw365_3)).trans hw365_3), ((HB.out.cell (World.block_lt_of_cell? w _ hw366_0)).trans hw366_0), ((HB.out.cell (World.block_lt_of_cell? w _ hw366_1)).trans hw366_1), ((HB.out.cell (World.block_lt_of_cell? w _ hw366_2)).trans hw366_2), ((HB.out.cell (World.block_lt_of_cell? w _ hw366_3)).trans hw366_3)⟩ (fun hHeld => ?_); refine with_tabW gaiterlaw14_list.tab5 gaiterlaw14_list.bits5 (fun HT_ HW_ => ?_)
      generalize wr.drew = w5 at HO_3 HB hx363_0 hx363_1 hx363_2 hx363_3 hx364_0 hx364_1 hx364_2 hx364_3 hx365_0 hx365_1 hx365_2 hx365_3 hx366_0 hx366_1 hx366_2 hx366_3 hHeld ⊢
      refine pu 0 (some 11) (bl 25 1) (h := ?_)
      refine pu 1 (some 12) (bl 25 3) (h := ?_)
      refine pu 2 (some 13) (bl 25 7) (h := ?_)
      refine pu 3 (some 14) (bl 25 15) (h := ?_)
      refine pu 4 (some 15) (bl 25 31) (h := ?_)
      refine pu 6 (some 17) (bl 25 95) (h := ?_)
      refine pu 7 (some 18) (bl 25 223) (h := ?_)
      refine pu 8 (some 19) (bl 25 479) (h := ?_)
      refine pu 9 (some 20) (bl 25 991) (h := ?_)
      refine pu 11 (some 22) (bl 25 3039) (h := ?_)
      refine pu 12 (some 23) (bl 25 7135) (h := ?_)
      refine pu 13 (some 24) (bl 25 15327) (h := ?_)
      refine pu 14 (some 25) (bl 25 31711) (h := ?_)
      refine pu 16 (some 27) (bl 25 97247) (h := ?_)
      refine pu 17 (some 28) (bl 25 228319) (h := ?_)
      refine pu 18 (some 29) (bl 25 490463) (h := ?_)
      refine pu 19 (some 30) (bl 25 1014751) (h := ?_)
      refine ta 5 (some 16) (bl 25 1014783) (h := ?_)
      refine ta 10 (some 21) (bl 25 1015807) (h := ?_)
      refine ta 15 (some 26) (bl 25 1048575) (h := ?_)
      refine ta 20 (some 31) (bl 25 2097151) (h := ?_)
      refine pu 21 (some 32) (bl 25 4194303) (h := ?_)
      refine one_ (i := 22) (N := some 33) #[true, true, true, true, true, true, true, true, true, true, true, true, true, true, true, true, true, true, true, true, true, true, true, false, false] rfl rfl (one_of HT_.out (by kernel_rfl)) (by decide) (fun K hK => ?_)
      refine value_ (w1 := ?_) (v := ?_) (by rfl) rfl ?_ ?_
      rotate_left 2
      ·go_simp
       constructor
       ·rfl
       ·rfl
      refine hK.out _ _ ⟨(World.cell?_alloc_lt _ _ _ (World.block_lt_of_cell? _ _ (((HB.out.cell (World.block_lt_of_cell? w _ hw363_0)).trans hw363_0)))).trans (((HB.out.cell (World.block_lt_of_cell? w _ hw363_0)).trans hw363_0)), (World.cell?_alloc_lt _ _ _ (World.block_lt_of_cell? _ _ (((HB.out.cell (World.block_lt_of_cell? w _ hw363_1)).trans hw363_1)))).trans (((HB.out.cell (World.block_lt_of_cell? w _ hw363_1)).trans hw363_1)), (World.cell?_alloc_lt _ _ _ (World.block_lt_of_cell? _ _ (((HB.out.cell (World.block_lt_of_cell? w _ hw363_2)).trans hw363_2)))).trans (((HB.out.cell (World.block_lt_of_cell? w _ hw363_2)).trans hw363_2)), (World.cell?_alloc_lt _ _ _ (World.block_lt_of_cell? _ _ (((HB.out.cell (World.block_lt_of_cell? w _ hw363_3)).trans hw363_3)))).trans (((HB.out.cell (World.block_lt_of_cell? w _ hw363_3)).trans hw363_3)), (World.cell?_alloc_lt _ _ _ (World.block_lt_of_cell? _ _ (((HB.out.cell (World.block_lt_of_cell? w _ hw364_0)).trans hw364_0)))).trans (((HB.out.cell (World.block_lt_of_cell? w _ hw364_0)).trans hw364_0)), (World.cell?_alloc_lt _ _ _ (World.block_lt_of_cell? _ _ (((HB.out.cell (World.block_lt_of_cell? w _ hw364_1)).trans hw364_1)))).trans (((HB.out.cell (World.block_lt_of_cell? w _ hw364_1)).trans hw364_1)), (World.cell?_alloc_lt _ _ _ (World.block_lt_of_cell? _ _ (((HB.out.cell (World.block_lt_of_cell? w _ hw364_2)).trans hw364_2)))).trans (((HB.out.cell (World.block_lt_of_cell? w _ hw364_2)).trans hw364_2)), (World.cell?_alloc_lt _ _ _ (World.block_lt_of_cell? _ _ (((HB.out.cell (World.block_lt_of_cell? w _ hw364_3)).trans hw364_3)))).trans (((HB.out.cell (World.block_lt_of_cell? w _ hw364_3)).trans hw364_3)), (World.cell?_alloc_lt _ _ _ (World.block_lt_of_cell? _ _ (((HB.out.cell (World.block_lt_of_cell? w _ hw365_0)).trans hw365_0)))).trans (((HB.out.cell (World.block_lt_of_cell? w _ hw365_0)).trans hw365_0)), (World.cell?_alloc_lt _ _ _ (World.block_lt_of_cell? _ _ (((HB.out.cell (World.block_lt_of_cell? w _ hw365_1)).trans hw365_1)))).trans (((HB.out.cell (World.block_lt_of_cell? w _ hw365_1)).trans hw365_1)), (World.cell?_alloc_lt _ _ _ (World.block_lt_of_cell? _ _ (((HB.out.cell (World.block_lt_of_cell? w _ hw365_2)).trans hw365_2)))).trans (((HB.out.cell (World.block_lt_of_cell? w _ hw365_2)).trans hw365_2)), (World.cell?_alloc_lt _ _ _ (World.block_lt_of_cell? _ _ (((HB.out.cell (World.block_lt_of_cell? w _ hw365_3)).trans hw365_3)))).trans (((HB.out.cell (World.block_lt_of_cell? w _ hw365_3)).trans hw365_3)), (World.cell?_alloc_lt _ _ _ (World.block_lt_of_cell? _ _ (((HB.out.cell (World.block_lt_of_cell? w _ hw366_0)).trans hw366_0)))).trans (((HB.out.cell (World.block_lt_of_cell? w _ hw366_0)).trans hw366_0)), (World.cell?_alloc_lt _ _ _ (World.block_lt_of_cell? _ _ (((HB.out.cell (World.block_lt_of_cell? w _ hw366_1)).trans hw366_1)))).trans (((HB.out.cell (World.block_lt_of_cell? w _ hw366_1)).trans hw366_1)), (World.cell?_alloc_lt _ _ _ (World.block_lt_of_cell? _ _ (((HB.out.cell (World.block_lt_of_cell? w _ hw366_2)).trans hw366_2)))).trans (((HB.out.cell (World.block_lt_of_cell? w _ hw366_2)).trans hw366_2)), (World.cell?_alloc_lt _ _ _ (World.block_lt_of_cell? _ _ (((HB.out.cell (World.block_lt_of_cell? w _ hw366_3)).trans hw366_3)))).trans (((HB.out.cell (World.block_lt_of_cell? w _ hw366_3)).trans hw366_3))⟩ (fun hHeld => ?_)
      clear hK K
      refine norm_ (a' := ?_) ?_ ?_
      rotate_left
      ·show Act.put _ (some 33) _ = _
       simp only [Act.put, List.setIfInBounds_toArray, List.set_cons_zero, List.set_cons_succ, i64_w, i32_w]
       rfl
      refine one_ (i := 23) (N := some 34) #[true, true, true, true, true, true, true, true, true, true, true, true, true, true, true, true, true, true, true, true, true, true, true, true, false] rfl rfl (one_of HT_.out (by kernel_rfl)) (by decide) (fun K hK => ?_)
      refine Kd.R_append_step k79 (w0 := w) w.heap.size (by rfl) (.tmp 11) (.tmp 33) 58 79 (.agg #[(.int .i64 0), (.int .i64 0), (.int .i64 0), (.int .i64 0)]) 32 rfl Try.underlying58 info79 rfl (by decide) (by omega) u3 x3_1 (⟨(rd_T72 l0 x4_1).f0, (rd_T72 l0 x4_1).f1, (rd_T72 l0 x4_1).f2, (rd_T72 l0 x4_1).f3⟩ : S79) [.int .i64 ((rd_T72 l0 x4_1).f0), .int .i64 ((rd_T72 l0 x4_1).f1), .int .i64 ((rd_T72 l0 x4_1).f2), .int .i64 ((rd_T72 l0 x4_1).f3)] (fun _ => True) (fun _ => False) rfl rfl ?aP (fun _ hk => hk.elim) ?aF ?aO ?aB ?aS ?aL ?_
      (case aP => exact k79_mkM _ _ _ (⟨(rd_T72 l0 x4_1).f0, (rd_T72 l0 x4_1).f1, (rd_T72 l0 x4_1).f2, (rd_T72 l0 x4_1).f3⟩ : S79))
      (case aB => exact (kl HB))
      (case aF => exact (fun _ _ => trivial))
      (case aO => exact (kr HO_3))
      (case aS => exact (below_size (kl HB)))
      (case aL => have := LMc4.out; omega)
      intro v368 w6 ho hb hg hat
      rw [← Ny367.out] at ho
      have n0_ := Aside0.mk (hb)
      have n1_ := Aside0.mk (ho)
      clear HB
      clear HO_3
      have HB := n0_
      have HO369 := n1_
      clear n0_ n1_
      clear ho hb hg hat
      refine hK.out _ _ ⟨((HB.out.cell (World.block_lt_of_cell? w _ hw363_0)).trans hw363_0), ((HB.out.cell (World.block_lt_of_cell? w _ hw363_1)).trans hw363_1), ((HB.out.cell (World.block_lt_of_cell? w _ hw363_2)).trans hw363_2), ((HB.out.cell (World.block_lt_of_cell? w _ hw363_3)).trans hw363_3), ((HB.out.cell (World.block_lt_of_cell? w _ hw364_0)).trans hw364_0), ((HB.out.cell (World.block_lt_of_cell? w _ hw364_1)).trans hw364_1), ((HB.out.cell (World.block_lt_of_cell? w _ hw364_2)).trans hw364_2), ((HB.out.cell (World.block_lt_of_cell? w _ hw364_3)).trans hw364_3), ((HB.out.cell (World.block_lt_of_cell? w _ hw365_0)).trans hw365_0), ((HB.out.cell (World.block_lt_of_cell? w _ hw365_1)).trans hw365_1), ((HB.out.cell (World.block_lt_of_cell? w _ hw365_2)).trans hw365_2), ((HB.out.cell (World.block_lt_of_cell? w _ hw365_3)).trans hw365_3), ((HB.out.cell (World.block_lt_of_cell? w _ hw366_0)).trans hw366_0), ((HB.out.cell (World.block_lt_of_cell? w _ hw366_1)).trans hw366_1), ((HB.out.cell (World.block_lt_of_cell? w _ hw366_2)).trans hw366_2), ((HB.out.cell (World.block_lt_of_cell? w _ hw366_3)).trans hw366_3)⟩ (fun hHeld => ?_)
      clear hK K
      refine norm_ (a' := ?_) ?_ ?_
      rotate_left
      ·show Act.put _ (some 34) _ = _
       simp only [Act.put, List.setIfInBounds_toArray, List.set_cons_zero, List.set_cons_succ, i64_w, i32_w]
       rfl
      refine pu 24 (some 3) (bl 25 33554431) (h := ?_)
      refine done_ (done_of HT_.out (by kernel_rfl)) ?_
      try go_wp2
      go_roundg k1
      case measure => have := HK1.out; omega
      case rel => exact ⟨(y367), (wrap64 (x4_1 + 1)), (by first | rfl | (simp; done) | (simp [*]; done)), H', ⟨by have := HK1.out; omega⟩, ⟨kr HO369⟩, ⟨(kl HB)⟩⟩
     ·rw [if_neg c4] at H
      exact absurd H (by simp)
    ·rw [if_neg c3] at H
     exact absurd H (by simp)
   ·rw [if_neg c2] at H
    have c2b0 : decide (x4_1 < (l0.length : Int)) = false := decide_eq_false c2
    clear c2
    obtain rfl := Option.some.inj H
    go_wp2
    go_ret
    exact ⟨_, by first | rfl | (simp [errW_none, errW_some] <;> rfl) | (simp [*, errW_none, errW_some] <;> rfl), by (with_reducible repeat (first | apply Kd.R_alloc | apply Kd.R_drewN | apply Kd.R_drew)); exact HO_3.out, (kl HB)⟩

end Go.Proofs.Ytiahbcaoikoogaa.All
