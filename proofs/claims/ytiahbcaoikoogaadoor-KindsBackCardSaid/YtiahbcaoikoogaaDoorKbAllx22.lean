-- declarations that this claim needs, copied by a program of the session
import Derived.Test.YtiahbcaoikoogaaDoorKbAllx20
namespace Go.Proofs.YtiahbcaoikoogaaDoor.All
open Go.RowKit Go.Proofs.YtiahbcaoikoogaaDoorW.PrintWords Go.Proofs.YtiahbcaoikoogaaDoorW.PrintLast Go.Proofs.YtiahbcaoikoogaaDoorW.PrintMore
attribute [local go_sem] max2_int min2_int max_two min_two max_three min_three max_four min_four   
set_option linter.unusedVariables false
set_option linter.unusedSimpArgs false
def gaiterlaw00_Bits.l0 : Nat → List Int → List Int → Int → Option (List Int × Int)
 | 0, _, _, _ => none
 | k + 1, x0, x3, x4 => if x4 < (x0.length : Int) then (if 0 ≤ x4 then (if x3.length < 140737488355328 then (gaiterlaw00_Bits.l0 k x0 (x3 ++ [Int.tmod (rd x0 x4) 2]) (wrap64 (x4 + 1))) else (none)) else (none)) else ((gaiterref01_Bytes.f k x3).bind fun t398 => (some (t398, (x0.length : Int))))
def gaiterlaw00_Bits.f (k : Nat) (l0 : List Int) : Option (List Int × Int) := gaiterlaw00_Bits.l0 k l0 ([] : List Int) 0
set_option maxHeartbeats 8000000 in
set_option maxRecDepth 100000 in
theorem gaiterlaw00_Bits.calls (k : Nat) (A0 : Option Addr) (c0 : Nat) (l0 : List Int) (r1 : List Int) (r2 : Int) (w : World) (hr0 : Kd.C (Kd.int .u8) w A0 l0.length l0) (hc0 : l0.length ≤ c0) (h : gaiterlaw00_Bits.f k l0 = some (r1, r2)) :
  Calls Tryd.prog 21 #[.slice A0 l0.length c0] w fun e w' => ∃ v0_ : Value, e = .returned (.agg #[v0_, .int .i64 r2]) ∧ Kd.R (Kd.int .u8) 5 w' w.heap.size (fun _ => True) v0_ r1 ∧ Below w.heap.size w w' := by
 have hu31 := Tryd.underlying31; have HR0 := Aside0.mk hr0; have HC0 := Aside0.mk hc0; clear hr0 hc0; have HB := Aside0.mk (Below.refl w.heap.size w); have H : (gaiterlaw00_Bits.l0 k l0 ([] : List Int) 0) = some (r1, r2) := h; clear h; have H' := Aside0.mk H; clear H
 go_enter Tryd.func21, Tryd.ntmps21
 go_wp2_with (first | ((with_reducible refine gate_dst (N := 2) rfl ?_); refine box_event ?hg (N := 2) ?hd (cs := #[.slice none 0 0, .int .i64 0]) (t := 31) ?hr ?_; (case hd => rfl); (case hg => rfl); (case hr => first | (go_simp; done) | (go_simp; rfl)); intro gb393 hg w2 hbox hb; have BK393 := Aside0.mk (hbox); have GW393 := kG hg HB; have GE393 := kG hg HB; replace HB := kH HB hb; clear hb hbox hg))
 go_loopg [3, 4] k (fun kq v3 v4 w' => ∃ (x3_1 : List Int) (x4_1 : Int), v4 = .int .i64 x4_1 ∧ Aside0 (gaiterlaw00_Bits.l0 kq l0 x3_1 x4_1 = some (r1, r2)) ∧ Aside0 (kq ≤ k) ∧ Aside0 (Kd.R (Kd.int .u8) 5 w' w.heap.size (fun _ => True) v3 x3_1) ∧ Aside0 (w'.heap[gb393]? = some (.cells #[(.slice none 0 0), .int .i64 0] 31 (0, 0))) ∧ Aside0 (Below w.heap.size w w'))
 case atStart => exact ⟨(([] : List Int)), (0), (by first | rfl | (simp; done) | (simp [*]; done)), H', ⟨Nat.le_refl _⟩, ⟨by first | exact Kd.R_nil _ _ _ _ _ | exact Kd.N_nil _ _ _ _ _ | exact Kd.V_nil _ _ _ _ _ | exact Kd.Q_nil _ _ _ _ _ | exact Kd.S_nil _ _ _ _ _⟩, ⟨kb BK393⟩, ⟨(kl HB)⟩⟩
 case round =>
  clear H'; (try clear c2); (try clear p2); obtain ⟨x3_1, x4_1, rfl, HA, HK1, HO_3, BK393, HB⟩ := hrel
  cases gk with
  | zero => exact absurd HA.out (by simp [gaiterlaw00_Bits.l0])
  | succ k1 =>
   have H := HA.out; clear HA; simp only [gaiterlaw00_Bits.l0] at H
   by_cases c3 : x4_1 < (l0.length : Int)
   ·rw [if_pos c3] at H; have c3b0 : decide (x4_1 < (l0.length : Int)) = true := decide_eq_true c3; clear c3
    by_cases c4 : 0 ≤ x4_1
    ·rw [if_pos c4] at H; have c4b0 : decide (0 ≤ x4_1) = true := decide_eq_true c4; clear c4
     by_cases c5 : x3_1.length < 140737488355328
     ·rw [if_pos c5] at H; have LMc5 := Aside0.mk c5; clear c5; obtain ⟨y395, hy395⟩ : ∃ y_ : List Int, y_ = (x3_1 ++ [Int.tmod (rd l0 x4_1) 2]) := ⟨_, rfl⟩
      replace H : (gaiterlaw00_Bits.l0 k1 l0 y395 (wrap64 (x4_1 + 1))) = some (r1, r2) := by first | (rw [hy395]; with_reducible exact H) | (have H2_ := (Option.bind_some _ _).symm.trans H; rw [hy395]; with_reducible exact H2_) | (have H2_ := (Option.bind_some _ _).symm.trans H; with_reducible exact H2_) | with_reducible exact H | (rw [hy395]; exact H) | exact H
      have Ny395 := Aside0.mk hy395; clear hy395; have H' := Aside0.mk H; clear H; have p394 : 0 ≤ (x4_1 : Int) := of_decide_eq_true (by first | (with_reducible assumption) | assumption); have q394 : x4_1 < (l0.length : Int) := of_decide_eq_true (by first | (with_reducible assumption) | assumption); obtain ⟨ad394, e394, hx394_0⟩ := Kd.at_int HR0.out x4_1 p394 q394
      cases e394
      replace hx394_0 := (HB.out.cell (World.block_lt_of_cell? w _ hx394_0)).trans hx394_0; replace p394 := eq_true p394
      (try (have q394s := q394; simp only [List.length_drop, List.length_take] at q394s; replace q394s := eq_true q394s)); replace q394 := eq_true q394
      go_wp2_with (first | ((with_reducible refine gate_builtin (b := .append) (xs := #[.tmp 11, .tmp 17]) rfl ?_); at_builtin; refine Kd.R_append (Kd.int .u8) (w0 := w) w.heap.size rfl (.tmp 11) (.tmp 17) 25 5 (.int .u8 0) 1 rfl Tryd.underlying25 info5 rfl (by decide) (by omega) u3 x3_1 (Int.tmod (rd l0 x4_1) 2) [.int .u8 (Int.tmod (rd l0 x4_1) 2)] (fun _ => True) (fun _ => False) rfl rfl ?aP (fun _ hk => hk.elim) ?aF ?aO ?aB ?aS ?aL ?_; (case aP => exact rfl); (case aB => exact (kl HB)); (case aF => exact (fun _ _ => trivial)); (case aO => exact (kr HO_3)); (case aS => exact (below_size (kl HB))); (case aL => have := LMc5.out; omega); intro v396 w6 ho hb hg hat; rw [← Ny395.out] at ho; have n0_ := Aside0.mk (blk_grown (g := gb393) (o := .cells #[.slice none 0 0, .int .i64 0] 31 (0, 0)) (kb BK393) hg (Kd.R_ne HO_3.out BK393.out (by decide))); have n1_ := Aside0.mk (hb); have n2_ := Aside0.mk (ho); clear BK393; clear HB; clear HO_3; have BK393 := n0_; have HB := n1_; have HO397 := n2_; clear n0_ n1_ n2_; clear ho hb hg hat))
      go_roundg k1
      case measure => have := HK1.out; omega
      case rel => exact ⟨(y395), (wrap64 (x4_1 + 1)), (by first | rfl | (simp; done) | (simp [*]; done)), H', ⟨by have := HK1.out; omega⟩, ⟨kr HO397⟩, ⟨kb BK393⟩, ⟨(kl HB)⟩⟩
     ·rw [if_neg c5] at H
      exact absurd H (by simp)
    ·rw [if_neg c4] at H
     exact absurd H (by simp)
   ·rw [if_neg c3] at H; have c3b0 : decide (x4_1 < (l0.length : Int)) = false := decide_eq_false c3; clear c3; replace H := Option.bind_eq_some_iff.mp H; obtain ⟨t398, A70, H⟩ := H; replace H : (some (t398, (l0.length : Int))) = some (r1, r2) := H; have A7 := Aside0.mk A70; clear A70; simp only [Option.some.injEq, Prod.mk.injEq] at H; obtain ⟨rfl, rfl⟩ := H; obtain ⟨Ao8, co8, eo8⟩ := Kd.R_slice HO_3.out; subst eo8
    go_wp2_with (first | ((with_reducible refine gate_callee (f := 51) rfl ?_); refine goesL_ (some 20) rfl rfl Tryd.func51 (by kernel_rfl) rfl #[.slice Ao8 x3_1.length co8] rfl km ?_; (with_reducible refine (gaiterref01_Bytes.calls k1 _ _ x3_1 t398 _ ?side1 ?side2 A7.out).mono ?_); (case side1 => repeat (first | exact (Kd.R_reads' HO_3.out).2.2 | (with_reducible refine Kd.C_alloc ?_ _) | (with_reducible refine Kd.C_drewN ?_ _) | (with_reducible refine Kd.C_drew ?_))); (case side2 => exact (Kd.R_reads' HO_3.out).2.1); rintro e w9 ⟨v399, rfl, ho0, hb⟩; refine ⟨_, rfl, ?_⟩; have HO400 := Aside0.mk (Kd.R_lower (Kd.R_new' ho0 (Kd.R_lt (kr HO_3))) (below_size (kl HB))); replace HO_3 := Aside0.mk (Kd.R_elder' (kr HO_3) (Kd.R_base ho0) hb); replace BK393 := kB BK393 hb; replace HB := kH HB hb; (try clear hb); (try clear hb2); (try clear hk); (try clear hi); (try clear hgw); (try clear ho0); obtain ⟨Ao10, co10, eo10⟩ := Kd.R_slice HO400.out; subst eo10; have hcz11_0 : w9.cell? ⟨gb393, 0, none⟩ = some (.slice none 0 0) := (blk_cell BK393.out 0).trans rfl; have hcz11_1 : w9.cell? ⟨gb393, 1, none⟩ = some (.int .i64 0) := (blk_cell BK393.out 1).trans rfl; have hfz11_0 := blk_frozen BK393.out 0; have hfz11_1 := blk_frozen BK393.out 1))
    refine bodyPost_ret (results_cell_row rfl _ _ gb393 31 #[.slice Ao10 t398.length co10, .int .i64 (l0.length : Int)] (0, 0) _ rfl (kb BK393) Tryd.underlying31 rfl (by kernel_rfl)) rfl ?_
    exact ⟨_, by first | rfl | (simp [errW_none, errW_some] <;> rfl) | (simp [*, errW_none, errW_some] <;> rfl), by (with_reducible repeat (first | apply Kd.R_alloc | apply Kd.R_drewN | apply Kd.R_drew)); exact Kd.R_mono (Kd.R_far (p := ⟨gb393, 1, none⟩) (Kd.R_far (p := ⟨gb393, 0, none⟩) (Kd.R_types HO400.out BK393.out (by decide)) (fun _ hk => hk.2) (.slice Ao10 t398.length co10)) (fun _ hk => hk.2) (.int .i64 (l0.length : Int))) (fun _ hk => trivial), (kl HB)⟩
def gaiterlaw00_Rising.l0 : Nat → List (S59) → List (S59) → Int → Option ((List (S59)))
 | 0, _, _, _ => none
 | k + 1, x0, x3, x4 => if x4 < (x0.length : Int) then (if (x3.length : Int) = 0 then (if 0 ≤ x4 then (if x3.length < 8796093022208 then (gaiterlaw00_Rising.l0 k x0 (x3 ++ [(⟨(rd_T59 x0 x4).f0, (rd_T59 x0 x4).f1⟩ : S59)]) (wrap64 (x4 + 1))) else (none)) else (none)) else (if 0 ≤ x4 then (if 0 ≤ (wrap64 ((x3.length : Int) - 1)) then (if (wrap64 ((x3.length : Int) - 1)) < (x3.length : Int) then (if ((rd_T59 x0 x4).f0) > ((rd_T59 x3 (wrap64 ((x3.length : Int) - 1))).f0) then (if x3.length < 8796093022208 then (gaiterlaw00_Rising.l0 k x0 (x3 ++ [(⟨(rd_T59 x0 x4).f0, (rd_T59 x0 x4).f1⟩ : S59)]) (wrap64 (x4 + 1))) else (none)) else (gaiterlaw00_Rising.l0 k x0 x3 (wrap64 (x4 + 1)))) else (none)) else (none)) else (none))) else (some x3)
def gaiterlaw00_Rising.f (k : Nat) (l0 : List (S59)) : Option ((List (S59))) := gaiterlaw00_Rising.l0 k l0 ([] : List (S59)) 0
set_option maxHeartbeats 8000000 in
set_option maxRecDepth 100000 in
theorem gaiterlaw00_Rising.calls (k : Nat) (A0 : Option Addr) (c0 : Nat) (l0 : List (S59)) (r : List (S59)) (w : World) (hr0 : Kd.C k59 w A0 l0.length l0) (hc0 : l0.length ≤ c0) (h : gaiterlaw00_Rising.f k l0 = some r) :
  Calls Tryd.prog 31 #[.slice A0 l0.length c0] w fun e w' => ∃ v0_ : Value, e = .returned (v0_) ∧ Kd.R k59 59 w' w.heap.size (fun _ => True) v0_ r ∧ Below w.heap.size w w' := by
 have hu59 := Tryd.underlying59; have HR0 := Aside0.mk hr0; have HC0 := Aside0.mk hc0; clear hr0 hc0; have HB := Aside0.mk (Below.refl w.heap.size w); have H : (gaiterlaw00_Rising.l0 k l0 ([] : List (S59)) 0) = some r := h; clear h; have H' := Aside0.mk H; clear H
 go_enter Tryd.func31, Tryd.ntmps31
 go_wp2
 repeat ((first | go_quiet (fail) | go_region); try go_wp2)
 go_loopg [3, 4] k (fun kq v3 v4 w' => ∃ (x3_1 : List (S59)) (x4_1 : Int), v4 = .int .i64 x4_1 ∧ Aside0 (gaiterlaw00_Rising.l0 kq l0 x3_1 x4_1 = some r) ∧ Aside0 (kq ≤ k) ∧ Aside0 (Kd.R k59 59 w' w.heap.size (fun _ => True) v3 x3_1) ∧ Aside0 (Below w.heap.size w w'))
 case atStart => exact ⟨(([] : List (S59))), (0), (by first | rfl | (simp; done) | (simp [*]; done)), H', ⟨Nat.le_refl _⟩, ⟨by first | exact Kd.R_nil _ _ _ _ _ | exact Kd.N_nil _ _ _ _ _ | exact Kd.V_nil _ _ _ _ _ | exact Kd.Q_nil _ _ _ _ _ | exact Kd.S_nil _ _ _ _ _⟩, ⟨(kl HB)⟩⟩
 case round =>
  clear H'; obtain ⟨x3_1, x4_1, rfl, HA, HK1, HO_3, HB⟩ := hrel
  cases gk with
  | zero => exact absurd HA.out (by simp [gaiterlaw00_Rising.l0])
  | succ k1 =>
   have H := HA.out; clear HA; simp only [gaiterlaw00_Rising.l0] at H
   by_cases c2 : x4_1 < (l0.length : Int)
   ·rw [if_pos c2] at H; have c2b0 : decide (x4_1 < (l0.length : Int)) = true := decide_eq_true c2; clear c2
    by_cases c3 : (x3_1.length : Int) = 0
    ·rw [if_pos c3] at H; have c3b0 : ((x3_1.length : Int) == 0) = true := beq_iff_eq.mpr c3; have c3b1 : ((x3_1.length : Int) != 0) = false := bne_eq_false_iff_eq.mpr c3; clear c3
     by_cases c4 : 0 ≤ x4_1
     ·rw [if_pos c4] at H; have c4b0 : decide (0 ≤ x4_1) = true := decide_eq_true c4; clear c4
      by_cases c5 : x3_1.length < 8796093022208
      ·rw [if_pos c5] at H; have LMc5 := Aside0.mk c5; clear c5; obtain ⟨y910, hy910⟩ : ∃ y_ : List (S59), y_ = (x3_1 ++ [(⟨(rd_T59 l0 x4_1).f0, (rd_T59 l0 x4_1).f1⟩ : S59)]) := ⟨_, rfl⟩
       replace H : (gaiterlaw00_Rising.l0 k1 l0 y910 (wrap64 (x4_1 + 1))) = some r := by first | (rw [hy910]; with_reducible exact H) | (have H2_ := (Option.bind_some _ _).symm.trans H; rw [hy910]; with_reducible exact H2_) | (have H2_ := (Option.bind_some _ _).symm.trans H; with_reducible exact H2_) | with_reducible exact H | (rw [hy910]; exact H) | exact H
       have Ny910 := Aside0.mk hy910; clear hy910; have H' := Aside0.mk H; clear H; obtain ⟨Ao6, co6, eo6⟩ := Kd.R_slice HO_3.out; subst eo6; have p909 : 0 ≤ (x4_1 : Int) := of_decide_eq_true (by first | (with_reducible assumption) | assumption); have q909 : x4_1 < (l0.length : Int) := of_decide_eq_true (by first | (with_reducible assumption) | assumption); obtain ⟨ad909, e909, hx909_0, hx909_1⟩ := at_T59 HR0.out x4_1 p909 q909
       cases e909
       replace hx909_0 := (HB.out.cell (World.block_lt_of_cell? w _ hx909_0)).trans hx909_0; replace hx909_1 := (HB.out.cell (World.block_lt_of_cell? w _ hx909_1)).trans hx909_1; replace p909 := eq_true p909
       (try (have q909s := q909; simp only [List.length_drop, List.length_take] at q909s; replace q909s := eq_true q909s)); replace q909 := eq_true q909
       go_wp2_with (first | ((with_reducible refine gate_builtin (b := .append) (xs := #[.tmp 16, .tmp 21]) rfl ?_); at_builtin; refine Kd.R_append k59 (w0 := w) w.heap.size rfl (.tmp 16) (.tmp 21) 51 59 (.agg #[(.int .i64 0), (.int .u64 0)]) 16 rfl Tryd.underlying51 info59 rfl (by decide) (by omega) (.slice Ao6 x3_1.length co6) x3_1 (⟨(rd_T59 l0 x4_1).f0, (rd_T59 l0 x4_1).f1⟩ : S59) [.int .i64 ((rd_T59 l0 x4_1).f0), .int .u64 ((rd_T59 l0 x4_1).f1)] (fun _ => True) (fun _ => False) rfl rfl ?aP (fun _ hk => hk.elim) ?aF ?aO ?aB ?aS ?aL ?_; (case aP => exact k59_mkM _ _ _ (⟨(rd_T59 l0 x4_1).f0, (rd_T59 l0 x4_1).f1⟩ : S59)); (case aB => exact (kl HB)); (case aF => exact (fun _ _ => trivial)); (case aO => exact (kr HO_3)); (case aS => exact (below_size (kl HB))); (case aL => have := LMc5.out; omega); intro v911 w7 ho hb hg hat; rw [← Ny910.out] at ho; have n0_ := Aside0.mk (hb); have n1_ := Aside0.mk (ho); clear HB; clear HO_3; have HB := n0_; have HO912 := n1_; clear n0_ n1_; clear ho hb hg hat))
       repeat (go_quiet (first | ((with_reducible refine gate_builtin (b := .append) (xs := #[.tmp 16, .tmp 21]) rfl ?_); at_builtin; refine Kd.R_append k59 (w0 := w) w.heap.size rfl (.tmp 16) (.tmp 21) 51 59 (.agg #[(.int .i64 0), (.int .u64 0)]) 16 rfl Tryd.underlying51 info59 rfl (by decide) (by omega) (.slice Ao6 x3_1.length co6) x3_1 (⟨(rd_T59 l0 x4_1).f0, (rd_T59 l0 x4_1).f1⟩ : S59) [.int .i64 ((rd_T59 l0 x4_1).f0), .int .u64 ((rd_T59 l0 x4_1).f1)] (fun _ => True) (fun _ => False) rfl rfl ?aP (fun _ hk => hk.elim) ?aF ?aO ?aB ?aS ?aL ?_; (case aP => exact k59_mkM _ _ _ (⟨(rd_T59 l0 x4_1).f0, (rd_T59 l0 x4_1).f1⟩ : S59)); (case aB => exact (kl HB)); (case aF => exact (fun _ _ => trivial)); (case aO => exact (kr HO_3)); (case aS => exact (below_size (kl HB))); (case aL => have := LMc5.out; omega); intro v911 w7 ho hb hg hat; rw [← Ny910.out] at ho; have n0_ := Aside0.mk (hb); have n1_ := Aside0.mk (ho); clear HB; clear HO_3; have HB := n0_; have HO912 := n1_; clear n0_ n1_; clear ho hb hg hat)); try go_wp2_with (first | ((with_reducible refine gate_builtin (b := .append) (xs := #[.tmp 16, .tmp 21]) rfl ?_); at_builtin; refine Kd.R_append k59 (w0 := w) w.heap.size rfl (.tmp 16) (.tmp 21) 51 59 (.agg #[(.int .i64 0), (.int .u64 0)]) 16 rfl Tryd.underlying51 info59 rfl (by decide) (by omega) (.slice Ao6 x3_1.length co6) x3_1 (⟨(rd_T59 l0 x4_1).f0, (rd_T59 l0 x4_1).f1⟩ : S59) [.int .i64 ((rd_T59 l0 x4_1).f0), .int .u64 ((rd_T59 l0 x4_1).f1)] (fun _ => True) (fun _ => False) rfl rfl ?aP (fun _ hk => hk.elim) ?aF ?aO ?aB ?aS ?aL ?_; (case aP => exact k59_mkM _ _ _ (⟨(rd_T59 l0 x4_1).f0, (rd_T59 l0 x4_1).f1⟩ : S59)); (case aB => exact (kl HB)); (case aF => exact (fun _ _ => trivial)); (case aO => exact (kr HO_3)); (case aS => exact (below_size (kl HB))); (case aL => have := LMc5.out; omega); intro v911 w7 ho hb hg hat; rw [← Ny910.out] at ho; have n0_ := Aside0.mk (hb); have n1_ := Aside0.mk (ho); clear HB; clear HO_3; have HB := n0_; have HO912 := n1_; clear n0_ n1_; clear ho hb hg hat)))
       go_roundg k1
       case measure => have := HK1.out; omega
       case rel => exact ⟨(y910), (wrap64 (x4_1 + 1)), (by first | rfl | (simp; done) | (simp [*]; done)), H', ⟨by have := HK1.out; omega⟩, ⟨kr HO912⟩, ⟨(kl HB)⟩⟩
      ·rw [if_neg c5] at H
       exact absurd H (by simp)
     ·rw [if_neg c4] at H
      exact absurd H (by simp)
    ·rw [if_neg c3] at H; have c3b0 : ((x3_1.length : Int) == 0) = false := beq_eq_false_iff_ne.mpr c3; have c3b1 : ((x3_1.length : Int) != 0) = true := bne_iff_ne.mpr c3
     have c3b2 : ¬ (x3_1 = []) := fun h_ => c3 (by rw [h_]; rfl)
     by_cases c8 : 0 ≤ x4_1
     ·rw [if_pos c8] at H; have c8b0 : decide (0 ≤ x4_1) = true := decide_eq_true c8; clear c8; obtain ⟨ji9, hji9⟩ : ∃ j_ : Int, (wrap64 ((x3_1.length : Int) - 1)) = j_ := ⟨_, rfl⟩
      replace H : (if 0 ≤ (ji9) then (if (ji9) < (x3_1.length : Int) then (if ((rd_T59 l0 x4_1).f0) > ((rd_T59 x3_1 (ji9)).f0) then (if x3_1.length < 8796093022208 then (gaiterlaw00_Rising.l0 k1 l0 (x3_1 ++ [(⟨(rd_T59 l0 x4_1).f0, (rd_T59 l0 x4_1).f1⟩ : S59)]) (wrap64 (x4_1 + 1))) else (none)) else (gaiterlaw00_Rising.l0 k1 l0 x3_1 (wrap64 (x4_1 + 1)))) else (none)) else (none)) = some r := by first | (rw [hji9] at H; exact H) | (simp only [hji9] at H ⊢; exact H)
      have hji9w : (IntKind.i64.wrap ((x3_1.length : Int) - 1)) = ji9 := (i64_w _).trans hji9
      by_cases c10 : 0 ≤ (ji9)
      ·rw [if_pos c10] at H; have c10b0 : decide (0 ≤ (ji9)) = true := decide_eq_true c10; clear c10
       by_cases c11 : (ji9) < (x3_1.length : Int)
       ·rw [if_pos c11] at H; have c11b0 : decide ((ji9) < (x3_1.length : Int)) = true := decide_eq_true c11; clear c11
        by_cases c12 : ((rd_T59 l0 x4_1).f0) > ((rd_T59 x3_1 (ji9)).f0)
        ·rw [if_pos c12] at H; have c12b0 : decide (((rd_T59 x3_1 (ji9)).f0) < ((rd_T59 l0 x4_1).f0)) = true := decide_eq_true c12; clear c12
         by_cases c13 : x3_1.length < 8796093022208
         ·rw [if_pos c13] at H; have LMc13 := Aside0.mk c13; clear c13; obtain ⟨y916, hy916⟩ : ∃ y_ : List (S59), y_ = (x3_1 ++ [(⟨(rd_T59 l0 x4_1).f0, (rd_T59 l0 x4_1).f1⟩ : S59)]) := ⟨_, rfl⟩
          replace H : (gaiterlaw00_Rising.l0 k1 l0 y916 (wrap64 (x4_1 + 1))) = some r := by first | (rw [hy916]; with_reducible exact H) | (have H2_ := (Option.bind_some _ _).symm.trans H; rw [hy916]; with_reducible exact H2_) | (have H2_ := (Option.bind_some _ _).symm.trans H; with_reducible exact H2_) | with_reducible exact H | (rw [hy916]; exact H) | exact H
          have Ny916 := Aside0.mk hy916; clear hy916; have H' := Aside0.mk H; clear H; obtain ⟨Ao14, co14, eo14⟩ := Kd.R_slice HO_3.out; subst eo14; have p913 : 0 ≤ (x4_1 : Int) := of_decide_eq_true (by first | (with_reducible assumption) | assumption); have q913 : x4_1 < (l0.length : Int) := of_decide_eq_true (by first | (with_reducible assumption) | assumption); obtain ⟨ad913, e913, hx913_0, hx913_1⟩ := at_T59 HR0.out x4_1 p913 q913
          cases e913
          replace hx913_0 := (HB.out.cell (World.block_lt_of_cell? w _ hx913_0)).trans hx913_0; replace hx913_1 := (HB.out.cell (World.block_lt_of_cell? w _ hx913_1)).trans hx913_1; replace p913 := eq_true p913
          (try (have q913s := q913; simp only [List.length_drop, List.length_take] at q913s; replace q913s := eq_true q913s)); replace q913 := eq_true q913
          have p914 : 0 ≤ ((ji9) : Int) := of_decide_eq_true (by first | (with_reducible assumption) | assumption); have q914 : (ji9) < (x3_1.length : Int) := of_decide_eq_true (by first | (with_reducible assumption) | assumption); obtain ⟨ad914, e914, hx914_0, hx914_1⟩ := at_T59 (Kd.R_reads' HO_3.out).2.2 (ji9) p914 q914
          cases e914
          replace p914 := eq_true p914
          (try (have q914s := q914; simp only [List.length_drop, List.length_take] at q914s; replace q914s := eq_true q914s)); replace q914 := eq_true q914
          have p915 : 0 ≤ (x4_1 : Int) := of_decide_eq_true (by first | (with_reducible assumption) | assumption); have q915 : x4_1 < (l0.length : Int) := of_decide_eq_true (by first | (with_reducible assumption) | assumption); obtain ⟨ad915, e915, hx915_0, hx915_1⟩ := at_T59 HR0.out x4_1 p915 q915; obtain rfl : ad913 = ad915 := (by injection e915); replace hx915_0 := (HB.out.cell (World.block_lt_of_cell? w _ hx915_0)).trans hx915_0; replace hx915_1 := (HB.out.cell (World.block_lt_of_cell? w _ hx915_1)).trans hx915_1; replace p915 := eq_true p915
          (try (have q915s := q915; simp only [List.length_drop, List.length_take] at q915s; replace q915s := eq_true q915s)); replace q915 := eq_true q915
          go_wp2_with (first | ((with_reducible refine gate_builtin (b := .append) (xs := #[.tmp 35, .tmp 40]) rfl ?_); at_builtin; refine Kd.R_append k59 (w0 := w) w.heap.size rfl (.tmp 35) (.tmp 40) 51 59 (.agg #[(.int .i64 0), (.int .u64 0)]) 16 rfl Tryd.underlying51 info59 rfl (by decide) (by omega) (.slice (some ad914) x3_1.length co14) x3_1 (⟨(rd_T59 l0 x4_1).f0, (rd_T59 l0 x4_1).f1⟩ : S59) [.int .i64 ((rd_T59 l0 x4_1).f0), .int .u64 ((rd_T59 l0 x4_1).f1)] (fun _ => True) (fun _ => False) rfl rfl ?aP (fun _ hk => hk.elim) ?aF ?aO ?aB ?aS ?aL ?_; (case aP => exact k59_mkM _ _ _ (⟨(rd_T59 l0 x4_1).f0, (rd_T59 l0 x4_1).f1⟩ : S59)); (case aB => exact (kl HB)); (case aF => exact (fun _ _ => trivial)); (case aO => exact (kr HO_3)); (case aS => exact (below_size (kl HB))); (case aL => have := LMc13.out; omega); intro v917 w15 ho hb hg hat; rw [← Ny916.out] at ho; have n0_ := Aside0.mk (hb); have n1_ := Aside0.mk (ho); clear HB; clear HO_3; have HB := n0_; have HO918 := n1_; clear n0_ n1_; clear ho hb hg hat))
          repeat (go_quiet (first | ((with_reducible refine gate_builtin (b := .append) (xs := #[.tmp 35, .tmp 40]) rfl ?_); at_builtin; refine Kd.R_append k59 (w0 := w) w.heap.size rfl (.tmp 35) (.tmp 40) 51 59 (.agg #[(.int .i64 0), (.int .u64 0)]) 16 rfl Tryd.underlying51 info59 rfl (by decide) (by omega) (.slice (some ad914) x3_1.length co14) x3_1 (⟨(rd_T59 l0 x4_1).f0, (rd_T59 l0 x4_1).f1⟩ : S59) [.int .i64 ((rd_T59 l0 x4_1).f0), .int .u64 ((rd_T59 l0 x4_1).f1)] (fun _ => True) (fun _ => False) rfl rfl ?aP (fun _ hk => hk.elim) ?aF ?aO ?aB ?aS ?aL ?_; (case aP => exact k59_mkM _ _ _ (⟨(rd_T59 l0 x4_1).f0, (rd_T59 l0 x4_1).f1⟩ : S59)); (case aB => exact (kl HB)); (case aF => exact (fun _ _ => trivial)); (case aO => exact (kr HO_3)); (case aS => exact (below_size (kl HB))); (case aL => have := LMc13.out; omega); intro v917 w15 ho hb hg hat; rw [← Ny916.out] at ho; have n0_ := Aside0.mk (hb); have n1_ := Aside0.mk (ho); clear HB; clear HO_3; have HB := n0_; have HO918 := n1_; clear n0_ n1_; clear ho hb hg hat)); try go_wp2_with (first | ((with_reducible refine gate_builtin (b := .append) (xs := #[.tmp 35, .tmp 40]) rfl ?_); at_builtin; refine Kd.R_append k59 (w0 := w) w.heap.size rfl (.tmp 35) (.tmp 40) 51 59 (.agg #[(.int .i64 0), (.int .u64 0)]) 16 rfl Tryd.underlying51 info59 rfl (by decide) (by omega) (.slice (some ad914) x3_1.length co14) x3_1 (⟨(rd_T59 l0 x4_1).f0, (rd_T59 l0 x4_1).f1⟩ : S59) [.int .i64 ((rd_T59 l0 x4_1).f0), .int .u64 ((rd_T59 l0 x4_1).f1)] (fun _ => True) (fun _ => False) rfl rfl ?aP (fun _ hk => hk.elim) ?aF ?aO ?aB ?aS ?aL ?_; (case aP => exact k59_mkM _ _ _ (⟨(rd_T59 l0 x4_1).f0, (rd_T59 l0 x4_1).f1⟩ : S59)); (case aB => exact (kl HB)); (case aF => exact (fun _ _ => trivial)); (case aO => exact (kr HO_3)); (case aS => exact (below_size (kl HB))); (case aL => have := LMc13.out; omega); intro v917 w15 ho hb hg hat; rw [← Ny916.out] at ho; have n0_ := Aside0.mk (hb); have n1_ := Aside0.mk (ho); clear HB; clear HO_3; have HB := n0_; have HO918 := n1_; clear n0_ n1_; clear ho hb hg hat)))
          go_roundg k1
          case measure => have := HK1.out; omega
          case rel => exact ⟨(y916), (wrap64 (x4_1 + 1)), (by first | rfl | (simp; done) | (simp [*]; done)), H', ⟨by have := HK1.out; omega⟩, ⟨kr HO918⟩, ⟨(kl HB)⟩⟩
         ·rw [if_neg c13] at H
          exact absurd H (by simp)
        ·rw [if_neg c12] at H; have c12b0 : decide (((rd_T59 x3_1 (ji9)).f0) < ((rd_T59 l0 x4_1).f0)) = false := decide_eq_false c12; clear c12; have H' := Aside0.mk H; clear H; obtain ⟨Ao16, co16, eo16⟩ := Kd.R_slice HO_3.out; subst eo16; have p913 : 0 ≤ (x4_1 : Int) := of_decide_eq_true (by first | (with_reducible assumption) | assumption); have q913 : x4_1 < (l0.length : Int) := of_decide_eq_true (by first | (with_reducible assumption) | assumption); obtain ⟨ad913, e913, hx913_0, hx913_1⟩ := at_T59 HR0.out x4_1 p913 q913
         cases e913
         replace hx913_0 := (HB.out.cell (World.block_lt_of_cell? w _ hx913_0)).trans hx913_0; replace hx913_1 := (HB.out.cell (World.block_lt_of_cell? w _ hx913_1)).trans hx913_1; replace p913 := eq_true p913
         (try (have q913s := q913; simp only [List.length_drop, List.length_take] at q913s; replace q913s := eq_true q913s)); replace q913 := eq_true q913
         have p914 : 0 ≤ ((ji9) : Int) := of_decide_eq_true (by first | (with_reducible assumption) | assumption); have q914 : (ji9) < (x3_1.length : Int) := of_decide_eq_true (by first | (with_reducible assumption) | assumption); obtain ⟨ad914, e914, hx914_0, hx914_1⟩ := at_T59 (Kd.R_reads' HO_3.out).2.2 (ji9) p914 q914
         cases e914
         replace p914 := eq_true p914
         (try (have q914s := q914; simp only [List.length_drop, List.length_take] at q914s; replace q914s := eq_true q914s)); replace q914 := eq_true q914
         go_wp2
         repeat ((first | go_quiet (fail) | go_region); try go_wp2)
         go_roundg k1
         case measure => have := HK1.out; omega
         case rel => exact ⟨(x3_1), (wrap64 (x4_1 + 1)), (by first | rfl | (simp; done) | (simp [*]; done)), H', ⟨by have := HK1.out; omega⟩, ⟨kr HO_3⟩, ⟨(kl HB)⟩⟩
       ·rw [if_neg c11] at H
        exact absurd H (by simp)
      ·rw [if_neg c10] at H
       exact absurd H (by simp)
     ·rw [if_neg c8] at H
      exact absurd H (by simp)
   ·rw [if_neg c2] at H; have c2b0 : decide (x4_1 < (l0.length : Int)) = false := decide_eq_false c2; clear c2; obtain rfl := Option.some.inj H
    go_wp2
    repeat ((first | go_quiet (fail) | go_region); try go_wp2)
    go_ret
    exact ⟨_, by first | rfl | (simp [errW_none, errW_some] <;> rfl) | (simp [*, errW_none, errW_some] <;> rfl), by (with_reducible repeat (first | apply Kd.R_alloc | apply Kd.R_drewN | apply Kd.R_drew)); exact HO_3.out, (kl HB)⟩
end Go.Proofs.YtiahbcaoikoogaaDoor.All
