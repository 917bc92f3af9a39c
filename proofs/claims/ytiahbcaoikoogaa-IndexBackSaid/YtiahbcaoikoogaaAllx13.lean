-- written by a program of the session out of the translation; Lean checks it
import Derived.Test.YtiahbcaoikoogaaAllx0
import Derived.Test.YtiahbcaoikoogaaAllx9
import Derived.Test.YtiahbcaoikoogaaAllx10
import Derived.Test.YtiahbcaoikoogaaAllx11
import Derived.Test.YtiahbcaoikoogaaAllx12
import Derived.Test.YtiahbcaoikoogaaMk
namespace Go.Proofs.Ytiahbcaoikoogaa.All
open Go.RowKit Go.Proofs.YtiahbcaoikoogaaW.PrintWords Go.Proofs.YtiahbcaoikoogaaW.PrintLast Go.Proofs.YtiahbcaoikoogaaW.PrintMore
attribute [local go_sem] max2_int min2_int max_two min_two max_three min_three max_four min_four   -- for this text's walks alone
set_option linter.unusedVariables false
set_option linter.unusedSimpArgs false

attribute [local go_sem high] errW_cells errW_match run_store_errW
/-! ### index_Put: function 22 -/
mutual
def index_Put.l0 : Nat → List Int → List (S72) → Int → Int → Option (List Int × Option Int)
 | 0, _, _, _, _ => none
 | k + 1, x4, x28, x29, x30 => if x30 < x29 then (if 0 ≤ x30 then (if x30 < (x28.length : Int) then ((index_number.f k x4 (IntKind.u64.wrap ((rd_T72 x28 x30).f0)) 8).bind fun t252 => ((some (([IntKind.u64.wrap ((IntKind.u64.wrap ((rd_T72 x28 x30).f1)) - (IntKind.u64.wrap ((rd_T72 x28 x30).f0))), IntKind.u64.wrap ((rd_T72 x28 x30).f2), IntKind.u64.wrap ((rd_T72 x28 x30).f3)] : List Int) : List Int)).bind fun y255 => (index_Put.l1 k t252 x28 x29 x30 y255 (y255.length : Int) 0))) else (none)) else (none)) else ((crc_Sum.f k x4).bind fun t246 => ((index_number.f k x4 (IntKind.u64.wrap (t246)) 4).bind fun t247 => (some (t247, none))))
def index_Put.l1 : Nat → List Int → List (S72) → Int → Int → List Int → Int → Int → Option (List Int × Option Int)
 | 0, _, _, _, _, _, _, _ => none
 | k + 1, x4, x28, x29, x30, x52, x53, x54 => if x54 < x53 then (if 0 ≤ x54 then (if x54 < (x52.length : Int) then ((uvar_Put.f k (rd x52 x54)).bind fun t259 => (if x4.length + t259.length < 140737488355328 then (index_Put.l1 k (x4 ++ t259) x28 x29 x30 x52 x53 (wrap64 (x54 + 1))) else (none))) else (none)) else (none)) else (index_Put.l0 k x4 x28 x29 (wrap64 (x30 + 1)))
end
def index_Put.f (k : Nat) (a0_0 : Int) (l0_1 : List (S72)) : Option (List Int × Option Int) := (index_may.f k a0_0 l0_1).bind fun t233 => (if t233 = true then ((some (([71, 84, 83, 49] : List Int) : List Int)).bind fun y234 => (if y234.length < 140737488355328 then ((some (y234 ++ [(a0_0) % 256] : List Int)).bind fun y237 => ((uvar_Put.f k (IntKind.u64.wrap ((l0_1.length : Int)))).bind fun t240 => (if y237.length + t240.length < 140737488355328 then (index_Put.l0 k (y237 ++ t240) l0_1 (l0_1.length : Int) 0) else (none)))) else (none))) else (some (([] : List Int), some 1)))
theorem index_Put.mono_l : ∀ k, (∀ y0 y1 y2 y3, LeO (index_Put.l0 k y0 y1 y2 y3) (index_Put.l0 (k + 1) y0 y1 y2 y3)) ∧ (∀ y0 y1 y2 y3 y4 y5 y6, LeO (index_Put.l1 k y0 y1 y2 y3 y4 y5 y6) (index_Put.l1 (k + 1) y0 y1 y2 y3 y4 y5 y6))
 | 0 => ⟨fun _ _ _ _ r h => by simp [index_Put.l0] at h, fun _ _ _ _ _ _ _ r h => by simp [index_Put.l1] at h⟩
 | k + 1 => by
  obtain ⟨ih0, ih1⟩ := index_Put.mono_l k
  refine ⟨?_, ?_⟩
  ·intro y0 y1 y2 y3
   unfold index_Put.l0
   repeat' first
   | (with_reducible exact ih0 _ _ _ _)
   | (with_reducible exact ih1 _ _ _ _ _ _ _)
   | (with_reducible exact crc_Sum.mono _ _)
   | (with_reducible exact index_may.mono _ _ _)
   | (with_reducible exact index_number.mono _ _ _ _)
   | (with_reducible exact uvar_Put.mono _ _)
   | (with_reducible exact LeO.refl _)
   | (with_reducible exact LeO.none _)
   | (with_reducible refine LeO.ite ?_ ?_)
   | (with_reducible refine LeO.bind ?_ (fun _ => ?_))
   | exact ih0 _ _ _ _
   | exact ih1 _ _ _ _ _ _ _
   | exact crc_Sum.mono _ _
   | exact index_may.mono _ _ _
   | exact index_number.mono _ _ _ _
   | exact uvar_Put.mono _ _
   | exact LeO.none _
   | refine LeO.ite ?_ ?_
   | refine LeO.bind ?_ (fun _ => ?_)
  ·intro y0 y1 y2 y3 y4 y5 y6
   unfold index_Put.l1
   repeat' first
   | (with_reducible exact ih0 _ _ _ _)
   | (with_reducible exact ih1 _ _ _ _ _ _ _)
   | (with_reducible exact crc_Sum.mono _ _)
   | (with_reducible exact index_may.mono _ _ _)
   | (with_reducible exact index_number.mono _ _ _ _)
   | (with_reducible exact uvar_Put.mono _ _)
   | (with_reducible exact LeO.refl _)
   | (with_reducible exact LeO.none _)
   | (with_reducible refine LeO.ite ?_ ?_)
   | (with_reducible refine LeO.bind ?_ (fun _ => ?_))
   | exact ih0 _ _ _ _
   | exact ih1 _ _ _ _ _ _ _
   | exact crc_Sum.mono _ _
   | exact index_may.mono _ _ _
   | exact index_number.mono _ _ _ _
   | exact uvar_Put.mono _ _
   | exact LeO.none _
   | refine LeO.ite ?_ ?_
   | refine LeO.bind ?_ (fun _ => ?_)
theorem index_Put.mono : ∀ a0 a1 k, LeO (index_Put.f k a0 a1) (index_Put.f (k + 1) a0 a1) := by
 intro a0 a1 k
 obtain ⟨ih0, ih1⟩ := index_Put.mono_l k
 unfold index_Put.f
 repeat' first
   | (with_reducible exact ih0 _ _ _ _)
   | (with_reducible exact ih1 _ _ _ _ _ _ _)
   | (with_reducible exact crc_Sum.mono _ _)
   | (with_reducible exact index_may.mono _ _ _)
   | (with_reducible exact index_number.mono _ _ _ _)
   | (with_reducible exact uvar_Put.mono _ _)
   | (with_reducible exact LeO.refl _)
   | (with_reducible exact LeO.none _)
   | (with_reducible refine LeO.ite ?_ ?_)
   | (with_reducible refine LeO.bind ?_ (fun _ => ?_))
   | exact ih0 _ _ _ _
   | exact ih1 _ _ _ _ _ _ _
   | exact crc_Sum.mono _ _
   | exact index_may.mono _ _ _
   | exact index_number.mono _ _ _ _
   | exact uvar_Put.mono _ _
   | exact LeO.none _
   | refine LeO.ite ?_ ?_
   | refine LeO.bind ?_ (fun _ => ?_)
set_option maxHeartbeats 8000000 in
set_option maxRecDepth 100000 in
theorem index_Put.calls (k : Nat) (a0_0 : Int) (A0_1 : Option Addr) (c0_1 : Nat) (l0_1 : List (S72)) (r1 : List Int) (r2 : Option Int) (w : World) (hr0_1 : Kd.C k72 w A0_1 l0_1.length l0_1) (hc0_1 : l0_1.length ≤ c0_1) (h : index_Put.f k a0_0 l0_1 = some (r1, r2)) :
  Calls Try.prog 22 #[.agg #[.int .i64 a0_0, .slice A0_1 l0_1.length c0_1]] w fun e w' => ∃ v0_ : Value, e = .returned (.tuple #[v0_, errW r2]) ∧ Kd.R (Kd.int .u8) 5 w' w.heap.size (fun _ => True) v0_ r1 ∧ Below w.heap.size w w' := by
 have hu53 := Try.underlying53
 have hu72 := Try.underlying72
 have hu27 := Try.underlying27
 have hu29 := Try.underlying29
 have HR0_1 := Aside0.mk hr0_1
 have HC0_1 := Aside0.mk hc0_1
 clear hr0_1 hc0_1
 have HB := Aside0.mk (Below.refl w.heap.size w)
 have H : ((index_may.f k a0_0 l0_1).bind fun t233 => (if t233 = true then ((some (([71, 84, 83, 49] : List Int) : List Int)).bind fun y234 => (if y234.length < 140737488355328 then ((some (y234 ++ [(a0_0) % 256] : List Int)).bind fun y237 => ((uvar_Put.f k (IntKind.u64.wrap ((l0_1.length : Int)))).bind fun t240 => (if y237.length + t240.length < 140737488355328 then (index_Put.l0 k (y237 ++ t240) l0_1 (l0_1.length : Int) 0) else (none)))) else (none))) else (some (([] : List Int), some 1)))) = some (r1, r2) := h
 clear h
 replace H := Option.bind_eq_some_iff.mp H
 obtain ⟨t233, A20, H⟩ := H
 replace H : (if t233 = true then ((some (([71, 84, 83, 49] : List Int) : List Int)).bind fun y234 => (if y234.length < 140737488355328 then ((some (y234 ++ [(a0_0) % 256] : List Int)).bind fun y237 => ((uvar_Put.f k (IntKind.u64.wrap ((l0_1.length : Int)))).bind fun t240 => (if y237.length + t240.length < 140737488355328 then (index_Put.l0 k (y237 ++ t240) l0_1 (l0_1.length : Int) 0) else (none)))) else (none))) else (some (([] : List Int), some 1))) = some (r1, r2) := H
 have A2 := Aside0.mk A20
 clear A20
 by_cases c3 : t233 = true
 ·subst c3
  have H1 : ((some (([71, 84, 83, 49] : List Int) : List Int)).bind fun y234 => (if y234.length < 140737488355328 then ((some (y234 ++ [(a0_0) % 256] : List Int)).bind fun y237 => ((uvar_Put.f k (IntKind.u64.wrap ((l0_1.length : Int)))).bind fun t240 => (if y237.length + t240.length < 140737488355328 then (index_Put.l0 k (y237 ++ t240) l0_1 (l0_1.length : Int) 0) else (none)))) else (none))) = some (r1, r2) := by rw [if_pos rfl] at H; exact H
  clear H
  have H := H1
  clear H1
  obtain ⟨y234, hy234⟩ : ∃ y_ : List Int, y_ = (([71, 84, 83, 49] : List Int)) := ⟨_, rfl⟩
  replace H : (if y234.length < 140737488355328 then ((some (y234 ++ [(a0_0) % 256] : List Int)).bind fun y237 => ((uvar_Put.f k (IntKind.u64.wrap ((l0_1.length : Int)))).bind fun t240 => (if y237.length + t240.length < 140737488355328 then (index_Put.l0 k (y237 ++ t240) l0_1 (l0_1.length : Int) 0) else (none)))) else (none)) = some (r1, r2) := by first | (rw [hy234]; with_reducible exact H) | (have H2_ := (Option.bind_some _ _).symm.trans H; rw [hy234]; with_reducible exact H2_) | (have H2_ := (Option.bind_some _ _).symm.trans H; with_reducible exact H2_) | with_reducible exact H | (rw [hy234]; exact H) | exact H
  have Ny234 := Aside0.mk hy234
  clear hy234
  by_cases c4 : y234.length < 140737488355328
  ·rw [if_pos c4] at H
   have LMc4 := Aside0.mk c4
   clear c4
   obtain ⟨y237, hy237⟩ : ∃ y_ : List Int, y_ = (y234 ++ [(a0_0) % 256]) := ⟨_, rfl⟩
   replace H : ((uvar_Put.f k (IntKind.u64.wrap ((l0_1.length : Int)))).bind fun t240 => (if y237.length + t240.length < 140737488355328 then (index_Put.l0 k (y237 ++ t240) l0_1 (l0_1.length : Int) 0) else (none))) = some (r1, r2) := by first | (rw [hy237]; with_reducible exact H) | (have H2_ := (Option.bind_some _ _).symm.trans H; rw [hy237]; with_reducible exact H2_) | (have H2_ := (Option.bind_some _ _).symm.trans H; with_reducible exact H2_) | with_reducible exact H | (rw [hy237]; exact H) | exact H
   have Ny237 := Aside0.mk hy237
   clear hy237
   replace H := Option.bind_eq_some_iff.mp H
   obtain ⟨t240, A50, H⟩ := H
   replace H : (if y237.length + t240.length < 140737488355328 then (index_Put.l0 k (y237 ++ t240) l0_1 (l0_1.length : Int) 0) else (none)) = some (r1, r2) := H
   have A5 := Aside0.mk A50
   clear A50
   by_cases c6 : y237.length + t240.length < 140737488355328
   ·rw [if_pos c6] at H
    have LMc6 := Aside0.mk c6
    clear c6
    obtain ⟨y243, hy243⟩ : ∃ y_ : List Int, y_ = (y237 ++ t240) := ⟨_, rfl⟩
    replace H : (index_Put.l0 k y243 l0_1 (l0_1.length : Int) 0) = some (r1, r2) := by first | (rw [hy243]; with_reducible exact H) | (have H2_ := (Option.bind_some _ _).symm.trans H; rw [hy243]; with_reducible exact H2_) | (have H2_ := (Option.bind_some _ _).symm.trans H; with_reducible exact H2_) | with_reducible exact H | (rw [hy243]; exact H) | exact H
    have Ny243 := Aside0.mk hy243
    clear hy243
    have H' := Aside0.mk H
    clear H
    go_enter Try.func22, Try.ntmps22
    go_wp2_with (first | ((with_reducible refine gate_dst (N := 1) rfl ?_); refine box_event ?hg (N := 1) ?hd (cs := #[.int .i64 a0_0, .slice A0_1 l0_1.length c0_1]) (t := 53) ?hr ?_; (case hd => rfl); (case hg => rfl); (case hr => first | (go_simp; done) | (go_simp; rfl)); intro gb232 hg w7 hbox hb; have BK232 := Aside0.mk (hbox); have GW232 := kG hg HB; have GE232 := kG hg HB; replace HB := kH HB hb; clear hb hbox hg; have hcz8_0 : w7.cell? ⟨gb232, 0, none⟩ = some (.int .i64 a0_0) := (blk_cell BK232.out 0).trans rfl; have hcz8_1 : w7.cell? ⟨gb232, 1, none⟩ = some (.slice A0_1 l0_1.length c0_1) := (blk_cell BK232.out 1).trans rfl; have hfz8_0 := blk_frozen BK232.out 0; have hfz8_1 := blk_frozen BK232.out 1) | ((with_reducible refine gate_callee (f := 30) rfl ?_); refine goesL_ (some 10) rfl rfl Try.func30 (by kernel_rfl) rfl #[.agg #[.int .i64 a0_0, .slice A0_1 l0_1.length c0_1]] rfl km ?_; (with_reducible refine (index_may.calls k a0_0 _ _ l0_1 true _ ?side1 ?side2 A2.out).mono ?_); (case side1 => repeat (first | exact (Kd.C_below HR0_1.out HB.out) | (with_reducible refine Kd.C_alloc ?_ _) | (with_reducible refine Kd.C_drewN ?_ _) | (with_reducible refine Kd.C_drew ?_))); (case side2 => exact HC0_1.out); rintro e w9 ⟨rfl, hb⟩; refine ⟨_, rfl, ?_⟩; replace BK232 := kB BK232 hb; replace HB := kH HB hb; (try clear hb); (try clear hb2); (try clear hk); (try clear hi)) | ((with_reducible refine gate_dst (N := 13) rfl ?_); refine lit_marked (P := Try.prog) _ 5 ?hg ?hg2 (N := 13) (N2 := 14) ?hd ?hd2 (cs := #[.int .u8 71, .int .u8 84, .int .u8 83, .int .u8 49]) (n := 4) rfl ?hr 54 (.tmp 13) Try.underlying54 Try.underlying5 rfl ?hev (Below.refl _ _) (Nat.le_refl _) ?_; (case hd => rfl); (case hd2 => rfl); (case hg => rfl); (case hg2 => rfl); (case hr => first | (go_simp; done) | (go_simp; rfl)); (case hev => intro u; first | rfl | (go_simp; done) | (go_simp; rfl)); intro g_v235 w10 hge_ hlt_ hmk_ hb hg_; clear hg_ hge_ hlt_; have HM_ := Aside0.mk hmk_; clear hmk_; replace BK232 := kB BK232 hb; replace HB := kH HB hb; clear hb; have hcz12_0 : w10.cell? ⟨gb232, 0, none⟩ = some (.int .i64 a0_0) := (blk_cell BK232.out 0).trans rfl; have hcz12_1 : w10.cell? ⟨gb232, 1, none⟩ = some (.slice A0_1 l0_1.length c0_1) := (blk_cell BK232.out 1).trans rfl; have hfz12_0 := blk_frozen BK232.out 0; have hfz12_1 := blk_frozen BK232.out 1) | ((with_reducible refine gate_builtin (b := .append) (xs := #[.tmp 14, .tmp 18]) rfl ?_); at_builtin; refine append_marked (w0 := w) w.heap.size rfl (.tmp 14) (.tmp 18) 54 5 .u8 1 rfl Try.underlying54 info5 (by omega) g_v235 4 y234 ((a0_0) % 256) (fun _ => True) rfl rfl ?aN ?aC (fun _ _ => trivial) ?aB ?aS ?aL ?_; (case aB => exact (kl HB)); (case aS => exact (below_size (kl HB))); (case aN => rw [Ny234.out]; rfl); (case aC => rw [Ny234.out]; exact fun j u hu => HM_.out j u hu); (case aL => have := LMc4.out; omega); intro v238 w13 ho hb hg hat; rw [← Ny237.out] at ho; have n0_ := Aside0.mk (blk_grown (g := gb232) (o := .cells #[.int .i64 a0_0, .slice A0_1 l0_1.length c0_1] 53 (0, 0)) (kb BK232) hg (by simp)); have n1_ := Aside0.mk (hb); have n2_ := Aside0.mk (ho); clear BK232; clear HB; clear HM_; have BK232 := n0_; have HB := n1_; have HO239 := n2_; clear n0_ n1_ n2_; clear ho hb hg hat; have hcz14_0 : w13.cell? ⟨gb232, 0, none⟩ = some (.int .i64 a0_0) := (blk_cell BK232.out 0).trans rfl; have hcz14_1 : w13.cell? ⟨gb232, 1, none⟩ = some (.slice A0_1 l0_1.length c0_1) := (blk_cell BK232.out 1).trans rfl; have hfz14_0 := blk_frozen BK232.out 0; have hfz14_1 := blk_frozen BK232.out 1) | ((with_reducible refine gate_callee (f := 31) rfl ?_); refine goesL_ (some 25) rfl rfl Try.func31 (by kernel_rfl) rfl #[.int .u64 (IntKind.u64.wrap ((l0_1.length : Int)))] rfl km ?_; (with_reducible refine (uvar_Put.calls k (IntKind.u64.wrap ((l0_1.length : Int))) t240 _ A5.out).mono ?_); rintro e w15 ⟨v241, rfl, ho0, hb⟩; refine ⟨_, rfl, ?_⟩; have HO242 := Aside0.mk (Kd.R_lower (Kd.R_new' ho0 (Kd.R_lt (kr HO239))) (below_size (kl HB))); replace HO239 := Aside0.mk (Kd.R_elder' (kr HO239) (Kd.R_base ho0) hb); replace BK232 := kB BK232 hb; replace HB := kH HB hb; (try clear hb); (try clear hb2); (try clear hk); (try clear hi); (try clear ho0); obtain ⟨Ao17, co17, eo17⟩ := Kd.R_slice HO242.out; subst eo17) | ((with_reducible refine gate_builtin (b := .append) (xs := #[.tmp 20, .tmp 25]) rfl ?_); at_builtin; refine Kd.R_append_rows (Kd.int .u8) (w0 := w) w.heap.size rfl (.tmp 20) (.tmp 25) 54 5 (.int .u8 0) 1 rfl Try.underlying54 info5 rfl (by decide) (by omega) v238 y237 t240 _ _ _ (fun k_ => some k_ ≠ (.slice Ao17 t240.length co17 : Value).ownBlock) (fun _ => False) rfl rfl ?aO ?aR (fun _ _ h => h) (fun _ h => h.elim) ?aF ?aB ?aS ?aL ?_; (case aR => repeat (first | exact (Kd.R_reads' HO242.out).2.2 | (with_reducible refine Kd.C_alloc ?_ _) | (with_reducible refine Kd.C_drewN ?_ _) | (with_reducible refine Kd.C_drew ?_))); (case aB => exact (kl HB)); (case aF => exact (fun k_ hk => Kd.fresh' (Kd.R_lt (kr HO242)) k_ hk)); (case aO => exact (by (with_reducible repeat (first | apply Kd.R_alloc | apply Kd.R_drewN | apply Kd.R_drew)); exact Kd.R_mono HO239.out (fun _ hk => hk.2))); (case aS => exact (below_size (kl HB))); (case aL => have := LMc6.out; omega); intro v244 w16 ho hb hg hat; rw [← Ny243.out] at ho; have n0_ := Aside0.mk (blk_grown (g := gb232) (o := .cells #[.int .i64 a0_0, .slice A0_1 l0_1.length c0_1] 53 (0, 0)) (kb BK232) hg (Kd.R_ne HO239.out BK232.out (by decide))); have n1_ := Aside0.mk (Kd.R_after (ok := (fun _ => True)) (kr HO242) hg hat); have n2_ := Aside0.mk (hb); have n3_ := Aside0.mk (ho); clear BK232; clear HO242; clear HB; clear HO239; have BK232 := n0_; have HO242 := n1_; have HB := n2_; have HO245 := n3_; clear n0_ n1_ n2_ n3_; clear ho hb hg hat; have hcz18_0 : w16.cell? ⟨gb232, 0, none⟩ = some (.int .i64 a0_0) := (blk_cell BK232.out 0).trans rfl; have hcz18_1 : w16.cell? ⟨gb232, 1, none⟩ = some (.slice A0_1 l0_1.length c0_1) := (blk_cell BK232.out 1).trans rfl; have hfz18_0 := blk_frozen BK232.out 0; have hfz18_1 := blk_frozen BK232.out 1))
    go_loopg [4, 30] k (fun kq v4 v30 w' => ∃ (x4_1 : List Int) (x30_1 : Int), v30 = .int .i64 x30_1 ∧ Aside0 (index_Put.l0 kq x4_1 l0_1 (l0_1.length : Int) x30_1 = some (r1, r2)) ∧ Aside0 (kq ≤ k) ∧ Aside0 (Kd.R (Kd.int .u8) 5 w' w.heap.size (fun _ => True) v4 x4_1) ∧ Aside0 (w'.heap[gb232]? = some (.cells #[.int .i64 a0_0, (.slice A0_1 l0_1.length c0_1)] 53 (0, 0))) ∧ Aside0 (Below w.heap.size w w'))
    case atStart => exact ⟨(y243), (0), (by first | rfl | (simp; done) | (simp [*]; done)), H', ⟨Nat.le_refl _⟩, ⟨by (with_reducible repeat (first | apply Kd.R_alloc | apply Kd.R_drewN | apply Kd.R_drew)); exact Kd.R_mono HO245.out (fun _ hk => trivial)⟩, ⟨kb BK232⟩, ⟨(kl HB)⟩⟩
    case round =>
     clear H'
     try clear c2
     try clear p2
     try clear c3
     try clear c4
     try clear c6
     try clear hcz12_0
     try clear hcz12_1
     try clear hcz14_0
     try clear hcz14_1
     try clear hcz18_0
     try clear hcz18_1
     try clear hcz8_0
     try clear hcz8_1
     try clear hfz12_0
     try clear hfz12_1
     try clear hfz14_0
     try clear hfz14_1
     try clear hfz18_0
     try clear hfz18_1
     try clear hfz8_0
     try clear hfz8_1
     obtain ⟨x4_1, x30_1, rfl, HA, HK1, HO_4, BK232, HB⟩ := hrel
     cases gk with
     | zero => exact absurd HA.out (by simp [index_Put.l0])
     | succ k1 =>
      have H := HA.out
      clear HA
      simp only [index_Put.l0] at H
      by_cases c19 : x30_1 < (l0_1.length : Int)
      ·rw [if_pos c19] at H
       have c19b0 : decide (x30_1 < (l0_1.length : Int)) = true := decide_eq_true c19
       clear c19
       by_cases c20 : 0 ≤ x30_1
       ·rw [if_pos c20] at H
        have c20b0 : decide (0 ≤ x30_1) = true := decide_eq_true c20
        clear c20
        by_cases c21 : x30_1 < (l0_1.length : Int)
        ·rw [if_pos c21] at H
         have c21b0 : decide (x30_1 < (l0_1.length : Int)) = true := decide_eq_true c21
         clear c21
         replace H := Option.bind_eq_some_iff.mp H
         obtain ⟨t252, A220, H⟩ := H
         replace H : ((some (([IntKind.u64.wrap ((IntKind.u64.wrap ((rd_T72 l0_1 x30_1).f1)) - (IntKind.u64.wrap ((rd_T72 l0_1 x30_1).f0))), IntKind.u64.wrap ((rd_T72 l0_1 x30_1).f2), IntKind.u64.wrap ((rd_T72 l0_1 x30_1).f3)] : List Int) : List Int)).bind fun y255 => (index_Put.l1 k1 t252 l0_1 (l0_1.length : Int) x30_1 y255 (y255.length : Int) 0)) = some (r1, r2) := H
         have A22 := Aside0.mk A220
         clear A220
         obtain ⟨y255, hy255⟩ : ∃ y_ : List Int, y_ = (([IntKind.u64.wrap ((IntKind.u64.wrap ((rd_T72 l0_1 x30_1).f1)) - (IntKind.u64.wrap ((rd_T72 l0_1 x30_1).f0))), IntKind.u64.wrap ((rd_T72 l0_1 x30_1).f2), IntKind.u64.wrap ((rd_T72 l0_1 x30_1).f3)] : List Int)) := ⟨_, rfl⟩
         replace H : (index_Put.l1 k1 t252 l0_1 (l0_1.length : Int) x30_1 y255 (y255.length : Int) 0) = some (r1, r2) := by first | (rw [hy255]; with_reducible exact H) | (have H2_ := (Option.bind_some _ _).symm.trans H; rw [hy255]; with_reducible exact H2_) | (have H2_ := (Option.bind_some _ _).symm.trans H; with_reducible exact H2_) | with_reducible exact H | (rw [hy255]; exact H) | exact H
         have Ny255 := Aside0.mk hy255
         clear hy255
         have H' := Aside0.mk H
         clear H
         have p250 : 0 ≤ (x30_1 : Int) := of_decide_eq_true (by first | (with_reducible assumption) | assumption)
         have q250 : x30_1 < (l0_1.length : Int) := of_decide_eq_true (by first | (with_reducible assumption) | assumption)
         obtain ⟨ad250, e250, hx250_0, hx250_1, hx250_2, hx250_3⟩ := at_T72 HR0_1.out x30_1 p250 q250
         cases e250
         replace hx250_0 := (HB.out.cell (World.block_lt_of_cell? w _ hx250_0)).trans hx250_0
         replace hx250_1 := (HB.out.cell (World.block_lt_of_cell? w _ hx250_1)).trans hx250_1
         replace hx250_2 := (HB.out.cell (World.block_lt_of_cell? w _ hx250_2)).trans hx250_2
         replace hx250_3 := (HB.out.cell (World.block_lt_of_cell? w _ hx250_3)).trans hx250_3
         replace p250 := eq_true p250
         (try (have q250s := q250; simp only [List.length_drop, List.length_take] at q250s; replace q250s := eq_true q250s)); replace q250 := eq_true q250
         go_wp2_with (first | ((with_reducible refine gate_dst (N := 6) rfl ?_); refine box_event ?hg (N := 6) ?hd (cs := #[.int .i64 0, .int .i64 0, .int .i64 0, .int .i64 0]) (t := 72) ?hr ?_; (case hd => rfl); (case hg => rfl); (case hr => first | (go_simp; done) | (go_simp; rfl)); intro gb251 hg w23 hbox hb; replace HO_4 := Aside0.mk (Kd.R_below (kr HO_4) hb); have BK251 := Aside0.mk (hbox); have GW251 := kG hg HB; have GE251 := kG hg HB; replace HB := kH HB hb; obtain ⟨NB232_251, NB251_232⟩ := kN hg BK232; replace BK232 := kB BK232 hb; clear hb hbox hg; have hnb24 := NB251_232.out; have hnc24 := NB232_251.out; have hcz25_0 : w23.cell? ⟨gb251, 0, none⟩ = some (.int .i64 0) := (blk_cell BK251.out 0).trans rfl; have hcz25_1 : w23.cell? ⟨gb251, 1, none⟩ = some (.int .i64 0) := (blk_cell BK251.out 1).trans rfl; have hcz25_2 : w23.cell? ⟨gb251, 2, none⟩ = some (.int .i64 0) := (blk_cell BK251.out 2).trans rfl; have hcz25_3 : w23.cell? ⟨gb251, 3, none⟩ = some (.int .i64 0) := (blk_cell BK251.out 3).trans rfl; have hfz25_0 := blk_frozen BK251.out 0; have hfz25_1 := blk_frozen BK251.out 1; have hfz25_2 := blk_frozen BK251.out 2; have hfz25_3 := blk_frozen BK251.out 3) | ((with_reducible refine gate_store (t := 72) (p := 6) rfl ?_); refine store_event (t := 72) (p := 6) (v := ?vo_w26) (w1 := ((((w23.setCell ⟨gb251, 0, none⟩ (.int .i64 ((rd_T72 l0_1 x30_1).f0))).setCell ⟨gb251, 1, none⟩ (.int .i64 ((rd_T72 l0_1 x30_1).f1))).setCell ⟨gb251, 2, none⟩ (.int .i64 ((rd_T72 l0_1 x30_1).f2))).setCell ⟨gb251, 3, none⟩ (.int .i64 ((rd_T72 l0_1 x30_1).f3)))) ?hg ?ho ?hn ?hr ?_; (case ho => rfl); (case hg => rfl); (case hn => rfl); (case hr => first | (go_simp; done) | (go_simp; rfl)); intro w26 hw; have n0_ : Aside0 (Kd.R (Kd.int .u8) 5 w26 w.heap.size (fun _ => True) u4 x4_1) := ⟨(by rw [hw]; exact (by (with_reducible repeat (first | apply Kd.R_alloc | apply Kd.R_drewN | apply Kd.R_drew)); exact Kd.R_mono (Kd.R_far (p := ⟨gb251, 3, none⟩) (Kd.R_far (p := ⟨gb251, 2, none⟩) (Kd.R_far (p := ⟨gb251, 1, none⟩) (Kd.R_far (p := ⟨gb251, 0, none⟩) (Kd.R_types HO_4.out BK251.out (by decide)) (fun _ hk => hk.2) (.int .i64 ((rd_T72 l0_1 x30_1).f0))) (fun _ hk => hk.2) (.int .i64 ((rd_T72 l0_1 x30_1).f1))) (fun _ hk => hk.2) (.int .i64 ((rd_T72 l0_1 x30_1).f2))) (fun _ hk => hk.2) (.int .i64 ((rd_T72 l0_1 x30_1).f3))) (fun _ hk => trivial)))⟩; have n1_ : Aside0 (w26.heap[gb232]? = some (.cells #[.int .i64 a0_0, .slice (some ad250) l0_1.length c0_1] 53 (0, 0))) := ⟨(by rw [hw]; exact (kb BK232))⟩; have n2_ : Aside0 (w26.heap[gb251]? = some (.cells #[.int .i64 ((rd_T72 l0_1 x30_1).f0), .int .i64 ((rd_T72 l0_1 x30_1).f1), .int .i64 ((rd_T72 l0_1 x30_1).f2), .int .i64 ((rd_T72 l0_1 x30_1).f3)] 72 (0, 0))) := ⟨(by rw [hw]; exact (kb BK251))⟩; have n3_ : Aside0 (Below w.heap.size w w26) := ⟨(by rw [hw]; exact (kl HB))⟩; clear hw; clear HO_4; clear BK232; clear BK251; clear HB; have HO_4 := n0_; have BK232 := n1_; have BK251 := n2_; have HB := n3_; clear n0_ n1_ n2_ n3_; have hcz27_0 : w26.cell? ⟨gb251, 0, none⟩ = some (.int .i64 ((rd_T72 l0_1 x30_1).f0)) := (blk_cell BK251.out 0).trans rfl; have hcz27_1 : w26.cell? ⟨gb251, 1, none⟩ = some (.int .i64 ((rd_T72 l0_1 x30_1).f1)) := (blk_cell BK251.out 1).trans rfl; have hcz27_2 : w26.cell? ⟨gb251, 2, none⟩ = some (.int .i64 ((rd_T72 l0_1 x30_1).f2)) := (blk_cell BK251.out 2).trans rfl; have hcz27_3 : w26.cell? ⟨gb251, 3, none⟩ = some (.int .i64 ((rd_T72 l0_1 x30_1).f3)) := (blk_cell BK251.out 3).trans rfl; have hfz27_0 := blk_frozen BK251.out 0; have hfz27_1 := blk_frozen BK251.out 1; have hfz27_2 := blk_frozen BK251.out 2; have hfz27_3 := blk_frozen BK251.out 3; obtain ⟨Ao28, co28, eo28⟩ := Kd.R_slice HO_4.out; subst eo28) | ((with_reducible refine gate_callee (f := 32) rfl ?_); refine goesL_ (some 38) rfl rfl Try.func32 (by kernel_rfl) rfl #[.slice Ao28 x4_1.length co28, .int .u64 (IntKind.u64.wrap ((rd_T72 l0_1 x30_1).f0)), .int .i64 8] rfl km ?_; (with_reducible refine (index_number.calls k1 (fun k_ => some k_ = (.slice Ao28 x4_1.length co28 : Value).ownBlock) (.slice Ao28 x4_1.length co28) x4_1 (IntKind.u64.wrap ((rd_T72 l0_1 x30_1).f0)) 8 t252 w _ ?side1 ?side2 A22.out).mono ?_); (case side1 => repeat (first | (with_reducible first | exact HB.out | apply below_alloc | apply pw_below_drewN | apply below_drew1 | refine below_set ?_ GE232.out | refine below_set ?_ GE251.out) | exact HB.out)); (case side2 => exact Kd.R_tight rfl HO_4.out); rintro e w29 ⟨v253, rfl, ho0, hb, hkp⟩; refine ⟨_, rfl, ?_⟩; have n0_ := Aside0.mk (blk_kept (kb BK232) hkp (fun hs_ => (fun e_ => (Kd.R_ne HO_4.out BK232.out (by decide)) e_) hs_)); have n1_ := Aside0.mk (blk_kept (kb BK251) hkp (fun hs_ => (fun e_ => (Kd.R_ne HO_4.out BK251.out (by decide)) e_) hs_)); have n2_ := Aside0.mk (Kd.R_mono (ok' := fun k_ => True) ho0 (fun k_ hk_ => trivial)); have n3_ := Aside0.mk (hb); clear BK232; clear BK251; clear HB; clear HO_4; have BK232 := n0_; have BK251 := n1_; have HO254 := n2_; have HB := n3_; clear n0_ n1_ n2_ n3_; (try clear hb); (try clear hkp); (try clear ho0); have hcz30_0 : w29.cell? ⟨gb251, 0, none⟩ = some (.int .i64 ((rd_T72 l0_1 x30_1).f0)) := (blk_cell BK251.out 0).trans rfl; have hcz30_1 : w29.cell? ⟨gb251, 1, none⟩ = some (.int .i64 ((rd_T72 l0_1 x30_1).f1)) := (blk_cell BK251.out 1).trans rfl; have hcz30_2 : w29.cell? ⟨gb251, 2, none⟩ = some (.int .i64 ((rd_T72 l0_1 x30_1).f2)) := (blk_cell BK251.out 2).trans rfl; have hcz30_3 : w29.cell? ⟨gb251, 3, none⟩ = some (.int .i64 ((rd_T72 l0_1 x30_1).f3)) := (blk_cell BK251.out 3).trans rfl; have hfz30_0 := blk_frozen BK251.out 0; have hfz30_1 := blk_frozen BK251.out 1; have hfz30_2 := blk_frozen BK251.out 2; have hfz30_3 := blk_frozen BK251.out 3) | ((with_reducible refine gate_dst (N := 52) rfl ?_); refine Kd.R_lit (Kd.int .u64) _ 41 ?hg (N := 52) ?hd (xs := ([IntKind.u64.wrap ((IntKind.u64.wrap ((rd_T72 l0_1 x30_1).f1)) - (IntKind.u64.wrap ((rd_T72 l0_1 x30_1).f0))), IntKind.u64.wrap ((rd_T72 l0_1 x30_1).f2), IntKind.u64.wrap ((rd_T72 l0_1 x30_1).f3)] : List Int)) (inner := [.int .u64 (IntKind.u64.wrap ((IntKind.u64.wrap ((rd_T72 l0_1 x30_1).f1)) - (IntKind.u64.wrap ((rd_T72 l0_1 x30_1).f0)))), .int .u64 (IntKind.u64.wrap ((rd_T72 l0_1 x30_1).f2)), .int .u64 (IntKind.u64.wrap ((rd_T72 l0_1 x30_1).f3))]) (ok := fun _ => True) (okp := fun _ => True) ?hr ?hp (fun _ hk => hk) trivial (Below.refl _ _) (Nat.le_refl _) (by simp) ?_; (case hd => rfl); (case hg => rfl); (case hr => first | (go_simp; done) | (go_simp; rfl)); (case hp => exact (Reps.one (show Kd.M (Kd.int .u64) _ _ _ (IntKind.u64.wrap ((IntKind.u64.wrap ((rd_T72 l0_1 x30_1).f1)) - (IntKind.u64.wrap ((rd_T72 l0_1 x30_1).f0)))) [.int .u64 (IntKind.u64.wrap ((IntKind.u64.wrap ((rd_T72 l0_1 x30_1).f1)) - (IntKind.u64.wrap ((rd_T72 l0_1 x30_1).f0))))] from rfl) (Reps.one (show Kd.M (Kd.int .u64) _ _ _ (IntKind.u64.wrap ((rd_T72 l0_1 x30_1).f2)) [.int .u64 (IntKind.u64.wrap ((rd_T72 l0_1 x30_1).f2))] from rfl) (Reps.one (show Kd.M (Kd.int .u64) _ _ _ (IntKind.u64.wrap ((rd_T72 l0_1 x30_1).f3)) [.int .u64 (IntKind.u64.wrap ((rd_T72 l0_1 x30_1).f3))] from rfl) (Reps.none _ _))))); intro v256 w31 ho32 hb hg_ hnew_; clear hg_ hnew_; (first | rw [← Ny255.out] at ho32 | (simp only [Int.reduceToNat] at ho32; rw [← Ny255.out] at ho32)); replace HO254 := Aside0.mk (Kd.R_below (kr HO254) hb); have HO257 := Aside0.mk (Kd.R_lower ho32 (below_size (kl HB))); replace BK232 := kB BK232 hb; replace BK251 := kB BK251 hb; replace HB := kH HB hb; clear hb ho32; obtain ⟨Ao33, co33, eo33⟩ := Kd.R_slice HO257.out; subst eo33))
         go_loopg [4, 54] k1 (fun kq v4 v54 w' => ∃ (x4_2 : List Int) (x54_2 : Int), v54 = .int .i64 x54_2 ∧ Aside0 (index_Put.l1 kq x4_2 l0_1 (l0_1.length : Int) x30_1 y255 (y255.length : Int) x54_2 = some (r1, r2)) ∧ Aside0 (kq ≤ k1) ∧ Aside0 (Kd.R (Kd.int .u8) 5 w' w.heap.size (fun _ => True) v4 x4_2) ∧ Aside0 (Kd.R (Kd.int .u64) 41 w' w.heap.size (fun _ => True) (.slice Ao33 y255.length co33) y255) ∧ Aside0 (w'.heap[gb232]? = some (.cells #[.int .i64 a0_0, (.slice (some ad250) l0_1.length c0_1)] 53 (0, 0))) ∧ Aside0 (w'.heap[gb251]? = some (.cells #[.int .i64 ((rd_T72 l0_1 x30_1).f0), .int .i64 ((rd_T72 l0_1 x30_1).f1), .int .i64 ((rd_T72 l0_1 x30_1).f2), .int .i64 ((rd_T72 l0_1 x30_1).f3)] 72 (0, 0))) ∧ Aside0 (Below w.heap.size w w'))
         case atStart => exact ⟨(t252), (0), (by first | rfl | (simp; done) | (simp [*]; done)), H', ⟨Nat.le_refl _⟩, ⟨kr HO254⟩, ⟨kr HO257⟩, ⟨kb BK232⟩, ⟨kb BK251⟩, ⟨(kl HB)⟩⟩
         case round =>
          clear H'
          try clear c1
          try clear c2
          try clear p2
          try clear q2
          try clear hx2
          try clear c3
          try clear c4
          try clear c6
          try clear c19
          try clear c19b0
          try clear c20
          try clear c20b0
          try clear c21
          try clear c21b0
          try clear c22
          try clear c24
          try clear p25
          try clear q25
          try clear hx25
          try clear c30
          try clear c31
          try clear c32
          try clear hcz12_0
          try clear hcz12_1
          try clear hcz14_0
          try clear hcz14_1
          try clear hcz18_0
          try clear hcz18_1
          try clear hcz25_0
          try clear hcz25_1
          try clear hcz25_2
          try clear hcz25_3
          try clear hcz27_0
          try clear hcz27_1
          try clear hcz27_2
          try clear hcz27_3
          try clear hcz30_0
          try clear hcz30_1
          try clear hcz30_2
          try clear hcz30_3
          try clear hcz8_0
          try clear hcz8_1
          try clear hfz12_0
          try clear hfz12_1
          try clear hfz14_0
          try clear hfz14_1
          try clear hfz18_0
          try clear hfz18_1
          try clear hfz25_0
          try clear hfz25_1
          try clear hfz25_2
          try clear hfz25_3
          try clear hfz27_0
          try clear hfz27_1
          try clear hfz27_2
          try clear hfz27_3
          try clear hfz30_0
          try clear hfz30_1
          try clear hfz30_2
          try clear hfz30_3
          try clear hfz8_0
          try clear hfz8_1
          try clear hx250_0
          try clear hx250_1
          try clear hx250_2
          try clear hx250_3
          try clear p2
          try clear p250
          try clear q250
          obtain ⟨x4_2, x54_2, rfl, HA, HK2, HO_4, HO_52, BK232, BK251, HB⟩ := hrel
          cases gk with
          | zero => exact absurd HA.out (by simp [index_Put.l1])
          | succ k2 =>
           have H := HA.out
           clear HA
           simp only [index_Put.l1] at H
           by_cases c34 : x54_2 < (y255.length : Int)
           ·rw [if_pos c34] at H
            have c34b0 : decide (x54_2 < (y255.length : Int)) = true := decide_eq_true c34
            clear c34
            by_cases c35 : 0 ≤ x54_2
            ·rw [if_pos c35] at H
             have c35b0 : decide (0 ≤ x54_2) = true := decide_eq_true c35
             clear c35
             by_cases c36 : x54_2 < (y255.length : Int)
             ·rw [if_pos c36] at H
              have c36b0 : decide (x54_2 < (y255.length : Int)) = true := decide_eq_true c36
              clear c36
              replace H := Option.bind_eq_some_iff.mp H
              obtain ⟨t259, A370, H⟩ := H
              replace H : (if x4_2.length + t259.length < 140737488355328 then (index_Put.l1 k2 (x4_2 ++ t259) l0_1 (l0_1.length : Int) x30_1 y255 (y255.length : Int) (wrap64 (x54_2 + 1))) else (none)) = some (r1, r2) := H
              have A37 := Aside0.mk A370
              clear A370
              by_cases c38 : x4_2.length + t259.length < 140737488355328
              ·rw [if_pos c38] at H
               have LMc38 := Aside0.mk c38
               clear c38
               obtain ⟨y262, hy262⟩ : ∃ y_ : List Int, y_ = (x4_2 ++ t259) := ⟨_, rfl⟩
               replace H : (index_Put.l1 k2 y262 l0_1 (l0_1.length : Int) x30_1 y255 (y255.length : Int) (wrap64 (x54_2 + 1))) = some (r1, r2) := by first | (rw [hy262]; with_reducible exact H) | (have H2_ := (Option.bind_some _ _).symm.trans H; rw [hy262]; with_reducible exact H2_) | (have H2_ := (Option.bind_some _ _).symm.trans H; with_reducible exact H2_) | with_reducible exact H | (rw [hy262]; exact H) | exact H
               have Ny262 := Aside0.mk hy262
               clear hy262
               have H' := Aside0.mk H
               clear H
               have p258 : 0 ≤ (x54_2 : Int) := of_decide_eq_true (by first | (with_reducible assumption) | assumption)
               have q258 : x54_2 < (y255.length : Int) := of_decide_eq_true (by first | (with_reducible assumption) | assumption)
               obtain ⟨ad258, e258, hx258_0⟩ := Kd.at_int (Kd.R_reads' HO_52.out).2.2 x54_2 p258 q258
               cases e258
               replace p258 := eq_true p258
               (try (have q258s := q258; simp only [List.length_drop, List.length_take] at q258s; replace q258s := eq_true q258s)); replace q258 := eq_true q258
               go_wp2_with (first | ((with_reducible refine gate_callee (f := 31) rfl ?_); refine goesL_ (some 60) rfl rfl Try.func31 (by kernel_rfl) rfl #[.int .u64 (rd y255 x54_2)] rfl km ?_; (with_reducible refine (uvar_Put.calls k2 (rd y255 x54_2) t259 _ A37.out).mono ?_); rintro e w39 ⟨v260, rfl, ho0, hb⟩; refine ⟨_, rfl, ?_⟩; replace HO_52 := Aside0.mk (Kd.R_below (kr HO_52) hb); have HO261 := Aside0.mk (Kd.R_lower (Kd.R_new' ho0 (Kd.R_lt (kr HO_4))) (below_size (kl HB))); replace HO_4 := Aside0.mk (Kd.R_elder' (kr HO_4) (Kd.R_base ho0) hb); replace BK232 := kB BK232 hb; replace BK251 := kB BK251 hb; replace HB := kH HB hb; (try clear hb); (try clear hb2); (try clear hk); (try clear hi); (try clear ho0); obtain ⟨Ao41, co41, eo41⟩ := Kd.R_slice HO261.out; subst eo41) | ((with_reducible refine gate_builtin (b := .append) (xs := #[.tmp 58, .tmp 60]) rfl ?_); at_builtin; refine Kd.R_append_rows (Kd.int .u8) (w0 := w) w.heap.size rfl (.tmp 58) (.tmp 60) 54 5 (.int .u8 0) 1 rfl Try.underlying54 info5 rfl (by decide) (by omega) u4 x4_2 t259 _ _ _ (fun k_ => some k_ ≠ (.slice Ao41 t259.length co41 : Value).ownBlock) (fun _ => False) rfl rfl ?aO ?aR (fun _ _ h => h) (fun _ h => h.elim) ?aF ?aB ?aS ?aL ?_; (case aR => repeat (first | exact (Kd.R_reads' HO261.out).2.2 | (with_reducible refine Kd.C_alloc ?_ _) | (with_reducible refine Kd.C_drewN ?_ _) | (with_reducible refine Kd.C_drew ?_))); (case aB => exact (kl HB)); (case aF => exact (fun k_ hk => Kd.fresh' (Kd.R_lt (kr HO261)) k_ hk)); (case aO => exact (by (with_reducible repeat (first | apply Kd.R_alloc | apply Kd.R_drewN | apply Kd.R_drew)); exact Kd.R_mono HO_4.out (fun _ hk => hk.2))); (case aS => exact (below_size (kl HB))); (case aL => have := LMc38.out; omega); intro v263 w40 ho hb hg hat; rw [← Ny262.out] at ho; have n0_ := Aside0.mk (Kd.R_over' (kr HO_52) (Kd.R_typed (kr HO_4)) (by decide) hg); have n1_ := Aside0.mk (blk_grown (g := gb232) (o := .cells #[.int .i64 a0_0, .slice (some ad250) l0_1.length c0_1] 53 (0, 0)) (kb BK232) hg (Kd.R_ne HO_4.out BK232.out (by decide))); have n2_ := Aside0.mk (blk_grown (g := gb251) (o := .cells #[.int .i64 ((rd_T72 l0_1 x30_1).f0), .int .i64 ((rd_T72 l0_1 x30_1).f1), .int .i64 ((rd_T72 l0_1 x30_1).f2), .int .i64 ((rd_T72 l0_1 x30_1).f3)] 72 (0, 0)) (kb BK251) hg (Kd.R_ne HO_4.out BK251.out (by decide))); have n3_ := Aside0.mk (Kd.R_after (ok := (fun _ => True)) (kr HO261) hg hat); have n4_ := Aside0.mk (hb); have n5_ := Aside0.mk (ho); clear HO_52; clear BK232; clear BK251; clear HO261; clear HB; clear HO_4; have HO_52 := n0_; have BK232 := n1_; have BK251 := n2_; have HO261 := n3_; have HB := n4_; have HO264 := n5_; clear n0_ n1_ n2_ n3_ n4_ n5_; clear ho hb hg hat))
               go_roundg k2
               case measure => have := HK1.out; have := HK2.out; omega
               case rel => exact ⟨(y262), (wrap64 (x54_2 + 1)), (by first | rfl | (simp; done) | (simp [*]; done)), H', ⟨by have := HK1.out; have := HK2.out; omega⟩, ⟨by (with_reducible repeat (first | apply Kd.R_alloc | apply Kd.R_drewN | apply Kd.R_drew)); exact Kd.R_mono HO264.out (fun _ hk => trivial)⟩, ⟨kr HO_52⟩, ⟨kb BK232⟩, ⟨kb BK251⟩, ⟨(kl HB)⟩⟩
              ·rw [if_neg c38] at H
               exact absurd H (by simp)
             ·rw [if_neg c36] at H
              exact absurd H (by simp)
            ·rw [if_neg c35] at H
             exact absurd H (by simp)
           ·rw [if_neg c34] at H
            have c34b0 : decide (x54_2 < (y255.length : Int)) = false := decide_eq_false c34
            clear c34
            have H' := Aside0.mk H
            clear H
            go_wp2
            go_roundg k2
            case measure => have := HK1.out; have := HK2.out; omega
            case rel => exact ⟨(x4_2), (wrap64 (x30_1 + 1)), (by first | rfl | (simp; done) | (simp [*]; done)), H', ⟨by have := HK1.out; have := HK2.out; omega⟩, ⟨kr HO_4⟩, ⟨kb BK232⟩, ⟨(kl HB)⟩⟩
        ·rw [if_neg c21] at H
         exact absurd H (by simp)
       ·rw [if_neg c20] at H
        exact absurd H (by simp)
      ·rw [if_neg c19] at H
       have c19b0 : decide (x30_1 < (l0_1.length : Int)) = false := decide_eq_false c19
       clear c19
       replace H := Option.bind_eq_some_iff.mp H
       obtain ⟨t246, A420, H⟩ := H
       replace H : ((index_number.f k1 x4_1 (IntKind.u64.wrap (t246)) 4).bind fun t247 => (some (t247, none))) = some (r1, r2) := H
       have A42 := Aside0.mk A420
       clear A420
       replace H := Option.bind_eq_some_iff.mp H
       obtain ⟨t247, A430, H⟩ := H
       replace H : (some (t247, none)) = some (r1, r2) := H
       have A43 := Aside0.mk A430
       clear A430
       simp only [Option.some.injEq, Prod.mk.injEq] at H
       obtain ⟨rfl, rfl⟩ := H
       obtain ⟨Ao44, co44, eo44⟩ := Kd.R_slice HO_4.out
       subst eo44
       go_wp2_with (first | ((with_reducible refine gate_callee (f := 33) rfl ?_); refine goesL_ (some 66) rfl rfl Try.func33 (by kernel_rfl) rfl #[.slice Ao44 x4_1.length co44] rfl km ?_; (with_reducible refine (crc_Sum.calls k1 _ _ x4_1 t246 _ ?side1 ?side2 A42.out).mono ?_); (case side1 => repeat (first | exact (Kd.R_reads' HO_4.out).2.2 | (with_reducible refine Kd.C_alloc ?_ _) | (with_reducible refine Kd.C_drewN ?_ _) | (with_reducible refine Kd.C_drew ?_))); (case side2 => exact (Kd.R_reads' HO_4.out).2.1); rintro e w' ⟨rfl, ⟨nd, rfl⟩⟩; refine ⟨_, rfl, ?_⟩) | ((with_reducible refine gate_callee (f := 32) rfl ?_); refine goesL_ (some 68) rfl rfl Try.func32 (by kernel_rfl) rfl #[.slice Ao44 x4_1.length co44, .int .u64 (IntKind.u64.wrap (t246)), .int .i64 4] rfl km ?_; (with_reducible refine (index_number.calls k1 (fun k_ => some k_ = (.slice Ao44 x4_1.length co44 : Value).ownBlock) (.slice Ao44 x4_1.length co44) x4_1 (IntKind.u64.wrap (t246)) 4 t247 w _ ?side1 ?side2 A43.out).mono ?_); (case side1 => repeat (first | (with_reducible first | exact HB.out | apply below_alloc | apply pw_below_drewN | apply below_drew1 | refine below_set ?_ GE232.out) | exact HB.out)); (case side2 => exact Kd.R_tight rfl HO_4.out); rintro e w45 ⟨v248, rfl, ho0, hb, hkp⟩; refine ⟨_, rfl, ?_⟩; have n0_ := Aside0.mk (blk_kept (kb BK232) hkp (fun hs_ => (fun e_ => (Kd.R_ne HO_4.out BK232.out (by decide)) e_) hs_)); have n1_ := Aside0.mk (Kd.R_mono (ok' := fun k_ => True) ho0 (fun k_ hk_ => trivial)); have n2_ := Aside0.mk (hb); clear BK232; clear HB; clear HO_4; have BK232 := n0_; have HO249 := n1_; have HB := n2_; clear n0_ n1_ n2_; (try clear hb); (try clear hkp); (try clear ho0)))
       go_ret2
       exact ⟨_, by first | rfl | (simp [errW_none, errW_some] <;> rfl) | (simp [*, errW_none, errW_some] <;> rfl), by (with_reducible repeat (first | apply Kd.R_alloc | apply Kd.R_drewN | apply Kd.R_drew)); exact HO249.out, (kl HB)⟩
   ·rw [if_neg c6] at H
    exact absurd H (by simp)
  ·rw [if_neg c4] at H
   exact absurd H (by simp)
 ·replace c3 := Bool.eq_false_iff.mpr c3
  subst c3
  have H1 : (some (([] : List Int), some 1)) = some (r1, r2) := by rw [if_neg (show ¬ (false = true) by decide)] at H; exact H
  clear H
  have H := H1
  clear H1
  simp only [Option.some.injEq, Prod.mk.injEq] at H
  obtain ⟨rfl, rfl⟩ := H
  go_enter Try.func22, Try.ntmps22
  go_wp2_with (first | ((with_reducible refine gate_dst (N := 1) rfl ?_); refine box_event ?hg (N := 1) ?hd (cs := #[.int .i64 a0_0, .slice A0_1 l0_1.length c0_1]) (t := 53) ?hr ?_; (case hd => rfl); (case hg => rfl); (case hr => first | (go_simp; done) | (go_simp; rfl)); intro gb232 hg w46 hbox hb; have BK232 := Aside0.mk (hbox); have GW232 := kG hg HB; have GE232 := kG hg HB; replace HB := kH HB hb; clear hb hbox hg; have hcz47_0 : w46.cell? ⟨gb232, 0, none⟩ = some (.int .i64 a0_0) := (blk_cell BK232.out 0).trans rfl; have hcz47_1 : w46.cell? ⟨gb232, 1, none⟩ = some (.slice A0_1 l0_1.length c0_1) := (blk_cell BK232.out 1).trans rfl; have hfz47_0 := blk_frozen BK232.out 0; have hfz47_1 := blk_frozen BK232.out 1) | ((with_reducible refine gate_callee (f := 30) rfl ?_); refine goesL_ (some 10) rfl rfl Try.func30 (by kernel_rfl) rfl #[.agg #[.int .i64 a0_0, .slice A0_1 l0_1.length c0_1]] rfl km ?_; (with_reducible refine (index_may.calls k a0_0 _ _ l0_1 false _ ?side1 ?side2 A2.out).mono ?_); (case side1 => repeat (first | exact (Kd.C_below HR0_1.out HB.out) | (with_reducible refine Kd.C_alloc ?_ _) | (with_reducible refine Kd.C_drewN ?_ _) | (with_reducible refine Kd.C_drew ?_))); (case side2 => exact HC0_1.out); rintro e w48 ⟨rfl, hb⟩; refine ⟨_, rfl, ?_⟩; replace BK232 := kB BK232 hb; replace HB := kH HB hb; (try clear hb); (try clear hb2); (try clear hk); (try clear hi)))
  go_ret2
  exact ⟨_, by first | rfl | (simp [errW_none, errW_some] <;> rfl) | (simp [*, errW_none, errW_some] <;> rfl), by first | exact Kd.R_nil _ _ _ _ _ | exact Kd.N_nil _ _ _ _ _ | exact Kd.V_nil _ _ _ _ _ | exact Kd.Q_nil _ _ _ _ _ | exact Kd.S_nil _ _ _ _ _, (kl HB)⟩

end Go.Proofs.Ytiahbcaoikoogaa.All
