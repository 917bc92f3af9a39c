-- declarations that this claim needs, copied by a program of the session
import Derived.Test.YtiahbcaoikoogaaDoorKbAllx27
section
namespace Go.Proofs.YtiahbcaoikoogaaDoor.All
open Go.RowKit Go.Proofs.YtiahbcaoikoogaaDoorW.PrintWords Go.Proofs.YtiahbcaoikoogaaDoorW.PrintLast Go.Proofs.YtiahbcaoikoogaaDoorW.PrintMore
attribute [local go_sem] max2_int min2_int max_two min_two max_three min_three max_four min_four   
set_option linter.unusedVariables false
set_option linter.unusedSimpArgs false
attribute [local go_sem high] eqA24
def gaiterlaw08_up.f (k : Nat)  : Option (Bool) := (kinds_Put.f k 1 0 0 0 0 0 0 0 0 1 2).bind fun bt564 => ((kinds_Put.f k 3 0 0 0 0 0 0 0 0 0 0).bind fun bt579 => (if bt564.2.1 = 128 then (if bt564.2.2.1 = 1 then (if bt564.2.2.2.1 = 1 then (if (bt564.2.2.2.2.2.2.2.1 == 2 && (bt564.2.2.2.2.2.2.2.2.1 == 0 && (bt564.2.2.2.2.2.2.2.2.2.1 == 0))) = true then (if bt564.2.2.2.2.2.2.2.2.2.2.isNone = true then ((gaiterlaw00_Code.f bt579.2.2.2.2.2.2.2.2.2.2).bind fun t595 => (some (t595 == 6))) else (none)) else (none)) else (none)) else (none)) else (none)))
theorem gaiterlaw08_up.mono : ∀ k, LeO (gaiterlaw08_up.f k ) (gaiterlaw08_up.f (k + 1) ) := by
 intro  k
 unfold gaiterlaw08_up.f
 repeat' first
   | (with_reducible exact kinds_Put.mono _ _ _ _ _ _ _ _ _ _ _ _)
   | (with_reducible exact LeO.refl _)
   | (with_reducible exact LeO.none _)
   | (with_reducible refine LeO.ite ?_ ?_)
   | (with_reducible refine LeO.bind ?_ (fun _ => ?_))
   | exact kinds_Put.mono _ _ _ _ _ _ _ _ _ _ _ _
   | exact LeO.none _
   | refine LeO.ite ?_ ?_
   | refine LeO.bind ?_ (fun _ => ?_)
set_option maxHeartbeats 8000000 in
set_option maxRecDepth 100000 in
theorem gaiterlaw08_up.calls (k : Nat)  (r : Bool) (w : World) (hT : TabOk w) (h : gaiterlaw08_up.f k  = some r) :
  Calls Tryd.prog 24 #[] w fun e w' => e = .returned (.bool r) ∧ Below w.heap.size w w' := by
 have hu53 := Tryd.underlying53; have hu59 := Tryd.underlying59; have hu31 := Tryd.underlying31; have hu24 := Tryd.underlying24; have hu37 := Tryd.underlying37; have hu95 := Tryd.underlying95; have HT := Aside0.mk hT; clear hT; have HB := Aside0.mk (Below.refl w.heap.size w); have H : ((kinds_Put.f k 1 0 0 0 0 0 0 0 0 1 2).bind fun bt564 => ((kinds_Put.f k 3 0 0 0 0 0 0 0 0 0 0).bind fun bt579 => (if bt564.2.1 = 128 then (if bt564.2.2.1 = 1 then (if bt564.2.2.2.1 = 1 then (if (bt564.2.2.2.2.2.2.2.1 == 2 && (bt564.2.2.2.2.2.2.2.2.1 == 0 && (bt564.2.2.2.2.2.2.2.2.2.1 == 0))) = true then (if bt564.2.2.2.2.2.2.2.2.2.2.isNone = true then ((gaiterlaw00_Code.f bt579.2.2.2.2.2.2.2.2.2.2).bind fun t595 => (some (t595 == 6))) else (none)) else (none)) else (none)) else (none)) else (none)))) = some r := h; clear h; replace H := Option.bind_eq_some_iff.mp H; obtain ⟨⟨t564, t567, t568, t569, t570, t571, t572, t573, t574, t575, t576⟩, A10, H⟩ := H; replace H : ((kinds_Put.f k 3 0 0 0 0 0 0 0 0 0 0).bind fun bt579 => (if t567 = 128 then (if t568 = 1 then (if t569 = 1 then (if (t573 == 2 && (t574 == 0 && (t575 == 0))) = true then (if t576.isNone = true then ((gaiterlaw00_Code.f bt579.2.2.2.2.2.2.2.2.2.2).bind fun t595 => (some (t595 == 6))) else (none)) else (none)) else (none)) else (none)) else (none))) = some r := H; have A1 := Aside0.mk A10; clear A10; replace H := Option.bind_eq_some_iff.mp H; obtain ⟨⟨t579, t582, t583, t584, t585, t586, t587, t588, t589, t590, t591⟩, A20, H⟩ := H; replace H : (if t567 = 128 then (if t568 = 1 then (if t569 = 1 then (if (t573 == 2 && (t574 == 0 && (t575 == 0))) = true then (if t576.isNone = true then ((gaiterlaw00_Code.f t591).bind fun t595 => (some (t595 == 6))) else (none)) else (none)) else (none)) else (none)) else (none)) = some r := H; have A2 := Aside0.mk A20; clear A20
 by_cases c3 : t567 = 128
 ·rw [if_pos c3] at H; have c3b0 : (t567 == 128) = true := beq_iff_eq.mpr c3; have c3b1 : (t567 != 128) = false := bne_eq_false_iff_eq.mpr c3; clear c3
  by_cases c4 : t568 = 1
  ·rw [if_pos c4] at H; have c4b0 : (t568 == 1) = true := beq_iff_eq.mpr c4; have c4b1 : (t568 != 1) = false := bne_eq_false_iff_eq.mpr c4; clear c4
   by_cases c5 : t569 = 1
   ·rw [if_pos c5] at H; have c5b0 : (t569 == 1) = true := beq_iff_eq.mpr c5; have c5b1 : (t569 != 1) = false := bne_eq_false_iff_eq.mpr c5; clear c5
    by_cases c6 : (t573 == 2 && (t574 == 0 && (t575 == 0))) = true
    ·rw [if_pos c6] at H; have c6b0 : (t573 == 2 && (t574 == 0 && (t575 == 0))) = true := c6; (try (have c6b1 : decide (t573 = 2 && (t574 == 0 && (t575 == 0))) = true := by simpa using c6)); (try (have c6b2 : (t573 == 2 && (t574 == 0 && (t575 == 0))) = true := by simpa using c6)); clear c6
     rcases t576 with _ | q594
     ·have H1 : ((gaiterlaw00_Code.f t591).bind fun t595 => (some (t595 == 6))) = some r := by rw [if_pos (show (none : Option Int).isNone = true by rfl)] at H; exact H
      clear H; have H := H1; clear H1
      try simp only [errW_none, errW_some]
      replace H := Option.bind_eq_some_iff.mp H; obtain ⟨t595, A70, H⟩ := H; replace H : (some (t595 == 6)) = some r := H; have A7 := Aside0.mk A70; clear A70; obtain rfl := Option.some.inj H
      go_enter Tryd.func24, Tryd.ntmps24
      go_wp2_with (first | ((with_reducible refine gate_callee (f := 25) rfl ?_); refine goesL_ (some 10) rfl rfl Tryd.func25 (by kernel_rfl) rfl #[.int .i64 1, .agg #[.int .i64 0, .int .i64 0, .int .i64 0, .int .u64 0, .int .u64 0, .int .u64 0, .int .i64 0, .int .i64 0], .agg #[.int .i64 1, .int .u64 2]] rfl km ?_; (with_reducible refine (kinds_Put.calls k 1 0 0 0 0 0 0 0 0 1 2 t564 t567 t568 t569 t570 t571 t572 t573 t574 t575 none _ ?side1 A1.out).mono ?_); (case side1 => exact TabOk.below HT.out (kl HB) (Nat.le_refl _)); rintro e w8 ⟨v565, rfl, ho0, hb⟩; refine ⟨_, rfl, ?_⟩; have HO566 := Aside0.mk (Kd.R_lower ho0 (below_size (kl HB))); replace HB := kH HB hb; (try clear hb); (try clear hb2); (try clear hk); (try clear hi); (try clear hgw); (try clear ho0); (try simp only [errW_none, errW_some])) | ((with_reducible refine gate_dst (N := 1) rfl ?_); refine box_event ?hg (N := 1) ?hd (cs := #[.slice none 0 0, .int .i64 0]) (t := 31) ?hr ?_; (case hd => rfl); (case hg => rfl); (case hr => first | (go_simp; done) | (go_simp; rfl)); intro gb577 hg w9 hbox hb; replace HO566 := Aside0.mk (Kd.R_below (kr HO566) hb); have BK577 := Aside0.mk (hbox); have GW577 := kG hg HB; have GE577 := kG hg HB; replace HB := kH HB hb; clear hb hbox hg) | ((with_reducible refine gate_dst (N := 2) rfl ?_); refine box_event ?hg (N := 2) ?hd (cs := #[.int .i64 0, .int .i64 0, .int .i64 0, .int .u64 0, .int .u64 0, .int .u64 0, .int .i64 0, .int .i64 0]) (t := 53) ?hr ?_; (case hd => rfl); (case hg => rfl); (case hr => first | (go_simp; done) | (go_simp; rfl)); intro gb578 hg w10 hbox hb; replace HO566 := Aside0.mk (Kd.R_below (kr HO566) hb); have BK578 := Aside0.mk (hbox); have GW578 := kG hg HB; have GE578 := kG hg HB; replace HB := kH HB hb; obtain ⟨NB577_578, NB578_577⟩ := kN hg BK577; replace BK577 := kB BK577 hb; clear hb hbox hg; obtain ⟨Ao11, co11, eo11⟩ := Kd.R_slice HO566.out; subst eo11; have hnb12 := NB577_578.out; have hnc12 := NB578_577.out; have hcz13_0 : w10.cell? ⟨gb577, 0, none⟩ = some (.slice none 0 0) := (blk_cell BK577.out 0).trans rfl; have hcz13_1 : w10.cell? ⟨gb577, 1, none⟩ = some (.int .i64 0) := (blk_cell BK577.out 1).trans rfl; have hfz13_0 := blk_frozen BK577.out 0; have hfz13_1 := blk_frozen BK577.out 1; have hcz14_0 : w10.cell? ⟨gb578, 0, none⟩ = some (.int .i64 0) := (blk_cell BK578.out 0).trans rfl; have hcz14_1 : w10.cell? ⟨gb578, 1, none⟩ = some (.int .i64 0) := (blk_cell BK578.out 1).trans rfl; have hcz14_2 : w10.cell? ⟨gb578, 2, none⟩ = some (.int .i64 0) := (blk_cell BK578.out 2).trans rfl; have hcz14_3 : w10.cell? ⟨gb578, 3, none⟩ = some (.int .u64 0) := (blk_cell BK578.out 3).trans rfl; have hcz14_4 : w10.cell? ⟨gb578, 4, none⟩ = some (.int .u64 0) := (blk_cell BK578.out 4).trans rfl; have hcz14_5 : w10.cell? ⟨gb578, 5, none⟩ = some (.int .u64 0) := (blk_cell BK578.out 5).trans rfl; have hcz14_6 : w10.cell? ⟨gb578, 6, none⟩ = some (.int .i64 0) := (blk_cell BK578.out 6).trans rfl; have hcz14_7 : w10.cell? ⟨gb578, 7, none⟩ = some (.int .i64 0) := (blk_cell BK578.out 7).trans rfl; have hfz14_0 := blk_frozen BK578.out 0; have hfz14_1 := blk_frozen BK578.out 1; have hfz14_2 := blk_frozen BK578.out 2; have hfz14_3 := blk_frozen BK578.out 3; have hfz14_4 := blk_frozen BK578.out 4; have hfz14_5 := blk_frozen BK578.out 5; have hfz14_6 := blk_frozen BK578.out 6; have hfz14_7 := blk_frozen BK578.out 7) | ((with_reducible refine gate_callee (f := 25) rfl ?_); refine goesL_ (some 17) rfl rfl Tryd.func25 (by kernel_rfl) rfl #[.int .i64 3, .agg #[.int .i64 0, .int .i64 0, .int .i64 0, .int .u64 0, .int .u64 0, .int .u64 0, .int .i64 0, .int .i64 0], .agg #[.int .i64 0, .int .u64 0]] rfl km ?_; (with_reducible refine (kinds_Put.calls k 3 0 0 0 0 0 0 0 0 0 0 t579 t582 t583 t584 t585 t586 t587 t588 t589 t590 t591 _ ?side1 A2.out).mono ?_); (case side1 => exact TabOk.below HT.out (kl HB) (Nat.le_refl _)); rintro e w15 ⟨v580, rfl, ho0, hb⟩; refine ⟨_, rfl, ?_⟩; have HO581 := Aside0.mk (Kd.R_lower (Kd.R_new' ho0 (Kd.R_lt (by (with_reducible repeat (first | apply Kd.R_alloc | apply Kd.R_drewN | apply Kd.R_drew)); exact (Kd.R_mono (Kd.R_mono (Kd.R_far (p := ⟨gb578, 7, none⟩) (Kd.R_far (p := ⟨gb578, 6, none⟩) (Kd.R_far (p := ⟨gb578, 5, none⟩) (Kd.R_far (p := ⟨gb578, 4, none⟩) (Kd.R_far (p := ⟨gb578, 3, none⟩) (Kd.R_far (p := ⟨gb578, 2, none⟩) (Kd.R_far (p := ⟨gb578, 1, none⟩) (Kd.R_far (p := ⟨gb578, 0, none⟩) (Kd.R_far (p := ⟨gb577, 1, none⟩) (Kd.R_far (p := ⟨gb577, 0, none⟩) (Kd.R_types (Kd.R_types HO566.out BK577.out (by decide)) BK578.out (by decide)) (fun _ hk => hk.1.2) (.slice Ao11 t564.length co11)) (fun _ hk => hk.1.2) (.int .i64 t567)) (fun _ hk => hk.2) (.int .i64 t568)) (fun _ hk => hk.2) (.int .i64 t569)) (fun _ hk => hk.2) (.int .i64 t570)) (fun _ hk => hk.2) (.int .u64 t571)) (fun _ hk => hk.2) (.int .u64 t572)) (fun _ hk => hk.2) (.int .u64 t573)) (fun _ hk => hk.2) (.int .i64 t574)) (fun _ hk => hk.2) (.int .i64 t575)) (fun _ h_ => h_.1)) (fun _ h_ => h_.1))))) (below_size (kl HB))); replace HO566 := Aside0.mk (Kd.R_elder' (by (with_reducible repeat (first | apply Kd.R_alloc | apply Kd.R_drewN | apply Kd.R_drew)); exact (Kd.R_mono (Kd.R_mono (Kd.R_far (p := ⟨gb578, 7, none⟩) (Kd.R_far (p := ⟨gb578, 6, none⟩) (Kd.R_far (p := ⟨gb578, 5, none⟩) (Kd.R_far (p := ⟨gb578, 4, none⟩) (Kd.R_far (p := ⟨gb578, 3, none⟩) (Kd.R_far (p := ⟨gb578, 2, none⟩) (Kd.R_far (p := ⟨gb578, 1, none⟩) (Kd.R_far (p := ⟨gb578, 0, none⟩) (Kd.R_far (p := ⟨gb577, 1, none⟩) (Kd.R_far (p := ⟨gb577, 0, none⟩) (Kd.R_types (Kd.R_types HO566.out BK577.out (by decide)) BK578.out (by decide)) (fun _ hk => hk.1.2) (.slice Ao11 t564.length co11)) (fun _ hk => hk.1.2) (.int .i64 t567)) (fun _ hk => hk.2) (.int .i64 t568)) (fun _ hk => hk.2) (.int .i64 t569)) (fun _ hk => hk.2) (.int .i64 t570)) (fun _ hk => hk.2) (.int .u64 t571)) (fun _ hk => hk.2) (.int .u64 t572)) (fun _ hk => hk.2) (.int .u64 t573)) (fun _ hk => hk.2) (.int .i64 t574)) (fun _ hk => hk.2) (.int .i64 t575)) (fun _ h_ => h_.1)) (fun _ h_ => h_.1))) (Kd.R_base ho0) hb); replace BK577 := Aside0.mk (blk_below (g := gb577) (o := .cells #[.slice Ao11 t564.length co11, .int .i64 t567] 31 (0, 0)) (kb BK577) hb); replace BK578 := Aside0.mk (blk_below (g := gb578) (o := .cells #[.int .i64 t568, .int .i64 t569, .int .i64 t570, .int .u64 t571, .int .u64 t572, .int .u64 t573, .int .i64 t574, .int .i64 t575] 53 (0, 0)) (kb BK578) hb); replace HB := kH HB hb; (try clear hb); (try clear hb2); (try clear hk); (try clear hi); (try clear hgw); (try clear ho0); (try simp only [errW_none, errW_some])) | ((with_reducible refine gate_dst (N := 4) rfl ?_); refine box_event ?hg (N := 4) ?hd (cs := #[.slice none 0 0, .int .i64 0]) (t := 31) ?hr ?_; (case hd => rfl); (case hg => rfl); (case hr => first | (go_simp; done) | (go_simp; rfl)); intro gb592 hg w16 hbox hb; replace HO566 := Aside0.mk (Kd.R_below (kr HO566) hb); replace HO581 := Aside0.mk (Kd.R_below (kr HO581) hb); have BK592 := Aside0.mk (hbox); have GW592 := kG hg HB; have GE592 := kG hg HB; replace HB := kH HB hb; obtain ⟨NB577_592, NB592_577⟩ := kN hg BK577; replace BK577 := kB BK577 hb; obtain ⟨NB578_592, NB592_578⟩ := kN hg BK578; replace BK578 := kB BK578 hb; clear hb hbox hg) | ((with_reducible refine gate_dst (N := 5) rfl ?_); refine box_event ?hg (N := 5) ?hd (cs := #[.int .i64 0, .int .i64 0, .int .i64 0, .int .u64 0, .int .u64 0, .int .u64 0, .int .i64 0, .int .i64 0]) (t := 53) ?hr ?_; (case hd => rfl); (case hg => rfl); (case hr => first | (go_simp; done) | (go_simp; rfl)); intro gb593 hg w17 hbox hb; replace HO566 := Aside0.mk (Kd.R_below (kr HO566) hb); replace HO581 := Aside0.mk (Kd.R_below (kr HO581) hb); have BK593 := Aside0.mk (hbox); have GW593 := kG hg HB; have GE593 := kG hg HB; replace HB := kH HB hb; obtain ⟨NB577_593, NB593_577⟩ := kN hg BK577; replace BK577 := kB BK577 hb; obtain ⟨NB578_593, NB593_578⟩ := kN hg BK578; replace BK578 := kB BK578 hb; obtain ⟨NB592_593, NB593_592⟩ := kN hg BK592; replace BK592 := kB BK592 hb; clear hb hbox hg; obtain ⟨Ao18, co18, eo18⟩ := Kd.R_slice HO581.out; subst eo18; have hnb19 := NB592_577.out; have hnc19 := NB577_592.out; have hnb20 := NB592_578.out; have hnc20 := NB578_592.out; have hnb21 := NB592_593.out; have hnc21 := NB593_592.out; have hcz22_0 : w17.cell? ⟨gb592, 0, none⟩ = some (.slice none 0 0) := (blk_cell BK592.out 0).trans rfl; have hcz22_1 : w17.cell? ⟨gb592, 1, none⟩ = some (.int .i64 0) := (blk_cell BK592.out 1).trans rfl; have hfz22_0 := blk_frozen BK592.out 0; have hfz22_1 := blk_frozen BK592.out 1; have hnb23 := NB593_577.out; have hnc23 := NB577_593.out; have hnb24 := NB593_578.out; have hnc24 := NB578_593.out; have hcz25_0 : w17.cell? ⟨gb593, 0, none⟩ = some (.int .i64 0) := (blk_cell BK593.out 0).trans rfl; have hcz25_1 : w17.cell? ⟨gb593, 1, none⟩ = some (.int .i64 0) := (blk_cell BK593.out 1).trans rfl; have hcz25_2 : w17.cell? ⟨gb593, 2, none⟩ = some (.int .i64 0) := (blk_cell BK593.out 2).trans rfl; have hcz25_3 : w17.cell? ⟨gb593, 3, none⟩ = some (.int .u64 0) := (blk_cell BK593.out 3).trans rfl; have hcz25_4 : w17.cell? ⟨gb593, 4, none⟩ = some (.int .u64 0) := (blk_cell BK593.out 4).trans rfl; have hcz25_5 : w17.cell? ⟨gb593, 5, none⟩ = some (.int .u64 0) := (blk_cell BK593.out 5).trans rfl; have hcz25_6 : w17.cell? ⟨gb593, 6, none⟩ = some (.int .i64 0) := (blk_cell BK593.out 6).trans rfl; have hcz25_7 : w17.cell? ⟨gb593, 7, none⟩ = some (.int .i64 0) := (blk_cell BK593.out 7).trans rfl; have hfz25_0 := blk_frozen BK593.out 0; have hfz25_1 := blk_frozen BK593.out 1; have hfz25_2 := blk_frozen BK593.out 2; have hfz25_3 := blk_frozen BK593.out 3; have hfz25_4 := blk_frozen BK593.out 4; have hfz25_5 := blk_frozen BK593.out 5; have hfz25_6 := blk_frozen BK593.out 6; have hfz25_7 := blk_frozen BK593.out 7; have hcz26_0 : w17.cell? ⟨gb577, 0, none⟩ = some (.slice Ao11 t564.length co11) := (blk_cell BK577.out 0).trans rfl; have hcz26_1 : w17.cell? ⟨gb577, 1, none⟩ = some (.int .i64 t567) := (blk_cell BK577.out 1).trans rfl; have hfz26_0 := blk_frozen BK577.out 0; have hfz26_1 := blk_frozen BK577.out 1; have hcz27_0 : w17.cell? ⟨gb578, 0, none⟩ = some (.int .i64 t568) := (blk_cell BK578.out 0).trans rfl; have hcz27_1 : w17.cell? ⟨gb578, 1, none⟩ = some (.int .i64 t569) := (blk_cell BK578.out 1).trans rfl; have hcz27_2 : w17.cell? ⟨gb578, 2, none⟩ = some (.int .i64 t570) := (blk_cell BK578.out 2).trans rfl; have hcz27_3 : w17.cell? ⟨gb578, 3, none⟩ = some (.int .u64 t571) := (blk_cell BK578.out 3).trans rfl; have hcz27_4 : w17.cell? ⟨gb578, 4, none⟩ = some (.int .u64 t572) := (blk_cell BK578.out 4).trans rfl; have hcz27_5 : w17.cell? ⟨gb578, 5, none⟩ = some (.int .u64 t573) := (blk_cell BK578.out 5).trans rfl; have hcz27_6 : w17.cell? ⟨gb578, 6, none⟩ = some (.int .i64 t574) := (blk_cell BK578.out 6).trans rfl; have hcz27_7 : w17.cell? ⟨gb578, 7, none⟩ = some (.int .i64 t575) := (blk_cell BK578.out 7).trans rfl; have hfz27_0 := blk_frozen BK578.out 0; have hfz27_1 := blk_frozen BK578.out 1; have hfz27_2 := blk_frozen BK578.out 2; have hfz27_3 := blk_frozen BK578.out 3; have hfz27_4 := blk_frozen BK578.out 4; have hfz27_5 := blk_frozen BK578.out 5; have hfz27_6 := blk_frozen BK578.out 6; have hfz27_7 := blk_frozen BK578.out 7; have CA7 := fun W => gaiterlaw00_Code.calls t591 t595 W A7.out; try simp only [errW_none, errW_some] at CA7) | (go_at_call 20; (with_reducible refine (CA7 _).mono ?_); rintro e w' ⟨rfl, ⟨nd, rfl⟩⟩))
      go_ret
      exact ⟨by first | rfl | (simp [errW_none, errW_some] <;> rfl) | (simp [*, errW_none, errW_some] <;> rfl), (kl HB)⟩
     ·have H1 : (none) = some r := by rw [if_neg (show ¬ (some q594).isNone = true by simp)] at H; exact H
      clear H; have H := H1; clear H1
      try simp only [errW_none, errW_some]
      exact absurd H (by simp)
    ·rw [if_neg c6] at H
     exact absurd H (by simp)
   ·rw [if_neg c5] at H
    exact absurd H (by simp)
  ·rw [if_neg c4] at H
   exact absurd H (by simp)
 ·rw [if_neg c3] at H
  exact absurd H (by simp)
end Go.Proofs.YtiahbcaoikoogaaDoor.All
end
section
namespace Go.Proofs.YtiahbcaoikoogaaDoor.All
open Go.RowKit Go.Proofs.YtiahbcaoikoogaaDoorW.PrintWords Go.Proofs.YtiahbcaoikoogaaDoorW.PrintLast Go.Proofs.YtiahbcaoikoogaaDoorW.PrintMore
attribute [local go_sem] max2_int min2_int max_two min_two max_three min_three max_four min_four   
set_option linter.unusedVariables false
set_option linter.unusedSimpArgs false
mutual
def bits_Take.j0 : Nat → List Int → Int → Int → Bool → Option (Int × Bool)
 | 0, _, _, _, _ => none
 | k + 1, x0, x1, x2, x35 => if x35 = true then (some (0, false)) else (bits_Take.l0 k x0 x1 x2 0 x1)
def bits_Take.l0 : Nat → List Int → Int → Int → Int → Int → Option (Int × Bool)
 | 0, _, _, _, _, _ => none
 | k + 1, x0, x1, x2, x8, x9 => if x9 < (wrap64 (x1 + x2)) then (if 0 ≤ (wrap64 (Int.tdiv x9 8)) then (if (wrap64 (Int.tdiv x9 8)) < (x0.length : Int) then (if 0 ≤ (wrap64 (7 - (Int.tmod x9 8))) then (bits_Take.l0 k x0 x1 x2 (Go.bits .or .u64 (IntKind.u64.wrap (x8 * 2)) (IntKind.u64.wrap (Go.bits .and .u8 (shr .u8 (rd x0 (wrap64 (Int.tdiv x9 8))) (wrap64 (7 - (Int.tmod x9 8)))) 1))) (wrap64 (x9 + 1))) else (none)) else (none)) else (none)) else (some (x8, true))
end
def bits_Take.f (k : Nat) (l0 : List Int) (a1 : Int) (a2 : Int) : Option (Int × Bool) := if a2 < 0 then (bits_Take.j0 k l0 a1 a2 true) else (if a2 > 64 then (bits_Take.j0 k l0 a1 a2 true) else (if a1 < 0 then (bits_Take.j0 k l0 a1 a2 true) else (if a1 > (wrap64 (8 * (l0.length : Int))) then (bits_Take.j0 k l0 a1 a2 true) else (bits_Take.j0 k l0 a1 a2 (decide (a2 > (wrap64 ((wrap64 (8 * (l0.length : Int))) - a1))))))))
set_option maxHeartbeats 8000000 in
set_option maxRecDepth 100000 in
theorem bits_Take.calls (k : Nat) (A0 : Option Addr) (c0 : Nat) (l0 : List Int) (a1 : Int) (a2 : Int) (r1 : Int) (r2 : Bool) (w : World) (hr0 : Kd.C (Kd.int .u8) w A0 l0.length l0) (hc0 : l0.length ≤ c0) (h : bits_Take.f k l0 a1 a2 = some (r1, r2)) :
  Calls Tryd.prog 49 #[.slice A0 l0.length c0, .int .i64 a1, .int .i64 a2] w fun e w' => e = .returned (.tuple #[.int .u64 r1, .bool r2]) ∧ Drawn0 w w' := by
 have HR0 := Aside0.mk hr0; have HC0 := Aside0.mk hc0; clear hr0 hc0; have H : (if a2 < 0 then (bits_Take.j0 k l0 a1 a2 true) else (if a2 > 64 then (bits_Take.j0 k l0 a1 a2 true) else (if a1 < 0 then (bits_Take.j0 k l0 a1 a2 true) else (if a1 > (wrap64 (8 * (l0.length : Int))) then (bits_Take.j0 k l0 a1 a2 true) else (bits_Take.j0 k l0 a1 a2 (decide (a2 > (wrap64 ((wrap64 (8 * (l0.length : Int))) - a1))))))))) = some (r1, r2) := h; clear h; have HC4 := Aside0.mk H; clear H
 go_enter Tryd.func49, Tryd.ntmps49
 go_upto_region 1 with (fail)
 go_cut [35] (fun v35 wc => ∃ (kq : Nat) (x35_3 : Bool), v35 = .bool x35_3 ∧ Aside0 (bits_Take.j0 kq l0 a1 a2 x35_3 = some (r1, r2)) ∧ Aside0 (kq ≤ k) ∧ Drawn0 w wc)
 case first =>
  have H := HC4.out; clear HC4
  by_cases c5 : a2 < 0
  ·rw [if_pos c5] at H; have c5b0 : decide (a2 < 0) = true := decide_eq_true c5; clear c5
   (first | rw [c5b0] | (simp only [i64_w, i32_w]; rw [c5b0]) | skip)
   have H' := Aside0.mk H; clear H
   go_wp2
   go_meet
   case rel => exact ⟨_, (true), (by first | rfl | (simp; done) | (simp [*]; done)), H', ⟨by first | omega | exact Nat.le_refl _⟩, by repeat (first | exact Drawn0.refl _ | apply Drawn0.step)⟩
  ·rw [if_neg c5] at H; have c5b0 : decide (a2 < 0) = false := decide_eq_false c5; clear c5
   (first | rw [c5b0] | (simp only [i64_w, i32_w]; rw [c5b0]) | skip)
   by_cases c6 : a2 > 64
   ·rw [if_pos c6] at H; have c6b0 : decide (64 < a2) = true := decide_eq_true c6; clear c6; have H' := Aside0.mk H; clear H
    go_wp2
    go_meet
    case rel => exact ⟨_, (true), (by first | rfl | (simp; done) | (simp [*]; done)), H', ⟨by first | omega | exact Nat.le_refl _⟩, by repeat (first | exact Drawn0.refl _ | apply Drawn0.step)⟩
   ·rw [if_neg c6] at H; have c6b0 : decide (64 < a2) = false := decide_eq_false c6; clear c6
    by_cases c7 : a1 < 0
    ·rw [if_pos c7] at H; have c7b0 : decide (a1 < 0) = true := decide_eq_true c7; clear c7; have H' := Aside0.mk H; clear H
     go_wp2
     go_meet
     case rel => exact ⟨_, (true), (by first | rfl | (simp; done) | (simp [*]; done)), H', ⟨by first | omega | exact Nat.le_refl _⟩, by repeat (first | exact Drawn0.refl _ | apply Drawn0.step)⟩
    ·rw [if_neg c7] at H; have c7b0 : decide (a1 < 0) = false := decide_eq_false c7; clear c7
     by_cases c8 : a1 > (wrap64 (8 * (l0.length : Int)))
     ·rw [if_pos c8] at H; have c8b0 : decide ((wrap64 (8 * (l0.length : Int))) < a1) = true := decide_eq_true c8; clear c8; have H' := Aside0.mk H; clear H
      go_wp2
      go_meet
      case rel => exact ⟨_, (true), (by first | rfl | (simp; done) | (simp [*]; done)), H', ⟨by first | omega | exact Nat.le_refl _⟩, by repeat (first | exact Drawn0.refl _ | apply Drawn0.step)⟩
     ·rw [if_neg c8] at H; have c8b0 : decide ((wrap64 (8 * (l0.length : Int))) < a1) = false := decide_eq_false c8; clear c8; have H' := Aside0.mk H; clear H
      go_wp2
      go_meet
      case rel => exact ⟨_, (decide (a2 > (wrap64 ((wrap64 (8 * (l0.length : Int))) - a1)))), (by first | rfl | (simp; done) | (simp [*]; done)), H', ⟨by first | omega | exact Nat.le_refl _⟩, by repeat (first | exact Drawn0.refl _ | apply Drawn0.step)⟩
 case rest =>
  clear HC4; (try clear p2); (try clear c4); (try clear c5); (try clear c5b0); (try clear c6); (try clear c6b0); (try clear p6); (try clear c7); (try clear c7b0); (try clear c8); (try clear c8b0); obtain ⟨kq, x35_3, rfl, HA, HJ3, ⟨mc3, rfl⟩⟩ := hcut
  cases kq with
  | zero => exact absurd HA.out (by simp [bits_Take.j0])
  | succ kj3 =>
   have H := HA.out; clear HA; simp only [bits_Take.j0] at H
   by_cases c9 : x35_3 = true
   ·subst c9
    have H1 : (some (0, false)) = some (r1, r2) := by rw [if_pos rfl] at H; exact H
    clear H; have H := H1; clear H1; simp only [Option.some.injEq, Prod.mk.injEq] at H; obtain ⟨rfl, rfl⟩ := H
    go_wp2
    go_ret2
    exact ⟨by first | rfl | (simp; done) | (simp [*]; done), by repeat (first | exact Drawn0.refl _ | apply Drawn0.step)⟩
   ·replace c9 := Bool.eq_false_iff.mpr c9; subst c9
    have H1 : (bits_Take.l0 kj3 l0 a1 a2 0 a1) = some (r1, r2) := by rw [if_neg (show ¬ (false = true) by decide)] at H; exact H
    clear H; have H := H1; clear H1; have H' := Aside0.mk H; clear H
    go_wp2
    go_loopg [8, 9] kj3 (fun kq v8 v9 w' => ∃ (x8_2 : Int) (x9_2 : Int), v8 = .int .u64 x8_2 ∧ v9 = .int .i64 x9_2 ∧ Aside0 (bits_Take.l0 kq l0 a1 a2 x8_2 x9_2 = some (r1, r2)) ∧ Aside0 (kq ≤ kj3) ∧ Drawn0 w w')
    case atStart => exact ⟨(0), (a1), (by first | rfl | (simp; done) | (simp [*]; done)), (by first | rfl | (simp; done) | (simp [*]; done)), H', ⟨Nat.le_refl _⟩, by repeat (first | exact Drawn0.refl _ | apply Drawn0.step)⟩
    case round =>
     clear H'; (try clear p2); (try clear c3); (try clear c4); (try clear c5); (try clear c5b0); (try clear c6); (try clear c6b0); (try clear p6); (try clear c7); (try clear c7b0); (try clear c8); (try clear c8b0); (try clear c9); (try clear p2); (try clear p6); obtain ⟨x8_2, x9_2, rfl, rfl, HA, HK2, ⟨m2, rfl⟩⟩ := hrel
     cases gk with
     | zero => exact absurd HA.out (by simp [bits_Take.l0])
     | succ k2 =>
      have H := HA.out; clear HA; simp only [bits_Take.l0] at H
      by_cases c10 : x9_2 < (wrap64 (a1 + a2))
      ·rw [if_pos c10] at H; have c10b0 : decide (x9_2 < (wrap64 (a1 + a2))) = true := decide_eq_true c10; clear c10; obtain ⟨ji11, hji11⟩ : ∃ j_ : Int, (wrap64 (Int.tdiv x9_2 8)) = j_ := ⟨_, rfl⟩
       replace H : (if 0 ≤ (ji11) then (if (ji11) < (l0.length : Int) then (if 0 ≤ (wrap64 (7 - (Int.tmod x9_2 8))) then (bits_Take.l0 k2 l0 a1 a2 (Go.bits .or .u64 (IntKind.u64.wrap (x8_2 * 2)) (IntKind.u64.wrap (Go.bits .and .u8 (shr .u8 (rd l0 (ji11)) (wrap64 (7 - (Int.tmod x9_2 8)))) 1))) (wrap64 (x9_2 + 1))) else (none)) else (none)) else (none)) = some (r1, r2) := by first | (rw [hji11] at H; exact H) | (simp only [hji11] at H ⊢; exact H)
       have hji11w : (IntKind.i64.wrap (Int.tdiv x9_2 8)) = ji11 := (i64_w _).trans hji11
       by_cases c12 : 0 ≤ (ji11)
       ·rw [if_pos c12] at H; have c12b0 : decide (0 ≤ (ji11)) = true := decide_eq_true c12; clear c12
        by_cases c13 : (ji11) < (l0.length : Int)
        ·rw [if_pos c13] at H; have c13b0 : decide ((ji11) < (l0.length : Int)) = true := decide_eq_true c13; clear c13; obtain ⟨ji14, hji14⟩ : ∃ j_ : Int, (wrap64 (7 - (Int.tmod x9_2 8))) = j_ := ⟨_, rfl⟩
         replace H : (if 0 ≤ (ji14) then (bits_Take.l0 k2 l0 a1 a2 (Go.bits .or .u64 (IntKind.u64.wrap (x8_2 * 2)) (IntKind.u64.wrap (Go.bits .and .u8 (shr .u8 (rd l0 (ji11)) (ji14)) 1))) (wrap64 (x9_2 + 1))) else (none)) = some (r1, r2) := by first | (rw [hji14] at H; exact H) | (simp only [hji14] at H ⊢; exact H)
         have hji14w : (IntKind.i64.wrap (7 - (Int.tmod x9_2 8))) = ji14 := (i64_w _).trans hji14
         by_cases c15 : 0 ≤ (ji14)
         ·rw [if_pos c15] at H; have c15b0 := eq_true c15; have c15b1 : decide (0 ≤ (ji14)) = true := decide_eq_true c15; clear c15; obtain ⟨ji16, hji16⟩ : ∃ j_ : Int, (shr .u8 (rd l0 (ji11)) (ji14)) = j_ := ⟨_, rfl⟩
          replace H : (bits_Take.l0 k2 l0 a1 a2 (Go.bits .or .u64 (IntKind.u64.wrap (x8_2 * 2)) (IntKind.u64.wrap (Go.bits .and .u8 (ji16) 1))) (wrap64 (x9_2 + 1))) = some (r1, r2) := by first | (rw [hji16] at H; exact H) | (simp only [hji16] at H ⊢; exact H)
          have hji16_ : ((rd l0 (ji11)) / 2 ^ min (ji14).toNat 8) = ji16 := hji16; have hji16z : (ji14) ≤ 8 → ((rd l0 (ji11)) / 2 ^ (ji14).toNat) = ji16 := shr_small hji16; have H' := Aside0.mk H; clear H; have p151 : 0 ≤ ((ji11) : Int) := of_decide_eq_true (by first | (with_reducible assumption) | assumption); have q151 : (ji11) < (l0.length : Int) := of_decide_eq_true (by first | (with_reducible assumption) | assumption); obtain ⟨ad151, e151, hx151_0⟩ := Kd.at_int HR0.out (ji11) p151 q151
          cases e151
          replace p151 := eq_true p151
          (try (have q151s := q151; simp only [List.length_drop, List.length_take] at q151s; replace q151s := eq_true q151s)); replace q151 := eq_true q151
          go_wp2
          go_roundg k2
          case measure => have := HJ3.out; have := HK2.out; omega
          case rel => exact ⟨(Go.bits .or .u64 (IntKind.u64.wrap (x8_2 * 2)) (IntKind.u64.wrap (Go.bits .and .u8 (ji16) 1))), (wrap64 (x9_2 + 1)), (by first | rfl | (simp; done) | (simp only [← hji16] <;> (first | rfl | simp)) | (simp [*]; done)), (by first | rfl | (simp; done) | (simp [*]; done)), H', ⟨by have := HJ3.out; have := HK2.out; omega⟩, by repeat (first | exact Drawn0.refl _ | apply Drawn0.step)⟩
         ·rw [if_neg c15] at H
          exact absurd H (by simp)
        ·rw [if_neg c13] at H
         exact absurd H (by simp)
       ·rw [if_neg c12] at H
        exact absurd H (by simp)
      ·rw [if_neg c10] at H; have c10b0 : decide (x9_2 < (wrap64 (a1 + a2))) = false := decide_eq_false c10; clear c10; simp only [Option.some.injEq, Prod.mk.injEq] at H; obtain ⟨rfl, rfl⟩ := H
       go_wp2
       go_ret2
       exact ⟨by first | rfl | (simp; done) | (simp [*]; done), by repeat (first | exact Drawn0.refl _ | apply Drawn0.step)⟩
end Go.Proofs.YtiahbcaoikoogaaDoor.All
end
section
namespace Go.Proofs.YtiahbcaoikoogaaDoor.All
open Go.RowKit Go.Proofs.YtiahbcaoikoogaaDoorW.PrintWords Go.Proofs.YtiahbcaoikoogaaDoorW.PrintLast Go.Proofs.YtiahbcaoikoogaaDoorW.PrintMore
attribute [local go_sem] max2_int min2_int max_two min_two max_three min_three max_four min_four   
set_option linter.unusedVariables false
set_option linter.unusedSimpArgs false
def kinds_first.f (k : Nat) (l0 : List Int) (a1 : Int) : Option (Int × Int × Int × Option Int) := (bits_Take.f k l0 a1 64).bind fun bt689 => (if bt689.2 = true then ((bits_Take.f k l0 (wrap64 (a1 + 64)) 64).bind fun bt691 => (if bt691.2 = true then (some (wrap64 (bt689.1), bt691.1, 128, none)) else (some (0, 0, 0, some 2)))) else (some (0, 0, 0, some 2)))
set_option maxHeartbeats 8000000 in
set_option maxRecDepth 100000 in
theorem kinds_first.calls (k : Nat) (A0 : Option Addr) (c0 : Nat) (l0 : List Int) (a1 : Int) (r1 : Int) (r2 : Int) (r3 : Int) (r4 : Option Int) (w : World) (hr0 : Kd.C (Kd.int .u8) w A0 l0.length l0) (hc0 : l0.length ≤ c0) (h : kinds_first.f k l0 a1 = some (r1, r2, r3, r4)) :
  Calls Tryd.prog 58 #[.slice A0 l0.length c0, .int .i64 a1] w fun e w' => e = .returned (.tuple #[.agg #[.int .i64 r1, .int .u64 r2], .int .i64 r3, errW r4]) ∧ Below w.heap.size w w' := by
 have hu59 := Tryd.underlying59; have hu37 := Tryd.underlying37; have hu95 := Tryd.underlying95; have HR0 := Aside0.mk hr0; have HC0 := Aside0.mk hc0; clear hr0 hc0; have HB := Aside0.mk (Below.refl w.heap.size w); have H : ((bits_Take.f k l0 a1 64).bind fun bt689 => (if bt689.2 = true then ((bits_Take.f k l0 (wrap64 (a1 + 64)) 64).bind fun bt691 => (if bt691.2 = true then (some (wrap64 (bt689.1), bt691.1, 128, none)) else (some (0, 0, 0, some 2)))) else (some (0, 0, 0, some 2)))) = some (r1, r2, r3, r4) := h; clear h; replace H := Option.bind_eq_some_iff.mp H; obtain ⟨⟨t689, t690⟩, A30, H⟩ := H; replace H : (if t690 = true then ((bits_Take.f k l0 (wrap64 (a1 + 64)) 64).bind fun bt691 => (if bt691.2 = true then (some (wrap64 (t689), bt691.1, 128, none)) else (some (0, 0, 0, some 2)))) else (some (0, 0, 0, some 2))) = some (r1, r2, r3, r4) := H; have A3 := Aside0.mk A30; clear A30
 by_cases c4 : t690 = true
 ·subst c4
  have H1 : ((bits_Take.f k l0 (wrap64 (a1 + 64)) 64).bind fun bt691 => (if bt691.2 = true then (some (wrap64 (t689), bt691.1, 128, none)) else (some (0, 0, 0, some 2)))) = some (r1, r2, r3, r4) := by rw [if_pos rfl] at H; exact H
  clear H; have H := H1; clear H1; replace H := Option.bind_eq_some_iff.mp H; obtain ⟨⟨t691, t692⟩, A50, H⟩ := H; replace H : (if t692 = true then (some (wrap64 (t689), t691, 128, none)) else (some (0, 0, 0, some 2))) = some (r1, r2, r3, r4) := H; have A5 := Aside0.mk A50; clear A50
  by_cases c6 : t692 = true
  ·subst c6
   have H1 : (some (wrap64 (t689), t691, 128, none)) = some (r1, r2, r3, r4) := by rw [if_pos rfl] at H; exact H
   clear H; have H := H1; clear H1; simp only [Option.some.injEq, Prod.mk.injEq] at H; obtain ⟨rfl, rfl, rfl, rfl⟩ := H
   go_enter Tryd.func58, Tryd.ntmps58
   go_wp2_with (first | ((with_reducible refine gate_dst (N := 4) rfl ?_); refine box_event ?hg (N := 4) ?hd (cs := #[.int .i64 0, .int .u64 0]) (t := 59) ?hr ?_; (case hd => rfl); (case hg => rfl); (case hr => first | (go_simp; done) | (go_simp; rfl)); intro gb688 hg w7 hbox hb; have BK688 := Aside0.mk (hbox); have GW688 := kG hg HB; have GE688 := kG hg HB; replace HB := kH HB hb; clear hb hbox hg) | ((with_reducible refine gate_callee (f := 49) rfl ?_); refine goesL_ (some 13) rfl rfl Tryd.func49 (by kernel_rfl) rfl #[.slice A0 l0.length c0, .int .i64 a1, .int .i64 64] rfl km ?_; (with_reducible refine (bits_Take.calls k _ _ l0 a1 64 t689 true _ ?side1 ?side2 A3.out).mono ?_); (case side1 => repeat (first | exact (Kd.C_below HR0.out HB.out) | (with_reducible refine Kd.C_alloc ?_ _) | (with_reducible refine Kd.C_drewN ?_ _) | (with_reducible refine Kd.C_drew ?_))); (case side2 => exact HC0.out); rintro e w' ⟨rfl, ⟨nd, rfl⟩⟩; refine ⟨_, rfl, ?_⟩; (try (rw [drewN_self w7]; generalize hq_ : World.drewN w7 _ = w7; have n0_ : Aside0 (w7.heap[gb688]? = some (.cells #[.int .i64 0, .int .u64 0] 59 (0, 0))) := ⟨by rw [← hq_]; exact (kb BK688)⟩; have n1_ : Aside0 (Below w.heap.size w w7) := ⟨by rw [← hq_]; exact (kl HB)⟩; clear BK688 HB hq_; have BK688 := n0_; have HB := n1_; clear n0_ n1_))) | ((with_reducible refine gate_callee (f := 49) rfl ?_); refine goesL_ (some 24) rfl rfl Tryd.func49 (by kernel_rfl) rfl #[.slice A0 l0.length c0, .int .i64 (wrap64 (a1 + 64)), .int .i64 64] rfl km ?_; (with_reducible refine (bits_Take.calls k _ _ l0 (wrap64 (a1 + 64)) 64 t691 true _ ?side1 ?side2 A5.out).mono ?_); (case side1 => repeat (first | exact (Kd.C_below HR0.out HB.out) | (with_reducible refine Kd.C_alloc ?_ _) | (with_reducible refine Kd.C_drewN ?_ _) | (with_reducible refine Kd.C_drew ?_))); (case side2 => exact HC0.out); rintro e w' ⟨rfl, ⟨nd, rfl⟩⟩; refine ⟨_, rfl, ?_⟩; (try (rw [drewN_self w7]; generalize hq_ : World.drewN w7 _ = w7; have n0_ : Aside0 (w7.heap[gb688]? = some (.cells #[.int .i64 0, .int .u64 0] 59 (0, 0))) := ⟨by rw [← hq_]; exact (kb BK688)⟩; have n1_ : Aside0 (Below w.heap.size w w7) := ⟨by rw [← hq_]; exact (kl HB)⟩; clear BK688 HB hq_; have BK688 := n0_; have HB := n1_; clear n0_ n1_)); have hcz8_0 : w7.cell? ⟨gb688, 0, none⟩ = some (.int .i64 0) := (blk_cell BK688.out 0).trans rfl; have hcz8_1 : w7.cell? ⟨gb688, 1, none⟩ = some (.int .u64 0) := (blk_cell BK688.out 1).trans rfl; have hfz8_0 := blk_frozen BK688.out 0; have hfz8_1 := blk_frozen BK688.out 1))
   refine bodyPost_ret (results_ctt rfl _ _ gb688 59 #[.int .i64 (wrap64 (t689)), .int .u64 t691] (0, 0) _ rfl (kb BK688) Tryd.underlying59 rfl (by kernel_rfl)) rfl ?_
   exact ⟨by first | rfl | (simp [errW_none, errW_some] <;> rfl) | (simp [*, errW_none, errW_some] <;> rfl), (kl HB)⟩
  ·replace c6 := Bool.eq_false_iff.mpr c6; subst c6
   have H1 : (some (0, 0, 0, some 2)) = some (r1, r2, r3, r4) := by rw [if_neg (show ¬ (false = true) by decide)] at H; exact H
   clear H; have H := H1; clear H1; simp only [Option.some.injEq, Prod.mk.injEq] at H; obtain ⟨rfl, rfl, rfl, rfl⟩ := H
   go_enter Tryd.func58, Tryd.ntmps58
   go_wp2_with (first | ((with_reducible refine gate_dst (N := 4) rfl ?_); refine box_event ?hg (N := 4) ?hd (cs := #[.int .i64 0, .int .u64 0]) (t := 59) ?hr ?_; (case hd => rfl); (case hg => rfl); (case hr => first | (go_simp; done) | (go_simp; rfl)); intro gb688 hg w9 hbox hb; have BK688 := Aside0.mk (hbox); have GW688 := kG hg HB; have GE688 := kG hg HB; replace HB := kH HB hb; clear hb hbox hg) | ((with_reducible refine gate_callee (f := 49) rfl ?_); refine goesL_ (some 13) rfl rfl Tryd.func49 (by kernel_rfl) rfl #[.slice A0 l0.length c0, .int .i64 a1, .int .i64 64] rfl km ?_; (with_reducible refine (bits_Take.calls k _ _ l0 a1 64 t689 true _ ?side1 ?side2 A3.out).mono ?_); (case side1 => repeat (first | exact (Kd.C_below HR0.out HB.out) | (with_reducible refine Kd.C_alloc ?_ _) | (with_reducible refine Kd.C_drewN ?_ _) | (with_reducible refine Kd.C_drew ?_))); (case side2 => exact HC0.out); rintro e w' ⟨rfl, ⟨nd, rfl⟩⟩; refine ⟨_, rfl, ?_⟩; (try (rw [drewN_self w9]; generalize hq_ : World.drewN w9 _ = w9; have n0_ : Aside0 (w9.heap[gb688]? = some (.cells #[.int .i64 0, .int .u64 0] 59 (0, 0))) := ⟨by rw [← hq_]; exact (kb BK688)⟩; have n1_ : Aside0 (Below w.heap.size w w9) := ⟨by rw [← hq_]; exact (kl HB)⟩; clear BK688 HB hq_; have BK688 := n0_; have HB := n1_; clear n0_ n1_))) | ((with_reducible refine gate_callee (f := 49) rfl ?_); refine goesL_ (some 24) rfl rfl Tryd.func49 (by kernel_rfl) rfl #[.slice A0 l0.length c0, .int .i64 (wrap64 (a1 + 64)), .int .i64 64] rfl km ?_; (with_reducible refine (bits_Take.calls k _ _ l0 (wrap64 (a1 + 64)) 64 t691 false _ ?side1 ?side2 A5.out).mono ?_); (case side1 => repeat (first | exact (Kd.C_below HR0.out HB.out) | (with_reducible refine Kd.C_alloc ?_ _) | (with_reducible refine Kd.C_drewN ?_ _) | (with_reducible refine Kd.C_drew ?_))); (case side2 => exact HC0.out); rintro e w' ⟨rfl, ⟨nd, rfl⟩⟩; refine ⟨_, rfl, ?_⟩; (try (rw [drewN_self w9]; generalize hq_ : World.drewN w9 _ = w9; have n0_ : Aside0 (w9.heap[gb688]? = some (.cells #[.int .i64 0, .int .u64 0] 59 (0, 0))) := ⟨by rw [← hq_]; exact (kb BK688)⟩; have n1_ : Aside0 (Below w.heap.size w w9) := ⟨by rw [← hq_]; exact (kl HB)⟩; clear BK688 HB hq_; have BK688 := n0_; have HB := n1_; clear n0_ n1_)); have hcz10_0 : w9.cell? ⟨gb688, 0, none⟩ = some (.int .i64 0) := (blk_cell BK688.out 0).trans rfl; have hcz10_1 : w9.cell? ⟨gb688, 1, none⟩ = some (.int .u64 0) := (blk_cell BK688.out 1).trans rfl; have hfz10_0 := blk_frozen BK688.out 0; have hfz10_1 := blk_frozen BK688.out 1))
   refine bodyPost_ret (results_ctt rfl _ _ gb688 59 #[.int .i64 0, .int .u64 0] (0, 0) _ rfl (kb BK688) Tryd.underlying59 rfl (by kernel_rfl)) rfl ?_
   exact ⟨by first | rfl | (simp [errW_none, errW_some] <;> rfl) | (simp [*, errW_none, errW_some] <;> rfl), (kl HB)⟩
 ·replace c4 := Bool.eq_false_iff.mpr c4; subst c4
  have H1 : (some (0, 0, 0, some 2)) = some (r1, r2, r3, r4) := by rw [if_neg (show ¬ (false = true) by decide)] at H; exact H
  clear H; have H := H1; clear H1; simp only [Option.some.injEq, Prod.mk.injEq] at H; obtain ⟨rfl, rfl, rfl, rfl⟩ := H
  go_enter Tryd.func58, Tryd.ntmps58
  go_wp2_with (first | ((with_reducible refine gate_dst (N := 4) rfl ?_); refine box_event ?hg (N := 4) ?hd (cs := #[.int .i64 0, .int .u64 0]) (t := 59) ?hr ?_; (case hd => rfl); (case hg => rfl); (case hr => first | (go_simp; done) | (go_simp; rfl)); intro gb688 hg w11 hbox hb; have BK688 := Aside0.mk (hbox); have GW688 := kG hg HB; have GE688 := kG hg HB; replace HB := kH HB hb; clear hb hbox hg) | ((with_reducible refine gate_callee (f := 49) rfl ?_); refine goesL_ (some 13) rfl rfl Tryd.func49 (by kernel_rfl) rfl #[.slice A0 l0.length c0, .int .i64 a1, .int .i64 64] rfl km ?_; (with_reducible refine (bits_Take.calls k _ _ l0 a1 64 t689 false _ ?side1 ?side2 A3.out).mono ?_); (case side1 => repeat (first | exact (Kd.C_below HR0.out HB.out) | (with_reducible refine Kd.C_alloc ?_ _) | (with_reducible refine Kd.C_drewN ?_ _) | (with_reducible refine Kd.C_drew ?_))); (case side2 => exact HC0.out); rintro e w' ⟨rfl, ⟨nd, rfl⟩⟩; refine ⟨_, rfl, ?_⟩; (try (rw [drewN_self w11]; generalize hq_ : World.drewN w11 _ = w11; have n0_ : Aside0 (w11.heap[gb688]? = some (.cells #[.int .i64 0, .int .u64 0] 59 (0, 0))) := ⟨by rw [← hq_]; exact (kb BK688)⟩; have n1_ : Aside0 (Below w.heap.size w w11) := ⟨by rw [← hq_]; exact (kl HB)⟩; clear BK688 HB hq_; have BK688 := n0_; have HB := n1_; clear n0_ n1_)); have hcz12_0 : w11.cell? ⟨gb688, 0, none⟩ = some (.int .i64 0) := (blk_cell BK688.out 0).trans rfl; have hcz12_1 : w11.cell? ⟨gb688, 1, none⟩ = some (.int .u64 0) := (blk_cell BK688.out 1).trans rfl; have hfz12_0 := blk_frozen BK688.out 0; have hfz12_1 := blk_frozen BK688.out 1))
  refine bodyPost_ret (results_ctt rfl _ _ gb688 59 #[.int .i64 0, .int .u64 0] (0, 0) _ rfl (kb BK688) Tryd.underlying59 rfl (by kernel_rfl)) rfl ?_
  exact ⟨by first | rfl | (simp [errW_none, errW_some] <;> rfl) | (simp [*, errW_none, errW_some] <;> rfl), (kl HB)⟩
end Go.Proofs.YtiahbcaoikoogaaDoor.All
end
