-- copied by a program of the session
import Derived.Test.YtiahbcaoikoogaaDoorKtAllx19
namespace Go.Proofs.YtiahbcaoikoogaaDoor.All
open Go.RowKit Go.Proofs.YtiahbcaoikoogaaDoorW.PrintWords Go.Proofs.YtiahbcaoikoogaaDoorW.PrintLast Go.Proofs.YtiahbcaoikoogaaDoorW.PrintMore
attribute [local go_sem] A2f A2g A2w A2x A18 A19 A2h A2i
set_option linter.unusedVariables false
set_option linter.unusedSimpArgs false
mutual
def A0k.l0 : Nat → List Int → List Int → Int → Option (List Int)
 | 0, _, _, _ => none
 | k + 1, x0, x3, x4 => if x4 < (x0.length : Int) then (if (Int.tmod x4 8) = 0 then (if x3.length < 140737488355328 then (A0k.j1 k x0 (x3 ++ [0]) x4) else (none)) else (A0k.j1 k x0 x3 x4)) else (some x3)
def A0k.j1 : Nat → List Int → List Int → Int → Option (List Int)
 | 0, _, _, _ => none
 | k + 1, x0, x3, x4 => if 0 ≤ x4 then (if x4 < (x0.length : Int) then (if (rd x0 x4) = 1 then (A0k.l1 k x0 x3 x4 128 0) else (A0k.l0 k x0 x3 (wrap64 (x4 + 1)))) else (none)) else (none)
def A0k.l1 : Nat → List Int → List Int → Int → Int → Int → Option (List Int)
 | 0, _, _, _, _, _ => none
 | k + 1, x0, x3, x4, x5, x6 => if x6 < (Int.tmod x4 8) then (A0k.l1 k x0 x3 x4 ((Int.tdiv x5 2) % 256) (wrap64 (x6 + 1))) else (if 0 ≤ (wrap64 ((x3.length : Int) - 1)) then (if (wrap64 ((x3.length : Int) - 1)) < (x3.length : Int) then (A0k.l0 k x0 (x3.set ((wrap64 ((x3.length : Int) - 1)) : Int).toNat (((rd x3 (wrap64 ((x3.length : Int) - 1))) + x5) % 256)) (wrap64 (x4 + 1))) else (none)) else (none))
end
def A0k.f (k : Nat) (l0 : List Int) : Option (List Int) := A0k.l0 k l0 ([] : List Int) 0
theorem A0k.mono_l : ∀ k, (∀ y0 y1 y2, LeO (A0k.l0 k y0 y1 y2) (A0k.l0 (k + 1) y0 y1 y2)) ∧ (∀ y0 y1 y2, LeO (A0k.j1 k y0 y1 y2) (A0k.j1 (k + 1) y0 y1 y2)) ∧ (∀ y0 y1 y2 y3 y4, LeO (A0k.l1 k y0 y1 y2 y3 y4) (A0k.l1 (k + 1) y0 y1 y2 y3 y4))
 | 0 => ⟨fun _ _ _ r h => by simp [A0k.l0] at h, fun _ _ _ r h => by simp [A0k.j1] at h, fun _ _ _ _ _ r h => by simp [A0k.l1] at h⟩
 | k + 1 => by
  obtain ⟨ih0, ih1, ih2⟩ := A0k.mono_l k
  refine ⟨?_, ?_, ?_⟩ <;> intros <;> (first | unfold A0k.l0 | unfold A0k.j1 | unfold A0k.l1) <;> (
   repeat' first
   | (with_reducible exact ih0 _ _ _)
   | (with_reducible exact ih1 _ _ _)
   | (with_reducible exact ih2 _ _ _ _ _)
   | (with_reducible exact LeO.refl _)
   | (with_reducible exact LeO.none _)
   | (with_reducible refine LeO.ite ?_ ?_)
   | (with_reducible refine LeO.bind ?_ (fun _ => ?_))
   | exact ih0 _ _ _
   | exact ih1 _ _ _
   | exact ih2 _ _ _ _ _
   | exact LeO.none _
   | refine LeO.ite ?_ ?_
   | refine LeO.bind ?_ (fun _ => ?_))
theorem A0k.mono : ∀ a0 k, LeO (A0k.f k a0) (A0k.f (k + 1) a0) := by
 intro a0 k
 obtain ⟨ih0, ih1, ih2⟩ := A0k.mono_l k
 unfold A0k.f
 repeat' first
   | (with_reducible exact ih0 _ _ _)
   | (with_reducible exact ih1 _ _ _)
   | (with_reducible exact ih2 _ _ _ _ _)
   | (with_reducible exact LeO.refl _)
   | (with_reducible exact LeO.none _)
   | (with_reducible refine LeO.ite ?_ ?_)
   | (with_reducible refine LeO.bind ?_ (fun _ => ?_))
   | exact ih0 _ _ _
   | exact ih1 _ _ _
   | exact ih2 _ _ _ _ _
   | exact LeO.none _
   | refine LeO.ite ?_ ?_
   | refine LeO.bind ?_ (fun _ => ?_)
set_option maxHeartbeats 8000000 in
set_option maxRecDepth 100000 in
theorem A0k.calls (k : Nat) (A0 : Option Addr) (c0 : Nat) (l0 : List Int) (r : List Int) (w : World) (hr0 : Kd.C (Kd.int .u8) w A0 l0.length l0) (hc0 : l0.length ≤ c0) (h : A0k.f k l0 = some r) :
  Calls Tryd.prog 51 #[.slice A0 l0.length c0] w fun e w' => ∃ ba : Value, e = .returned (ba) ∧ Kd.R (Kd.int .u8) 5 w' w.heap.size (fun _ => True) ba r ∧ Below w.heap.size w w' := by
 have bb := ak hr0; have bm := ak hc0; clear hr0 hc0; have HB := ak (Below.refl w.heap.size w); have H : (A0k.l0 k l0 ([] : List Int) 0) = some r := h; clear h; have H' := ak H; clear H
 go_enter Tryd.func51, Tryd.ntmps51
 go_wp2
 go_loopg [3, 4] k (fun kq v3 v4 w' => ∃ (al : List Int) (x4_1 : Int), v4 = .int .i64 x4_1 ∧ A0b (A0k.l0 kq l0 al x4_1 = some r) ∧ A0b (kq ≤ k) ∧ A0b (Kd.R (Kd.int .u8) 5 w' w.heap.size (fun _ => True) v3 al) ∧ A0b (Below w.heap.size w w'))
 case atStart => exact ⟨(([] : List Int)), (0), kE, H', ⟨Nat.le_refl _⟩, ⟨by first | exact Kd.R_nil _ _ _ _ _ | exact Kd.N_nil _ _ _ _ _ | exact Kd.V_nil _ _ _ _ _ | exact Kd.Q_nil _ _ _ _ _ | exact Kd.S_nil _ _ _ _ _⟩, ⟨(kl HB)⟩⟩
 case round =>
  clear H'; obtain ⟨al, x4_1, rfl, HA, au, HO_3, HB⟩ := hrel
  cases gk with
  | zero => exact absurd HA.out (by simp [A0k.l0])
  | succ k1 =>
   have H := HA.out; clear HA; simp only [A0k.l0] at H
   by_cases c2 : x4_1 < (l0.length : Int)
   ·rw [if_pos c2] at H; have av := decide_eq_true c2; clear c2; have aJ := ak H; clear H
    go_upto_if 15 with (fail)
    go_cut [3] (fun v3 wc => ∃ (kq : Nat) (ac : List Int), A0b (A0k.j1 kq l0 ac x4_1 = some r) ∧ A0b (kq ≤ k1) ∧ A0b (Kd.R (Kd.int .u8) 5 wc w.heap.size (fun _ => True) v3 ac) ∧ A0b (Below w.heap.size w wc))
    case first =>
     have H := aJ.out; clear aJ
     by_cases c4 : (Int.tmod x4_1 8) = 0
     ·rw [if_pos c4] at H; obtain ⟨am, aK⟩ := kqT c4; clear c4
      (first | rw [am] | (simp only [A11, A2c]; rw [am]) | skip)
      by_cases c5 : al.length < 140737488355328
      ·rw [if_pos c5] at H; have LMc5 := ak c5; clear c5; obtain ⟨a3, ag⟩ : ∃ y_ : List Int, y_ = (al ++ [0]) := ⟨_, rfl⟩
       replace H : (A0k.j1 k1 l0 a3 x4_1) = some r := by first | (rw [ag]; with_reducible exact H) | (have H2_ := (Option.bind_some _ _).symm.trans H; rw [ag]; with_reducible exact H2_) | (have H2_ := (Option.bind_some _ _).symm.trans H; with_reducible exact H2_) | with_reducible exact H | (rw [ag]; exact H) | exact H
       have a4 := ak ag; clear ag; have H' := ak H; clear H
       go_wp2_with (first | ((with_reducible refine A3d (b := .append) (xs := #[.tmp 16, .tmp 17]) rfl ?_); at_builtin; refine Kd.R_append (Kd.int .u8) (w0 := w) w.heap.size rfl (.tmp 16) (.tmp 17) 25 5 (.int .u8 0) 1 rfl Tryd.underlying25 info5 rfl (by decide) (by omega) u3 al 0 [.int .u8 0] (fun _ => True) (fun _ => False) rfl rfl ?aP (fun _ hk => hk.elim) ?aF ?aO ?aB ?aS ?aL ?_; (case aP => exact rfl); (case aB => exact (kl HB)); (case aF => exact (fun _ _ => trivial)); (case aO => exact (kr HO_3)); (case aS => exact (A0n (kl HB))); (case aL => have := LMc5.out; omega); intro bi w6 ho hb hg hat; rw [← a4.out] at ho; have bc := ak (hb); have be := ak (ho); clear HB; clear HO_3; have HB := bc; have a5 := be; clear bc be; clear ho hb hg hat))
       go_meet
       case rel => exact ⟨_, (a3), H', ⟨by have := au.out; first | omega | exact Nat.le_refl _⟩, ⟨kr a5⟩, ⟨(kl HB)⟩⟩
      ·rw [if_neg c5] at H
       exact absurd H (by simp)
     ·rw [if_neg c4] at H; obtain ⟨am, aK⟩ := kqF c4
      (first | rw [am] | (simp only [A11, A2c]; rw [am]) | skip)
      have H' := ak H; clear H
      go_wp2
      go_meet
      case rel => exact ⟨_, (al), H', ⟨by have := au.out; first | omega | exact Nat.le_refl _⟩, ⟨kr HO_3⟩, ⟨(kl HB)⟩⟩
    case rest =>
     clear aJ; (try clear c2); (try clear av); obtain ⟨kq, ac, HA, a2, HO_3, HB⟩ := hcut
     cases kq with
     | zero => exact absurd HA.out (by simp [A0k.j1])
     | succ aM =>
      have H := HA.out; clear HA; simp only [A0k.j1] at H
      by_cases c7 : 0 ≤ x4_1
      ·rw [if_pos c7] at H; have aN := decide_eq_true c7; clear c7
       by_cases c8 : x4_1 < (l0.length : Int)
       ·rw [if_pos c8] at H; have aQ := decide_eq_true c8; clear c8
        by_cases c9 : (rd l0 x4_1) = 1
        ·rw [if_pos c9] at H; obtain ⟨a6, a7⟩ := kqT c9; clear c9; have H' := ak H; clear H; have ah : 0 ≤ (x4_1 : Int) := kD; have af : x4_1 < (l0.length : Int) := kD; obtain ⟨a8, aw, aa⟩ := Kd.A33 bb.out x4_1 ah af
         cases aw
         replace aa := (HB.out.cell (World.block_lt_of_cell? w _ aa)).trans aa; replace ah := eq_true ah
         (try (have ae := af; simp only [List.length_drop, List.length_take] at ae; replace ae := eq_true ae)); replace af := eq_true af
         go_wp2
         go_loopg [5, 6] aM (fun kq v5 v6 w' => ∃ (ai : Int) (an : Int), v5 = .int .u8 ai ∧ v6 = .int .i64 an ∧ A0b (A0k.l1 kq l0 ac x4_1 ai an = some r) ∧ A0b (kq ≤ aM) ∧ A0b (Kd.R (Kd.int .u8) 5 w' w.heap.size (fun _ => True) u3 ac) ∧ A0b (Below w.heap.size w w'))
         case atStart => exact ⟨(128), (0), kE, kE, H', ⟨Nat.le_refl _⟩, ⟨kr HO_3⟩, ⟨(kl HB)⟩⟩
         case round =>
          clear H'; (try clear c2); (try clear av); (try clear c7); (try clear aN); (try clear c8); (try clear aQ); (try clear c9); (try clear a6); (try clear a7); (try clear aa); (try clear ah); (try clear af); obtain ⟨ai, an, rfl, rfl, HA, aE, HO_3, HB⟩ := hrel
          cases gk with
          | zero => exact absurd HA.out (by simp [A0k.l1])
          | succ k3 =>
           have H := HA.out; clear HA; simp only [A0k.l1] at H
           by_cases c10 : an < (Int.tmod x4_1 8)
           ·rw [if_pos c10] at H; have a9 := decide_eq_true c10; clear c10; have H' := ak H; clear H
            go_wp2
            go_roundg k3
            case measure => have := au.out; have := a2.out; have := aE.out; omega
            case rel => exact ⟨((Int.tdiv ai 2) % 256), (wrap64 (an + 1)), kE, kE, H', ⟨by have := au.out; have := a2.out; have := aE.out; omega⟩, ⟨kr HO_3⟩, ⟨(kl HB)⟩⟩
           ·rw [if_neg c10] at H; have a9 := decide_eq_false c10; clear c10; obtain ⟨ad, ao⟩ : ∃ j_ : Int, (wrap64 ((ac.length : Int) - 1)) = j_ := ⟨_, rfl⟩
            replace H : (if 0 ≤ (ad) then (if (ad) < (ac.length : Int) then (A0k.l0 k3 l0 (ac.set ((ad) : Int).toNat (((rd ac (ad)) + ai) % 256)) (wrap64 (x4_1 + 1))) else (none)) else (none)) = some r := by first | (rw [ao] at H; exact H) | (simp only [ao] at H ⊢; exact H)
            have aR : (IntKind.i64.wrap ((ac.length : Int) - 1)) = ad := (A11 _).trans ao
            by_cases aG : 0 ≤ (ad)
            ·rw [if_pos aG] at H; have bf := decide_eq_true aG; clear aG
             by_cases aH : (ad) < (ac.length : Int)
             ·rw [if_pos aH] at H; have bg := decide_eq_true aH; clear aH; obtain ⟨ax, aj⟩ : ∃ y_ : List Int, y_ = (ac.set ((ad) : Int).toNat (((rd ac (ad)) + ai) % 256)) := ⟨_, rfl⟩
              replace H : (A0k.l0 k3 l0 ax (wrap64 (x4_1 + 1))) = some r := by first | (rw [aj]; with_reducible exact H) | (have H2_ := (Option.bind_some _ _).symm.trans H; rw [aj]; with_reducible exact H2_) | (have H2_ := (Option.bind_some _ _).symm.trans H; with_reducible exact H2_) | with_reducible exact H | (rw [aj]; exact H) | exact H
              have aA := ak aj; clear aj; have H' := ak H; clear H; obtain ⟨bj, aT, aU⟩ := Kd.A1w HO_3.out; subst aU; have ay : 0 ≤ ((ad) : Int) := kD; have aq : (ad) < (ac.length : Int) := kD; obtain ⟨bh, aV, ar⟩ := Kd.A33 (Kd.A06 HO_3.out).2.2 (ad) ay aq
              cases aV
              replace ay := eq_true ay
              (try (have ap := aq; simp only [List.length_drop, List.length_take] at ap; replace ap := eq_true ap)); replace aq := eq_true aq
              have aW : 0 ≤ ((ad) : Int) := kD; have aI : ((ad) : Int) < ((ac.length : Int) : Int) := kD; obtain ⟨az, bk, aC, aD, gl14, cl14, HG14⟩ := Kd.R_form HO_3.out (by omega)
              (first | cases aC | (injection aC with ea_ en_ ec_; (first | subst ea_ | (injection ea_ with ea_; subst ea_)); subst ec_; clear en_))
              have GB14 := ak aD; have GG14 := ak HG14; clear aD gl14 HG14
              (first | simp only [add_plain] at ar | skip)
              obtain ⟨aX, aY⟩ := Kd.R_celln 0 HO_3.out ((ad) : Int) aW aI; replace aW := eq_true aW
              (try (have a1 := aI; simp only [List.length_drop, List.length_take] at a1; replace a1 := eq_true a1)); replace aI := eq_true aI
              have HP16 := Kd.R_putg HO_3.out ((ad) : Int) (((rd ac (ad)) + ai) % 256)
              go_wp2_with (first | ((with_reducible refine gate_store (t := 5) (p := 44) rfl ?_); refine store_event (t := 5) (p := 44) (v := ?vo_w17) (w1 := (wr.setCell ⟨az, ((ad) : Int).toNat, none⟩ (.int .u8 (((rd ac (ad)) + ai) % 256)))) ?hg ?ho ?hn ?hr ?_; (case ho => rfl); (case hg => rfl); (case hn => rfl); (case hr => first | (go_simp; done) | (go_simp; rfl)); intro aZ hw; have hg : wr.grownBy aZ (some az) := (by rw [hw]; exact HP16.2); have hp_ : Kd.R (Kd.int .u8) 5 aZ w.heap.size (fun _ => True) (.slice (some ⟨az, 0, none⟩) ac.length aT) ax := (by rw [hw, aA.out]; exact HP16.1); clear HP16; replace HO_3 := ak (hp_); replace HB := ak ((by rw [hw]; exact A0i (HB.out) GB14.out : Below w.heap.size w aZ)); clear hg hw hp_))
              go_roundg k3
              case measure => have := au.out; have := a2.out; have := aE.out; omega
              case rel => exact ⟨(ax), (wrap64 (x4_1 + 1)), kE, H', ⟨by have := au.out; have := a2.out; have := aE.out; omega⟩, ⟨kr HO_3⟩, ⟨(kl HB)⟩⟩
             ·rw [if_neg aH] at H
              exact absurd H (by simp)
            ·rw [if_neg aG] at H
             exact absurd H (by simp)
        ·rw [if_neg c9] at H; obtain ⟨a6, a7⟩ := kqF c9; have H' := ak H; clear H; have ah : 0 ≤ (x4_1 : Int) := kD; have af : x4_1 < (l0.length : Int) := kD; obtain ⟨a8, aw, aa⟩ := Kd.A33 bb.out x4_1 ah af
         cases aw
         replace aa := (HB.out.cell (World.block_lt_of_cell? w _ aa)).trans aa; replace ah := eq_true ah
         (try (have ae := af; simp only [List.length_drop, List.length_take] at ae; replace ae := eq_true ae)); replace af := eq_true af
         go_wp2
         go_roundg aM
         case measure => have := au.out; have := a2.out; omega
         case rel => exact ⟨(ac), (wrap64 (x4_1 + 1)), kE, H', ⟨by have := au.out; have := a2.out; omega⟩, ⟨kr HO_3⟩, ⟨(kl HB)⟩⟩
       ·rw [if_neg c8] at H
        exact absurd H (by simp)
      ·rw [if_neg c7] at H
       exact absurd H (by simp)
   ·rw [if_neg c2] at H; have av := decide_eq_false c2; clear c2; obtain rfl := Option.some.inj H
    go_wp2
    go_ret
    exact ⟨_, kF, by (with_reducible repeat (first | apply Kd.A04 | apply Kd.A05 | apply Kd.A0z)); exact HO_3.out, (kl HB)⟩
end Go.Proofs.YtiahbcaoikoogaaDoor.All
