-- copied by a program of the session
import Derived.Test.YtiahbcaoikoogaaDoorProg
import Derived.Test.YtiahbcaoikoogaaDoorKtM0
import Derived.Below
import Derived.Deep.Draws
import Derived.Deep.AppendLies
import Derived.Maps.AppendAt
import Derived.OwnWalk
import Derived.Laws.BytesArg
import Derived.Laws.MakeOwn
import Derived.Laws.OwnMore
import Derived.Deep.OwnRows
import Derived.Tactics
import Derived.Lib.ConvBytes
import Derived.Laws.Slices
import Derived.WalkKit
import Derived.KernelRfl
import Derived.RowKit3
import Derived.Deep.LoopGhost
import Derived.Deep.QuietTactic
import Derived.BigQuiet
import Derived.WideLaws
import Derived.Deep.DeepCutAuto
import Derived.Deep.CutBlock
import Derived.Deep.RegionHeld3
import Derived.Laws.Rows
import Derived.Lib.AppendStr
import Derived.ArgAppend
import Derived.Laws.IdiomCopy
import Derived.OrdersHeld
import Derived.Laws.BitsLemmas
import Derived.RowKit
section
namespace Go.Proofs.YtiahbcaoikoogaaDoor.All
open Go.RowKit Go.Proofs.YtiahbcaoikoogaaDoorW.PrintWords Go.Proofs.YtiahbcaoikoogaaDoorW.PrintLast Go.Proofs.YtiahbcaoikoogaaDoorW.PrintMore
attribute [local go_sem] A2f A2g A2w A2x A18 A19 A2h A2i
set_option linter.unusedVariables false
set_option linter.unusedSimpArgs false
theorem info5 : (Tryd.prog.info? 5).map (fun i => (i.zero, i.size, i.bytes)) = some (some (.int .u8 0), 1, 1) := by kernel_rfl
structure S59 where
 f0 : Int
 f1 : Int
def z59 : S59 := ⟨(0 : Int), (0 : Int)⟩
def k59 : Kd S59 := Kd.iso (Kd.pair (Kd.int .i64) (Kd.int .u64)) (fun x : S59 => (x.f0, x.f1))
theorem k59_open {w : World} {x : S59} {cs : List Value} (h : k59.K w x cs) : cs = [.int .i64 x.f0, .int .u64 x.f1] := by
 obtain ⟨_, _, rfl, rfl, rfl⟩ := h
 exact rfl
theorem k59_mk (w : World) (x : S59)  : k59.K w x [.int .i64 x.f0, .int .u64 x.f1] := ⟨[.int .i64 x.f0], [.int .u64 x.f1], rfl, rfl, rfl⟩
def A1z (xs : List S59) (i : Int) : S59 := xs.getD i.toNat z59
theorem at_T59 {w : World} {A : Option Addr} {n : Nat} {xs : List S59} (h : Kd.C k59 w A n xs) (i : Int) (h0 : 0 ≤ i) (h1 : i < n) : ∃ ad , A = some ad ∧ w.cell? (ad.add (i.toNat * 2)) = some (.int .i64 (A1z xs i).f0) ∧ w.cell? ⟨(ad.add (i.toNat * 2)).block, (ad.add (i.toNat * 2)).off + 1, none⟩ = some (.int .u64 (A1z xs i).f1) := by
 obtain ⟨ad, c, e, _, hK, hc0⟩ := Kd.C_get h z59 i h0 h1
 have hc : ∀ j u, c[j]? = some u → w.cell? (ad.add (i.toNat * 2 + j)) = some u := hc0
 obtain rfl := k59_open hK
 exact ⟨ad, e, hc 0 _ rfl, by rw [← add_field _ _ 1 (by omega)]; exact hc 1 _ rfl⟩
theorem eqA24 (d : Nat) (w : World) (x0 y0 : Int) (x1 y1 : Int) (x2 y2 : Int) :
    (Op.equalIn (d + 2) 24 (.agg #[.int .u64 x0, .int .i64 x1, .int .i64 x2]) (.agg #[.int .u64 y0, .int .i64 y1, .int .i64 y2])).run Tryd.prog w = .ok (x0 == y0 && (x1 == y1 && (x2 == y2))) w := by
  refine eqA_of Tryd.underlying24 (by kernel_rfl) ?_
  refine A3s (by rfl) (by go_simp; rfl) (by go_simp; rfl) (by go_simp) ?_
  refine A3s (by rfl) (by go_simp; rfl) (by go_simp; rfl) (by go_simp) ?_
  exact eqf_last (by rfl) (by go_simp; rfl) (by go_simp; rfl) (by go_simp)
theorem eqA53 (d : Nat) (w : World) (x0 y0 : Int) (x1 y1 : Int) (x2 y2 : Int) (x3 y3 : Int) (x4 y4 : Int) (x5 y5 : Int) (x6 y6 : Int) (x7 y7 : Int) :
    (Op.equalIn (d + 3) 53 (.agg #[.int .i64 x0, .int .i64 x1, .int .i64 x2, .int .u64 x3, .int .u64 x4, .int .u64 x5, .int .i64 x6, .int .i64 x7]) (.agg #[.int .i64 y0, .int .i64 y1, .int .i64 y2, .int .u64 y3, .int .u64 y4, .int .u64 y5, .int .i64 y6, .int .i64 y7])).run Tryd.prog w = .ok (x0 == y0 && (x1 == y1 && (x2 == y2 && (x3 == y3 && (x4 == y4 && ((x5 == y5 && (x6 == y6 && (x7 == y7))))))))) w := by
  refine eqA_of Tryd.underlying53 (by kernel_rfl) ?_
  refine A3s (by rfl) (by go_simp; rfl) (by go_simp; rfl) (by go_simp) ?_
  refine A3s (by rfl) (by go_simp; rfl) (by go_simp; rfl) (by go_simp) ?_
  refine A3s (by rfl) (by go_simp; rfl) (by go_simp; rfl) (by go_simp) ?_
  refine A3s (by rfl) (by go_simp; rfl) (by go_simp; rfl) (by go_simp) ?_
  refine A3s (by rfl) (by go_simp; rfl) (by go_simp; rfl) (by go_simp) ?_
  exact eqf_last (by rfl) (by go_simp) (by go_simp) (eqA24 (d + 0) w _ _ _ _ _ _)
theorem eqA27 (d : Nat) (w : World) (x0 y0 : Int) (x1 y1 : Int) (x2 y2 : Int) :
    (Op.equalIn (d + 2) 27 (.agg #[.int .u64 x0, .int .i64 x1, .int .i64 x2]) (.agg #[.int .u64 y0, .int .i64 y1, .int .i64 y2])).run Tryd.prog w = .ok (x0 == y0 && (x1 == y1 && (x2 == y2))) w := by
  refine eqA_of Tryd.underlying27 (by kernel_rfl) ?_
  refine A3s (by rfl) (by go_simp; rfl) (by go_simp; rfl) (by go_simp) ?_
  refine A3s (by rfl) (by go_simp; rfl) (by go_simp; rfl) (by go_simp) ?_
  exact eqf_last (by rfl) (by go_simp; rfl) (by go_simp; rfl) (by go_simp)
theorem eqA55 (d : Nat) (w : World) (x0 y0 : Int) (x1 y1 : Int) (x2 y2 : Int) (x3 y3 : Int) (x4 y4 : Int) (x5 y5 : Int) (x6 y6 : Int) (x7 y7 : Int) :
    (Op.equalIn (d + 3) 55 (.agg #[.int .i64 x0, .int .i64 x1, .int .i64 x2, .int .u64 x3, .int .u64 x4, .int .u64 x5, .int .i64 x6, .int .i64 x7]) (.agg #[.int .i64 y0, .int .i64 y1, .int .i64 y2, .int .u64 y3, .int .u64 y4, .int .u64 y5, .int .i64 y6, .int .i64 y7])).run Tryd.prog w = .ok (x0 == y0 && (x1 == y1 && (x2 == y2 && (x3 == y3 && (x4 == y4 && ((x5 == y5 && (x6 == y6 && (x7 == y7))))))))) w := by
  refine eqA_of Tryd.underlying55 (by kernel_rfl) ?_
  refine A3s (by rfl) (by go_simp; rfl) (by go_simp; rfl) (by go_simp) ?_
  refine A3s (by rfl) (by go_simp; rfl) (by go_simp; rfl) (by go_simp) ?_
  refine A3s (by rfl) (by go_simp; rfl) (by go_simp; rfl) (by go_simp) ?_
  refine A3s (by rfl) (by go_simp; rfl) (by go_simp; rfl) (by go_simp) ?_
  refine A3s (by rfl) (by go_simp; rfl) (by go_simp; rfl) (by go_simp) ?_
  exact eqf_last (by rfl) (by go_simp) (by go_simp) (eqA27 (d + 0) w _ _ _ _ _ _)
theorem eqA59 (d : Nat) (w : World) (x0 y0 : Int) (x1 y1 : Int) :
    (Op.equalIn (d + 2) 59 (.agg #[.int .i64 x0, .int .u64 x1]) (.agg #[.int .i64 y0, .int .u64 y1])).run Tryd.prog w = .ok (x0 == y0 && (x1 == y1)) w := by
  refine eqA_of Tryd.underlying59 (by kernel_rfl) ?_
  refine A3s (by rfl) (by go_simp; rfl) (by go_simp; rfl) (by go_simp) ?_
  exact eqf_last (by rfl) (by go_simp; rfl) (by go_simp; rfl) (by go_simp)
end Go.Proofs.YtiahbcaoikoogaaDoor.All
end
section
namespace Go.Proofs.YtiahbcaoikoogaaDoor.All
open Go.RowKit Go.Proofs.YtiahbcaoikoogaaDoorW.PrintWords Go.Proofs.YtiahbcaoikoogaaDoorW.PrintLast Go.Proofs.YtiahbcaoikoogaaDoorW.PrintMore
attribute [local go_sem] A2f A2g A2w A2x A18 A19 A2h A2i
set_option linter.unusedVariables false
set_option linter.unusedSimpArgs false
mutual
def A08.l0 : Nat → List Int → List Int → Int → Option (List Int)
 | 0, _, _, _ => none
 | k + 1, x0, x3, x4 => if x4 < (x0.length : Int) then (if 0 ≤ x4 then (A08.l1 k x0 x3 x4 (rd x0 x4) 0) else (none)) else (some x3)
def A08.l1 : Nat → List Int → List Int → Int → Int → Int → Option (List Int)
 | 0, _, _, _, _, _ => none
 | k + 1, x0, x3, x4, x5, x6 => if x6 < 8 then (if x3.length < 140737488355328 then (A08.l1 k x0 (x3 ++ [(Int.tdiv x5 128) % 256]) x4 ((x5 * 2) % 256) (wrap64 (x6 + 1))) else (none)) else (A08.l0 k x0 x3 (wrap64 (x4 + 1)))
end
def A08.f (k : Nat) (l0 : List Int) : Option (List Int) := A08.l0 k l0 ([] : List Int) 0
set_option maxHeartbeats 8000000 in
set_option maxRecDepth 100000 in
theorem A08.calls (k : Nat) (A0 : Option Addr) (c0 : Nat) (l0 : List Int) (r : List Int) (w : World) (hr0 : Kd.C (Kd.int .u8) w A0 l0.length l0) (hc0 : l0.length ≤ c0) (h : A08.f k l0 = some r) :
  Calls Tryd.prog 23 #[.slice A0 l0.length c0] w fun e w' => ∃ aw : Value, e = .returned (aw) ∧ Kd.R (Kd.int .u8) 5 w' w.heap.size (fun _ => True) aw r ∧ Below w.heap.size w w' := by
 have a1 := ak hr0; have a3 := ak hc0; clear hr0 hc0; have HB := ak (Below.refl w.heap.size w); have H : (A08.l0 k l0 ([] : List Int) 0) = some r := h; clear h; have H' := ak H; clear H
 go_enter Tryd.func23, Tryd.ntmps23
 go_wp2
 go_loopg [3, 4] k (fun kq v3 v4 w' => ∃ (ai : List Int) (x4_1 : Int), v4 = .int .i64 x4_1 ∧ A0b (A08.l0 kq l0 ai x4_1 = some r) ∧ A0b (kq ≤ k) ∧ A0b (Kd.R (Kd.int .u8) 5 w' w.heap.size (fun _ => True) v3 ai) ∧ A0b (Below w.heap.size w w'))
 case atStart => exact ⟨(([] : List Int)), (0), kE, H', ⟨Nat.le_refl _⟩, ⟨by first | exact Kd.R_nil _ _ _ _ _ | exact Kd.N_nil _ _ _ _ _ | exact Kd.V_nil _ _ _ _ _ | exact Kd.Q_nil _ _ _ _ _ | exact Kd.S_nil _ _ _ _ _⟩, ⟨(kl HB)⟩⟩
 case round =>
  clear H'; obtain ⟨ai, x4_1, rfl, HA, ap, HO_3, HB⟩ := hrel
  cases gk with
  | zero => exact absurd HA.out (by simp [A08.l0])
  | succ k1 =>
   have H := HA.out; clear HA; simp only [A08.l0] at H
   by_cases c2 : x4_1 < (l0.length : Int)
   ·rw [if_pos c2] at H; have al := decide_eq_true c2; clear c2
    by_cases c3 : 0 ≤ x4_1
    ·rw [if_pos c3] at H; have ar := decide_eq_true c3; clear c3; have H' := ak H; clear H; have aj : 0 ≤ (x4_1 : Int) := kD; have ag : x4_1 < (l0.length : Int) := kD; obtain ⟨ax, au, aa⟩ := Kd.A33 a1.out x4_1 aj ag
     cases au
     replace aa := (HB.out.cell (World.block_lt_of_cell? w _ aa)).trans aa; replace aj := eq_true aj
     (try (have ah := ag; simp only [List.length_drop, List.length_take] at ah; replace ah := eq_true ah)); replace ag := eq_true ag
     go_wp2
     go_loopg [3, 5, 6] k1 (fun kq v3 v5 v6 w' => ∃ (af : List Int) (ac : Int) (ad : Int), v5 = .int .u8 ac ∧ v6 = .int .i64 ad ∧ A0b (A08.l1 kq l0 af x4_1 ac ad = some r) ∧ A0b (kq ≤ k1) ∧ A0b (Kd.R (Kd.int .u8) 5 w' w.heap.size (fun _ => True) v3 af) ∧ A0b (Below w.heap.size w w'))
     case atStart => exact ⟨(ai), (rd l0 x4_1), (0), kE, kE, H', ⟨Nat.le_refl _⟩, ⟨kr HO_3⟩, ⟨(kl HB)⟩⟩
     case round =>
      clear H'; (try clear c2); (try clear al); (try clear c3); (try clear ar); (try clear aa); (try clear aj); (try clear ag); obtain ⟨af, ac, ad, rfl, rfl, HA, aq, HO_3, HB⟩ := hrel
      cases gk with
      | zero => exact absurd HA.out (by simp [A08.l1])
      | succ k2 =>
       have H := HA.out; clear HA; simp only [A08.l1] at H
       by_cases c4 : ad < 8
       ·rw [if_pos c4] at H; have av : decide (ad < 8) = true := decide_eq_true c4; clear c4
        by_cases c5 : af.length < 140737488355328
        ·rw [if_pos c5] at H; have LMc5 := ak c5; clear c5; obtain ⟨am, ae⟩ : ∃ y_ : List Int, y_ = (af ++ [(Int.tdiv ac 128) % 256]) := ⟨_, rfl⟩
         replace H : (A08.l1 k2 l0 am x4_1 ((ac * 2) % 256) (wrap64 (ad + 1))) = some r := by first | (rw [ae]; with_reducible exact H) | (have H2_ := (Option.bind_some _ _).symm.trans H; rw [ae]; with_reducible exact H2_) | (have H2_ := (Option.bind_some _ _).symm.trans H; with_reducible exact H2_) | with_reducible exact H | (rw [ae]; exact H) | exact H
         have an := ak ae; clear ae; have H' := ak H; clear H
         go_wp2_with (first | ((with_reducible refine A3d (b := .append) (xs := #[.tmp 21, .tmp 24]) rfl ?_); at_builtin; refine Kd.R_append (Kd.int .u8) (w0 := w) w.heap.size rfl (.tmp 21) (.tmp 24) 25 5 (.int .u8 0) 1 rfl Tryd.underlying25 info5 rfl (by decide) (by omega) u3 af ((Int.tdiv ac 128) % 256) [.int .u8 ((Int.tdiv ac 128) % 256)] (fun _ => True) (fun _ => False) rfl rfl ?aP (fun _ hk => hk.elim) ?aF ?aO ?aB ?aS ?aL ?_; (case aP => exact rfl); (case aB => exact (kl HB)); (case aF => exact (fun _ _ => trivial)); (case aO => exact (kr HO_3)); (case aS => exact (A0n (kl HB))); (case aL => have := LMc5.out; omega); intro a2 w6 ho hb hg hat; rw [← an.out] at ho; have ay := ak (hb); have az := ak (ho); clear HB; clear HO_3; have HB := ay; have ao := az; clear ay az; clear ho hb hg hat))
         go_roundg k2
         case measure => have := ap.out; have := aq.out; omega
         case rel => exact ⟨(am), ((ac * 2) % 256), (wrap64 (ad + 1)), kE, kE, H', ⟨by have := ap.out; have := aq.out; omega⟩, ⟨kr ao⟩, ⟨(kl HB)⟩⟩
        ·rw [if_neg c5] at H
         exact absurd H (by simp)
       ·rw [if_neg c4] at H; have av : decide (ad < 8) = false := decide_eq_false c4; clear c4; have H' := ak H; clear H
        go_wp2
        go_roundg k2
        case measure => have := ap.out; have := aq.out; omega
        case rel => exact ⟨(af), (wrap64 (x4_1 + 1)), kE, H', ⟨by have := ap.out; have := aq.out; omega⟩, ⟨kr HO_3⟩, ⟨(kl HB)⟩⟩
    ·rw [if_neg c3] at H
     exact absurd H (by simp)
   ·rw [if_neg c2] at H; have al := decide_eq_false c2; clear c2; obtain rfl := Option.some.inj H
    go_wp2
    go_ret
    exact ⟨_, kF, by (with_reducible repeat (first | apply Kd.A04 | apply Kd.A05 | apply Kd.A0z)); exact HO_3.out, (kl HB)⟩
end Go.Proofs.YtiahbcaoikoogaaDoor.All
end
section
namespace Go.Proofs.YtiahbcaoikoogaaDoor.All
open Go.RowKit Go.Proofs.YtiahbcaoikoogaaDoorW.PrintWords Go.Proofs.YtiahbcaoikoogaaDoorW.PrintLast Go.Proofs.YtiahbcaoikoogaaDoorW.PrintMore
attribute [local go_sem] A2f A2g A2w A2x A18 A19 A2h A2i
set_option linter.unusedVariables false
set_option linter.unusedSimpArgs false
def A27.f (k : Nat) (l0 : List Int) (a1 : Int) : Option (List Int) := (A08.f k l0).bind fun aa => (if a1 < 0 then (some ([] : List Int)) else (if a1 > (aa.length : Int) then (some ([] : List Int)) else (if 0 ≤ a1 then (if a1 ≤ (aa.length : Int) then (some (aa.drop (a1 : Int).toNat)) else (none)) else (none))))
set_option maxHeartbeats 8000000 in
set_option maxRecDepth 100000 in
theorem A27.calls (k : Nat) (A0 : Option Addr) (c0 : Nat) (l0 : List Int) (a1 : Int) (r : List Int) (w : World) (hr0 : Kd.C (Kd.int .u8) w A0 l0.length l0) (hc0 : l0.length ≤ c0) (h : A27.f k l0 a1 = some r) :
  Calls Tryd.prog 18 #[.slice A0 l0.length c0, .int .i64 a1] w fun e w' => ∃ a3 : Value, e = .returned (a3) ∧ Kd.Q (Kd.int .u8) 5 w' w.heap.size (fun _ => True) a3 r ∧ Below w.heap.size w w' := by
 have aw := ak hr0; have ax := ak hc0; clear hr0 hc0; have HB := ak (Below.refl w.heap.size w); have H : ((A08.f k l0).bind fun aa => (if a1 < 0 then (some ([] : List Int)) else (if a1 > (aa.length : Int) then (some ([] : List Int)) else (if 0 ≤ a1 then (if a1 ≤ (aa.length : Int) then (some (aa.drop (a1 : Int).toNat)) else (none)) else (none))))) = some r := h; clear h; replace H := bkH H; obtain ⟨aa, A3, H⟩ := H
 by_cases c4 : a1 < 0
 ·rw [if_pos c4] at H; have ay : decide (a1 < 0) = true := decide_eq_true c4; clear c4; obtain rfl := Option.some.inj H
  go_enter Tryd.func18, Tryd.ntmps18
  go_wp2_with (first | ((with_reducible refine A0h (f := 23) rfl ?_); refine A1b (some 7) rfl rfl Tryd.func23 (by kernel_rfl) rfl #[.slice A0 l0.length c0] rfl km ?_; (with_reducible refine (A08.calls k _ _ l0 aa _ ?ad ?ae A3.out).mono ?_); (case ad => repeat (first | exact aw.out | (with_reducible refine Kd.A1e ?_ _) | (with_reducible refine Kd.A1d ?_ _) | (with_reducible refine Kd.A1v ?_))); (case ae => exact ax.out); rintro e w5 ⟨ar, rfl, ho0, hb⟩; refine ⟨_, rfl, ?_⟩; have ac := ak (Kd.A1t ho0 (A0n (kl HB))); replace HB := kH HB hb; (try clear hb); (try clear ho0)))
  go_ret
  exact ⟨_, kF, Kd.Q_of_R (by first | exact Kd.R_nil _ _ _ _ _ | exact Kd.N_nil _ _ _ _ _ | exact Kd.V_nil _ _ _ _ _ | exact Kd.Q_nil _ _ _ _ _ | exact Kd.S_nil _ _ _ _ _), (kl HB)⟩
 ·rw [if_neg c4] at H; have ay : decide (a1 < 0) = false := decide_eq_false c4; clear c4
  by_cases c6 : a1 > (aa.length : Int)
  ·rw [if_pos c6] at H; have az : decide ((aa.length : Int) < a1) = true := decide_eq_true c6; clear c6; obtain rfl := Option.some.inj H
   go_enter Tryd.func18, Tryd.ntmps18
   go_wp2_with (first | ((with_reducible refine A0h (f := 23) rfl ?_); refine A1b (some 7) rfl rfl Tryd.func23 (by kernel_rfl) rfl #[.slice A0 l0.length c0] rfl km ?_; (with_reducible refine (A08.calls k _ _ l0 aa _ ?ad ?ae A3.out).mono ?_); (case ad => repeat (first | exact aw.out | (with_reducible refine Kd.A1e ?_ _) | (with_reducible refine Kd.A1d ?_ _) | (with_reducible refine Kd.A1v ?_))); (case ae => exact ax.out); rintro e w7 ⟨ar, rfl, ho0, hb⟩; refine ⟨_, rfl, ?_⟩; have ac := ak (Kd.A1t ho0 (A0n (kl HB))); replace HB := kH HB hb; (try clear hb); (try clear ho0); obtain ⟨aE, aF, a8⟩ := Kd.A1w ac.out; subst a8))
   go_ret
   exact ⟨_, kF, Kd.Q_of_R (by first | exact Kd.R_nil _ _ _ _ _ | exact Kd.N_nil _ _ _ _ _ | exact Kd.V_nil _ _ _ _ _ | exact Kd.Q_nil _ _ _ _ _ | exact Kd.S_nil _ _ _ _ _), (kl HB)⟩
  ·rw [if_neg c6] at H; have az : decide ((aa.length : Int) < a1) = false := decide_eq_false c6; clear c6
   by_cases c9 : 0 ≤ a1
   ·rw [if_pos c9] at H; have a9 := eq_true c9; have aA := decide_eq_true c9; clear c9
    by_cases c10 : a1 ≤ (aa.length : Int)
    ·rw [if_pos c10] at H; have a4 := eq_true c10; have a5 := decide_eq_true c10; clear c10; obtain ⟨ag, af⟩ : ∃ y_ : List Int, y_ = (aa.drop (a1 : Int).toNat) := ⟨_, rfl⟩
     replace H : (some ag) = some r := by first | (rw [af]; with_reducible exact H) | (have H2_ := (Option.bind_some _ _).symm.trans H; rw [af]; with_reducible exact H2_) | (have H2_ := (Option.bind_some _ _).symm.trans H; with_reducible exact H2_) | with_reducible exact H | (rw [af]; exact H) | exact H
     have al := ak af; clear af; obtain rfl := Option.some.inj H
     go_enter Tryd.func18, Tryd.ntmps18
     go_wp2_with (first | ((with_reducible refine A0h (f := 23) rfl ?_); refine A1b (some 7) rfl rfl Tryd.func23 (by kernel_rfl) rfl #[.slice A0 l0.length c0] rfl km ?_; (with_reducible refine (A08.calls k _ _ l0 aa _ ?ad ?ae A3.out).mono ?_); (case ad => repeat (first | exact aw.out | (with_reducible refine Kd.A1e ?_ _) | (with_reducible refine Kd.A1d ?_ _) | (with_reducible refine Kd.A1v ?_))); (case ae => exact ax.out); rintro e aB ⟨ar, rfl, ho0, hb⟩; refine ⟨_, rfl, ?_⟩; have ac := ak (Kd.A1t ho0 (A0n (kl HB))); replace HB := kH HB hb; (try clear hb); (try clear ho0); obtain ⟨ah, ai, a2⟩ := Kd.A1w ac.out; subst a2; have av : (a1 : Int) ≤ ((aa.length : Int) : Int) := kD; obtain ⟨aC, am, _, an, _⟩ := info_parts info5; have ao := cut_from (P := Tryd.prog) 25 5 .i64 Tryd.underlying25 am 1 an ah aa.length ai a1 kD av; have hr13 := Kd.Q_drop (k := (a1 : Int).toNat) (Kd.Q_of_R ac.out) (by omega); obtain ⟨a6, aj⟩ : ∃ A1, A1 = (if ai = (a1 : Int).toNat then ah else (ah : Option Addr).map (·.add ((a1 : Int).toNat * 1))) := ⟨_, rfl⟩; obtain ⟨a7, hc13⟩ : ∃ c1, c1 = ai - (a1 : Int).toNat := ⟨_, rfl⟩; have ap : ag.length = aa.length - (a1 : Int).toNat := (by rw [al.out, List.length_drop]); rw [← al.out] at hr13; rw [← ap, ← aj, ← hc13] at ao; replace hr13 : Kd.Q (Kd.int .u8) 5 aB w.heap.size (fun _ => True) (.slice a6 ag.length a7) ag := (by rw [aj, hc13, ap]; exact hr13); have aD : A0b ((Value.slice a6 ag.length a7).ownBlock = (.slice ah aa.length ai : Value).ownBlock) := ⟨by rw [aj]; split <;> (cases (ah : Option Addr) <;> first | rfl | (simp only [Option.map, Value.ownBlock, Addr.add]; split <;> rfl))⟩; clear ap am an ac aj hc13; have au := ak hr13; clear hr13; (try (have aq := av; simp only [List.length_drop, List.length_take] at aq; replace aq := eq_true aq)); replace av := eq_true av))
     go_ret
     exact ⟨_, kF, by (with_reducible repeat (first | apply Kd.A3h | apply Kd.A3i | apply Kd.A3n)); exact au.out, (kl HB)⟩
    ·rw [if_neg c10] at H
     exact absurd H (by simp)
   ·rw [if_neg c9] at H
    exact absurd H (by simp)
end Go.Proofs.YtiahbcaoikoogaaDoor.All
end
