-- copied by a program of the session
import Derived.Test.YtodocfjbpkicgaaDoorProg
import Derived.Test.YtodocfjbpkicgaaDoorKwM0
import Derived.Below
import Derived.Deep.Draws
import Derived.Deep.AppendLies
import Derived.Maps.AppendAt
import Derived.OwnWalk
import Derived.Laws.BytesArg
import Derived.Laws.MakeOwn
import Derived.Laws.OwnMore
import Derived.Deep.OwnRows
import Derived.Tactics
import Derived.Lib.ConvBytes
import Derived.Laws.Slices
import Derived.WalkKit
import Derived.KernelRfl
import Derived.RowKit3
import Derived.Deep.LoopGhost
import Derived.Deep.QuietTactic
import Derived.BigQuiet
import Derived.WideLaws
import Derived.Deep.DeepCutAuto
import Derived.Deep.CutBlock
import Derived.Deep.RegionHeld3
import Derived.Laws.Rows
import Derived.Lib.AppendStr
import Derived.ArgAppend
import Derived.Laws.IdiomCopy
import Derived.OrdersHeld
import Derived.Laws.BitsLemmas
import Derived.RowKit
set_option linter.unusedSimpArgs false
set_option linter.unusedVariables false
set_option maxHeartbeats 8000000
set_option maxRecDepth 100000
section
namespace Go.Proofs.YtodocfjbpkicgaaDoor.All
open Go.RowKit Go.Zw Go.Zl Go.Zm
attribute [local go_sem] A2h A2r
theorem info3 : (Tryd.prog.info? 3).map (fun i => (i.zero, i.size, i.bytes)) = some (some (.int .i64 0), 1, 8) := by kernel_rfl
theorem info5 : (Tryd.prog.info? 5).map (fun i => (i.zero, i.size, i.bytes)) = some (some (.int .u8 0), 1, 1) := by kernel_rfl
theorem info28 : (Tryd.prog.info? 28).map (fun i => (i.zero, i.size, i.bytes)) = some (some (.int .u64 0), 1, 8) := by kernel_rfl
theorem info42 : (Tryd.prog.info? 42).map (fun i => (i.zero, i.size, i.bytes)) = some (some (.agg #[(.int .i64 0), (.int .u64 0)]), 2, 16) := by kernel_rfl
theorem info62 : (Tryd.prog.info? 62).map (fun i => (i.zero, i.size, i.bytes)) = some (some (.agg #[(.int .i64 0), (.int .i64 0), (.int .i64 0), (.int .i64 0)]), 4, 32) := by kernel_rfl
theorem info70 : (Tryd.prog.info? 70).map (fun i => (i.zero, i.size, i.bytes)) = some (some (.agg #[(.int .i64 0), (.int .i64 0), (.int .i64 0), (.int .i64 0)]), 4, 32) := by kernel_rfl
theorem info178 : (Tryd.prog.info? 178).map (fun i => (i.zero, i.size, i.bytes)) = some (some (.agg #[(.int .i64 0), (.int .u64 0), (.int .u64 0), (.int .u64 0)]), 4, 32) := by kernel_rfl
structure S42 where
 f0 : Int
 f1 : Int
def z42 : S42 := ⟨(0 : Int), (0 : Int)⟩
def k42 : Kd S42 := Kd.iso (Kd.pair (Kd.int .i64) (Kd.int .u64)) (fun x : S42 => (x.f0, x.f1))
theorem k42_open {w : World} {x : S42} {cs : List Value} (h : k42.K w x cs) : cs = [.int .i64 x.f0, .int .u64 x.f1] := by
 obtain ⟨_, _, rfl, rfl, rfl⟩ := h
 exact rfl
theorem k42_mkM (w : World) (base : Nat) (ok : Nat → Prop) (x : S42)  : k42.M w base ok x [.int .i64 x.f0, .int .u64 x.f1] := ⟨[.int .i64 x.f0], [.int .u64 x.f1], rfl, rfl, rfl⟩
def A25 (xs : List S42) (i : Int) : S42 := xs.getD i.toNat z42
theorem at_T42 {w : World} {A : Option Addr} {n : Nat} {xs : List S42} (h : Kd.C k42 w A n xs) (i : Int) (h0 : 0 ≤ i) (h1 : i < n) : ∃ ad , A = some ad ∧ w.cell? (ad.add (i.toNat * 2)) = some (.int .i64 (A25 xs i).f0) ∧ w.cell? ⟨(ad.add (i.toNat * 2)).block, (ad.add (i.toNat * 2)).off + 1, none⟩ = some (.int .u64 (A25 xs i).f1) := by
 obtain ⟨ad, c, e, _, hK, hc0⟩ := Kd.C_get h z42 i h0 h1
 have hc : ∀ j u, c[j]? = some u → w.cell? (ad.add (i.toNat * 2 + j)) = some u := hc0
 obtain rfl := k42_open hK
 exact ⟨ad, e, hc 0 _ rfl, by rw [← A35 _ _ 1 (by omega)]; exact hc 1 _ rfl⟩
structure S62 where
 f0 : Int
 f1 : Int
 f2 : Int
 f3 : Int
def z62 : S62 := ⟨(0 : Int), (0 : Int), (0 : Int), (0 : Int)⟩
def k62 : Kd S62 := Kd.iso (Kd.pair (Kd.int .i64) (Kd.pair (Kd.int .i64) (Kd.pair (Kd.int .i64) (Kd.int .i64)))) (fun x : S62 => (x.f0, x.f1, x.f2, x.f3))
theorem k62_open {w : World} {x : S62} {cs : List Value} (h : k62.K w x cs) : cs = [.int .i64 x.f0, .int .i64 x.f1, .int .i64 x.f2, .int .i64 x.f3] := by
 obtain ⟨_, _, rfl, rfl, ⟨_, _, rfl, rfl, ⟨_, _, rfl, rfl, rfl⟩⟩⟩ := h
 exact rfl
theorem k62_mkM (w : World) (base : Nat) (ok : Nat → Prop) (x : S62)  : k62.M w base ok x [.int .i64 x.f0, .int .i64 x.f1, .int .i64 x.f2, .int .i64 x.f3] := ⟨[.int .i64 x.f0], [.int .i64 x.f1, .int .i64 x.f2, .int .i64 x.f3], rfl, rfl, ⟨[.int .i64 x.f1], [.int .i64 x.f2, .int .i64 x.f3], rfl, rfl, ⟨[.int .i64 x.f2], [.int .i64 x.f3], rfl, rfl, rfl⟩⟩⟩
def A0p (xs : List S62) (i : Int) : S62 := xs.getD i.toNat z62
theorem at_T62 {w : World} {A : Option Addr} {n : Nat} {xs : List S62} (h : Kd.C k62 w A n xs) (i : Int) (h0 : 0 ≤ i) (h1 : i < n) : ∃ ad , A = some ad ∧ w.cell? (ad.add (i.toNat * 4)) = some (.int .i64 (A0p xs i).f0) ∧ w.cell? ⟨(ad.add (i.toNat * 4)).block, (ad.add (i.toNat * 4)).off + 1, none⟩ = some (.int .i64 (A0p xs i).f1) ∧ w.cell? ⟨(ad.add (i.toNat * 4)).block, (ad.add (i.toNat * 4)).off + 2, none⟩ = some (.int .i64 (A0p xs i).f2) ∧ w.cell? ⟨(ad.add (i.toNat * 4)).block, (ad.add (i.toNat * 4)).off + 3, none⟩ = some (.int .i64 (A0p xs i).f3) := by
 obtain ⟨ad, c, e, _, hK, hc0⟩ := Kd.C_get h z62 i h0 h1
 have hc : ∀ j u, c[j]? = some u → w.cell? (ad.add (i.toNat * 4 + j)) = some u := hc0
 obtain rfl := k62_open hK
 exact ⟨ad, e, hc 0 _ rfl, by rw [← A35 _ _ 1 (by omega)]; exact hc 1 _ rfl, by rw [← A35 _ _ 2 (by omega)]; exact hc 2 _ rfl, by rw [← A35 _ _ 3 (by omega)]; exact hc 3 _ rfl⟩
structure S70 where
 f0 : Int
 f1 : Int
 f2 : Int
 f3 : Int
def z70 : S70 := ⟨(0 : Int), (0 : Int), (0 : Int), (0 : Int)⟩
def k70 : Kd S70 := Kd.iso (Kd.pair (Kd.int .i64) (Kd.pair (Kd.int .i64) (Kd.pair (Kd.int .i64) (Kd.int .i64)))) (fun x : S70 => (x.f0, x.f1, x.f2, x.f3))
theorem k70_open {w : World} {x : S70} {cs : List Value} (h : k70.K w x cs) : cs = [.int .i64 x.f0, .int .i64 x.f1, .int .i64 x.f2, .int .i64 x.f3] := by
 obtain ⟨_, _, rfl, rfl, ⟨_, _, rfl, rfl, ⟨_, _, rfl, rfl, rfl⟩⟩⟩ := h
 exact rfl
theorem k70_mkM (w : World) (base : Nat) (ok : Nat → Prop) (x : S70)  : k70.M w base ok x [.int .i64 x.f0, .int .i64 x.f1, .int .i64 x.f2, .int .i64 x.f3] := ⟨[.int .i64 x.f0], [.int .i64 x.f1, .int .i64 x.f2, .int .i64 x.f3], rfl, rfl, ⟨[.int .i64 x.f1], [.int .i64 x.f2, .int .i64 x.f3], rfl, rfl, ⟨[.int .i64 x.f2], [.int .i64 x.f3], rfl, rfl, rfl⟩⟩⟩
def A1s (xs : List S70) (i : Int) : S70 := xs.getD i.toNat z70
theorem at_T70 {w : World} {A : Option Addr} {n : Nat} {xs : List S70} (h : Kd.C k70 w A n xs) (i : Int) (h0 : 0 ≤ i) (h1 : i < n) : ∃ ad , A = some ad ∧ w.cell? (ad.add (i.toNat * 4)) = some (.int .i64 (A1s xs i).f0) ∧ w.cell? ⟨(ad.add (i.toNat * 4)).block, (ad.add (i.toNat * 4)).off + 1, none⟩ = some (.int .i64 (A1s xs i).f1) ∧ w.cell? ⟨(ad.add (i.toNat * 4)).block, (ad.add (i.toNat * 4)).off + 2, none⟩ = some (.int .i64 (A1s xs i).f2) ∧ w.cell? ⟨(ad.add (i.toNat * 4)).block, (ad.add (i.toNat * 4)).off + 3, none⟩ = some (.int .i64 (A1s xs i).f3) := by
 obtain ⟨ad, c, e, _, hK, hc0⟩ := Kd.C_get h z70 i h0 h1
 have hc : ∀ j u, c[j]? = some u → w.cell? (ad.add (i.toNat * 4 + j)) = some u := hc0
 obtain rfl := k70_open hK
 exact ⟨ad, e, hc 0 _ rfl, by rw [← A35 _ _ 1 (by omega)]; exact hc 1 _ rfl, by rw [← A35 _ _ 2 (by omega)]; exact hc 2 _ rfl, by rw [← A35 _ _ 3 (by omega)]; exact hc 3 _ rfl⟩
structure S178 where
 f0 : Int
 f1 : Int
 f2 : Int
 f3 : Int
def z178 : S178 := ⟨(0 : Int), (0 : Int), (0 : Int), (0 : Int)⟩
def k178 : Kd S178 := Kd.iso (Kd.pair (Kd.int .i64) (Kd.pair (Kd.int .u64) (Kd.pair (Kd.int .u64) (Kd.int .u64)))) (fun x : S178 => (x.f0, x.f1, x.f2, x.f3))
theorem k178_open {w : World} {x : S178} {cs : List Value} (h : k178.K w x cs) : cs = [.int .i64 x.f0, .int .u64 x.f1, .int .u64 x.f2, .int .u64 x.f3] := by
 obtain ⟨_, _, rfl, rfl, ⟨_, _, rfl, rfl, ⟨_, _, rfl, rfl, rfl⟩⟩⟩ := h
 exact rfl
theorem k178_mkM (w : World) (base : Nat) (ok : Nat → Prop) (x : S178)  : k178.M w base ok x [.int .i64 x.f0, .int .u64 x.f1, .int .u64 x.f2, .int .u64 x.f3] := ⟨[.int .i64 x.f0], [.int .u64 x.f1, .int .u64 x.f2, .int .u64 x.f3], rfl, rfl, ⟨[.int .u64 x.f1], [.int .u64 x.f2, .int .u64 x.f3], rfl, rfl, ⟨[.int .u64 x.f2], [.int .u64 x.f3], rfl, rfl, rfl⟩⟩⟩
def A1l (xs : List S178) (i : Int) : S178 := xs.getD i.toNat z178
theorem at_T178 {w : World} {A : Option Addr} {n : Nat} {xs : List S178} (h : Kd.C k178 w A n xs) (i : Int) (h0 : 0 ≤ i) (h1 : i < n) : ∃ ad , A = some ad ∧ w.cell? (ad.add (i.toNat * 4)) = some (.int .i64 (A1l xs i).f0) ∧ w.cell? ⟨(ad.add (i.toNat * 4)).block, (ad.add (i.toNat * 4)).off + 1, none⟩ = some (.int .u64 (A1l xs i).f1) ∧ w.cell? ⟨(ad.add (i.toNat * 4)).block, (ad.add (i.toNat * 4)).off + 2, none⟩ = some (.int .u64 (A1l xs i).f2) ∧ w.cell? ⟨(ad.add (i.toNat * 4)).block, (ad.add (i.toNat * 4)).off + 3, none⟩ = some (.int .u64 (A1l xs i).f3) := by
 obtain ⟨ad, c, e, _, hK, hc0⟩ := Kd.C_get h z178 i h0 h1
 have hc : ∀ j u, c[j]? = some u → w.cell? (ad.add (i.toNat * 4 + j)) = some u := hc0
 obtain rfl := k178_open hK
 exact ⟨ad, e, hc 0 _ rfl, by rw [← A35 _ _ 1 (by omega)]; exact hc 1 _ rfl, by rw [← A35 _ _ 2 (by omega)]; exact hc 2 _ rfl, by rw [← A35 _ _ 3 (by omega)]; exact hc 3 _ rfl⟩
theorem eqA42 (d : Nat) (w : World) (x0 y0 : Int) (x1 y1 : Int) :
    (Op.equalIn (d + 2) 42 (.agg #[.int .i64 x0, .int .u64 x1]) (.agg #[.int .i64 y0, .int .u64 y1])).run Tryd.prog w = .ok (x0 == y0 && (x1 == y1)) w := by
  refine eqA_of Tryd.underlying42 (by kernel_rfl) ?_
  refine eqf_cons (by rfl) (by go_simp; rfl) (by go_simp; rfl) (by go_simp) ?_
  exact eqf_last (by rfl) (by go_simp; rfl) (by go_simp; rfl) (by go_simp)
end Go.Proofs.YtodocfjbpkicgaaDoor.All
end
section
namespace Go.Proofs.YtodocfjbpkicgaaDoor.All
open Go.RowKit Go.Zw Go.Zl Go.Zm
attribute [local go_sem] A2h A2r
mutual
def A09.l0 : Nat → List Int → Int → Int → Option (Int)
 | 0, _, _, _ => none
 | k + 1, x0, x3, x4 => if x4 < (x0.length : Int) then (if 0 ≤ x4 then (A09.l1 k x0 (Go.bits .xor .u32 x3 ((rd x0 x4) % 4294967296)) x4 0) else (none)) else (some ((4294967295 - x3) % 4294967296))
def A09.l1 : Nat → List Int → Int → Int → Int → Option (Int)
 | 0, _, _, _, _ => none
 | k + 1, x0, x3, x4, x5 => if x5 < 8 then (if (Int.tmod x3 2) = 1 then (A09.l1 k x0 (Go.bits .xor .u32 ((Int.tdiv x3 2) % 4294967296) 3988292384) x4 (wrap64 (x5 + 1))) else (A09.l1 k x0 ((Int.tdiv x3 2) % 4294967296) x4 (wrap64 (x5 + 1)))) else (A09.l0 k x0 x3 (wrap64 (x4 + 1)))
end
def A09.f (k : Nat) (l0 : List Int) : Option (Int) := A09.l0 k l0 4294967295 0
theorem A09.calls (k : Nat) (A0 : Option Addr) (c0 : Nat) (l0 : List Int) (r : Int) (w : World) (hr0 : Kd.C (Kd.int .u8) w A0 l0.length l0) (hc0 : l0.length ≤ c0) (h : A09.f k l0 = some r) :
  Calls Tryd.prog 27 #[.slice A0 l0.length c0] w fun e w' => e = .returned (.int .u32 r) ∧ A0q w w' := by
 have aq := ak hr0; have au := ak hc0; clear hr0 hc0; have H := h; clear h; unfold A09.f at H; have H' := ak H; clear H
 go_enter Tryd.func27, Tryd.ntmps27
 go_wp2
 go_loopg [3, 4] k (fun kq v3 v4 w' => ∃ (af : Int) (x4_1 : Int), v3 = .int .u32 af ∧ v4 = .int .i64 x4_1 ∧ A0b (A09.l0 kq l0 af x4_1 = some r) ∧ A0b (kq ≤ k) ∧ A0q w w')
 case atStart => exact ⟨(4294967295), (0), kE, kE, H', ⟨Nat.le_refl _⟩, by repeat (first | exact A0q.refl _ | apply A0q.step)⟩
 case round =>
  clear H'; obtain ⟨af, x4_1, rfl, rfl, HA, ag, ⟨m1, rfl⟩⟩ := hrel
  cases gk with
  | zero => exact absurd HA.out (by simp [A09.l0])
  | succ k1 =>
   have H := HA.out; clear HA; simp only [A09.l0] at H
   by_cases c2 : x4_1 < (l0.length : Int)
   ·rw [kIp c2] at H; have al : decide (x4_1 < (l0.length : Int)) = true := kTt c2; clear c2
    by_cases c3 : 0 ≤ x4_1
    ·rw [kIp c3] at H; have ar : decide (0 ≤ x4_1) = true := kTt c3; clear c3; have H' := ak H; clear H; have ae : 0 ≤ (x4_1 : Int) := kD; have ad : x4_1 < (l0.length : Int) := kD; obtain ⟨am, ai, aj⟩ := Kd.A2y aq.out x4_1 ae ad
     cases ai
     replace ae := kEt ae
     (try (have aa := ad; simp only [List.length_drop, List.length_take] at aa; replace aa := kEt aa)); replace ad := kEt ad
     go_wp2
     go_loopg [3, 5] k1 (fun kq v3 v5 w' => ∃ (ac : Int) (x5_2 : Int), v3 = .int .u32 ac ∧ v5 = .int .i64 x5_2 ∧ A0b (A09.l1 kq l0 ac x4_1 x5_2 = some r) ∧ A0b (kq ≤ k1) ∧ A0q w w')
     case atStart => exact ⟨(Go.bits .xor .u32 af ((rd l0 x4_1) % 4294967296)), (0), kE, kE, H', ⟨Nat.le_refl _⟩, by repeat (first | exact A0q.refl _ | apply A0q.step)⟩
     case round =>
      clear H'; obtain ⟨ac, x5_2, rfl, rfl, HA, ah, ⟨m2, rfl⟩⟩ := hrel
      cases gk with
      | zero => exact absurd HA.out (by simp [A09.l1])
      | succ k2 =>
       have H := HA.out; clear HA; simp only [A09.l1] at H
       by_cases c4 : x5_2 < 8
       ·rw [kIp c4] at H; have an : decide (x5_2 < 8) = true := kTt c4; clear c4
        by_cases c5 : (Int.tmod ac 2) = 1
        ·rw [kIp c5] at H; obtain ⟨ao, ap⟩ := kqT c5; clear c5; have H' := ak H; clear H
         go_wp2
         go_roundg k2
         case measure => have := ag.out; have := ah.out; omega
         case rel => exact ⟨(Go.bits .xor .u32 ((Int.tdiv ac 2) % 4294967296) 3988292384), (wrap64 (x5_2 + 1)), kE, kE, H', ⟨by have := ag.out; have := ah.out; omega⟩, by repeat (first | exact A0q.refl _ | apply A0q.step)⟩
        rw [kIn c5] at H; obtain ⟨ao, ap⟩ := kqF c5; have H' := ak H; clear H
        go_wp2
        go_roundg k2
        case measure => have := ag.out; have := ah.out; omega
        case rel => exact ⟨((Int.tdiv ac 2) % 4294967296), (wrap64 (x5_2 + 1)), kE, kE, H', ⟨by have := ag.out; have := ah.out; omega⟩, by repeat (first | exact A0q.refl _ | apply A0q.step)⟩
       rw [kIn c4] at H; have an : decide (x5_2 < 8) = false := kFf c4; clear c4; have H' := ak H; clear H
       go_wp2
       go_roundg k2
       case measure => have := ag.out; have := ah.out; omega
       case rel => exact ⟨(ac), (wrap64 (x4_1 + 1)), kE, kE, H', ⟨by have := ag.out; have := ah.out; omega⟩, by repeat (first | exact A0q.refl _ | apply A0q.step)⟩
    exact (kA c3 H).elim
   rw [kIn c2] at H; have al : decide (x4_1 < (l0.length : Int)) = false := kFf c2; clear c2; obtain rfl := Option.some.inj H
   go_wp2
   go_ret
   exact ⟨by first | rfl | (simp; done) | (simp [*]; done), by repeat (first | exact A0q.refl _ | apply A0q.step)⟩
end Go.Proofs.YtodocfjbpkicgaaDoor.All
end
section
namespace Go.Proofs.YtodocfjbpkicgaaDoor.All
open Go.RowKit Go.Zw Go.Zl Go.Zm
attribute [local go_sem] A2h A2r
mutual
def A2f.l0 : Nat → Int → List Int → Int → Int → Option (Int)
 | 0, _, _, _, _ => none
 | k + 1, x3, x6, x7, x8 => if x8 < x7 then (if 0 ≤ x8 then (if x8 < (x6.length : Int) then (A2f.l1 k (Go.bits .xor .u32 x3 ((rd x6 x8) % 4294967296)) x6 x7 x8 0) else (none)) else (none)) else (some (Go.bits .xor .u32 4294967295 x3))
def A2f.l1 : Nat → Int → List Int → Int → Int → Int → Option (Int)
 | 0, _, _, _, _, _ => none
 | k + 1, x3, x6, x7, x8, aa => if aa < 8 then (A2f.l1 k (Go.bits .xor .u32 (x3 / 2) (Go.bits .and .u32 ((-(Go.bits .and .u32 x3 1)) % 4294967296) 3988292384)) x6 x7 x8 (wrap64 (aa + 1))) else (A2f.l0 k x3 x6 x7 (wrap64 (x8 + 1)))
end
def A2f.f (k : Nat) (l0 : List Int) : Option (Int) := A2f.l0 k 4294967295 l0 (l0.length : Int) 0
theorem A2f.A2x : ∀ k, (∀ y0 y1 y2 y3, LeO (A2f.l0 k y0 y1 y2 y3) (A2f.l0 (k + 1) y0 y1 y2 y3)) ∧ (∀ y0 y1 y2 y3 y4, LeO (A2f.l1 k y0 y1 y2 y3 y4) (A2f.l1 (k + 1) y0 y1 y2 y3 y4))
 | 0 => ⟨fun _ _ _ _ r h => by simp [A2f.l0] at h, fun _ _ _ _ _ r h => by simp [A2f.l1] at h⟩
 | k + 1 => by
  obtain ⟨ih0, ih1⟩ := A2f.A2x k
  refine ⟨?_, ?_⟩ <;> intros <;> (first | unfold A2f.l0 | unfold A2f.l1) <;> (
   repeat' first
   | with_reducible apply ih0
   | with_reducible apply ih1
   | (with_reducible exact LeO.refl _)
   | (with_reducible exact LeO.none _)
   | (with_reducible refine LeO.ite ?_ ?_)
   | (with_reducible refine LeO.bind ?_ (fun _ => ?_))
   | exact LeO.none _
   | refine LeO.ite ?_ ?_
   | refine LeO.bind ?_ (fun _ => ?_))
theorem A2f.mono : ∀ a0 k, LeO (A2f.f k a0) (A2f.f (k + 1) a0) := by
 intro a0 k
 obtain ⟨ih0, ih1⟩ := A2f.A2x k
 unfold A2f.f
 repeat' first
   | with_reducible apply ih0
   | with_reducible apply ih1
   | (with_reducible exact LeO.refl _)
   | (with_reducible exact LeO.none _)
   | (with_reducible refine LeO.ite ?_ ?_)
   | (with_reducible refine LeO.bind ?_ (fun _ => ?_))
   | exact LeO.none _
   | refine LeO.ite ?_ ?_
   | refine LeO.bind ?_ (fun _ => ?_)
theorem A2f.calls (k : Nat) (A0 : Option Addr) (c0 : Nat) (l0 : List Int) (r : Int) (w : World) (hr0 : Kd.C (Kd.int .u8) w A0 l0.length l0) (hc0 : l0.length ≤ c0) (h : A2f.f k l0 = some r) :
  Calls Tryd.prog 57 #[.slice A0 l0.length c0] w fun e w' => e = .returned (.int .u32 r) ∧ A0q w w' := by
 have ap := ak hr0; have av := ak hc0; clear hr0 hc0; have H := h; clear h; unfold A2f.f at H; have H' := ak H; clear H
 go_enter Tryd.func57, Tryd.ntmps57
 go_wp2
 go_loopg [3, 8] k (fun kq v3 v8 w' => ∃ (ae : Int) (x8_1 : Int), v3 = .int .u32 ae ∧ v8 = .int .i64 x8_1 ∧ A0b (A2f.l0 kq ae l0 (l0.length : Int) x8_1 = some r) ∧ A0b (kq ≤ k) ∧ A0q w w')
 case atStart => exact ⟨(4294967295), (0), kE, kE, H', ⟨Nat.le_refl _⟩, by repeat (first | exact A0q.refl _ | apply A0q.step)⟩
 case round =>
  clear H'; obtain ⟨ae, x8_1, rfl, rfl, HA, ah, ⟨m1, rfl⟩⟩ := hrel
  cases gk with
  | zero => exact absurd HA.out (by simp [A2f.l0])
  | succ k1 =>
   have H := HA.out; clear HA; simp only [A2f.l0] at H
   by_cases c2 : x8_1 < (l0.length : Int)
   ·rw [kIp c2] at H; have al : decide (x8_1 < (l0.length : Int)) = true := kTt c2; clear c2
    by_cases c3 : 0 ≤ x8_1
    ·rw [kIp c3] at H; have aq : decide (0 ≤ x8_1) = true := kTt c3; clear c3
     by_cases c4 : x8_1 < (l0.length : Int)
     ·rw [kIp c4] at H; have ar : decide (x8_1 < (l0.length : Int)) = true := kTt c4; clear c4; have H' := ak H; clear H; have ag : 0 ≤ (x8_1 : Int) := kD; have af : x8_1 < (l0.length : Int) := kD; obtain ⟨ao, am, ai⟩ := Kd.A2y ap.out x8_1 ag af
      cases am
      replace ag := kEt ag
      (try (have ad := af; simp only [List.length_drop, List.length_take] at ad; replace ad := kEt ad)); replace af := kEt af
      go_wp2
      go_loopg [3, 16] k1 (fun kq v3 au w' => ∃ (ac : Int) (aa : Int), v3 = .int .u32 ac ∧ au = .int .i64 aa ∧ A0b (A2f.l1 kq ac l0 (l0.length : Int) x8_1 aa = some r) ∧ A0b (kq ≤ k1) ∧ A0q w w')
      case atStart => exact ⟨(Go.bits .xor .u32 ae ((rd l0 x8_1) % 4294967296)), (0), kE, kE, H', ⟨Nat.le_refl _⟩, by repeat (first | exact A0q.refl _ | apply A0q.step)⟩
      case round =>
       clear H'; obtain ⟨ac, aa, rfl, rfl, HA, aj, ⟨m2, rfl⟩⟩ := hrel
       cases gk with
       | zero => exact absurd HA.out (by simp [A2f.l1])
       | succ k2 =>
        have H := HA.out; clear HA; simp only [A2f.l1] at H
        by_cases c5 : aa < 8
        ·rw [kIp c5] at H; have an : decide (aa < 8) = true := kTt c5; clear c5; have H' := ak H; clear H
         go_wp2
         go_roundg k2
         case measure => have := ah.out; have := aj.out; omega
         case rel => exact ⟨(Go.bits .xor .u32 (ac / 2) (Go.bits .and .u32 ((-(Go.bits .and .u32 ac 1)) % 4294967296) 3988292384)), (wrap64 (aa + 1)), kE, kE, H', ⟨by have := ah.out; have := aj.out; omega⟩, by repeat (first | exact A0q.refl _ | apply A0q.step)⟩
        rw [kIn c5] at H; have an : decide (aa < 8) = false := kFf c5; clear c5; have H' := ak H; clear H
        go_wp2
        go_roundg k2
        case measure => have := ah.out; have := aj.out; omega
        case rel => exact ⟨(ac), (wrap64 (x8_1 + 1)), kE, kE, H', ⟨by have := ah.out; have := aj.out; omega⟩, by repeat (first | exact A0q.refl _ | apply A0q.step)⟩
     exact (kA c4 H).elim
    exact (kA c3 H).elim
   rw [kIn c2] at H; have al : decide (x8_1 < (l0.length : Int)) = false := kFf c2; clear c2; obtain rfl := Option.some.inj H
   go_wp2
   go_ret
   exact ⟨by first | rfl | (simp; done) | (simp [*]; done), by repeat (first | exact A0q.refl _ | apply A0q.step)⟩
end Go.Proofs.YtodocfjbpkicgaaDoor.All
end
section
namespace Go.Proofs.YtodocfjbpkicgaaDoor.All
open Go.RowKit Go.Zw Go.Zl Go.Zm
attribute [local go_sem] A2h A2r
mutual
def A0z.j0 : Nat → List Int → Int → Int → Bool → Option (Int × Bool)
 | 0, _, _, _, _ => none
 | k + 1, x0, x1, x2, aa => if aa = true then (some (0, false)) else (A0z.l0 k x0 x1 x2 0 x1)
def A0z.l0 : Nat → List Int → Int → Int → Int → Int → Option (Int × Bool)
 | 0, _, _, _, _, _ => none
 | k + 1, x0, x1, x2, x8, x9 => if x9 < (wrap64 (x1 + x2)) then (if 0 ≤ (wrap64 (Int.tdiv x9 8)) then (if (wrap64 (Int.tdiv x9 8)) < (x0.length : Int) then (if 0 ≤ (wrap64 (7 - (Int.tmod x9 8))) then (A0z.l0 k x0 x1 x2 (Go.bits .or .u64 (IntKind.u64.wrap (x8 * 2)) (IntKind.u64.wrap (Go.bits .and .u8 (shr .u8 (rd x0 (wrap64 (Int.tdiv x9 8))) (wrap64 (7 - (Int.tmod x9 8)))) 1))) (wrap64 (x9 + 1))) else (none)) else (none)) else (none)) else (some (x8, true))
end
def A0z.f (k : Nat) (l0 : List Int) (a1 : Int) (a2 : Int) : Option (Int × Bool) := if a2 < 0 then (A0z.j0 k l0 a1 a2 true) else (if a2 > 64 then (A0z.j0 k l0 a1 a2 true) else (if a1 < 0 then (A0z.j0 k l0 a1 a2 true) else (if a1 > (wrap64 (8 * (l0.length : Int))) then (A0z.j0 k l0 a1 a2 true) else (A0z.j0 k l0 a1 a2 (decide (a2 > (wrap64 ((wrap64 (8 * (l0.length : Int))) - a1))))))))
theorem A0z.A2x : ∀ k, (∀ y0 y1 y2 y3, LeO (A0z.j0 k y0 y1 y2 y3) (A0z.j0 (k + 1) y0 y1 y2 y3)) ∧ (∀ y0 y1 y2 y3 y4, LeO (A0z.l0 k y0 y1 y2 y3 y4) (A0z.l0 (k + 1) y0 y1 y2 y3 y4))
 | 0 => ⟨fun _ _ _ _ r h => by simp [A0z.j0] at h, fun _ _ _ _ _ r h => by simp [A0z.l0] at h⟩
 | k + 1 => by
  obtain ⟨ih0, ih1⟩ := A0z.A2x k
  refine ⟨?_, ?_⟩ <;> intros <;> (first | unfold A0z.j0 | unfold A0z.l0) <;> (
   repeat' first
   | with_reducible apply ih0
   | with_reducible apply ih1
   | (with_reducible exact LeO.refl _)
   | (with_reducible exact LeO.none _)
   | (with_reducible refine LeO.ite ?_ ?_)
   | (with_reducible refine LeO.bind ?_ (fun _ => ?_))
   | exact LeO.none _
   | refine LeO.ite ?_ ?_
   | refine LeO.bind ?_ (fun _ => ?_))
theorem A0z.mono : ∀ a0 a1 a2 k, LeO (A0z.f k a0 a1 a2) (A0z.f (k + 1) a0 a1 a2) := by
 intro a0 a1 a2 k
 obtain ⟨ih0, ih1⟩ := A0z.A2x k
 unfold A0z.f
 repeat' first
   | with_reducible apply ih0
   | with_reducible apply ih1
   | (with_reducible exact LeO.refl _)
   | (with_reducible exact LeO.none _)
   | (with_reducible refine LeO.ite ?_ ?_)
   | (with_reducible refine LeO.bind ?_ (fun _ => ?_))
   | exact LeO.none _
   | refine LeO.ite ?_ ?_
   | refine LeO.bind ?_ (fun _ => ?_)
theorem A0z.calls (k : Nat) (A0 : Option Addr) (c0 : Nat) (l0 : List Int) (a1 : Int) (a2 : Int) (r1 : Int) (r2 : Bool) (w : World) (hr0 : Kd.C (Kd.int .u8) w A0 l0.length l0) (hc0 : l0.length ≤ c0) (h : A0z.f k l0 a1 a2 = some (r1, r2)) :
  Calls Tryd.prog 82 #[.slice A0 l0.length c0, .int .i64 a1, .int .i64 a2] w fun e w' => e = .returned (.tuple #[.int .u64 r1, .bool r2]) ∧ A0q w w' := by
 have aF := ak hr0; have aH := ak hc0; clear hr0 hc0; have H := h; clear h; unfold A0z.f at H; have av := ak H; clear H
 go_enter Tryd.func82, Tryd.ntmps82
 go_upto_region 1 with (fail)
 go_cut [35] (fun aG wc => ∃ (kq : Nat) (ae : Bool), aG = .bool ae ∧ A0b (A0z.j0 kq l0 a1 a2 ae = some (r1, r2)) ∧ A0b (kq ≤ k) ∧ A0q w wc)
 case first =>
  have H := av.out; clear av
  by_cases c5 : a2 < 0
  ·rw [kIp c5] at H; have ag : decide (a2 < 0) = true := kTt c5; clear c5
   (first | rw [ag] | (simp only [A2i, A2u]; rw [ag]) | skip)
   have H' := ak H; clear H
   go_wp2
   go_meet
   case rel => exact ⟨_, (true), kE, H', kO, by repeat (first | exact A0q.refl _ | apply A0q.step)⟩
  rw [kIn c5] at H; have ag : decide (a2 < 0) = false := kFf c5; clear c5
  (first | rw [ag] | (simp only [A2i, A2u]; rw [ag]) | skip)
  by_cases c6 : a2 > 64
  ·rw [kIp c6] at H; have aw : decide (64 < a2) = true := kTt c6; clear c6; have H' := ak H; clear H
   go_wp2
   go_meet
   case rel => exact ⟨_, (true), kE, H', kO, by repeat (first | exact A0q.refl _ | apply A0q.step)⟩
  rw [kIn c6] at H; have aw : decide (64 < a2) = false := kFf c6; clear c6
  by_cases c7 : a1 < 0
  ·rw [kIp c7] at H; have ax := kTt c7; clear c7; have H' := ak H; clear H
   go_wp2
   go_meet
   case rel => exact ⟨_, (true), kE, H', kO, by repeat (first | exact A0q.refl _ | apply A0q.step)⟩
  rw [kIn c7] at H; have ax := kFf c7; clear c7
  by_cases c8 : a1 > (wrap64 (8 * (l0.length : Int)))
  ·rw [kIp c8] at H; have ay : decide ((wrap64 (8 * (l0.length : Int))) < a1) = true := kTt c8; clear c8; have H' := ak H; clear H
   go_wp2
   go_meet
   case rel => exact ⟨_, (true), kE, H', kO, by repeat (first | exact A0q.refl _ | apply A0q.step)⟩
  rw [kIn c8] at H; have ay : decide ((wrap64 (8 * (l0.length : Int))) < a1) = false := kFf c8; clear c8; have H' := ak H; clear H
  go_wp2
  go_meet
  case rel => exact ⟨_, (decide (a2 > (wrap64 ((wrap64 (8 * (l0.length : Int))) - a1)))), kE, H', kO, by repeat (first | exact A0q.refl _ | apply A0q.step)⟩
 case rest =>
  clear av; obtain ⟨kq, ae, rfl, HA, a7, ⟨mc3, rfl⟩⟩ := hcut
  cases kq with
  | zero => exact absurd HA.out (by simp [A0z.j0])
  | succ a8 =>
   have H := HA.out; clear HA; simp only [A0z.j0] at H
   by_cases c9 : ae = true
   ·subst c9
    rw [if_pos rfl] at H; obtain ⟨rfl, rfl⟩ := kI2 H
    go_wp2
    go_ret2
    exact ⟨by first | rfl | (simp; done) | (simp [*]; done), by repeat (first | exact A0q.refl _ | apply A0q.step)⟩
   replace c9 := Bool.eq_false_iff.mpr c9; subst c9
   rw [if_neg (show ¬ (false = true) by decide)] at H; have H' := ak H; clear H
   go_wp2
   go_loopg [8, 9] a8 (fun kq v8 v9 w' => ∃ (x8_2 : Int) (aa : Int), v8 = .int .u64 x8_2 ∧ v9 = .int .i64 aa ∧ A0b (A0z.l0 kq l0 a1 a2 x8_2 aa = some (r1, r2)) ∧ A0b (kq ≤ a8) ∧ A0q w w')
   case atStart => exact ⟨(0), (a1), kE, kE, H', ⟨Nat.le_refl _⟩, by repeat (first | exact A0q.refl _ | apply A0q.step)⟩
   case round =>
    clear H'; obtain ⟨x8_2, aa, rfl, rfl, HA, a9, ⟨m2, rfl⟩⟩ := hrel
    cases gk with
    | zero => exact absurd HA.out (by simp [A0z.l0])
    | succ k2 =>
     have H := HA.out; clear HA; simp only [A0z.l0] at H
     by_cases c10 : aa < (wrap64 (a1 + a2))
     ·rw [kIp c10] at H; have ao := kTt c10; clear c10; obtain ⟨ac, ah⟩ := kX (wrap64 (Int.tdiv aa 8))
      (first | rw [ah] at H | simp only [ah] at H)
      have az : (IntKind.i64.wrap (Int.tdiv aa 8)) = ac := (A2i _).trans ah
      by_cases aq : 0 ≤ (ac)
      ·rw [kIp aq] at H; have aA := kTt aq; clear aq
       by_cases ar : (ac) < (l0.length : Int)
       ·rw [kIp ar] at H; have aB := kTt ar; clear ar; obtain ⟨af, ai⟩ := kX (wrap64 (7 - (Int.tmod aa 8)))
        (first | rw [ai] at H | simp only [ai] at H)
        have a3 : (IntKind.i64.wrap (7 - (Int.tmod aa 8))) = af := (A2i _).trans ai
        by_cases ap : 0 ≤ (af)
        ·rw [kIp ap] at H; have aC := kEt ap; have aD := kTt ap; clear ap; obtain ⟨am, ad⟩ := kX (shr .u8 (rd l0 (ac)) (af))
         (first | rw [ad] at H | simp only [ad] at H)
         have a4 : ((rd l0 (ac)) / 2 ^ min (af).toNat 8) = am := ad; have a5 : (af) ≤ 8 → ((rd l0 (ac)) / 2 ^ (af).toNat) = am := shr_small ad; have H' := ak H; clear H; have an : 0 ≤ ((ac) : Int) := kD; have al : (ac) < (l0.length : Int) := kD; obtain ⟨aE, a6, au⟩ := Kd.A2y aF.out (ac) an al
         cases a6
         replace an := kEt an
         (try (have aj := al; simp only [List.length_drop, List.length_take] at aj; replace aj := kEt aj)); replace al := kEt al
         go_wp2
         go_roundg k2
         case measure => have := a7.out; have := a9.out; omega
         case rel => exact ⟨(Go.bits .or .u64 (IntKind.u64.wrap (x8_2 * 2)) (IntKind.u64.wrap (Go.bits .and .u8 (am) 1))), (wrap64 (aa + 1)), (by first | rfl | (simp; done) | (simp only [← ad] <;> (first | rfl | simp)) | (simp [*]; done)), kE, H', ⟨by have := a7.out; have := a9.out; omega⟩, by repeat (first | exact A0q.refl _ | apply A0q.step)⟩
        exact (kA ap H).elim
       exact (kA ar H).elim
      exact (kA aq H).elim
     rw [kIn c10] at H; have ao := kFf c10; clear c10; obtain ⟨rfl, rfl⟩ := kI2 H
     go_wp2
     go_ret2
     exact ⟨by first | rfl | (simp; done) | (simp [*]; done), by repeat (first | exact A0q.refl _ | apply A0q.step)⟩
end Go.Proofs.YtodocfjbpkicgaaDoor.All
end
