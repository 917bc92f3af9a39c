-- copied by a program of the session
import Derived.Test.YtodocfjbpkicgaaDoorKwAllx20
set_option linter.unusedSimpArgs false
set_option linter.unusedVariables false
set_option maxHeartbeats 8000000
set_option maxRecDepth 100000
section
namespace Go.Proofs.YtodocfjbpkicgaaDoor.All
open Go.RowKit Go.Zw Go.Zl Go.Zm
attribute [local go_sem] A2h A2r
attribute [local go_sem high] errW_match A34
def A0a (w0 W : World) (g : Nat) (f0 : List Int) (f1 : Int) (f2 : Option Int) : Prop := ∃ A0 c0, W.heap[g]? = some (.cells #[.slice A0 f0.length c0, .int .i64 f1, errW f2] 173 (0, 0)) ∧ w0.heap.size ≤ g ∧ Kd.C (Kd.int .u8) w0 A0 f0.length f0 ∧ f0.length ≤ c0
theorem A0a.grown {w0 W : World} {g : Nat} {f0 : List Int} {f1 : Int} {f2 : Option Int} {W1 : World} {row : Option Nat} (h : A0a w0 W g f0 f1 f2) (hw : W.grownBy W1 row) (hne : some g ≠ row) : A0a w0 W1 g f0 f1 f2 := by
 obtain ⟨A0, c0, hb, hg, hr0, hl0⟩ := h
 exact ⟨A0, c0, A15 hb hw hne, hg, hr0, hl0⟩
theorem A0a.below {w0 W : World} {g : Nat} {f0 : List Int} {f1 : Int} {f2 : Option Int} {W1 : World} (h : A0a w0 W g f0 f1 f2) (hw : Below W.heap.size W W1) : A0a w0 W1 g f0 f1 f2 := h.grown (grown_of_below hw none) (by simp)
theorem A0a.drewN {w0 W : World} {g : Nat} {f0 : List Int} {f1 : Int} {f2 : Option Int} (h : A0a w0 W g f0 f1 f2) (m : Nat) : A0a w0 (W.drewN m) g f0 f1 f2 := h
theorem A0a.apart {w0 W : World} {g : Nat} {f0 : List Int} {f1 : Int} {f2 : Option Int} {α : Type} {d : Kd α} {e : Nat} {base : Nat} {ok : Nat → Prop} {v : Value} {xs : List α} (h : A0a w0 W g f0 f1 f2) (ho : d.R e W base ok v xs) (ht : ∀ q, q ∈ e :: d.E → q ≠ 173) : d.R e W base (fun k => ok k ∧ k ≠ g) v xs := by
 obtain ⟨A0, c0, hb, hg, hr0, hl0⟩ := h
 exact Kd.A2a ho hb ht
theorem A0a.own_ne {w0 W : World} {g : Nat} {f0 : List Int} {f1 : Int} {f2 : Option Int} {α : Type} {d : Kd α} {e : Nat} {base : Nat} {ok : Nat → Prop} {v : Value} {xs : List α} (h : A0a w0 W g f0 f1 f2) (ho : d.R e W base ok v xs) (ht : e ≠ 173) : some g ≠ v.ownBlock := by
 obtain ⟨A0, c0, hb, hg, hr0, hl0⟩ := h
 exact Kd.R_ne ho hb ht
theorem A0a.lt {w0 W : World} {g : Nat} {f0 : List Int} {f1 : Int} {f2 : Option Int} (h : A0a w0 W g f0 f1 f2) : g < W.heap.size := by
 obtain ⟨A0, c0, hb, hg, hr0, hl0⟩ := h
 exact blk_lt hb
theorem A0a.ge {w0 W : World} {g : Nat} {f0 : List Int} {f1 : Int} {f2 : Option Int} (h : A0a w0 W g f0 f1 f2) : w0.heap.size ≤ g := by
 obtain ⟨A0, c0, hb, hg, hr0, hl0⟩ := h
 exact hg
theorem A0a.far {w0 W : World} {g : Nat} {f0 : List Int} {f1 : Int} {f2 : Option Int} {p : Addr} (h : A0a w0 W g f0 f1 f2) (hne : g ≠ p.block) (u : Value) : A0a w0 (W.setCell p u) g f0 f1 f2 := by
 obtain ⟨A0, c0, hb, hg, hr0, hl0⟩ := h
 exact ⟨A0, c0, blk_far hb hne u, hg, hr0, hl0⟩
theorem A2o {W : World} {g : Nat} {A0 : Option Addr} {c0 : Nat} {f0 : List Int} {f1 : Int} {f2 : Option Int} (h : W.heap[g]? = some (.cells #[.slice A0 f0.length c0, .int .i64 f1, errW f2] 173 (0, 0))) : W.cell? ⟨g, 0, none⟩ = some (.slice A0 f0.length c0) := (A16 h 0).trans rfl
theorem A2p {W : World} {g : Nat} {A0 : Option Addr} {c0 : Nat} {f0 : List Int} {f1 : Int} {f2 : Option Int} (h : W.heap[g]? = some (.cells #[.slice A0 f0.length c0, .int .i64 f1, errW f2] 173 (0, 0))) : W.cell? ⟨g, 1, none⟩ = some (.int .i64 f1) := (A16 h 1).trans rfl
theorem A0a.A3y {w0 W : World} {g : Nat} {f0 : List Int} {f1 : Int} {f2 : Option Int} (h : A0a w0 W g f0 f1 f2) (x : Int) : A0a w0 (W.setCell ⟨g, 1, none⟩ (.int .i64 x)) g f0 x f2 := by
 obtain ⟨A0, c0, hb, hg, hr0, hl0⟩ := h
 exact ⟨A0, c0, by simpa using blk_set hb 1 (.int .i64 x), hg, hr0, hl0⟩
theorem A2q {W : World} {g : Nat} {A0 : Option Addr} {c0 : Nat} {f0 : List Int} {f1 : Int} {f2 : Option Int} (h : W.heap[g]? = some (.cells #[.slice A0 f0.length c0, .int .i64 f1, errW f2] 173 (0, 0))) : W.cell? ⟨g, 2, none⟩ = some (errW f2) := (A16 h 2).trans rfl
theorem A0a.A2g {w0 W : World} {g : Nat} {f0 : List Int} {f1 : Int} {f2 : Option Int} (h : A0a w0 W g f0 f1 f2) (x : Option Int) : A0a w0 (W.setCell ⟨g, 2, none⟩ (errW x)) g f0 f1 x := by
 obtain ⟨A0, c0, hb, hg, hr0, hl0⟩ := h
 exact ⟨A0, c0, by simpa using blk_set hb 2 (errW x), hg, hr0, hl0⟩
theorem A0a.farA {w0 W : World} {g g' j : Nat} {u : Value} {f0 : List Int} {f1 : Int} {f2 : Option Int} (h : A0a w0 W g f0 f1 f2) (hne : A0b (g ≠ g')) : A0a w0 (W.setCell ⟨g', j, none⟩ u) g f0 f1 f2 := h.far (by exact hne.out) u
theorem A0a.k {w0 W W' : World} {g : Nat} {f0 f0' : List Int} {f1 f1' : Int} {f2 f2' : Option Int} (h : A0b (A0a w0 W g f0 f1 f2)) (hh : A0a w0 W g f0 f1 f2 → A0a w0 W' g f0' f1' f2' := by (intro h0_; repeat (first | (with_reducible first | exact h0_ | apply A0a.alloc | apply A0a.drewN | apply A0a.drew | apply A0a.A3y | apply A0a.A2g | refine A0a.farA ?_ (by assumption)) | exact h0_ | apply A0a.A2g (x := some _) | apply A0a.A2g (x := none)))) : A0a w0 W' g f0' f1' f2' := hh h.out
theorem A0a.kl {w W W' : World} (h : A0b (Below w.heap.size w W)) (hh : Below w.heap.size w W → Below w.heap.size w W' := by (intro h0_; repeat (first | (with_reducible first | exact h0_ | apply A2k | apply A2e | apply A04 | refine A1y ?_ (A0a.ge (A0b.out (by assumption))) | refine A1y ?_ (A0b.out (by assumption))) | exact h0_))) : Below w.heap.size w W' := hh h.out
mutual
def A0k.j0 : Nat → Int → Bool → List Int → Int → Option Int → Option (Int × List Int × Int × Option Int)
 | 0, _, _, _, _, _ => none
 | k + 1, x1, ae, aa, ac, ad => if ae = true then (A0k.j1 k x1 aa ac (some 2)) else (A0k.j1 k x1 aa ac ad)
def A0k.j1 : Nat → Int → List Int → Int → Option Int → Option (Int × List Int × Int × Option Int)
 | 0, _, _, _, _ => none
 | k + 1, x1, ac, aa, ad => if ad.isNone = true then (if 0 ≤ aa then (if aa ≤ (wrap64 (aa + x1)) then (if (wrap64 (aa + x1)) ≤ (ac.length : Int) then (A0k.l0 k x1 0 ((ac.take ((wrap64 (aa + x1)) : Int).toNat).drop (aa : Int).toNat) (((ac.take ((wrap64 (aa + x1)) : Int).toNat).drop (aa : Int).toNat).length : Int) 0 ac aa none) else (none)) else (none)) else (none)) else (some (0, ac, aa, some (ad.getD 0)))
def A0k.l0 : Nat → Int → Int → List Int → Int → Int → List Int → Int → Option Int → Option (Int × List Int × Int × Option Int)
 | 0, _, _, _, _, _, _, _, _ => none
 | k + 1, x1, x5, af, ag, ae, aa, ac, ad => if ae < ag then (if 0 ≤ ae then (if ae < (af.length : Int) then (A0k.l0 k x1 (Go.bits .or .u64 (IntKind.u64.wrap (x5 * 256)) (IntKind.u64.wrap (rd af ae))) af ag (wrap64 (ae + 1)) aa ac ad) else (none)) else (none)) else (some (x5, aa, wrap64 (ac + x1), ad))
end
def A0k.f (k : Nat) (aa : List Int) (ac : Int) (ad : Option Int) (a1 : Int) : Option (Int × List Int × Int × Option Int) := if ad.isNone = true then (A0k.j0 k a1 (decide ((wrap64 ((aa.length : Int) - ac)) < a1)) aa ac none) else (A0k.j0 k a1 false aa ac (some (ad.getD 0)))
theorem A0k.A2x : ∀ k, (∀ y0 y1 y2 y3 y4, LeO (A0k.j0 k y0 y1 y2 y3 y4) (A0k.j0 (k + 1) y0 y1 y2 y3 y4)) ∧ (∀ y0 y1 y2 y3, LeO (A0k.j1 k y0 y1 y2 y3) (A0k.j1 (k + 1) y0 y1 y2 y3)) ∧ (∀ y0 y1 y2 y3 y4 y5 y6 y7, LeO (A0k.l0 k y0 y1 y2 y3 y4 y5 y6 y7) (A0k.l0 (k + 1) y0 y1 y2 y3 y4 y5 y6 y7))
 | 0 => ⟨fun _ _ _ _ _ r h => by simp [A0k.j0] at h, fun _ _ _ _ r h => by simp [A0k.j1] at h, fun _ _ _ _ _ _ _ _ r h => by simp [A0k.l0] at h⟩
 | k + 1 => by
  obtain ⟨ih0, ih1, ih2⟩ := A0k.A2x k
  refine ⟨?_, ?_, ?_⟩ <;> intros <;> (first | unfold A0k.j0 | unfold A0k.j1 | unfold A0k.l0) <;> (
   repeat' first
   | with_reducible apply ih0
   | with_reducible apply ih1
   | with_reducible apply ih2
   | (with_reducible exact LeO.refl _)
   | (with_reducible exact LeO.none _)
   | (with_reducible refine LeO.ite ?_ ?_)
   | (with_reducible refine LeO.bind ?_ (fun _ => ?_))
   | exact LeO.none _
   | refine LeO.ite ?_ ?_
   | refine LeO.bind ?_ (fun _ => ?_))
theorem A0k.mono : ∀ a0 a1 a2 a3 k, LeO (A0k.f k a0 a1 a2 a3) (A0k.f (k + 1) a0 a1 a2 a3) := by
 intro a0 a1 a2 a3 k
 obtain ⟨ih0, ih1, ih2⟩ := A0k.A2x k
 unfold A0k.f
 repeat' first
   | with_reducible apply ih0
   | with_reducible apply ih1
   | with_reducible apply ih2
   | (with_reducible exact LeO.refl _)
   | (with_reducible exact LeO.none _)
   | (with_reducible refine LeO.ite ?_ ?_)
   | (with_reducible refine LeO.bind ?_ (fun _ => ?_))
   | exact LeO.none _
   | refine LeO.ite ?_ ?_
   | refine LeO.bind ?_ (fun _ => ?_)
theorem A0k.calls (k : Nat) (g : Nat) (ac : List Int) (aa : Int) (al : Option Int) (a1 : Int) (r1 : Int) (r2 : List Int) (r3 : Int) (r4 : Option Int) (w0 w : World) (hI : A0a w0 w g ac aa al) (hB : Below w0.heap.size w0 w) (h : A0k.f k ac aa al a1 = some (r1, r2, r3, r4)) :
  Calls Tryd.prog 95 #[.pointer (some ⟨g, 0, none⟩), .int .i64 a1] w fun e w' => e = .returned (.int .u64 r1) ∧ A0a w0 w' g r2 r3 r4 ∧ Below w0.heap.size w0 w' ∧ A1r w w' g none := by
 have hu38 := Tryd.underlying38; have hu94 := Tryd.underlying94; have af := ak hI; have HK := ak (A1r.refl w g none); have HL := ak hB.size; clear hI; have HW0 := ak hB.size; have HB := ak hB; clear hB; have H := h; clear h; unfold A0k.f at H; have aT := ak H; clear H
 go_enter Tryd.func95, Tryd.ntmps95
 go_upto_region 1 with (fail)
 repeat (go_quiet (fail); go_upto_region 1 with (fail))
 go_cut [26] (fun bz wc => ∃ (kq : Nat) (ai : Bool), bz = .bool ai ∧ A0b (A0k.j0 kq a1 ai ac aa al = some (r1, r2, r3, r4)) ∧ A0b (kq ≤ k) ∧ A0b (A0a w0 wc g ac aa al) ∧ A0b (A1r w wc g none) ∧ A0b (Below w0.heap.size w0 wc))
 case first =>
  have H := aT.out; clear aT
  rcases al with _ | au
  ·have H1 : (A0k.j0 k a1 (decide ((wrap64 ((ac.length : Int) - aa)) < a1)) ac aa none) = some (r1, r2, r3, r4) := by rw [if_pos (show (none : Option Int).isNone = true by rfl)] at H; exact H
   clear H; have H := H1; clear H1
   try simp only [A0i, A0j]
   have H' := ak H; clear H; obtain ⟨ASz4_0, cSz4_0, HGz4, hgz4, HSz4_0, HLSz4_0⟩ := af.out; have aU := A2o HGz4; have aV := A2p HGz4; have az := A2q HGz4
   try simp only [A0i, A0j] at az
   have aW := A0d HGz4 0; have aX := A0d HGz4 1; have aY := A0d HGz4 2; clear HGz4 hgz4
   go_wp2
   repeat ((first | go_quiet (fail) | go_region); try go_wp2)
   go_meet
   case rel => exact ⟨_, (decide ((wrap64 ((ac.length : Int) - aa)) < a1)), kE, H', kO, ⟨(A0a.k af)⟩, ⟨(kk HK)⟩, ⟨(A0a.kl HB)⟩⟩
  have H1 : (A0k.j0 k a1 false ac aa (some au)) = some (r1, r2, r3, r4) := by rw [if_neg (show ¬ (some au).isNone = true by simp)] at H; exact H
  clear H; have H := H1; clear H1
  try simp only [A0i, A0j]
  have H' := ak H; clear H; obtain ⟨ASz5_0, cSz5_0, HGz5, hgz5, HSz5_0, HLSz5_0⟩ := af.out; have aZ := A2o HGz5; have ba := A2p HGz5; have a2 := A2q HGz5
  try simp only [A0i, A0j] at a2
  have bb := A0d HGz5 0; have bc := A0d HGz5 1; have be := A0d HGz5 2; clear HGz5 hgz5
  go_wp2
  repeat ((first | go_quiet (fail) | go_region); try go_wp2)
  go_meet
  case rel => exact ⟨_, (false), kE, H', kO, ⟨(A0a.k af)⟩, ⟨(kk HK)⟩, ⟨(A0a.kl HB)⟩⟩
 case rest =>
  clear aT; obtain ⟨kq, ai, rfl, HA, aA, af, HK, HB⟩ := hcut
  cases kq with
  | zero => exact absurd HA.out (by simp [A0k.j0])
  | succ b0 =>
   have H := HA.out; clear HA; simp only [A0k.j0] at H; have bf := ak H; clear H
   go_upto_if 26 with (fail)
   repeat (go_quiet (fail); go_upto_if 26 with (fail))
   go_cut [] (fun wc => ∃ (kq : Nat) (ad : Option Int), A0b (A0k.j1 kq a1 ac aa ad = some (r1, r2, r3, r4)) ∧ A0b (kq ≤ b0) ∧ A0b (A0a w0 wc g ac aa ad) ∧ A0b (A1r w wc g none) ∧ A0b (Below w0.heap.size w0 wc))
   case first =>
    have H := bf.out; clear bf
    by_cases c7 : ai = true
    ·subst c7
     rw [if_pos rfl] at H; have H' := ak H; clear H; obtain ⟨ASz8_0, cSz8_0, HGz8, hgz8, HSz8_0, HLSz8_0⟩ := af.out; have bh := A2o HGz8; have bi := A2p HGz8; have a3 := A2q HGz8
     try simp only [A0i, A0j] at a3
     have bj := A0d HGz8 0; have bk := A0d HGz8 1; have bm := A0d HGz8 2; clear HGz8 hgz8
     go_wp2
     repeat ((first | go_quiet (fail) | go_region); try go_wp2)
     go_meet
     case rel => exact ⟨_, (some 2), H', ⟨by have := aA.out; first | omega | exact Nat.le_refl _⟩, ⟨(A0a.k af)⟩, ⟨(kk HK)⟩, ⟨(A0a.kl HB)⟩⟩
    replace c7 := Bool.eq_false_iff.mpr c7; subst c7
    rw [if_neg (show ¬ (false = true) by decide)] at H; have H' := ak H; clear H
    go_wp2
    repeat ((first | go_quiet (fail) | go_region); try go_wp2)
    go_meet
    case rel => exact ⟨_, (al), H', ⟨by have := aA.out; first | omega | exact Nat.le_refl _⟩, ⟨(A0a.k af)⟩, ⟨(kk HK)⟩, ⟨(A0a.kl HB)⟩⟩
   case rest =>
    clear bf; obtain ⟨kq, ad, HA, br, af, HK, HB⟩ := hcut
    cases kq with
    | zero => exact absurd HA.out (by simp [A0k.j1])
    | succ bn =>
     have H := HA.out; clear HA; simp only [A0k.j1] at H
     rcases ad with _ | av
     ·have H1 : (if 0 ≤ aa then (if aa ≤ (wrap64 (aa + a1)) then (if (wrap64 (aa + a1)) ≤ (ac.length : Int) then (A0k.l0 bn a1 0 ((ac.take ((wrap64 (aa + a1)) : Int).toNat).drop (aa : Int).toNat) (((ac.take ((wrap64 (aa + a1)) : Int).toNat).drop (aa : Int).toNat).length : Int) 0 ac aa none) else (none)) else (none)) else (none)) = some (r1, r2, r3, r4) := by rw [if_pos (show (none : Option Int).isNone = true by rfl)] at H; exact H
      clear H; have H := H1; clear H1
      try simp only [A0i, A0j]
      by_cases c9 : 0 ≤ aa
      ·rw [kIp c9] at H; have b1 := kEt c9; have b2 := kTt c9; clear c9
       by_cases c10 : aa ≤ (wrap64 (aa + a1))
       ·rw [kIp c10] at H; have bs := kEt c10; have bt := kTt c10
        by_cases aB : (wrap64 (aa + a1)) ≤ (ac.length : Int)
        ·rw [kIp aB] at H; have bu := kEt aB; have bv := kTt aB; have H' := ak H; clear H; obtain ⟨ASz12_0, cSz12_0, HGz12, hgz12, HSz12_0, HLSz12_0⟩ := af.out; have aC := A2o HGz12; have aD := A2p HGz12; have ao := A2q HGz12
         try simp only [A0i, A0j] at ao
         have aE := A0d HGz12 0; have aF := A0d HGz12 1; have aG := A0d HGz12 2; clear HGz12 hgz12; obtain ⟨b3, aw, _, ax, _⟩ := info_parts info5; obtain ⟨b4, bo, a6, a7⟩ := A29 (P := Tryd.prog) (Value.int .u8) 0 22 5 .i64 .i64 Tryd.underlying22 aw ax ASz12_0 cSz12_0 ac aa (wrap64 (aa + a1)) kD (by first | omega | exact kD) kD HLSz12_0; have a4 := ak (show Kd.C (Kd.int .u8) w0 b4 ((ac.take ((wrap64 (aa + a1)) : Int).toNat).drop (aa : Int).toNat).length ((ac.take ((wrap64 (aa + a1)) : Int).toNat).drop (aa : Int).toNat) from Kd.A2b (h1 := fun _ => rfl) (a6 _ (Kd.A18 HSz12_0))); have bp := ak (show ((ac.take ((wrap64 (aa + a1)) : Int).toNat).drop (aa : Int).toNat).length ≤ (cSz12_0 - aa.toNat) from a7); (try (have hmn13 : min ((wrap64 (aa + a1)) : Int).toNat ac.length = ((wrap64 (aa + a1)) : Int).toNat := by have h_ : ((wrap64 (aa + a1)) : Int) ≤ (ac.length : Int) := kD; omega)); clear a6 a7 aw ax
         go_wp2
         repeat ((first | go_quiet (fail) | go_region); try go_wp2)
         go_loopg [5, 52] bn (fun kq v5 b5 w' => ∃ (ap : Int) (x52_3 : Int), v5 = .int .u64 ap ∧ b5 = .int .i64 x52_3 ∧ A0b (A0k.l0 kq a1 ap ((ac.take ((wrap64 (aa + a1)) : Int).toNat).drop (aa : Int).toNat) (((ac.take ((wrap64 (aa + a1)) : Int).toNat).drop (aa : Int).toNat).length : Int) x52_3 ac aa none = some (r1, r2, r3, r4)) ∧ A0b (kq ≤ bn) ∧ A0b (A0a w0 w' g ac aa none) ∧ A0b (A1r w w' g none) ∧ A0b (Below w0.heap.size w0 w'))
         case atStart => exact ⟨(0), (0), kE, kE, H', ⟨Nat.le_refl _⟩, ⟨(A0a.k af)⟩, ⟨(kk HK)⟩, ⟨(A0a.kl HB)⟩⟩
         case round =>
          clear H'; obtain ⟨ap, x52_3, rfl, rfl, HA, bw, af, HK, HB⟩ := hrel
          cases gk with
          | zero => exact absurd HA.out (by simp [A0k.l0])
          | succ k3 =>
           have H := HA.out; clear HA; simp only [A0k.l0] at H
           by_cases a5 : x52_3 < (((ac.take ((wrap64 (aa + a1)) : Int).toNat).drop (aa : Int).toNat).length : Int)
           ·rw [kIp a5] at H; have am := kTt a5; (try (have ag := am; simp only [List.length_drop, List.length_take] at ag; (first | rw [hmn13] at ag | skip))); clear a5
            by_cases aH : 0 ≤ x52_3
            ·rw [kIp aH] at H; have bx := kTt aH; clear aH
             by_cases aI : x52_3 < (((ac.take ((wrap64 (aa + a1)) : Int).toNat).drop (aa : Int).toNat).length : Int)
             ·rw [kIp aI] at H; have a8 := kTt aI; (try (have ay := a8; simp only [List.length_drop, List.length_take] at ay; (first | rw [hmn13] at ay | skip))); clear aI; have H' := ak H; clear H; have an : 0 ≤ (x52_3 : Int) := kD; have aj : x52_3 < (((ac.take ((wrap64 (aa + a1)) : Int).toNat).drop (aa : Int).toNat).length : Int) := kD; obtain ⟨bq, a9, ah⟩ := Kd.A2y a4.out x52_3 an aj
              cases a9
              replace ah := pw_cell_below HB.out ah; replace an := kEt an
              (try (have ae := aj; simp only [List.length_drop, List.length_take] at ae; (first | rw [hmn13] at ae | skip); replace ae := kEt ae)); replace aj := kEt aj
              go_wp2
              repeat ((first | go_quiet (fail) | go_region); try go_wp2)
              go_roundg k3
              case measure => have := aA.out; have := br.out; have := bw.out; omega
              case rel => exact ⟨(Go.bits .or .u64 (IntKind.u64.wrap (ap * 256)) (IntKind.u64.wrap (rd ((ac.take ((wrap64 (aa + a1)) : Int).toNat).drop (aa : Int).toNat) x52_3))), (wrap64 (x52_3 + 1)), kE, kE, H', ⟨by have := aA.out; have := br.out; have := bw.out; omega⟩, ⟨(A0a.k af)⟩, ⟨(kk HK)⟩, ⟨(A0a.kl HB)⟩⟩
             exact (kA aI H).elim
            exact (kA aH H).elim
           rw [kIn a5] at H; have am := kFf a5; (try (have ag := am; simp only [List.length_drop, List.length_take] at ag; (first | rw [hmn13] at ag | skip))); clear a5; simp only [Option.some.injEq, Prod.mk.injEq] at H; obtain ⟨rfl, rfl, rfl, rfl⟩ := H; obtain ⟨ASz17_0, cSz17_0, HGz17, hgz17, HSz17_0, HLSz17_0⟩ := af.out; have aJ := A2o HGz17; have aK := A2p HGz17; have aq := A2q HGz17
           try simp only [A0i, A0j] at aq
           have aL := A0d HGz17 0; have aM := A0d HGz17 1; have aN := A0d HGz17 2; clear HGz17 hgz17
           go_wp2
           repeat ((first | go_quiet (fail) | go_region); try go_wp2)
           go_ret
           exact ⟨kF, (A0a.k af), (A0a.kl HB), (kk HK)⟩
        exact (kA aB H).elim
       exact (kA c10 H).elim
      exact (kA c9 H).elim
     have H1 : (some (0, ac, aa, some av)) = some (r1, r2, r3, r4) := by rw [if_neg (show ¬ (some av).isNone = true by simp)] at H; exact H
     clear H; have H := H1; clear H1
     try simp only [A0i, A0j]
     simp only [Option.some.injEq, Prod.mk.injEq] at H; obtain ⟨rfl, rfl, rfl, rfl⟩ := H; obtain ⟨ASz18_0, cSz18_0, HGz18, hgz18, HSz18_0, HLSz18_0⟩ := af.out; have aO := A2o HGz18; have aP := A2p HGz18; have ar := A2q HGz18
     try simp only [A0i, A0j] at ar
     have aQ := A0d HGz18 0; have aR := A0d HGz18 1; have aS := A0d HGz18 2; clear HGz18 hgz18
     go_wp2
     repeat ((first | go_quiet (fail) | go_region); try go_wp2)
     go_ret
     exact ⟨kF, (A0a.k af), (A0a.kl HB), (kk HK)⟩
def A1m.f (k : Nat) (ac : List Int) (ad : Int) (ae : Option Int) : Option (Int × List Int × Int × Option Int) := if ae.isNone = true then ((A1p.f k ac ad).bind fun aa => (some (aa.1, ac, wrap64 (ad + aa.2.1), aa.2.2))) else (some (0, ac, ad, some (ae.getD 0)))
theorem A1m.mono : ∀ a0 a1 a2 k, LeO (A1m.f k a0 a1 a2) (A1m.f (k + 1) a0 a1 a2) := by
 intro a0 a1 a2 k
 unfold A1m.f
 repeat' first
   | with_reducible apply A1p.mono
   | (with_reducible exact LeO.refl _)
   | (with_reducible exact LeO.none _)
   | (with_reducible refine LeO.ite ?_ ?_)
   | (with_reducible refine LeO.bind ?_ (fun _ => ?_))
   | exact LeO.none _
   | refine LeO.ite ?_ ?_
   | refine LeO.bind ?_ (fun _ => ?_)
theorem A1m.calls (k : Nat) (g : Nat) (aa : List Int) (ac : Int) (al : Option Int) (r1 : Int) (r2 : List Int) (r3 : Int) (r4 : Option Int) (w0 w : World) (hI : A0a w0 w g aa ac al) (hB : Below w0.heap.size w0 w) (h : A1m.f k aa ac al = some (r1, r2, r3, r4)) :
  Calls Tryd.prog 115 #[.pointer (some ⟨g, 0, none⟩)] w fun e w' => e = .returned (.int .u64 r1) ∧ A0a w0 w' g r2 r3 r4 ∧ Below w0.heap.size w0 w' ∧ A1r w w' g none := by
 have hu38 := Tryd.underlying38; have hu94 := Tryd.underlying94; have ao := ak hI; have HK := ak (A1r.refl w g none); have HL := ak hB.size; clear hI; have HW0 := ak hB.size; have HB := ak hB; clear hB; have H := h; clear h; unfold A1m.f at H
 rcases al with _ | ag
 ·have H1 : ((A1p.f k aa ac).bind fun ad => (some (ad.1, aa, wrap64 (ac + ad.2.1), ad.2.2))) = some (r1, r2, r3, r4) := by rw [if_pos (show (none : Option Int).isNone = true by rfl)] at H; exact H
  clear H; have H := H1; clear H1
  try simp only [A0i, A0j]
  replace H := bkH H; obtain ⟨⟨ah, ai, aj⟩, A2, H⟩ := H; (try dsimp only at H); simp only [Option.some.injEq, Prod.mk.injEq] at H; obtain ⟨rfl, rfl, rfl, rfl⟩ := H; obtain ⟨ASz3_0, cSz3_0, HGz3, hgz3, HSz3_0, HLSz3_0⟩ := ao.out; have ap := A2o HGz3; have aq := A2p HGz3; have am := A2q HGz3
  try simp only [A0i, A0j] at am
  have ar := A0d HGz3 0; have au := A0d HGz3 1; have av := A0d HGz3 2; clear HGz3 hgz3
  go_enter Tryd.func115, Tryd.ntmps115
  iterate 7 (go_wp2_with (first | (go_at_call 121; (with_reducible refine (A1p.calls k _ _ aa ac ah ai aj _ ?ae ?af A2.out).mono ?_); (case ae => exact Kd.A1i HSz3_0 (A0a.kl HB)); (case af => exact HLSz3_0); rintro e w' ⟨rfl, ⟨nd, rfl⟩⟩; (try simp only [A0i, A0j]); (try first | exact ⟨rfl, _, World.drewN_drewN _ _ _⟩ | exact ⟨rfl, _, Eq.trans (World.drewN_drewN _ _ _) (congrArg (World.drewN _) (Nat.add_assoc _ _ _))⟩))); try go_quiet (first | (go_at_call 121; (with_reducible refine (A1p.calls k _ _ aa ac ah ai aj _ ?ae ?af A2.out).mono ?_); (case ae => exact Kd.A1i HSz3_0 (A0a.kl HB)); (case af => exact HLSz3_0); rintro e w' ⟨rfl, ⟨nd, rfl⟩⟩; (try simp only [A0i, A0j]); (try first | exact ⟨rfl, _, World.drewN_drewN _ _ _⟩ | exact ⟨rfl, _, Eq.trans (World.drewN_drewN _ _ _) (congrArg (World.drewN _) (Nat.add_assoc _ _ _))⟩))))
  go_ret
  exact ⟨kF, (A0a.k ao), (A0a.kl HB), (kk HK)⟩
 have H1 : (some (0, aa, ac, some ag)) = some (r1, r2, r3, r4) := by rw [if_neg (show ¬ (some ag).isNone = true by simp)] at H; exact H
 clear H; have H := H1; clear H1
 try simp only [A0i, A0j]
 simp only [Option.some.injEq, Prod.mk.injEq] at H; obtain ⟨rfl, rfl, rfl, rfl⟩ := H; obtain ⟨ASz4_0, cSz4_0, HGz4, hgz4, HSz4_0, HLSz4_0⟩ := ao.out; have aw := A2o HGz4; have ax := A2p HGz4; have an := A2q HGz4
 try simp only [A0i, A0j] at an
 have ay := A0d HGz4 0; have az := A0d HGz4 1; have a1 := A0d HGz4 2; clear HGz4 hgz4
 go_enter Tryd.func115, Tryd.ntmps115
 go_wp2
 repeat ((first | go_quiet (fail) | go_region); try go_wp2)
 go_ret
 exact ⟨kF, (A0a.k ao), (A0a.kl HB), (kk HK)⟩
end Go.Proofs.YtodocfjbpkicgaaDoor.All
end
section
namespace Go.Proofs.YtodocfjbpkicgaaDoor.All
open Go.RowKit Go.Zw Go.Zl Go.Zm
attribute [local go_sem] A2h A2r
def strings_HasPrefix.f (a0 : ByteArray) (a1 : ByteArray) : Option (Bool) := (stringslite_HasPrefix.f a0 a1).bind fun aa => (some aa)
theorem strings_HasPrefix.calls (a0 : ByteArray) (a1 : ByteArray) (r : Bool) (w : World) (h : strings_HasPrefix.f a0 a1 = some r) :
  Calls Tryd.prog 94 #[.string a0, .string a1] w fun e w' => e = .returned (.bool r) ∧ A0q w w' := by
 have H := h; clear h; unfold strings_HasPrefix.f at H; replace H := bkH H; obtain ⟨aa, A3, H⟩ := H; obtain rfl := Option.some.inj H
 go_enter Tryd.func94, Tryd.ntmps94
 go_wp2_with (first | ((with_reducible refine A0l (f := 114) rfl ?_); refine A1d (some 7) rfl rfl Tryd.func114 (by kernel_rfl) rfl #[.string a0, .string a1] rfl km ?_; (with_reducible refine (stringslite_HasPrefix.calls a0 a1 aa _ A3.out).mono ?_); rintro e w' ⟨rfl, ⟨nd, rfl⟩⟩; refine ⟨_, rfl, ?_⟩))
 go_ret
 exact ⟨by first | rfl | (simp; done) | (simp [*]; done), by repeat (first | exact A0q.refl _ | apply A0q.step)⟩
end Go.Proofs.YtodocfjbpkicgaaDoor.All
end
