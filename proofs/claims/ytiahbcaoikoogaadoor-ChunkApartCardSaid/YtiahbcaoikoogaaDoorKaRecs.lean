-- declarations that this claim needs, copied by a program of the session
import Derived.Test.YtiahbcaoikoogaaDoorKaPChunk
import Derived.Test.YtiahbcaoikoogaaDoorKaAllx57
import Derived.Deep.SlicePairs
import Derived.SizedLaws
section
namespace Go.Proofs.YtiahbcaoikoogaaDoor.PChunk
open Go Go.RowKit Go.Proofs.YtiahbcaoikoogaaDoor Go.Proofs.YtiahbcaoikoogaaDoor.All Go.Proofs.YtiahbcaoikoogaaDoorW.PrintWords Go.Proofs.YtiahbcaoikoogaaDoorW.PrintLast Go.Proofs.YtiahbcaoikoogaaDoor.PKinds Go.Proofs.YtiahbcaoikoogaaDoor.PRising
set_option linter.unusedVariables false
set_option linter.unusedSimpArgs false
theorem rec_ext (x y : S59) (h0 : x.f0 = y.f0) (h1 : x.f1 = y.f1) : x = y := by
  cases x
  cases y
  cases h0
  cases h1
  rfl
theorem enc_ok (kind : Int) (x : S59) (r : List S59) (n t d v e xp : Int) (xl xn : Nat) (h : (enc kind (x :: r) (n, t, d, v, e, xp, (xl : Int), (xn : Int))).2 = 0) :
    (kp kind n t d v e xp xl xn x.f0 x.f1).2.2 = 0 ∧ (enc kind r (kp kind n t d v e xp xl xn x.f0 x.f1).2.1).2 = 0 ∧
      (enc kind (x :: r) (n, t, d, v, e, xp, (xl : Int), (xn : Int))).1 = (kp kind n t d v e xp xl xn x.f0 x.f1).1 ++ (enc kind r (kp kind n t d v e xp xl xn x.f0 x.f1).2.1).1 := by
  rw [enc_cons] at h ⊢
  by_cases c1 : (kp kind n t d v e xp xl xn x.f0 x.f1).2.2 = 0
  · rw [if_pos c1] at h ⊢
    by_cases c2 : (enc kind r (kp kind n t d v e xp xl xn x.f0 x.f1).2.1).2 = 0
    · rw [if_pos c2]
      exact ⟨c1, c2, rfl⟩
    · rw [if_neg c2] at h
      exact absurd h c2
  · rw [if_neg c1] at h
    exact absurd h c1
theorem enc_inj (kind : Int) : ∀ (l m : List S59) (i : Nat) (n t d v e xp : Int) (xl xn : Nat) (Z Z' : List Int), (∀ x ∈ l, Rg x) → (∀ x ∈ m, Rg x) → l.length = m.length → i + l.length ≤ 65535 → Ok (i : Int) (n, t, d, v, e, xp, (xl : Int), (xn : Int)) →
    (enc kind l (n, t, d, v, e, xp, (xl : Int), (xn : Int))).2 = 0 → (enc kind m (n, t, d, v, e, xp, (xl : Int), (xn : Int))).2 = 0 →
    (enc kind l (n, t, d, v, e, xp, (xl : Int), (xn : Int))).1 ++ Z = (enc kind m (n, t, d, v, e, xp, (xl : Int), (xn : Int))).1 ++ Z' → l = m := by
  intro l
  induction l with
  | nil =>
    intro m i n t d v e xp xl xn Z Z' hl hm hlen hi hok h1 h2 he
    cases m with
    | nil => rfl
    | cons y q => exact absurd hlen (by simp)
  | cons x r ih =>
    intro m i n t d v e xp xl xn Z Z' hl hm hlen hi hok h1 h2 he
    cases m with
    | nil => exact absurd hlen (by simp)
    | cons y q =>
      have hlen' : r.length = q.length := by simpa using hlen
      have hi1 : i + 1 + r.length ≤ 65535 := by rw [List.length_cons] at hi; omega
      obtain ⟨xl', xn', el, en, hx⟩ := hok.w
      have hx : xl + xn ≤ 64 := by
        have e1 : (xl : Int) = (xl' : Int) := el
        have e2 : (xn : Int) = (xn' : Int) := en
        omega
      have hp := hok.p0
      have hn0 : 0 ≤ n := hok.n0
      have hn1 : n ≤ (i : Int) := hok.n1
      have hrx := hl x (by simp)
      have hry := hm y (by simp)
      obtain ⟨a1, a2, a3⟩ := enc_ok kind x r n t d v e xp xl xn h1
      obtain ⟨b1, b2, b3⟩ := enc_ok kind y q n t d v e xp xl xn h2
      have ka := fun S => (kg_own kind n t d v e xp xl xn x.f0 x.f1 hn0 hrx.1 hrx.2 hp hx a1 S).1
      have kb := fun S => (kg_own kind n t d v e xp xl xn y.f0 y.f1 hn0 hry.1 hry.2 hp hx b1 S).1
      have ko := kp_ok (i : Int) (by omega) kind n t d v e xp xl xn x.f0 x.f1 ⟨hn0, hn1⟩ hrx.2 hp hx a1
      rw [a3, b3] at he
      generalize kp kind n t d v e xp xl xn x.f0 x.f1 = K at *
      generalize kp kind n t d v e xp xl xn y.f0 y.f1 = L at *
      rw [List.append_assoc, List.append_assoc] at he
      have k1 := ka ((enc kind r K.2.1).1 ++ Z)
      rw [he, kb] at k1
      have q1 : y.f0 = x.f0 := congrArg Prod.fst k1
      have k2 : (y.f1, L.2.1, (L.1.length : Int), (0 : Int)) = (x.f1, K.2.1, (K.1.length : Int), (0 : Int)) := congrArg Prod.snd k1
      have q2 : y.f1 = x.f1 := congrArg Prod.fst k2
      have k3 : (L.2.1, (L.1.length : Int), (0 : Int)) = (K.2.1, (K.1.length : Int), (0 : Int)) := congrArg Prod.snd k2
      have q3 : L.2.1 = K.2.1 := (Prod.mk.inj k3).1
      have k4 : ((L.1.length : Int), (0 : Int)) = ((K.1.length : Int), (0 : Int)) := congrArg Prod.snd k3
      have q4 : (L.1.length : Int) = (K.1.length : Int) := congrArg Prod.fst k4
      have hxy : x = y := rec_ext x y q1.symm q2.symm
      have hlk : K.1.length = L.1.length := by omega
      obtain ⟨_, he2⟩ := List.append_inj he hlk
      rw [q3] at b2 he2
      obtain ⟨b, s', c⟩ := K
      obtain ⟨n', t', d', v', e', xp', al, an⟩ := s'
      obtain ⟨yl, yn, e1, e2, hy⟩ := ko.w
      have e1 : al = (yl : Int) := e1
      have e2 : an = (yn : Int) := e2
      subst e1 e2
      have hok2 : Ok ((i + 1 : Nat) : Int) (n', t', d', v', e', xp', (yl : Int), (yn : Int)) := by
        rw [show ((i + 1 : Nat) : Int) = (i : Int) + 1 from by omega]
        exact ko
      have hrq := ih q (i + 1) n' t' d' v' e' xp' yl yn Z Z' (fun z hz => hl z (by simp [hz])) (fun z hz => hm z (by simp [hz])) hlen' hi1 hok2 a2 b2 he2
      rw [hxy, hrq]
theorem enc_take (kind : Int) : ∀ (l : List S59) (k : Nat) (s : S8), (enc kind l s).2 = 0 → (enc kind (l.take k) s).2 = 0 ∧ (enc kind (l.take k) s).1.length ≤ (enc kind l s).1.length := by
  intro l
  induction l with
  | nil => intro k s h; rw [List.take_nil]; exact ⟨h, Nat.le_refl _⟩
  | cons x r ih =>
    intro k s h
    cases k with
    | zero => exact ⟨rfl, Nat.zero_le _⟩
    | succ k =>
      rw [List.take_succ_cons]
      obtain ⟨n, t, d, v, e, xp, xl, xn⟩ := s
      unfold enc at h ⊢
      generalize kp kind n t d v e xp xl.toNat xn.toNat x.f0 x.f1 = K at *
      by_cases c1 : K.2.2 = 0
      · rw [if_pos c1] at h ⊢
        rw [if_pos c1]
        by_cases c2 : (enc kind r K.2.1).2 = 0
        · obtain ⟨g1, g2⟩ := ih k K.2.1 c2
          rw [if_pos c2, if_pos g1]
          refine ⟨rfl, ?_⟩
          rw [List.length_append, List.length_append]
          omega
        · rw [if_neg c2] at h
          exact absurd h c2
      · rw [if_neg c1] at h
        exact absurd h c1
theorem enc_first (kind : Int) (l : List S59) (h0 : 1 ≤ l.length) (h : (enc kind l z8).2 = 0) : 128 ≤ (enc kind l z8).1.length := by
  cases l with
  | nil => exact absurd h0 (by simp)
  | cons x r =>
    obtain ⟨a1, a2, a3⟩ := enc_ok kind x r 0 0 0 0 0 0 0 0 h
    have hk : (kp kind 0 0 0 0 0 0 0 0 x.f0 x.f1).1.length = 128 := by
      unfold kp at a1 ⊢
      by_cases c1 : ¬ (kind = 1 ∨ kind = 2)
      · rw [if_pos c1] at a1
        exact absurd a1 (by decide)
      · rw [if_neg c1, if_pos rfl]
        show (Bs.low (IntKind.u64.wrap x.f0) 64 ++ Bs.low x.f1 64).length = 128
        rw [List.length_append, Bs.low_length, Bs.low_length]
    show 128 ≤ (enc kind (x :: r) (0, 0, 0, 0, 0, 0, ((0 : Nat) : Int), ((0 : Nat) : Int))).1.length
    rw [a3, List.length_append, hk]
    omega
theorem pack_enc (kind : Int) (l m : List S59) (hl : ∀ x ∈ l, Rg x) (hm : ∀ x ∈ m, Rg x) (hlen : l.length = m.length) (hn : l.length ≤ 65535) (h1 : (enc kind l z8).2 = 0) (h2 : (enc kind m z8).2 = 0) :
    Bs.pack (enc kind l z8).1 = Bs.pack (enc kind m z8).1 ↔ l = m := by
  constructor
  · intro h
    have f1 := Bs.flat_pack (enc_bits kind l z8)
    have f2 := Bs.flat_pack (enc_bits kind m z8)
    rw [h, f2] at f1
    exact enc_inj kind l m 0 0 0 0 0 0 0 0 0 _ _ hl hm hlen (by omega) (ok_zero 0 (Int.le_refl _)) h1 h2 f1.symm
  · intro h
    rw [h]
theorem Same_iff_l0 (l m : List S59) (hlen : l.length = m.length) (hn : l.length ≤ 1000000) : ∀ (r i : Nat), i + r = l.length → ∃ q, Ev (fun k => gaiterlaw00_Same.l0 k l m (i : Int)) q ∧ (q = 1 ↔ l.drop i = m.drop i) := by
  intro r
  induction r with
  | zero =>
    intro i hi
    have hnl : ¬ (i : Int) < (l.length : Int) := by omega
    refine ⟨1, Ev.step (fun k => by rw [gaiterlaw00_Same.l0, if_neg hnl]) (Ev.now _), ?_⟩
    rw [List.drop_of_length_le (by omega), List.drop_of_length_le (by omega)]
    exact ⟨fun _ => rfl, fun _ => rfl⟩
  | succ r ih =>
    intro i hi
    have hil : i < l.length := by omega
    have him : i < m.length := by omega
    have hlt : (i : Int) < (l.length : Int) := by omega
    have hmt : (i : Int) < (m.length : Int) := by omega
    have r1 := rdT l i hil
    have r2 := rdT m i him
    rw [List.drop_eq_getElem_cons hil, List.drop_eq_getElem_cons him]
    generalize l[i] = x at r1
    generalize m[i] = y at r2
    obtain ⟨q, g1, g2⟩ := ih (i + 1) (by omega)
    have wi : wrap64 ((i : Int) + 1) = ((i + 1 : Nat) : Int) := by rw [PBits.w64 _ (by omega)]; omega
    by_cases c : x = y
    · subst c
      refine ⟨q, Ev.step (fun k => by rw [gaiterlaw00_Same.l0, if_pos hlt, if_pos (Int.natCast_nonneg i), if_pos hmt, r1, r2, beq_self_eq_true, beq_self_eq_true, Bool.not_true, Bool.or_self, if_neg Bool.false_ne_true, wi]) g1, ?_⟩
      rw [g2]
      exact ⟨fun h => by rw [h], fun h => (List.cons.inj h).2⟩
    · have hb : (!(x.f0 == y.f0) || (!(x.f1 == y.f1))) = true := by
        by_cases h0 : x.f0 = y.f0
        · by_cases h1 : x.f1 = y.f1
          · exact absurd (rec_ext x y h0 h1) c
          · rw [beq_eq_false_iff_ne.mpr h1, Bool.not_false, Bool.or_true]
        · rw [beq_eq_false_iff_ne.mpr h0, Bool.not_false, Bool.true_or]
      refine ⟨0, Ev.step (fun k => by rw [gaiterlaw00_Same.l0, if_pos hlt, if_pos (Int.natCast_nonneg i), if_pos hmt, r1, r2, if_pos hb]) (Ev.now _), ?_⟩
      exact ⟨fun h => absurd h (by decide), fun h => absurd (List.cons.inj h).1 c⟩
theorem Same_iff (l m : List S59) (hlen : l.length = m.length) (hn : l.length ≤ 1000000) : ∃ q, Ev (fun k => gaiterlaw00_Same.f k l m) q ∧ (q = 1 ↔ l = m) := by
  obtain ⟨q, g1, g2⟩ := Same_iff_l0 l m hlen hn l.length 0 (by omega)
  have hc : (l.length : Int) = (m.length : Int) := by rw [hlen]
  refine ⟨q, ?_, g2⟩
  unfold gaiterlaw00_Same.f
  exact Ev.congr (fun k => if_pos hc) g1
end Go.Proofs.YtiahbcaoikoogaaDoor.PChunk
end
section
namespace Go.Proofs.YtiahbcaoikoogaaDoor.Pure
open Go Go.RowKit Go.Proofs.YtiahbcaoikoogaaDoor Go.Proofs.YtiahbcaoikoogaaDoor.All Go.Proofs.YtiahbcaoikoogaaDoorW.PrintWords Go.Proofs.YtiahbcaoikoogaaDoorW.PrintLast Go.Proofs.YtiahbcaoikoogaaDoor.PRising
set_option linter.unusedVariables false
set_option linter.unusedSimpArgs false
theorem ChunkApart_up : Ev (fun k => gaiterlaw09_up.f k) true :=
  Ev.of gaiterlaw09_up.mono (k := 300) (by decide +kernel)
theorem apart_pick (a : Int) (b : Int) (hb : 0 < b ∧ b < 1000) : ∃ t, gaiterlaw00_Pick.f a b = some t ∧ 0 ≤ t ∧ t < b := by
  have hr : -b < Int.tmod a b ∧ Int.tmod a b < b := by
    by_cases h : 0 ≤ a
    · rw [Int.tmod_eq_emod_of_nonneg h]
      have h1 := Int.emod_nonneg a (show b ≠ 0 by omega)
      have h2 := Int.emod_lt_of_pos a hb.1
      omega
    · have e : Int.tmod a b = -(Int.tmod (-a) b) := by rw [Int.neg_tmod, Int.neg_neg]
      rw [e, Int.tmod_eq_emod_of_nonneg (show 0 ≤ -a by omega)]
      have h1 := Int.emod_nonneg (-a) (show b ≠ 0 by omega)
      have h2 := Int.emod_lt_of_pos (-a) hb.1
      omega
  unfold gaiterlaw00_Pick.f
  rw [if_neg (by omega)]
  generalize Int.tmod a b = q at hr
  by_cases h : q < 0
  · rw [if_pos h]
    exact ⟨_, rfl, by rw [PBits.w64 _ (by omega)]; omega, by rw [PBits.w64 _ (by omega)]; omega⟩
  · rw [if_neg h]
    exact ⟨_, rfl, by omega, by omega⟩
theorem apart_byte {x y : Int} (hx : 0 ≤ x ∧ x < 256) (hy : 0 ≤ y ∧ y < 256) (h : UInt8.ofNat x.toNat = UInt8.ofNat y.toNat) : x = y := by
  have h2 := congrArg UInt8.toNat h
  simp only [UInt8.toNat_ofNat'] at h2
  omega
theorem apart_inj : ∀ {a b : List Int}, Bs.Bytes a → Bs.Bytes b → (strOfNums a).toList = (strOfNums b).toList → a = b := by
  intro a
  induction a with
  | nil =>
    intro b ha hb h
    rw [Lib.strOfNums_toList, Lib.strOfNums_toList] at h
    cases b with
    | nil => rfl
    | cons y b => exact absurd h (by simp [Lib.bytesOf])
  | cons x a ih =>
    intro b ha hb h
    cases b with
    | nil => rw [Lib.strOfNums_toList, Lib.strOfNums_toList] at h; exact absurd h (by simp [Lib.bytesOf])
    | cons y b =>
      have h2 := h
      rw [Lib.strOfNums_toList, Lib.strOfNums_toList] at h2
      simp only [Lib.bytesOf, List.map_cons, List.cons.injEq] at h2
      have e1 : x = y := apart_byte (ha x (by simp)) (hb y (by simp)) h2.1
      have e2 := ih (b := b) (fun z hz => ha z (by simp [hz])) (fun z hz => hb z (by simp [hz])) (by rw [Lib.strOfNums_toList, Lib.strOfNums_toList]; exact h2.2)
      rw [e1, e2]
theorem apart_str (a b : List Int) (ha : Bs.Bytes a) (hb : Bs.Bytes b) : (strOfNums a).toList = (strOfNums b).toList ↔ a = b := by
  constructor
  · intro h
    exact apart_inj ha hb h
  · intro h
    rw [h]
section
variable (kind : Int) (l m : List S59) (hl : ∀ x ∈ l, Rg x) (hm : ∀ x ∈ m, Rg x) (n1 : l.length ≤ 100) (n2 : m.length ≤ 100) (h0 : 1 ≤ l.length) (a : Int) (hok : (PChunk.enc kind l PKinds.z8).2 = 0)
include hl n1 h0 hok
theorem apart_cut : ∃ (t : Int) (B : List Int), gaiterlaw00_Pick.f a (l.length : Int) = some t ∧ 0 ≤ wrap64 (1 + t) ∧ wrap64 (1 + t) ≤ (l.length : Int) ∧ Ev (fun k => chunk_Encode.f k kind (l.take (wrap64 (1 + t)).toNat)) (B, none) ∧
    (B.length : Int) ≤ ((Bs.pack (PChunk.enc kind l PKinds.z8).1).length : Int) ∧ (B.length : Int) ≥ 16 := by
  obtain ⟨t, h1, h2, h3⟩ := apart_pick a (l.length : Int) (by omega)
  have hw : wrap64 (1 + t) = 1 + t := PBits.w64 _ (by omega)
  obtain ⟨k, hk⟩ : ∃ k : Nat, 1 + t = (k : Int) := ⟨(1 + t).toNat, by omega⟩
  have hk1 : 1 ≤ k := by omega
  have hk2 : k ≤ l.length := by omega
  have hwk : wrap64 (1 + t) = (k : Int) := by rw [hw, hk]
  have htl : (l.take k).length = k := by rw [List.length_take]; omega
  obtain ⟨e1, e2⟩ := PChunk.enc_take kind l k PKinds.z8 hok
  have g := PChunk.Encode_is kind (l.take k) (fun x hx => hl x (List.mem_of_mem_take hx)) (by omega) (by omega)
  have hf := PChunk.enc_first kind (l.take k) (by omega) e1
  unfold PChunk.res at g
  rw [if_pos e1, List.nil_append] at g
  refine ⟨t, Bs.pack (PChunk.enc kind (l.take k) PKinds.z8).1, h1, by rw [hwk]; exact Int.natCast_nonneg k, by rw [hwk]; exact Int.ofNat_le.mpr hk2, by rw [hwk, Int.toNat_natCast]; exact g, ?_, ?_⟩
  · rw [Bs.pack_length, Bs.pack_length]
    omega
  · rw [Bs.pack_length]
    omega
include hm
theorem apart_j1 (B : List Int) (f : Option Int) (x55 : Bool) (h55 : x55 = true → l.length = m.length ∧ (PChunk.enc kind m PKinds.z8).2 = 0 ∧ B = Bs.pack (PChunk.enc kind m PKinds.z8).1) :
    Ev (fun k => gaiterlaw09_ChunkApart.j1 k kind l m a true (Bs.pack (PChunk.enc kind l PKinds.z8).1) B x55) true := by
  obtain ⟨t, C, p1, p2, p3, p4, p5, p6⟩ := apart_cut kind l hl n1 h0 a hok
  by_cases c : x55 = true
  · obtain ⟨q1, q2, q3⟩ := h55 c
    obtain ⟨q, s1, s2⟩ := PChunk.Same_iff l m q1 (by omega)
    have hpk := PChunk.pack_enc kind l m hl hm q1 (by omega) hok q2
    have hst := apart_str (Bs.pack (PChunk.enc kind l PKinds.z8).1) B (Bs.pack_bytes (PChunk.enc_bits kind l _)) (by rw [q3]; exact Bs.pack_bytes (PChunk.enc_bits kind m _))
    have hne : ¬ (((strOfNums (Bs.pack (PChunk.enc kind l PKinds.z8).1)).toList == (strOfNums B).toList) != (q == 1)) = true := by
      rw [q3] at hst ⊢
      by_cases cq : l = m
      · rw [beq_iff_eq.mpr (hst.mpr (hpk.mpr cq)), beq_iff_eq.mpr (s2.mpr cq)]
        decide
      · rw [beq_eq_false_iff_ne.mpr (fun h => cq (hpk.mp (hst.mp h))), beq_eq_false_iff_ne.mpr (fun h => cq (s2.mp h))]
        decide
    refine Ev.step (fun k => by rw [gaiterlaw09_ChunkApart.j1, if_pos c, p1]) (Ev.bind s1 ?_)
    refine Ev.congr (fun k => by rw [if_neg hne, Option.bind_some, if_pos p2, if_pos p3]) (Ev.bind p4 ?_)
    refine Ev.congr (fun k => by rw [if_pos rfl, if_pos (show (none : Option Int).isNone = true from rfl), if_pos p5, decide_eq_true p6]) (Ev.now true)
  · refine Ev.step (fun k => by rw [gaiterlaw09_ChunkApart.j1, if_neg c, p1, Option.bind_some, if_pos p2, if_pos p3]) (Ev.bind p4 ?_)
    refine Ev.congr (fun k => by rw [if_pos rfl, if_pos (show (none : Option Int).isNone = true from rfl), if_pos p5, decide_eq_true p6]) (Ev.now true)
end
theorem apart_enc (kind : Int) (l : List S59) (hl : ∀ x ∈ l, Rg x) (hn : l.length ≤ 100) : ∃ (B : List Int) (c : Option Int), Ev (fun k => chunk_Encode.f k kind l) (B, c) ∧
    ((c = none ∧ 1 ≤ l.length ∧ (PChunk.enc kind l PKinds.z8).2 = 0 ∧ B = Bs.pack (PChunk.enc kind l PKinds.z8).1) ∨ (c.isNone = false ∧ B = [])) := by
  by_cases c2 : l = []
  · subst c2
    exact ⟨[], some 1, PChunk.Encode_no kind, .inr ⟨rfl, rfl⟩⟩
  have h0 : 1 ≤ l.length := List.length_pos_iff.mpr c2
  have g1 := PChunk.Encode_is kind l hl h0 (by omega)
  unfold PChunk.res at g1
  by_cases c3 : (PChunk.enc kind l PKinds.z8).2 = 0
  · rw [if_pos c3, List.nil_append] at g1
    exact ⟨_, _, g1, .inl ⟨rfl, h0, c3, rfl⟩⟩
  · rw [if_neg c3] at g1
    exact ⟨_, _, g1, .inr ⟨rfl, rfl⟩⟩
theorem ChunkApart_j0 (kind : Int) (l m : List S59) (a : Int) (hl : ∀ x ∈ l, Rg x) (hm : ∀ x ∈ m, Rg x) (n1 : l.length ≤ 100) (n2 : m.length ≤ 100) :
    Ev (fun k => gaiterlaw09_ChunkApart.j0 k kind l m a true false) true := by
  obtain ⟨A, c, g1, q1⟩ := apart_enc kind l hl n1
  obtain ⟨B, f, g2, q2⟩ := apart_enc kind m hm n2
  refine Ev.step (fun k => by rw [gaiterlaw09_ChunkApart.j0, if_neg Bool.false_ne_true]) (Ev.bind g1 (Ev.bind g2 ?_))
  rcases q1 with ⟨rfl, h0, hok, rfl⟩ | ⟨hc, rfl⟩
  · refine Ev.congr (fun k => if_pos (show (none : Option Int).isNone = true from rfl)) ?_
    rcases q2 with ⟨rfl, h0', hok', hB⟩ | ⟨hf, hB⟩
    · refine Ev.congr (fun k => if_pos (show (none : Option Int).isNone = true from rfl)) ?_
      exact apart_j1 kind l m hl hm n1 h0 a hok B none _ (fun h => ⟨by have := beq_iff_eq.mp h; omega, hok', hB⟩)
    · refine Ev.congr (fun k => if_neg (by rw [hf]; exact Bool.false_ne_true)) ?_
      exact apart_j1 kind l m hl hm n1 h0 a hok B f false (fun h => absurd h Bool.false_ne_true)
  · refine Ev.congr (fun k => ?_) (Ev.now true)
    show (if c.isNone = true then _ else (if true = true then (some ((([] : List Int).length : Int) == 0)) else none)) = some true
    rw [hc, if_neg Bool.false_ne_true, if_pos rfl]
    rfl
theorem ChunkApart : gaiterlaw09_ChunkApart.Pure := by
  intro kind l m a _ _ _ h1 _ _ h2 _
  have h1 : ∀ x ∈ l, Rg x := fun x h => ⟨Ib.wf_i64 (h1 x h).1, Ib.wf_u64 (h1 x h).2⟩
  have h2 : ∀ x ∈ m, Rg x := fun x h => ⟨Ib.wf_i64 (h2 x h).1, Ib.wf_u64 (h2 x h).2⟩
  refine Ev.rounds (g := fun k => gaiterlaw09_ChunkApart.f k kind l m a) ?_
  unfold gaiterlaw09_ChunkApart.f
  refine Ev.bind ChunkApart_up ?_
  have hout : ∀ x, x = true → Ev (fun k => gaiterlaw09_ChunkApart.j0 k kind l m a true x) true := by
    intro x hx
    subst hx
    exact Ev.step (fun k => by rw [gaiterlaw09_ChunkApart.j0, if_pos rfl]) (Ev.now _)
  by_cases c1 : (l.length : Int) > 100
  · simp only [if_pos c1]
    exact hout _ rfl
  simp only [if_neg c1]
  by_cases c2 : (m.length : Int) > 100
  · exact hout _ (decide_eq_true c2)
  rw [decide_eq_false c2]
  exact ChunkApart_j0 kind l m a h1 h2 (by omega) (by omega)
end Go.Proofs.YtiahbcaoikoogaaDoor.Pure
end
section
namespace Go.Proofs.YtiahbcaoikoogaaDoor
open Go Go.ChangeShapes Go.WideShapes Go.Deep
set_option linter.unusedVariables false
set_option linter.unusedSimpArgs false
theorem recs2 {H : Type} {enc : TypeId × Value → H} {P : Program} {W : World} {base : Nat} {spare : Nat → Bool} {held : Bool} {t e : TypeId} {f0 f1 : Field} {k0 k1 : IntKind} {a : Option Addr} {len cap : Nat} {d : DataW H} {ps : List MemPlace} {ts : List TypeId} {ds : List (DataW H)} {j : Nat}
    (hsz : (DataW.weightsEach P ts ds).all (· ≤ reachBytes) = true) (hts : ts[j]? = some t) (hds : ds[j]? = some d) (ht : P.underlying t = some (.slice e)) (he : P.underlying e = some (.struct #[f0, f1]))
    (ce : P.cellsOf e = 2) (o0 : f0.offset = 0) (o1 : f1.offset = 1) (c0 : P.cellsOf f0.type = 1) (c1 : P.cellsOf f1.type = 1) (u0 : P.underlying f0.type = some (.int k0)) (u1 : P.underlying f1.type = some (.int k1))
    {B : Nat} (hB : P.bytesOf e = B) (h : DataW.Trod enc P W base spare held t (.slice a len cap) d ps) :
    ∃ zs : List (Int × Int), len = zs.length ∧ len ≤ cap ∧ len ≤ maxLen ∧ len * B ≤ 140737488351232 ∧ (∀ z ∈ zs, (Lit.int k0 z.1).wf = true ∧ (Lit.int k1 z.2).wf = true) ∧
      (0 < len → ∃ ad, a = some ad ∧ ∀ i z, zs[i]? = some z → W.cell? (ad.add (i * 2)) = some (.int k0 z.1) ∧ W.cell? (ad.add (i * 2 + 1)) = some (.int k1 z.2)) := by
  obtain ⟨fuel, hf⟩ := h
  rcases open_slice_pairs ht he ce o0 o1 c0 c1 hf with ⟨hcs, _⟩ | ⟨a', len', cap', m, n, V0, V1, D0, D1, P0, P1, hcs, hb, hl, hm, hmm, hx, hall⟩
  · simp [Value.cells] at hcs
    obtain ⟨rfl, rfl, rfl⟩ := hcs
    exact ⟨[], rfl, Nat.le_refl _, Nat.zero_le _, by simp, fun z hz => by simp at hz, fun h => absurd h (Nat.lt_irrefl 0)⟩
  · simp [Value.cells] at hcs
    obtain ⟨rfl, rfl, rfl⟩ := hcs
    have hlm : len ≤ m := by
      rw [hmm]
      split
      · exact hl
      · exact Nat.le_refl _
    have each : ∀ i, i < len → ∃ z : Int × Int, W.cell? (a'.add (i * 2)) = some (.int k0 z.1) ∧ W.cell? (a'.add (i * 2 + 1)) = some (.int k1 z.2) ∧ (Lit.int k0 z.1).wf = true ∧ (Lit.int k1 z.2).wf = true := by
      intro i hi
      obtain ⟨h0, h1, t0, t1⟩ := hall i (Nat.lt_of_lt_of_le hi hlm)
      obtain ⟨z0, e0, _, w0⟩ := DataW.trod_int u0 t0
      obtain ⟨z1, e1, _, w1⟩ := DataW.trod_int u1 t1
      injection e0 with e0
      injection e1 with e1
      rw [e0] at h0
      rw [e1] at h1
      exact ⟨(z0, z1), h0, h1, w0, w1⟩
    obtain ⟨q, hq⟩ := choose_lt each
    obtain ⟨hx, _⟩ := Prod.mk.inj hx
    subst hx
    have z := sized_slice hsz hts hds ht
    rw [hB] at z
    simp only [List.length_map, List.length_range] at z
    refine ⟨(List.range len).map q, by simp, hl, Nat.le_trans hl hm, Nat.le_trans (Nat.mul_le_mul_right _ (by omega)) z, ?_, fun _ => ⟨a', rfl, ?_⟩⟩
    · intro p hp
      obtain ⟨i, hi, rfl⟩ := List.mem_map.1 hp
      have := hq i (List.mem_range.1 hi)
      exact ⟨this.2.2.1, this.2.2.2⟩
    · intro i p hp
      rw [List.getElem?_map] at hp
      obtain ⟨i', hi', rfl⟩ := Option.map_eq_some_iff.1 hp
      have hlt := List.getElem?_eq_some_iff.1 hi'
      obtain ⟨hlt, hie⟩ := hlt
      rw [List.length_range] at hlt
      rw [List.getElem_range] at hie
      subst hie
      have := hq i hlt
      exact ⟨this.1, this.2.1⟩
end Go.Proofs.YtiahbcaoikoogaaDoor
end
