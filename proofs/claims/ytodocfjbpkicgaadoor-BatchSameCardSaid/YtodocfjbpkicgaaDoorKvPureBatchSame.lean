-- copied by a program of the session
import Derived.Test.YtodocfjbpkicgaaDoorKvAllx37
import Derived.Test.YtodocfjbpkicgaaDoorKvPureBatchTells
namespace Go.Proofs.YtodocfjbpkicgaaDoor.Pure
open Go Go.RowKit Go.Proofs.YtodocfjbpkicgaaDoor Go.Proofs.YtodocfjbpkicgaaDoor.All Go.Proofs.YtodocfjbpkicgaaDoorW.PrintWords Go.Proofs.YtodocfjbpkicgaaDoorW.PrintLast Go.Proofs.YtodocfjbpkicgaaDoor.PKinds Go.Proofs.YtodocfjbpkicgaaDoor.PSlowB Go.Proofs.YtodocfjbpkicgaaDoor.PBatch
set_option linter.unusedVariables false
set_option linter.unusedSimpArgs false
theorem code_none : A00.f none = some 0 := rfl
theorem S_j2 (kind : Int) (b : List Int) (q : Int) (L : List S42) (E : Option Int) (a i len : Int) (x : S42) (bA : List Int) (uA hA : Int) (S : S8) (b2 : List Int) (u2 h2 n t d v e xp xl xn : Int) (hi0 : 0 ≤ i) (hi : i < (L.length : Int)) (hx : A2h L i = x)
    (hn : Ev (fun k => A0h.l0 k kind b q true L E (wrap64 (a + len)) (wrap64 (i + 1)) bA uA hA S.1 S.2.1 S.2.2.1 S.2.2.2.1 S.2.2.2.2.1 S.2.2.2.2.2.1 S.2.2.2.2.2.2.1 S.2.2.2.2.2.2.2 b2 u2 h2 n t d v e xp xl xn n t d v e xp xl xn) true) :
    Ev (fun k => A0h.j2 k kind b q true L E a i [x] len false bA uA hA S.1 S.2.1 S.2.2.1 S.2.2.2.1 S.2.2.2.2.1 S.2.2.2.2.2.1 S.2.2.2.2.2.2.1 S.2.2.2.2.2.2.2 b2 u2 h2 n t d v e xp xl xn x.f0 x.f1 n t d v e xp xl xn) true := by
  have h1 : (0 : Int) < (([x] : List S42).length : Int) := by rw [List.length_singleton]; decide
  have h2 : A2h [x] 0 = x := rfl
  refine Ev.step (fun k => ?_) hn
  rw [A0h.j2, if_neg Bool.false_ne_true, if_pos h1, h2, if_pos hi0, if_pos hi, hx]
  simp only [beq_self_eq_true, Bool.not_true, Bool.or_self, Bool.false_eq_true, if_false]
theorem mx_cnt (q : Int) : mx (mn q 32) 0 = (cntB q : Int) := by
 unfold mx mn cntB
 split <;> split <;> split <;> omega
theorem left_w (l m : Nat) (hl : l ≤ 600) (hm : m ≤ 8 * l) : ((8 * l - m : Nat) : Int) = wrap64 (wrap64 (8 * (l : Int)) - (m : Int)) := by
 have e1 : wrap64 (8 * (l : Int)) = 8 * (l : Int) := PBits.w64 _ (by omega)
 have e2 : wrap64 (8 * (l : Int) - (m : Int)) = 8 * (l : Int) - (m : Int) := PBits.w64 _ (by omega)
 rw [e1, e2]
 omega
theorem S_j3 (b : List Int) (q : Int) (L : List S42) (m : Int) (bA : List Int) (uA hA z : Int) (n t d v e xp xl xn : Int) (hL : (L.length : Int) = mx (mn q 32) 0) (hA' : A1e.f bA uA hA = some (z, bA, uA, hA)) (hz : z = wrap64 (wrap64 (8 * (b.length : Int)) - m)) :
    Ev (fun k => A0h.j3 k b q true L none m false bA uA hA n t d v e xp xl xn n t d v e xp xl xn) true := by
  have e : ∀ k, A0h.j3 (k + 1) b q true L none m false bA uA hA n t d v e xp xl xn n t d v e xp xl xn = some true := fun k => by
    rw [A0h.j3, if_neg Bool.false_ne_true, if_pos rfl, if_pos Option.isNone_none]
    simp only [beq_self_eq_true, Bool.and_self, if_true]
    rw [if_pos hL, hA', Option.bind_some]
    simp only [hz, beq_self_eq_true]
  exact Ev.step (fun k => e k) (Ev.now true)
theorem S_end (kind : Int) (hk : kind = 1 ∨ kind = 2) (b : List Int) (q : Int) (L : List S42) (m i : Int) (bA : List Int) (uA hA z : Int) (b2 : List Int) (u2 h2 n t d v e xp xl xn : Int) (hi : ¬ (i < q ∧ i < 32)) (hL : (L.length : Int) = mx (mn q 32) 0) (hA' : A1e.f bA uA hA = some (z, bA, uA, hA)) (hz : z = wrap64 (wrap64 (8 * (b.length : Int)) - m)) :
    Ev (fun k => A0h.l0 k kind b q true L none m i bA uA hA n t d v e xp xl xn b2 u2 h2 n t d v e xp xl xn n t d v e xp xl xn) true := by
  have h3 := S_j3 b q L m bA uA hA z n t d v e xp xl xn hL hA' hz
  have h1 : Ev (fun k => A0h.j1 k kind b q true L none m i false bA uA hA n t d v e xp xl xn b2 u2 h2 n t d v e xp xl xn n t d v e xp xl xn) true := by
    rcases hk with rfl | rfl
    · exact Ev.step (fun k => by rw [A0h.j1, if_neg Bool.false_ne_true, if_pos rfl]) h3
    · exact Ev.step (fun k => by rw [A0h.j1, if_neg Bool.false_ne_true, if_neg (by decide)]; rfl) h3
  by_cases c1 : i < q
  · have c2 : ¬ i < 32 := fun c => hi ⟨c1, c⟩
    exact Ev.step (fun k => by rw [A0h.l0, if_pos c1, decide_eq_false c2]) h1
  · exact Ev.step (fun k => by rw [A0h.l0, if_neg c1]) h1
theorem rd_mid (acc r : List S42) (x : S42) : A2h (acc ++ x :: r) (acc.length : Int) = x := by
 have hl : acc.length < (acc ++ x :: r).length := by rw [List.length_append, List.length_cons]; omega
 rw [PRising.rdT _ _ hl, List.getElem_append_right (Nat.le_refl _)]
 simp only [Nat.sub_self, List.getElem_cons_zero]
theorem S_bad (kind : Int) (b : List Int) (q : Int) (L : List S42) (c m i : Int) (bA : List Int) (uA hA : Int) (b2 : List Int) (u2 h2 n t d v e xp xl xn : Int) (b3 : List Int) (u3 h3 : Int) (hi : i < q) (hi2 : i < 32) (hL : (L.length : Int) = i) (hc : A00.f (some c) = some c)
    (g1 : Ev (fun k => A0w.f k kind b2 u2 h2 n t d v e xp xl xn 1) ([], n, t, d, v, e, xp, xl, xn, some c, b3, u3, h3)) (T V n' t' d' v' e' xp' al an len : Int) (g2 : Ev (fun k => A1o.f k kind n t d v e xp xl xn b m) (T, V, n', t', d', v', e', xp', al, an, len, some c)) :
    Ev (fun k => A0h.l0 k kind b q true L (some c) m i bA uA hA n t d v e xp xl xn b2 u2 h2 n t d v e xp xl xn n t d v e xp xl xn) true := by
  refine Ev.step (fun k => by rw [A0h.l0, if_pos hi, decide_eq_true hi2]) ?_
  refine Ev.step (fun k => by rw [A0h.j1, if_pos rfl]) (Ev.bind g1 (Ev.bind g2 ?_))
  refine Ev.congr (fun k => ?_) (Ev.now true)
  simp only [hc, Option.bind_some, Option.isNone_some, Bool.false_eq_true, if_false, if_true, Option.getD_some, List.length_nil, beq_self_eq_true, Bool.and_self, hL]
  rfl
theorem S_ok (kind : Int) (b : List Int) (q : Int) (L : List S42) (E : Option Int) (m i : Int) (bA : List Int) (uA hA : Int) (S : S8) (b2 : List Int) (u2 h2 n t d v e xp xl xn : Int) (b3 : List Int) (u3 h3 : Int) (hi : i < q) (hi2 : i < 32) (hi0 : 0 ≤ i) (hlt : i < (L.length : Int)) (T V n' t' d' v' e' xp' al an len : Int) (hrd : A2h L i = ⟨T, V⟩)
    (g1 : Ev (fun k => A0w.f k kind b2 u2 h2 n t d v e xp xl xn 1) ([(⟨T, V⟩ : S42)], n', t', d', v', e', xp', al, an, none, b3, u3, h3)) (g2 : Ev (fun k => A1o.f k kind n t d v e xp xl xn b m) (T, V, n', t', d', v', e', xp', al, an, len, none))
    (hn : Ev (fun k => A0h.l0 k kind b q true L E (wrap64 (m + len)) (wrap64 (i + 1)) bA uA hA S.1 S.2.1 S.2.2.1 S.2.2.2.1 S.2.2.2.2.1 S.2.2.2.2.2.1 S.2.2.2.2.2.2.1 S.2.2.2.2.2.2.2 b3 u3 h3 n' t' d' v' e' xp' al an n' t' d' v' e' xp' al an) true) :
    Ev (fun k => A0h.l0 k kind b q true L E m i bA uA hA S.1 S.2.1 S.2.2.1 S.2.2.2.1 S.2.2.2.2.1 S.2.2.2.2.2.1 S.2.2.2.2.2.2.1 S.2.2.2.2.2.2.2 b2 u2 h2 n t d v e xp xl xn n t d v e xp xl xn) true := by
  have h2' := S_j2 kind b q L E m i len ⟨T, V⟩ bA uA hA S b3 u3 h3 n' t' d' v' e' xp' al an hi0 hlt hrd hn
  have hge : decide (i ≥ (L.length : Int)) = false := decide_eq_false (by omega)
  have h1 : (([(⟨T, V⟩ : S42)] : List S42).length : Int) = 1 := by rw [List.length_singleton]; rfl
  generalize S.1 = s1, S.2.1 = s2, S.2.2.1 = s3, S.2.2.2.1 = s4, S.2.2.2.2.1 = s5, S.2.2.2.2.2.1 = s6, S.2.2.2.2.2.2.1 = s7, S.2.2.2.2.2.2.2 = s8 at *
  refine Ev.step (fun k => by rw [A0h.l0, if_pos hi, decide_eq_true hi2]) ?_
  refine Ev.step (fun k => by rw [A0h.j1, if_pos rfl]) (Ev.bind g1 (Ev.bind g2 ?_))
  refine Ev.congr (fun k => ?_) h2'
  simp only [code_none, Option.bind_some, Option.isNone_none, if_true, h1, hge]
theorem S_l0 (kind : Int) (hk : kind = 1 ∨ kind = 2) (b : List Int) (hb : Bs.Bytes b) (hl : b.length ≤ 600) (q : Int) (L : List S42) (E : Int) (S : S8) (bA : List Int) (uA hA : Int) :
    ∀ (r i m : Nat) (acc : List S42) (b2 : List Int) (u2 h2 n t d v e xp : Int) (xl xn : Nat), i + r = cntB q → acc.length = i → m ≤ (Bs.flat b).length → PFill.Inv ((Bs.flat b).drop m) b2 u2 h2 → Ok (i : Int) (n, t, d, v, e, xp, (xl : Int), (xn : Int)) →
      L = acc ++ (dec kind r (n, t, d, v, e, xp, (xl : Int), (xn : Int)) ((Bs.flat b).drop m)).1 → E = (dec kind r (n, t, d, v, e, xp, (xl : Int), (xn : Int)) ((Bs.flat b).drop m)).2.1 → S = nxs kind r (n, t, d, v, e, xp, (xl : Int), (xn : Int)) ((Bs.flat b).drop m) →
      (E = 0 → A1e.f bA uA hA = some (((dec kind r (n, t, d, v, e, xp, (xl : Int), (xn : Int)) ((Bs.flat b).drop m)).2.2.length : Int), bA, uA, hA)) →
      Ev (fun k => A0h.l0 k kind b q true L (if E = 0 then none else some E) (m : Int) (i : Int) bA uA hA S.1 S.2.1 S.2.2.1 S.2.2.2.1 S.2.2.2.2.1 S.2.2.2.2.2.1 S.2.2.2.2.2.2.1 S.2.2.2.2.2.2.2 b2 u2 h2 n t d v e xp (xl : Int) (xn : Int) n t d v e xp (xl : Int) (xn : Int)) true := by
  have hfl := Bs.A10 b
  intro r
  induction r with
  | zero =>
    intro i m acc b2 u2 h2 n t d v e xp xl xn hi ha hm hI hok hL hE hS hA'
    have hE : E = 0 := hE
    have hL : L = acc ++ [] := hL
    have hS : S = (n, t, d, v, e, xp, (xl : Int), (xn : Int)) := hS
    have hA2 : A1e.f bA uA hA = some ((((Bs.flat b).drop m).length : Int), bA, uA, hA) := hA' hE
    clear hA'
    rw [List.append_nil] at hL
    rw [List.length_drop, hfl] at hA2
    subst hE hS hL
    rw [if_pos rfl]
    exact S_end kind hk b q L (m : Int) (i : Int) bA uA hA _ b2 u2 h2 n t d v e xp (xl : Int) (xn : Int) (cntB_ge q i (by omega)) (by rw [mx_cnt]; omega) hA2 (left_w b.length m hl (by omega))
  | succ r ih =>
    intro i m acc b2 u2 h2 n t d v e xp xl xn hi ha hm hI hok hL hE hS hA'
    obtain ⟨c1, c2⟩ := cntB_lt q i (by omega)
    have hcl := cntB_le q
    obtain ⟨xl', xn', el, en, hx⟩ := hok.w
    have hx : xl + xn ≤ 64 := by
      have e1 : (xl : Int) = (xl' : Int) := el
      have e2 : (xn : Int) = (xn' : Int) := en
      omega
    have hp := hok.p0
    have hn0 : 0 ≤ n := hok.n0
    have hn1 : n ≤ (i : Int) := hok.n1
    have hRl : ((Bs.flat b).drop m).length < 70368744177664 := by rw [List.length_drop]; omega
    have hN := Next_any kind hk 1 i (by omega) _ b2 u2 h2 hI hRl n t d v e xp xl xn hok
    have hG := PKinds.Get_is kind n t d v e xp xl xn hn0 hp hx b hb (by omega) (m : Int) (by omega)
    have hrest : PDod.restL (Bs.flat b) (m : Int) = (Bs.flat b).drop m := by
      unfold PDod.restL
      rw [if_neg (by omega), Int.toNat_natCast]
    rw [hrest] at hG
    have ko := kg_ok (i : Int) (by omega) kind n t d v e xp xl xn ⟨hn0, hn1⟩ hp hx _ hI.bits hRl
    have kc := kg_code kind n t d v e xp xl xn ((Bs.flat b).drop m)
    have hd1 := dec_succ kind 0 n t d v e xp xl xn ((Bs.flat b).drop m)
    have hs1 := nxs_succ kind 0 n t d v e xp xl xn ((Bs.flat b).drop m)
    rw [show cntB 1 = 0 + 1 from by decide, hd1, hs1] at hN
    clear hd1 hs1
    rw [dec_succ] at hL hE hA'
    rw [nxs_succ] at hS
    generalize PKinds.kg kind n t d v e xp xl xn ((Bs.flat b).drop m) = K at *
    obtain ⟨T, V, ⟨n', t', d', v', e', xp', al, an⟩, len, c⟩ := K
    obtain ⟨b3, u3, h3, g1, g2⟩ := hN
    by_cases c0 : c = 0
    · subst c0
      obtain ⟨ko', m1, hm1, hm2, _⟩ := ko rfl
      have hm1 : len = (m1 : Int) := hm1
      subst hm1
      obtain ⟨yl, yn, e1, e2, hy⟩ := ko'.w
      have e1 : al = (yl : Int) := e1
      have e2 : an = (yn : Int) := e2
      subst e1 e2
      have hm2 : m1 ≤ ((Bs.flat b).drop m).length := hm2
      rw [List.length_drop] at hm2
      have g1 : Ev (fun k => A0w.f k kind b2 u2 h2 n t d v e xp (xl : Int) (xn : Int) 1) ([(⟨T, V⟩ : S42)], n', t', d', v', e', xp', (yl : Int), (yn : Int), none, b3, u3, h3) := g1
      have hI2 : PFill.Inv (((Bs.flat b).drop m).drop (m1 : Int).toNat) b3 u3 h3 := (g2 rfl).1
      have hG : Ev (fun k => A1o.f k kind n t d v e xp (xl : Int) (xn : Int) b (m : Int)) (T, V, n', t', d', v', e', xp', (yl : Int), (yn : Int), (m1 : Int), none) := hG
      have hok2 : Ok ((i + 1 : Nat) : Int) (n', t', d', v', e', xp', (yl : Int), (yn : Int)) := by
        rw [show ((i + 1 : Nat) : Int) = (i : Int) + 1 from by omega]
        exact ko'
      have hL : L = acc ++ ((⟨T, V⟩ : S42) :: (dec kind r (n', t', d', v', e', xp', (yl : Int), (yn : Int)) (((Bs.flat b).drop m).drop (m1 : Int).toNat)).1) := hL
      have hE : E = (dec kind r (n', t', d', v', e', xp', (yl : Int), (yn : Int)) (((Bs.flat b).drop m).drop (m1 : Int).toNat)).2.1 := hE
      have hS : S = nxs kind r (n', t', d', v', e', xp', (yl : Int), (yn : Int)) (((Bs.flat b).drop m).drop (m1 : Int).toNat) := hS
      have hA' : E = 0 → A1e.f bA uA hA = some (((dec kind r (n', t', d', v', e', xp', (yl : Int), (yn : Int)) (((Bs.flat b).drop m).drop (m1 : Int).toNat)).2.2.length : Int), bA, uA, hA) := hA'
      rw [Int.toNat_natCast, List.drop_drop] at hI2 hL hE hS hA'
      have hih := ih (i + 1) (m + m1) (acc ++ [⟨T, V⟩]) b3 u3 h3 n' t' d' v' e' xp' yl yn (by omega) (by rw [List.length_append, List.length_singleton, ha]) (by omega) hI2 hok2 (by rw [hL, List.append_assoc]; rfl) hE hS hA'
      have hrd : A2h L (i : Int) = ⟨T, V⟩ := by rw [hL, ← ha]; exact rd_mid _ _ _
      have hlt : i < L.length := by rw [hL, List.length_append, List.length_cons]; omega
      have hlt' : (i : Int) < (L.length : Int) := by omega
      have wi : wrap64 ((i : Int) + 1) = ((i + 1 : Nat) : Int) := by rw [PBits.w64 _ (by omega)]; omega
      have wm : wrap64 ((m : Int) + (m1 : Int)) = ((m + m1 : Nat) : Int) := by rw [PBits.w64 _ (by omega)]; omega
      rw [← wi, ← wm] at hih
      exact S_ok kind b q L (if E = 0 then none else some E) (m : Int) (i : Int) bA uA hA S b2 u2 h2 n t d v e xp (xl : Int) (xn : Int) b3 u3 h3 c1 c2 (Int.natCast_nonneg i) hlt' T V n' t' d' v' e' xp' (yl : Int) (yn : Int) (m1 : Int) hrd g1 hG hih
    · have hcd : A00.f (some c) = some c := by
        have h := batch_no c kc
        rw [if_neg c0] at h
        exact h
      have hDD : ∀ D : List S42 × Int × List Int, (if c = 0 then D else ([], c, (Bs.flat b).drop m)) = ([], c, (Bs.flat b).drop m) := fun D => if_neg c0
      have hSS : ∀ w : S8, (if c = 0 then w else (n, t, d, v, e, xp, (xl : Int), (xn : Int))) = (n, t, d, v, e, xp, (xl : Int), (xn : Int)) := fun w => if_neg c0
      have g1 : Ev (fun k => A0w.f k kind b2 u2 h2 n t d v e xp (xl : Int) (xn : Int) 1) (npk ([] ++ (if c = 0 then ((⟨T, V⟩ : S42) :: (dec kind 0 (n', t', d', v', e', xp', al, an) (((Bs.flat b).drop m).drop len.toNat)).1, (dec kind 0 (n', t', d', v', e', xp', al, an) (((Bs.flat b).drop m).drop len.toNat)).2) else ([], c, (Bs.flat b).drop m)).1) (if c = 0 then nxs kind 0 (n', t', d', v', e', xp', al, an) (((Bs.flat b).drop m).drop len.toNat) else (n, t, d, v, e, xp, (xl : Int), (xn : Int))) (if (if c = 0 then ((⟨T, V⟩ : S42) :: (dec kind 0 (n', t', d', v', e', xp', al, an) (((Bs.flat b).drop m).drop len.toNat)).1, (dec kind 0 (n', t', d', v', e', xp', al, an) (((Bs.flat b).drop m).drop len.toNat)).2) else ([], c, (Bs.flat b).drop m)).2.1 = 0 then none else some (if c = 0 then ((⟨T, V⟩ : S42) :: (dec kind 0 (n', t', d', v', e', xp', al, an) (((Bs.flat b).drop m).drop len.toNat)).1, (dec kind 0 (n', t', d', v', e', xp', al, an) (((Bs.flat b).drop m).drop len.toNat)).2) else ([], c, (Bs.flat b).drop m)).2.1) b3 u3 h3) := g1
      rw [hDD, hSS] at g1
      have g1 : Ev (fun k => A0w.f k kind b2 u2 h2 n t d v e xp (xl : Int) (xn : Int) 1) (npk [] (n, t, d, v, e, xp, (xl : Int), (xn : Int)) (if c = 0 then none else some c) b3 u3 h3) := g1
      rw [if_neg c0] at g1
      have hG : Ev (fun k => A1o.f k kind n t d v e xp (xl : Int) (xn : Int) b (m : Int)) (T, V, n', t', d', v', e', xp', al, an, len, if c = 0 then none else some c) := hG
      rw [if_neg c0] at hG
      have hL : L = acc ++ (if c = 0 then ((⟨T, V⟩ : S42) :: (dec kind r (n', t', d', v', e', xp', al, an) (((Bs.flat b).drop m).drop len.toNat)).1, (dec kind r (n', t', d', v', e', xp', al, an) (((Bs.flat b).drop m).drop len.toNat)).2) else ([], c, (Bs.flat b).drop m)).1 := hL
      have hE : E = (if c = 0 then ((⟨T, V⟩ : S42) :: (dec kind r (n', t', d', v', e', xp', al, an) (((Bs.flat b).drop m).drop len.toNat)).1, (dec kind r (n', t', d', v', e', xp', al, an) (((Bs.flat b).drop m).drop len.toNat)).2) else ([], c, (Bs.flat b).drop m)).2.1 := hE
      have hS : S = (if c = 0 then nxs kind r (n', t', d', v', e', xp', al, an) (((Bs.flat b).drop m).drop len.toNat) else (n, t, d, v, e, xp, (xl : Int), (xn : Int))) := hS
      rw [hDD] at hL hE
      rw [hSS] at hS
      have hE2 : E = c := hE
      have hL2 : L = acc := hL.trans (List.append_nil acc)
      have hS2 := hS
      clear hL hE hS hA' ko ih kc g2
      subst hL2
      rw [hE2, hS2, if_neg c0]
      exact S_bad kind b q _ c (m : Int) (i : Int) bA uA hA b2 u2 h2 n t d v e xp (xl : Int) (xn : Int) b3 u3 h3 c1 c2 (by rw [ha]) hcd g1 T V n' t' d' v' e' xp' al an len hG
theorem S_no (kind : Int) (hk : ¬ (kind = 1 ∨ kind = 2)) (b : List Int) (hb : Bs.Bytes b) (hl : b.length ≤ 600) (q : Int) (bA : List Int) (uA hA : Int) (b2 : List Int) (u2 h2 : Int) :
    Ev (fun k => A0h.l0 k kind b q true [] (some 6) 0 0 bA uA hA 0 0 0 0 0 0 0 0 b2 u2 h2 0 0 0 0 0 0 0 0 0 0 0 0 0 0 0 0) true := by
  have k1 : ¬ kind = 1 := fun z => hk (.inl z)
  have k2 : (kind != 2) = true := bne_iff_ne.mpr (fun z => hk (.inr z))
  have h6 : A00.f (some 6) = some 6 := rfl
  by_cases c1 : (0 : Int) < q
  · have g1 := Next_no kind hk 1 b2 u2 h2 0 0 0 0 0 0 0 0
    have g2 := PKinds.Get_is kind 0 0 0 0 0 0 0 0 (Int.le_refl _) (by decide) (by decide) b hb (by omega) 0 (by decide)
    unfold PKinds.kg at g2
    rw [if_pos hk] at g2
    exact S_bad kind b q [] 6 0 0 bA uA hA b2 u2 h2 0 0 0 0 0 0 0 0 b2 u2 h2 c1 (by decide) rfl h6 g1 0 0 0 0 0 0 0 0 0 0 0 g2
  · refine Ev.step (fun k => by rw [A0h.l0, if_neg c1]) ?_
    refine Ev.step (fun k => by rw [A0h.j1, if_neg Bool.false_ne_true, if_neg k1, k2]) ?_
    have e : ∀ k, A0h.j3 (k + 1) b q true [] (some 6) 0 true bA uA hA 0 0 0 0 0 0 0 0 0 0 0 0 0 0 0 0 = some true := fun k => by
      rw [A0h.j3, if_pos rfl, if_pos rfl, h6]
      rfl
    exact Ev.step (fun k => e k) (Ev.now true)
theorem BatchSame : A0h.Pure := by
 intro kind b q _ _ _ h1 _
 have h1 : Bs.Bytes b := fun x h => Ib.wf_u8 (h1 x h)
 refine Ev.rounds (g := fun k => A0h.f k kind b q) ?_
 unfold A0h.f
 refine Ev.bind BatchTells_up ?_
 by_cases c1 : (b.length : Int) > 600
 ·exact Ev.congr (fun k => if_pos c1) (Ev.now _)
 have hfl := Bs.A10 b
 have hI := PFill.New_is b h1 (by omega)
 have hnew : A2g.f b = some (b, 0, 0) := rfl
 by_cases hk : kind = 1 ∨ kind = 2
 ·obtain ⟨b2, u2, h2, f1, f2⟩ := Next_any kind hk q 0 (by omega) (Bs.flat b) b 0 0 hI (by omega) 0 0 0 0 0 0 0 0 (ok_zero 0 (Int.le_refl _))
  refine Ev.congr (fun k => by rw [if_neg c1, hnew, Option.bind_some]; rfl) (Ev.bind f1 ?_)
  refine Ev.congr (fun k => by rw [Option.bind_some]) ?_
  have h := S_l0 kind hk b h1 (by omega) q _ _ _ b2 u2 h2 (cntB q) 0 0 [] b 0 0 0 0 0 0 0 0 0 0 (by omega) rfl (Nat.zero_le _) hI (ok_zero 0 (Int.le_refl _)) rfl rfl rfl (fun z => PFill.Left_is (f2 z).1)
  exact h
 ·have f1 := Next_no kind hk q b 0 0 0 0 0 0 0 0 0 0
  refine Ev.congr (fun k => by rw [if_neg c1, hnew, Option.bind_some]) (Ev.bind f1 ?_)
  refine Ev.congr (fun k => by rw [Option.bind_some]) ?_
  exact S_no kind hk b h1 (by omega) q b 0 0 b 0 0
end Go.Proofs.YtodocfjbpkicgaaDoor.Pure
