-- copied by a program of the session
import Derived.Test.YtodocfjbpkicgaaDoorKuAllx28
import Derived.Test.YtodocfjbpkicgaaDoorKuPDecRef
namespace Go.Proofs.YtodocfjbpkicgaaDoor.Pure
open Go Go.RowKit Go.Proofs.YtodocfjbpkicgaaDoor Go.Proofs.YtodocfjbpkicgaaDoor.All Go.Proofs.YtodocfjbpkicgaaDoorW.PrintWords Go.Proofs.YtodocfjbpkicgaaDoorW.PrintLast Go.Proofs.YtodocfjbpkicgaaDoor.PKinds Go.Proofs.YtodocfjbpkicgaaDoor.PSlowB Go.Proofs.YtodocfjbpkicgaaDoor.PBatch
set_option linter.unusedVariables false
set_option linter.unusedSimpArgs false
theorem BatchTells_up : Ev (fun k => A1u.f k) true :=
 Ev.of A1u.mono (k := 300) (by decide +kernel)
theorem batch_no (c : Int) (h : c = 0 ∨ c = 2 ∨ c = 3 ∨ c = 4 ∨ c = 6) : A3m.f (if c = 0 then none else some c) = some c := by
 have e : codeNo (if c = 0 then none else some c) = c := by
  rcases h with rfl | rfl | rfl | rfl | rfl <;> decide
 unfold A3m.f
 rw [e]
def cntB (q : Int) : Nat := if q ≤ 0 then 0 else min q.toNat 32
theorem cntB_le (q : Int) : cntB q ≤ 32 := by
 unfold cntB
 split <;> omega
theorem cntB_lt (q : Int) (j : Nat) (h : j < cntB q) : (j : Int) < q ∧ (j : Int) < 32 := by
 unfold cntB at h
 split at h <;> omega
theorem cntB_ge (q : Int) (j : Nat) (h : j = cntB q) : ¬ ((j : Int) < q ∧ (j : Int) < 32) := by
 unfold cntB at h
 split at h <;> omega
theorem Next_any (kind : Int) (hk : kind = 1 ∨ kind = 2) (q : Int) (base : Nat) (hbase : base ≤ 60000) (R b : List Int) (u h : Int) (hI : PFill.Inv R b u h) (hRl : R.length < 70368744177664) (n t d v e xp : Int) (xl xn : Nat) (hok : Ok (base : Int) (n, t, d, v, e, xp, (xl : Int), (xn : Int))) :
    NSays ((base + cntB q : Nat) : Int) [] (dec kind (cntB q) (n, t, d, v, e, xp, (xl : Int), (xn : Int)) R) (nxs kind (cntB q) (n, t, d, v, e, xp, (xl : Int), (xn : Int)) R)
      (fun k => A01.f k kind b u h n t d v e xp (xl : Int) (xn : Int) q) := by
  have hc := cntB_le q
  have hmn : mn q 32 = ((cntB q : Nat) : Int) ∨ (q ≤ 0 ∧ mn q 32 = q ∧ cntB q = 0) := by
    unfold mn cntB
    split <;> split <;> omega
  have hk2 : ∀ g : Nat → Option NOut, (∃ y, y = false ∧ g = (fun k => A01.j0 k kind q y b u h n t d v e xp (xl : Int) (xn : Int))) → NSays ((base + cntB q : Nat) : Int) [] (dec kind (cntB q) (n, t, d, v, e, xp, (xl : Int), (xn : Int)) R) (nxs kind (cntB q) (n, t, d, v, e, xp, (xl : Int), (xn : Int)) R) g := by
    intro g hg
    obtain ⟨y, hy, hg⟩ := hg
    subst hy hg
    rcases hmn with hm | ⟨hq, hm, h0⟩
    · obtain ⟨b2, u2, h2, f1, f2⟩ := Next_l0 kind hk (cntB q) (by omega) base (by omega) (cntB q) 0 R b u h [] n t d v e xp xl xn (by omega) rfl hI hRl hok
      exact ⟨b2, u2, h2, Ev.step (fun k => by rw [A01.j0, if_neg Bool.false_ne_true, hm]; rfl) f1, f2⟩
    · rw [h0]
      have hnl : ¬ (0 : Int) < q := by omega
      refine ⟨b, u, h, ?_, fun _ => ⟨hI, hok⟩⟩
      show Ev _ (npk ([] ++ []) (n, t, d, v, e, xp, (xl : Int), (xn : Int)) none b u h)
      refine Ev.step (fun k => by rw [A01.j0, if_neg Bool.false_ne_true, hm]) ?_
      exact Ev.step (fun k => by rw [A01.l0, if_neg hnl]; rfl) (Ev.now _)
  unfold A01.f
  rcases hk with rfl | rfl
  · have := hk2 _ ⟨false, rfl, rfl⟩
    obtain ⟨b2, u2, h2, f1, f2⟩ := this
    exact ⟨b2, u2, h2, Ev.congr (fun k => if_pos rfl) f1, f2⟩
  · have := hk2 _ ⟨false, rfl, rfl⟩
    obtain ⟨b2, u2, h2, f1, f2⟩ := this
    exact ⟨b2, u2, h2, Ev.congr (fun k => if_neg (by decide)) f1, f2⟩
section
variable (kind : Int) (l : List Int) (i : Nat) (hi : i < l.length) (q : Int) (hq : rd l (i : Int) = q) (x13 : List S42) (x15 : Option Int) (b : List Int) (u h : Int) (s : S8)
include hi hq
theorem Batch_l1 : ∀ (r j : Nat) (R : List Int) (acc : List S42) (n t d v e xp : Int) (xl xn : Nat), j + r = cntB q → acc.length = j → Bs.Bits R → R.length < 70368744177664 → (∃ B : Nat, B ≤ 100000 ∧ Ok ((B + j : Nat) : Int) (n, t, d, v, e, xp, (xl : Int), (xn : Int))) →
    (∀ (R' : List Int) (L : List S42) (c x18 : Int) (w : S8), R' = (dec kind r (n, t, d, v, e, xp, (xl : Int), (xn : Int)) R).2.2 → L = acc ++ (dec kind r (n, t, d, v, e, xp, (xl : Int), (xn : Int)) R).1 → c = (dec kind r (n, t, d, v, e, xp, (xl : Int), (xn : Int)) R).2.1 → w = nxs kind r (n, t, d, v, e, xp, (xl : Int), (xn : Int)) R →
      Ev (fun k => A0a.j5 k kind l true R' (i : Int) x13 x15 L c x18 false b u h w.1 w.2.1 w.2.2.1 w.2.2.2.1 w.2.2.2.2.1 w.2.2.2.2.2.1 w.2.2.2.2.2.2.1 w.2.2.2.2.2.2.2 s.1 s.2.1 s.2.2.1 s.2.2.2.1 s.2.2.2.2.1 s.2.2.2.2.2.1 s.2.2.2.2.2.2.1 s.2.2.2.2.2.2.2) true) →
    Ev (fun k => A0a.l1 k kind l true R (i : Int) x13 x15 acc 0 (j : Int) b u h n t d v e xp (xl : Int) (xn : Int) s.1 s.2.1 s.2.2.1 s.2.2.2.1 s.2.2.2.2.1 s.2.2.2.2.2.1 s.2.2.2.2.2.2.1 s.2.2.2.2.2.2.2) true := by
  have hil : (i : Int) < (l.length : Int) := by omega
  intro r
  induction r with
  | zero =>
    intro j R acc n t d v e xp xl xn hj ha hRb hRl hok hcont
    have hge := cntB_ge q j (by omega)
    have hc := fun x18 => hcont R acc 0 x18 (n, t, d, v, e, xp, (xl : Int), (xn : Int)) rfl (List.append_nil acc).symm rfl rfl
    by_cases c1 : (j : Int) < q
    · have c2 : ¬ (j : Int) < 32 := fun z => hge ⟨c1, z⟩
      exact Ev.step (fun k => by rw [A0a.l1, if_pos (Int.natCast_nonneg i), if_pos hil, hq, if_pos c1, if_neg c2]) (hc _)
    · exact Ev.step (fun k => by rw [A0a.l1, if_pos (Int.natCast_nonneg i), if_pos hil, hq, if_neg c1]) (hc _)
  | succ r ih =>
    intro j R acc n t d v e xp xl xn hj ha hRb hRl hok hcont
    obtain ⟨c1, c2⟩ := cntB_lt q j (by omega)
    have hcl := cntB_le q
    obtain ⟨B, hB, hok⟩ := hok
    obtain ⟨xl', xn', el, en, hx⟩ := hok.w
    have hx : xl + xn ≤ 64 := by
      have e1 : (xl : Int) = (xl' : Int) := el
      have e2 : (xn : Int) = (xn' : Int) := en
      omega
    have hp := hok.p0
    have hn0 : 0 ≤ n := hok.n0
    have hn1 : n ≤ ((B + j : Nat) : Int) := hok.n1
    have g2 := PKinds.RGet_is kind n t d v e xp xl xn hn0 hp hx R hRb hRl
    have ko := kg_ok ((B + j : Nat) : Int) (by omega) kind n t d v e xp xl xn ⟨hn0, hn1⟩ hp hx R hRb hRl
    rw [dec_succ, nxs_succ] at hcont
    generalize PKinds.kg kind n t d v e xp xl xn R = K at *
    obtain ⟨T, V, ⟨n', t', d', v', e', xp', al, an⟩, len, c⟩ := K
    have ho8 : acc.length < 8796093022208 := by omega
    have g2 : Ev (fun k => A0e.f k kind n t d v e xp (xl : Int) (xn : Int) R) (T, V, n', t', d', v', e', xp', al, an, len, c) := g2
    have l1 : (acc ++ [(⟨T, V⟩ : S42)]).length = j + 1 := by rw [List.length_append, List.length_singleton, ha]
    have l3 : j + 1 + r = cntB q := by omega
    have wj : wrap64 ((j : Int) + 1) = ((j + 1 : Nat) : Int) := by rw [PBits.w64 _ (by omega)]; omega
    by_cases c0 : c = 0
    · obtain ⟨ko', m, hm1, hm2, hm3⟩ := ko c0
      have hm1 : len = (m : Int) := hm1
      subst hm1
      obtain ⟨yl, yn, e1, e2, hy⟩ := ko'.w
      have e1 : al = (yl : Int) := e1
      have e2 : an = (yn : Int) := e2
      subst e1 e2
      have hok2 : Ok ((B + (j + 1) : Nat) : Int) (n', t', d', v', e', xp', (yl : Int), (yn : Int)) := by
        rw [show ((B + (j + 1) : Nat) : Int) = ((B + j : Nat) : Int) + 1 from by omega]
        exact ko'
      have l4 : (R.drop m).length < 70368744177664 := Nat.lt_of_le_of_lt (by rw [List.length_drop]; exact Nat.sub_le _ _) hRl
      have hm2' : (m : Int) ≤ (R.length : Int) := Int.ofNat_le.mpr hm2
      have h1 := ih (j + 1) (R.drop m) (acc ++ [⟨T, V⟩]) n' t' d' v' e' xp' yl yn l3 l1 (hRb.drop m) l4 ⟨B, hB, hok2⟩ (by
        intro R' L c' x18 w hR' hL hc' hw
        refine hcont R' L c' x18 w ?_ ?_ ?_ ?_
        · rw [if_pos c0]
          exact hR'
        · rw [if_pos c0, hL, List.append_assoc]
          rfl
        · rw [if_pos c0]
          exact hc'
        · rw [if_pos c0]
          exact hw)
      refine Ev.step (fun k => by rw [A0a.l1, if_pos (Int.natCast_nonneg i), if_pos hil, hq, if_pos c1, if_pos c2]) ?_
      refine Ev.step (fun k => by rw [A0a.j5, if_pos (by decide)]) (Ev.bind g2 ?_)
      subst c0
      exact Ev.congr (fun k => by rw [if_pos rfl, if_pos ho8, if_pos (Int.natCast_nonneg m), if_pos hm2', Int.toNat_natCast, wj]) h1
    · have hc := fun x18 => hcont R acc c x18 (n, t, d, v, e, xp, (xl : Int), (xn : Int)) (by rw [if_neg c0]) (by rw [if_neg c0]; exact (List.append_nil acc).symm) (by rw [if_neg c0]) (by rw [if_neg c0])
      have cb : (c == 0) = false := beq_eq_false_iff_ne.mpr c0
      refine Ev.step (fun k => by rw [A0a.l1, if_pos (Int.natCast_nonneg i), if_pos hil, hq, if_pos c1, if_pos c2]) ?_
      refine Ev.step (fun k => by rw [A0a.j5, if_pos (by decide)]) (Ev.bind g2 ?_)
      refine Ev.congr (fun k => if_neg c0) ?_
      rw [wj]
      by_cases d1 : ((j + 1 : Nat) : Int) < q
      · by_cases d2 : ((j + 1 : Nat) : Int) < 32
        · exact Ev.step (fun k => by rw [A0a.l1, if_pos (Int.natCast_nonneg i), if_pos hil, hq, if_pos d1, if_pos d2, cb]) (hc _)
        · exact Ev.step (fun k => by rw [A0a.l1, if_pos (Int.natCast_nonneg i), if_pos hil, hq, if_pos d1, if_neg d2]) (hc _)
      · exact Ev.step (fun k => by rw [A0a.l1, if_pos (Int.natCast_nonneg i), if_pos hil, hq, if_neg d1]) (hc _)
end
theorem Batch_j5 (kind : Int) (l : List Int) (i : Nat) (hi : i + 1 ≤ 1000) (R : List Int) (L : List S42) (hL : L.length ≤ 65535) (c x18 : Int) (hc : c = 0 ∨ c = 2 ∨ c = 3 ∨ c = 4 ∨ c = 6) (b : List Int) (u h n t d v e xp xl xn : Int)
    (hleft : c = 0 → A2b.f b u h = some ((R.length : Int), b, u, h)) (hnext : c = 0 → Ev (fun k => A0a.l0 k kind l true R ((i + 1 : Nat) : Int) b u h n t d v e xp xl xn n t d v e xp xl xn) true) :
    Ev (fun k => A0a.j5 k kind l true R (i : Int) L (if c = 0 then none else some c) L c x18 false b u h n t d v e xp xl xn n t d v e xp xl xn) true := by
  have hs := PSame.Same_is L (by omega)
  have hcode := batch_no c hc
  have wi : wrap64 ((i : Int) + 1) = ((i + 1 : Nat) : Int) := by rw [PBits.w64 _ (by omega)]; omega
  refine Ev.step (fun k => by rw [A0a.j5, if_neg Bool.false_ne_true]) (Ev.bind hs ?_)
  simp only [show ¬ ((1 : Int) = 0) from by decide, if_false, A1x.f, A3s.f, Option.bind_some, beq_self_eq_true, bne_self_eq_false, Bool.not_true, Bool.or_self, Bool.false_eq_true, hcode]
  by_cases c0 : c = 0
  · have hl := hleft c0
    refine Ev.step (fun k => by rw [A0a.j6, if_neg Bool.false_ne_true, if_pos c0, hl, Option.bind_some, if_pos rfl, wi]) ?_
    exact hnext c0
  · exact Ev.step (fun k => by rw [A0a.j6, if_neg Bool.false_ne_true, if_neg c0]) (Ev.now _)
theorem Batch_j2 (kind : Int) (l : List Int) (R : List Int) (i : Int) (x13 : List S42) (x15 : Option Int) (b : List Int) (u h n t d v e xp xl xn n2 t2 d2 v2 e2 xp2 xl2 xn2 : Int) (f : Bool) (c : Int) (hc : c = if f = true then 6 else 0)
    (hl1 : Ev (fun k => A0a.l1 k kind l true R i x13 x15 [] c 0 b u h n t d v e xp xl xn n2 t2 d2 v2 e2 xp2 xl2 xn2) true) :
    Ev (fun k => A0a.j2 k kind l true R i x13 x15 [] 0 f b u h n t d v e xp xl xn n2 t2 d2 v2 e2 xp2 xl2 xn2) true := by
  by_cases c1 : f = true
  · rw [if_pos c1] at hc
    subst hc
    refine Ev.step (fun k => by rw [A0a.j2, if_pos c1]) ?_
    exact Ev.step (fun k => by rw [A0a.j3]) hl1
  · rw [if_neg c1] at hc
    subst hc
    refine Ev.step (fun k => by rw [A0a.j2, if_neg c1]) ?_
    exact Ev.step (fun k => by rw [A0a.j3]) hl1
theorem Batch_l0 (kind : Int) (hk : kind = 1 ∨ kind = 2) (l : List Int) (hl : l.length ≤ 40) :
    ∀ (r i : Nat) (R b : List Int) (u h n t d v e xp : Int) (xl xn : Nat) (base : Nat), i + r = l.length → base ≤ 32 * i → PFill.Inv R b u h → R.length < 70368744177664 → Ok (base : Int) (n, t, d, v, e, xp, (xl : Int), (xn : Int)) →
      Ev (fun k => A0a.l0 k kind l true R (i : Int) b u h n t d v e xp (xl : Int) (xn : Int) n t d v e xp (xl : Int) (xn : Int)) true := by
  intro r
  induction r with
  | zero =>
    intro i R b u h n t d v e xp xl xn base hi hb hI hRl hok
    have hnl : ¬ (i : Int) < (l.length : Int) := by omega
    exact Ev.step (fun k => by rw [A0a.l0, if_neg hnl]) (Ev.now _)
  | succ r ih =>
    intro i R b u h n t d v e xp xl xn base hi hb hI hRl hok
    have hil : i < l.length := by omega
    have hlt : (i : Int) < (l.length : Int) := by omega
    have hcq := cntB_le (rd l (i : Int))
    obtain ⟨b2, u2, h2, f1, f2⟩ := Next_any kind hk (rd l (i : Int)) base (by omega) R b u h hI hRl n t d v e xp xl xn hok
    have hdl := (dec_len kind (cntB (rd l (i : Int))) (n, t, d, v, e, xp, (xl : Int), (xn : Int)) R).1
    have hdr := dec_rest kind (cntB (rd l (i : Int))) (n, t, d, v, e, xp, (xl : Int), (xn : Int)) R
    have hdc := PDecRef.dec_code kind (cntB (rd l (i : Int))) (n, t, d, v, e, xp, (xl : Int), (xn : Int)) R
    have hl1 := Batch_l1 kind l i hil (rd l (i : Int)) rfl ([] ++ (dec kind (cntB (rd l (i : Int))) (n, t, d, v, e, xp, (xl : Int), (xn : Int)) R).1) (if (dec kind (cntB (rd l (i : Int))) (n, t, d, v, e, xp, (xl : Int), (xn : Int)) R).2.1 = 0 then none else some (dec kind (cntB (rd l (i : Int))) (n, t, d, v, e, xp, (xl : Int), (xn : Int)) R).2.1) b2 u2 h2 (nxs kind (cntB (rd l (i : Int))) (n, t, d, v, e, xp, (xl : Int), (xn : Int)) R)
      (cntB (rd l (i : Int))) 0 R [] n t d v e xp xl xn (by omega) rfl hI.bits hRl ⟨base, by omega, hok⟩
    generalize dec kind (cntB (rd l (i : Int))) (n, t, d, v, e, xp, (xl : Int), (xn : Int)) R = D at *
    generalize nxs kind (cntB (rd l (i : Int))) (n, t, d, v, e, xp, (xl : Int), (xn : Int)) R = w' at *
    have hfin := hl1 (by
      intro R' L c x18 w hR' hL hc' hw
      subst hR' hL hc' hw
      obtain ⟨n', t', d', v', e', xp', al, an⟩ := w
      refine Batch_j5 kind l i (by omega) D.2.2 ([] ++ D.1) (by rw [List.nil_append]; omega) D.2.1 x18 hdc b2 u2 h2 n' t' d' v' e' xp' al an (fun z => PFill.Left_is (f2 z).1) (fun z => ?_)
      obtain ⟨hI2, hok2⟩ := f2 z
      obtain ⟨yl, yn, e1, e2, hy⟩ := hok2.w
      have e1 : al = (yl : Int) := e1
      have e2 : an = (yn : Int) := e2
      subst e1 e2
      exact ih (i + 1) D.2.2 b2 u2 h2 n' t' d' v' e' xp' yl yn (base + cntB (rd l (i : Int))) (by omega) (by omega) hI2 (Nat.lt_of_le_of_lt hdr hRl) hok2)
    refine Ev.step (fun k => by rw [A0a.l0, if_pos hlt, if_pos (Int.natCast_nonneg i)]) (Ev.bind f1 ?_)
    rcases hk with rfl | rfl
    · refine Ev.congr (fun k => if_pos rfl) ?_
      exact Batch_j2 1 l R (i : Int) _ _ b2 u2 h2 n t d v e xp (xl : Int) (xn : Int) _ _ _ _ _ _ _ _ false 0 rfl hfin
    · refine Ev.congr (fun k => if_neg (by decide)) ?_
      exact Batch_j2 2 l R (i : Int) _ _ b2 u2 h2 n t d v e xp (xl : Int) (xn : Int) _ _ _ _ _ _ _ _ false 0 rfl hfin
theorem Batch_bad (kind : Int) (hk : ¬ (kind = 1 ∨ kind = 2)) (l : List Int) (hl : l.length ≤ 40) (R b : List Int) (u h : Int) :
    Ev (fun k => A0a.l0 k kind l true R 0 b u h 0 0 0 0 0 0 0 0 0 0 0 0 0 0 0 0) true := by
  by_cases c0 : (0 : Int) < (l.length : Int)
  · have f1 := Next_no kind hk (rd l 0) b u h 0 0 0 0 0 0 0 0
    have k1 : ¬ kind = 1 := fun z => hk (.inl z)
    have k2 : (kind != 2) = true := bne_iff_ne.mpr (fun z => hk (.inr z))
    have hj5 := fun x18 => Batch_j5 kind l 0 (by decide) R [] (by decide) 6 x18 (by decide) b u h 0 0 0 0 0 0 0 0 (fun z => absurd z (by decide)) (fun z => absurd z (by decide))
    have hl1 : Ev (fun k => A0a.l1 k kind l true R 0 [] (some 6) [] 6 0 b u h 0 0 0 0 0 0 0 0 0 0 0 0 0 0 0 0) true := by
      by_cases d1 : (0 : Int) < rd l 0
      · exact Ev.step (fun k => by rw [A0a.l1, if_pos (by decide), if_pos c0, if_pos d1, if_pos (by decide)]; rfl) (hj5 0)
      · exact Ev.step (fun k => by rw [A0a.l1, if_pos (by decide), if_pos c0, if_neg d1]; rfl) (hj5 0)
    refine Ev.step (fun k => by rw [A0a.l0, if_pos c0, if_pos (by decide)]) (Ev.bind f1 ?_)
    refine Ev.congr (fun k => if_neg k1) ?_
    rw [k2]
    exact Batch_j2 kind l R 0 [] (some 6) b u h 0 0 0 0 0 0 0 0 0 0 0 0 0 0 0 0 true 6 rfl hl1
  · exact Ev.step (fun k => by rw [A0a.l0, if_neg c0]) (Ev.now _)
theorem BatchTells : A0a.Pure := by
 intro kind b l _ _ _ h1 _ _ _
 have h1 : Bs.Bytes b := fun x h => Ib.wf_u8 (h1 x h)
 refine Ev.rounds (g := fun k => A0a.f k kind b l) ?_
 unfold A0a.f
 refine Ev.bind BatchTells_up ?_
 have hout : ∀ x, x = true → Ev (fun k => A0a.j0 k kind b l true x) true := by
  intro x hx
  subst hx
  exact Ev.step (fun k => by rw [A0a.j0, if_pos rfl]) (Ev.now _)
 by_cases c1 : (b.length : Int) > 600
 ·simp only [if_pos c1]
  exact hout _ rfl
 simp only [if_neg c1]
 by_cases c2 : (l.length : Int) > 40
 ·exact hout _ (decide_eq_true c2)
 rw [decide_eq_false c2]
 have hfl := Bs.A2n b
 have hI := PFill.New_is b h1 (by omega)
 have hf := PBits.Flat_is b h1 (by omega)
 have hnew : A31.f b = some (b, 0, 0) := rfl
 refine Ev.step (fun k => by rw [A0a.j0, if_neg Bool.false_ne_true, hnew, Option.bind_some]) (Ev.bind hf ?_)
 by_cases hk : kind = 1 ∨ kind = 2
 ·exact Batch_l0 kind hk l (by omega) l.length 0 (Bs.flat b) b 0 0 0 0 0 0 0 0 0 0 0 (by omega) (by omega) hI (by omega) (ok_zero 0 (Int.le_refl _))
 ·exact Batch_bad kind hk l (by omega) (Bs.flat b) b 0 0
end Go.Proofs.YtodocfjbpkicgaaDoor.Pure
