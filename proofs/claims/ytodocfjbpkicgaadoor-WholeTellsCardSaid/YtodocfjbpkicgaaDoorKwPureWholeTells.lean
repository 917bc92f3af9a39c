-- copied by a program of the session
import Derived.Test.YtodocfjbpkicgaaDoorKwPIdxG
import Derived.Lib.SlBytesConst
import Derived.Test.YtodocfjbpkicgaaDoorKwAllx77
set_option linter.unusedSimpArgs false
set_option linter.unusedVariables false
section
namespace Go.Proofs.YtodocfjbpkicgaaDoor.PIdx
open Go Go.RowKit Go.Proofs.YtodocfjbpkicgaaDoor Go.Proofs.YtodocfjbpkicgaaDoor.All Go.Zw Go.Zl
open PUvar
def sums : List S178 → Int
 | [] => 0
 | e :: t => e.f3 + sums t
theorem fit_iff : ∀ (l : List S178) (r : Int), (∀ e ∈ l, WfE e) → (fit l r = true ↔ l.all okE = true ∧ sums l = r)
 | [], r, _ => by simp only [fit, sums, List.all_nil, decide_eq_true_eq, true_and]; omega
 | e :: t, r, h => by
  have hi := fit_iff t (r - e.f3) (fun x hx => h x (List.mem_cons_of_mem _ hx))
  have hs : ∀ (l : List S178), (∀ e ∈ l, WfE e) → 0 ≤ sums l := by
   intro l
   induction l with
   | nil => intro _; simp [sums]
   | cons a l ih => intro hh; have h1 := ih (fun x hx => hh x (List.mem_cons_of_mem _ hx)); have h2 := (hh a (List.mem_cons_self)).l.1; simp only [sums]; omega
  have h0 := hs t (fun x hx => h x (List.mem_cons_of_mem _ hx))
  simp only [fit, sums, List.all_cons, Bool.and_eq_true, decide_eq_true_eq, hi]
  constructor
  ·rintro ⟨h1, h2, h3, h4⟩; exact ⟨⟨h1, h3⟩, by omega⟩
  ·rintro ⟨⟨h1, h2⟩, h3⟩; exact ⟨h1, by omega, h2, by omega⟩
def ce (e : S178) : S70 := cE (ent e)
noncomputable def outR (b : List Int) (kind : Int) (E : Int × List S178 × Nat) (f : Bool) (acc : List S70) (sum : Int) : Int × List S70 × Int × Int :=
 if E.1 ≠ 0 then (0, [], 0, E.1)
 else if b.length < E.2.2 + 4 then (0, [], 0, 2)
 else if nb ((b.drop E.2.2).take 4) ≠ crcN (b.take E.2.2) then (0, [], 0, 7)
 else if f = true ∧ E.2.1.all okE = true ∧ M kind ((acc ++ E.2.1.map ce).map dE) = true ∧ sum + sums E.2.1 = ((b.length - E.2.2 - 4 : Nat) : Int) then (kind, acc ++ E.2.1.map ce, ((E.2.2 + 4 : Nat) : Int), 0)
 else (0, [], 0, 8)
theorem outR_bad (b : List Int) (kind : Int) (e : Int) (l : List S178) (p : Nat) (f : Bool) (acc : List S70) (sum : Int) (h : e ≠ 0) : outR b kind (e, l, p) f acc sum = (0, [], 0, e) := by
 unfold outR; rw [if_pos h]
theorem outR_good (b : List Int) (kind : Int) (E : Int × List S178 × Nat) (e : S178) (acc : List S70) (sum : Int) (h : okE e = true) : outR b kind (E.1, e :: E.2.1, E.2.2) true acc sum = outR b kind E true (acc ++ [ce e]) (sum + e.f3) := by
 unfold outR
 simp only [List.all_cons, h, Bool.true_and, List.map_cons, sums, List.append_assoc, List.singleton_append, Int.add_assoc]
theorem outR_drop (b : List Int) (kind : Int) (E : Int × List S178 × Nat) (e : S178) (f : Bool) (acc acc' : List S70) (sum sum' : Int) (h : f = true → okE e = false) : outR b kind (E.1, e :: E.2.1, E.2.2) f acc sum = outR b kind E false acc' sum' := by
 unfold outR
 cases f with
 | true => simp [h rfl]
 | false => simp
theorem tail_is {b : List Int} (hb : Bs.Bytes b) (hl : b.length < 140737488355328) (kind : Int) (many : Nat) (hm : many ≤ 65535) (p : Nat) (hp : p ≤ b.length) (acc : List S70) (ha : acc.length < 140737488355328) (f : Bool) (sum : Int) (hs : 0 ≤ sum ∧ sum < 9223372036854775808) :
    Ev (fun k => A0c.l0 k b kind (many : Int) (p : Int) acc f sum (many : Int)) (outR b kind (0, [], p) f acc sum) := by
  have hwm : wrap64 (many : Int) = (many : Int) := w64 _ (by omega)
  have hwl : wrap64 ((b.length : Int) - (p : Int)) = (b.length : Int) - (p : Int) := w64 _ (by omega)
  refine Ev.step (fun k => by rw [A0c.l0, hwm, if_neg (show ¬ (many : Int) < (many : Int) by omega), hwl]) ?_
  unfold outR
  simp only [ne_eq, not_true_eq_false, if_false, List.all_nil, List.map_nil, List.append_nil, sums, Int.add_zero, true_and]
  by_cases c5 : b.length < p + 4
  · simp only [if_pos (show (b.length : Int) - (p : Int) < 4 by omega), if_pos c5]
    exact Ev.now _
  have e2 : wrap64 ((p : Int) + 4) = ((p + 4 : Nat) : Int) := by rw [w64 _ (by omega)]; omega
  have e3 : (b.take (p + 4)).drop p = (b.drop p).take 4 := by rw [List.drop_take, show p + 4 - p = 4 from by omega]
  have hN := rnumber_is (l := (b.drop p).take 4) ((hb.drop p).take 4) (by rw [List.length_take]; omega)
  have hC := PCrc.ref_is (b.take p) (by rw [List.length_take]; omega)
  have hcr := crcN_range (b.take p)
  have hwc : IntKind.u64.wrap (crcN (b.take p)) = crcN (b.take p) := by rw [Ib.wrap_u64]; omega
  have hM := rmay_any kind acc ha
  simp only [if_neg (show ¬ (b.length : Int) - (p : Int) < 4 by omega), if_pos (Int.natCast_nonneg p), e2, if_pos (show (p : Int) ≤ ((p + 4 : Nat) : Int) by omega), if_pos (show ((p + 4 : Nat) : Int) ≤ (b.length : Int) by omega), Int.toNat_natCast, e3, if_neg c5, if_pos (show (p : Int) ≤ (b.length : Int) by omega)]
  refine Ev.bind hN (Ev.bind hC ?_)
  show Ev (fun k => A0c.j4 k b kind (p : Int) acc f sum (nb ((b.drop p).take 4) != IntKind.u64.wrap (crcN (b.take p)))) _
  rw [hwc]
  by_cases c6 : nb ((b.drop p).take 4) = crcN (b.take p)
  · rw [bne_eq_false_iff_eq.mpr c6]
    simp only [c6, not_true_eq_false, if_false]
    refine Ev.step (fun k => by rw [A0c.j4, if_neg Bool.false_ne_true, hwl]) (Ev.bind hM ?_)
    have hw4 : wrap64 ((b.length : Int) - (p : Int) - 4) = ((b.length - p - 4 : Nat) : Int) := by rw [w64 _ (by omega)]; omega
    have hwu : IntKind.u64.wrap ((b.length - p - 4 : Nat) : Int) = ((b.length - p - 4 : Nat) : Int) := by rw [Ib.wrap_u64]; omega
    simp only [hw4, hwu, e2]
    cases f with
    | false => simp only [Bool.false_eq_true, if_false, false_and]; exact Ev.now _
    | true =>
      cases hMM : M kind (acc.map dE) with
      | false => simp only [if_true, Bool.false_eq_true, if_false, false_and, and_false]; exact Ev.now _
      | true =>
        simp only [if_true, true_and]
        by_cases c7 : sum = ((b.length - p - 4 : Nat) : Int)
        · simp only [if_pos c7]; exact Ev.now _
        · simp only [if_neg c7]; exact Ev.now _
  · rw [bne_iff_ne.mpr c6]
    simp only [c6, not_false_eq_true, if_true]
    exact Ev.step (fun k => by rw [A0c.j4, if_pos rfl]) (Ev.now _)
theorem room_is (a : Int) (ha : -9223372036854775808 ≤ a ∧ a < 9223372036854775808) : IntKind.u64.wrap (9223372036854775807 - IntKind.u64.wrap a) = 9223372036854775807 - a := by
 rw [Ib.wrap_u64, Ib.wrap_u64]; omega
theorem rdl (a b c : Int) : rd [a, b, c] 0 = a ∧ rd [a, b, c] 1 = b ∧ rd [a, b, c] 2 = c := ⟨rfl, rfl, rfl⟩
theorem bnd {sum : Int} {i : Nat} (h : 0 ≤ sum ∧ sum ≤ 2147483647 * i) : 0 ≤ sum ∧ sum ≤ 2147483647 * ((i + 1 : Nat) : Int) := by omega
theorem bnd3 {sum v : Int} {i : Nat} (h : 0 ≤ sum ∧ sum ≤ 2147483647 * i) (hv : 0 ≤ v) (h3 : v ≤ 2147483647) : 0 ≤ sum + v ∧ sum + v ≤ 2147483647 * ((i + 1 : Nat) : Int) := by omega
theorem wsum {sum v : Int} {i : Nat} (hi : i ≤ 65535) (h : 0 ≤ sum ∧ sum ≤ 2147483647 * i) (hv : 0 ≤ v) (h3 : v ≤ 2147483647) : IntKind.u64.wrap (sum + v) = sum + v := by rw [Ib.wrap_u64]; omega
theorem room_ok {a s : Int} (h : s ≤ 9223372036854775807 - a) : a + s ≤ 9223372036854775807 := by omega
theorem room_no {a s : Int} (h : ¬ s ≤ 9223372036854775807 - a) : ¬ a + s ≤ 9223372036854775807 := by omega
theorem okE_of {e : S178} (h1 : e.f0 + e.f1 ≤ 9223372036854775807) (h2 : e.f2 ≤ 65535) (h3 : e.f3 ≤ 2147483647) : okE e = true := by
 unfold okE; rw [decide_eq_true h1, decide_eq_true h2, decide_eq_true h3]; rfl
theorem okE_1 {e : S178} (h : ¬ e.f0 + e.f1 ≤ 9223372036854775807) : okE e = false := by unfold okE; rw [decide_eq_false h]; rfl
theorem okE_2 {e : S178} (h : ¬ e.f2 ≤ 65535) : okE e = false := by unfold okE; rw [decide_eq_false h, Bool.false_and, Bool.and_false]
theorem okE_3 {e : S178} (h : ¬ e.f3 ≤ 2147483647) : okE e = false := by unfold okE; rw [decide_eq_false h, Bool.and_false, Bool.and_false]
theorem small64 {v : Int} (h0 : 0 ≤ v) (h : v ≤ 2147483647) : wrap64 v = v := w64 _ (by omega)
theorem l3len (a b c : Int) : (([a, b, c] : List Int).length : Int) = 3 := rfl
theorem l1_ok {b : List Int} (kind : Int) (many i p : Nat) (hi : i < many) (hm : many ≤ 65535) (e : S178) (he : WfE e) (acc : List S70) (ha : acc.length < 4398046511104) (f : Bool) (sum : Int) (hs : 0 ≤ sum ∧ sum ≤ 2147483647 * i) (r) (E : Int × List S178 × Nat)
    (hr : ∀ (acc' : List S70) (f' : Bool) (sum' : Int), acc'.length = acc.length + 1 → 0 ≤ sum' ∧ sum' ≤ 2147483647 * ((i + 1 : Nat) : Int) → outR b kind E f' acc' sum' = r → Ev (fun k => A0c.l0 k b kind (many : Int) (p : Int) acc' f' sum' ((i + 1 : Nat) : Int)) r)
    (hE : outR b kind (E.1, e :: E.2.1, E.2.2) f acc sum = r) :
    Ev (fun k => A0c.l1 k b kind (many : Int) (p : Int) acc f sum (i : Int) [e.f1, e.f2, e.f3] 3 e.f0 0 0 0) r := by
  obtain ⟨r0, r1, r2⟩ := rdl e.f1 e.f2 e.f3
  have hl3 := l3len e.f1 e.f2 e.f3
  have hi5 : i ≤ 65535 := by omega
  have hw := A3z i (by omega)
  have hroom := room_is e.f0 he.m
  have hlen : ∀ x : S70, (acc ++ [x]).length = acc.length + 1 := fun x => by rw [List.length_append, List.length_singleton]
  have hgo : ∀ (x : S70) (f' : Bool) (sum' : Int), 0 ≤ sum' ∧ sum' ≤ 2147483647 * ((i + 1 : Nat) : Int) → outR b kind E f' (acc ++ [x]) sum' = r → Ev (fun k => if acc.length < 4398046511104 then A0c.l0 k b kind (many : Int) (p : Int) (acc ++ [x]) f' sum' (wrap64 ((i : Int) + 1)) else none) r := by
    intro x f' sum' h1 h2
    simp only [if_pos ha, hw]
    exact hr _ f' sum' (hlen x) h1 h2
  refine Ev.step (fun k => by rw [A0c.l1, if_neg (show ¬ (3 : Int) < 3 by decide)]) ?_
  cases f with
  | false =>
    simp only [Bool.false_eq_true, if_false]
    exact hgo _ false sum (bnd hs) ((outR_drop b kind E e false _ _ _ _ (fun h => by cases h)).symm.trans hE)
  | true =>
    by_cases c1 : e.f1 ≤ 9223372036854775807 - e.f0
    · by_cases c2 : e.f2 ≤ 65535
      · by_cases c3 : e.f3 ≤ 2147483647
        · have hok : okE e = true := okE_of (room_ok c1) c2 c3
          have h2 : wrap64 e.f2 = e.f2 := small64 he.c.1 (Int.le_trans c2 (by decide))
          have h3 : wrap64 e.f3 = e.f3 := small64 he.l.1 c3
          have hsum := wsum hi5 hs he.l.1 c3
          have hd : decide (e.f3 ≤ 2147483647) = true := decide_eq_true c3
          have hmax : wrap64 (e.f0 + wrap64 e.f1) = e.f0 + e.f1 := (w_max e.f0 e.f1 he.m he.s).2.2 (room_ok c1)
          have hz := hgo ⟨e.f0, e.f0 + e.f1, e.f2, e.f3⟩ true (sum + e.f3) (bnd3 hs he.l.1 c3) (by rw [← hE, outR_good b kind E e acc sum hok]; rfl)
          refine Ev.congr (fun k => ?_) hz
          rw [if_pos rfl, hl3, if_pos (by decide), r0, hroom, if_pos c1, if_pos (by decide), r1, if_pos c2, if_pos (by decide), r2, if_pos c3, hd, h2, h3, hsum, hmax]
        · have hok : okE e = false := okE_3 c3
          have hd : decide (e.f3 ≤ 2147483647) = false := decide_eq_false c3
          have hz := hgo ⟨e.f0, 0, 0, 0⟩ false sum (bnd hs) ((outR_drop b kind E e true _ _ _ _ (fun _ => hok)).symm.trans hE)
          refine Ev.congr (fun k => ?_) hz
          rw [if_pos rfl, hl3, if_pos (by decide), r0, hroom, if_pos c1, if_pos (by decide), r1, if_pos c2, if_pos (by decide), r2, if_neg c3, hd]
      · have hok : okE e = false := okE_2 c2
        have hz := hgo ⟨e.f0, 0, 0, 0⟩ false sum (bnd hs) ((outR_drop b kind E e true _ _ _ _ (fun _ => hok)).symm.trans hE)
        refine Ev.congr (fun k => ?_) hz
        rw [if_pos rfl, hl3, if_pos (by decide), r0, hroom, if_pos c1, if_pos (by decide), r1, if_neg c2]
    · have hok : okE e = false := okE_1 (room_no c1)
      have hz := hgo ⟨e.f0, 0, 0, 0⟩ false sum (bnd hs) ((outR_drop b kind E e true _ _ _ _ (fun _ => hok)).symm.trans hE)
      refine Ev.congr (fun k => ?_) hz
      rw [if_pos rfl, hl3, if_pos (by decide), r0, hroom, if_neg c1]
theorem rloop {b : List Int} (hb : Bs.Bytes b) (hl : b.length < 140737488355328) (kind : Int) (many : Nat) (hm : many ≤ 65535) : ∀ (d i p : Nat) (acc : List S70) (f : Bool) (sum : Int), i + d = many → p ≤ b.length → acc.length = i → 0 ≤ sum ∧ sum ≤ 2147483647 * i →
    Ev (fun k => A0c.l0 k b kind (many : Int) (p : Int) acc f sum (i : Int)) (outR b kind (ents b d p) f acc sum) := by
  intro d
  induction d with
  | zero =>
    intro i p acc f sum hi hp ha hs
    obtain rfl : i = many := by omega
    exact tail_is hb hl kind i hm p hp acc (by omega) f sum ⟨hs.1, by omega⟩
  | succ d ih =>
    intro i p acc f sum hi hp ha hs
    have hwm : wrap64 (many : Int) = (many : Int) := w64 _ (by omega)
    have hwl : wrap64 ((b.length : Int) - (p : Int)) = (b.length : Int) - (p : Int) := w64 _ (by omega)
    have hlt : (i : Int) < (many : Int) := by omega
    refine Ev.step (fun k => by rw [A0c.l0, hwm, if_pos hlt, hwl]) ?_
    by_cases c0 : b.length < p + 8
    · have e1 : one b p = (2, z178, p) := by unfold one; rw [if_pos c0]
      rw [ents_err (by rw [e1]; simp), e1, outR_bad _ _ _ _ _ _ _ _ (show (2 : Int) ≠ 0 by decide)]
      simp only [if_pos (show (b.length : Int) - (p : Int) < 8 by omega)]
      exact Ev.now _
    have e2 : wrap64 ((p : Int) + 8) = ((p + 8 : Nat) : Int) := by rw [w64 _ (by omega)]; omega
    have e3 : (b.take (p + 8)).drop p = (b.drop p).take 8 := by rw [List.drop_take, show p + 8 - p = 8 from by omega]
    have hN := rnumber_is (l := (b.drop p).take 8) ((hb.drop p).take 8) (by rw [List.length_take]; omega)
    simp only [if_neg (show ¬ (b.length : Int) - (p : Int) < 8 by omega), if_pos (Int.natCast_nonneg p), e2, if_pos (show (p : Int) ≤ ((p + 8 : Nat) : Int) by omega), if_pos (show ((p + 8 : Nat) : Int) ≤ (b.length : Int) by omega), Int.toNat_natCast, e3]
    refine Ev.bind hN ?_
    have g1 := rget_is b hb hl (p + 8) (by omega)
    refine Ev.step (fun k => by rw [A0c.l1, if_pos (show (0 : Int) < 3 by decide)]) ?_
    refine Ev.bind g1 ?_
    by_cases c1 : (gu (b.drop (p + 8))).2.2 = 0
    · have o1 := gu_ok (hb.drop (p + 8)) c1
      have l1 : q1 b p ≤ b.length := step_len hb _ (by omega) c1
      have w1 : wrap64 (((p + 8 : Nat) : Int) + (gu (b.drop (p + 8))).2.1) = ((q1 b p : Nat) : Int) := by
        unfold q1 at l1 ⊢
        rw [w64 _ (by omega)]; omega
      have g2 := rget_is b hb hl (q1 b p) l1
      simp only [if_pos c1, List.length_nil, show (0 : Nat) < 17592186044416 from by decide, if_true, List.nil_append, w1, show wrap64 ((0 : Int) + 1) = 1 from w64 _ (by omega)]
      refine Ev.step (fun k => by rw [A0c.l1, if_pos (show (1 : Int) < 3 by decide)]) ?_
      refine Ev.bind g2 ?_
      by_cases c2 : (gu (b.drop (q1 b p))).2.2 = 0
      · have o2 := gu_ok (hb.drop (q1 b p)) c2
        have l2 : q2 b p ≤ b.length := step_len hb _ l1 c2
        have w2 : wrap64 (((q1 b p : Nat) : Int) + (gu (b.drop (q1 b p))).2.1) = ((q2 b p : Nat) : Int) := by
          unfold q2 at l2 ⊢
          rw [w64 _ (by omega)]; omega
        have g3 := rget_is b hb hl (q2 b p) l2
        simp only [if_pos c2, List.length_cons, List.length_nil, show (0 + 1 : Nat) < 17592186044416 from by decide, if_true, List.cons_append, List.nil_append, w2, show wrap64 ((1 : Int) + 1) = 2 from w64 _ (by omega)]
        refine Ev.step (fun k => by rw [A0c.l1, if_pos (show (2 : Int) < 3 by decide)]) ?_
        refine Ev.bind g3 ?_
        by_cases c3 : (gu (b.drop (q2 b p))).2.2 = 0
        · have o3 := gu_ok (hb.drop (q2 b p)) c3
          have l3 : q3 b p ≤ b.length := step_len hb _ l2 c3
          have w3 : wrap64 (((q2 b p : Nat) : Int) + (gu (b.drop (q2 b p))).2.1) = ((q3 b p : Nat) : Int) := by
            unfold q3 at l3 ⊢
            rw [w64 _ (by omega)]; omega
          have e1 : one b p = (0, ⟨wrap64 (nb ((b.drop p).take 8)), (gu (b.drop (p + 8))).1, (gu (b.drop (q1 b p))).1, (gu (b.drop (q2 b p))).1⟩, q3 b p) := by
            unfold one; rw [if_neg c0, if_neg (fun h => h c1), if_neg (fun h => h c2), if_neg (fun h => h c3)]
          have hO := one_ok hb (p := p) (by rw [e1])
          have hwf := one_wf hb hO
          have hE : ents b (d + 1) p = ((ents b d (q3 b p)).1, (one b p).2.1 :: (ents b d (q3 b p)).2.1, (ents b d (q3 b p)).2.2) := by
            rw [ents_ok (by rw [e1])]
            have : (one b p).2.2 = q3 b p := by rw [e1]
            rw [this]
          have hL := l1_ok (b := b) kind many i (q3 b p) (by omega) hm (one b p).2.1 hwf acc (by omega) f sum hs (outR b kind (ents b (d + 1) p) f acc sum) (ents b d (q3 b p))
            (fun acc' f' sum' h1 h2 h3 => by rw [← h3]; exact ih (i + 1) (q3 b p) acc' f' sum' (by omega) l3 (by omega) h2) (by rw [hE])
          rw [e1] at hL
          simp only [if_pos c3, List.length_cons, List.length_nil, show (0 + 1 + 1 : Nat) < 17592186044416 from by decide, if_true, List.cons_append, List.nil_append, w3, show wrap64 ((2 : Int) + 1) = 3 from w64 _ (by omega)]
          exact hL
        · have e1 : one b p = ((gu (b.drop (q2 b p))).2.2, z178, p) := by unfold one; rw [if_neg c0, if_neg (fun h => h c1), if_neg (fun h => h c2), if_pos c3]
          rw [ents_err (by rw [e1]; exact c3), e1, outR_bad _ _ _ _ _ _ _ _ c3]
          simp only [if_neg c3]
          exact Ev.now _
      · have e1 : one b p = ((gu (b.drop (q1 b p))).2.2, z178, p) := by unfold one; rw [if_neg c0, if_neg (fun h => h c1), if_pos c2]
        rw [ents_err (by rw [e1]; exact c2), e1, outR_bad _ _ _ _ _ _ _ _ c2]
        simp only [if_neg c2]
        exact Ev.now _
    · have e1 : one b p = ((gu (b.drop (p + 8))).2.2, z178, p) := by unfold one; rw [if_neg c0, if_pos c1]
      rw [ents_err (by rw [e1]; exact c1), e1, outR_bad _ _ _ _ _ _ _ _ c1]
      simp only [if_neg c1]
      exact Ev.now _
theorem ce_dE (l : List S178) : (l.map ce).map dE = l.map ent := by
 rw [List.map_map]
 exact List.map_congr_left (fun x _ => rfl)
theorem RGet_is (b : List Int) (hb : Bs.Bytes b) (hl : b.length < 140737488355328) : Ev (fun k => A0c.f k b) ((getS b).1, (getS b).2.1.map cE, (getS b).2.2.1, (getS b).2.2.2) := by
 unfold A0c.f
 by_cases c4 : b.length < 4
 ·have e : getS b = (0, [], 0, 5) := by
   have : pre b = false := by unfold pre; rw [if_pos c4]
   unfold getS; rw [if_pos (by rw [this]; decide)]
  rw [e]
  simp only [if_pos (show (b.length : Int) < 4 by omega), List.map_nil]
  exact Ev.step (fun k => by rw [A0c.j0, if_pos rfl]) (Ev.now _)
 have hmn : mn (b.length : Int) 4 = 4 := by
  unfold mn
  split <;> omega
 simp only [if_neg (show ¬ (b.length : Int) < 4 by omega), hmn, show (0 : Int) ≤ 4 from by decide, if_true, if_pos (show (4 : Int) ≤ (b.length : Int) by omega), show ((4 : Int)).toNat = 4 from rfl]
 by_cases c0 : pre b = true
 ·have hpre : ((strOfNums (b.take 4)).toList != ([71, 84, 83, 49] : List UInt8)) = false := by
   unfold pre at c0; rw [if_neg c4] at c0
   rw [bne, c0]; rfl
  rw [hpre]
  refine Ev.step (fun k => by rw [A0c.j0, if_neg (show ¬ false = true by decide)]) ?_
  by_cases c1 : b.length < 5
  ·have e : getS b = (0, [], 0, 2) := by unfold getS; rw [if_neg (fun hh => hh c0), if_pos c1]
   rw [e]
   simp only [if_pos (show (b.length : Int) < 5 by omega)]
   exact Ev.now _
  have hr : 0 ≤ rd b 4 ∧ rd b 4 < 256 := rd_range hb 4 (by omega)
  have hwv : wrap64 (rd b 4) = rd b 4 := w64 _ (by omega)
  simp only [if_neg (show ¬ (b.length : Int) < 5 by omega), if_pos (show (4 : Int) < (b.length : Int) by omega), hwv]
  by_cases c2 : rd b 4 = 1 ∨ rd b 4 = 2
  ·have hj : ∀ r, Ev (fun k => A0c.j1 k b (rd b 4) false) r → Ev (fun k => if rd b 4 = 1 then A0c.j1 k b (rd b 4) false else A0c.j1 k b (rd b 4) (rd b 4 != 2)) r := by
    intro r h0
    by_cases c3 : rd b 4 = 1
    ·simp only [if_pos c3] at h0 ⊢; exact h0
    ·have hb2 : (rd b 4 != 2) = false := by rcases c2 with h | h; exact absurd h c3; rw [h]; rfl
     simp only [if_neg c3, hb2]; exact h0
   refine hj _ (Ev.step (fun k => by rw [A0c.j1, if_neg (show ¬ false = true by decide)]) ?_)
   have hU := rget_is b hb hl 5 (by omega)
   refine Ev.bind hU ?_
   by_cases d1 : (gu (b.drop 5)).2.2 = 0
   ·have hG := gu_ok (hb.drop 5) d1
    have hle := step_len hb 5 (by omega) d1
    simp only [if_pos d1]
    by_cases d2 : (gu (b.drop 5)).1 > 65535
    ·have eg : gl b 5 = (9, [], 5) := by unfold gl; rw [if_neg (fun hh => hh d1), if_pos d2]
     have e : getS b = (0, [], 0, 9) := by unfold getS; rw [if_neg (fun hh => hh c0), if_neg c1, if_neg (fun hh => hh c2), eg, if_pos (by decide)]
     rw [e]
     simp only [if_pos d2]
     exact Ev.now _
    have eg : gl b 5 = ents b (gu (b.drop 5)).1.toNat (5 + (gu (b.drop 5)).2.1.toNat) := by unfold gl; rw [if_neg (fun hh => hh d1), if_neg d2]
    have hw5 : wrap64 (5 + (gu (b.drop 5)).2.1) = ((5 + (gu (b.drop 5)).2.1.toNat : Nat) : Int) := by rw [w64 _ (by omega)]; omega
    obtain ⟨m, hm⟩ : ∃ m : Nat, (gu (b.drop 5)).1 = (m : Int) := ⟨(gu (b.drop 5)).1.toNat, by omega⟩
    have hL := rloop hb hl (rd b 4) m (by omega) m 0 (5 + (gu (b.drop 5)).2.1.toNat) [] true 0 (by omega) hle rfl ⟨by decide, by omega⟩
    rw [hm, Int.toNat_natCast] at eg
    rw [← eg] at hL
    have d2' : ¬ (m : Int) > 65535 := by rw [← hm]; exact d2
    simp only [hm, if_neg d2', hw5]
    have hfin : outR b (rd b 4) (gl b 5) true [] 0 = ((getS b).1, (getS b).2.1.map cE, (getS b).2.2.1, (getS b).2.2.2) := by
     by_cases c4' : (gl b 5).1 ≠ 0
     ·unfold outR getS
      rw [if_pos c4', if_neg (fun hh => hh c0), if_neg c1, if_neg (fun hh => hh c2), if_pos c4']; rfl
     have e0 : (gl b 5).1 = 0 := Decidable.not_not.mp c4'
     obtain ⟨g1, g2, g3, g4⟩ := gl_facts hb (show 5 ≤ b.length by omega) e0
     by_cases c5 : b.length < (gl b 5).2.2 + 4
     ·unfold outR getS
      rw [if_neg c4', if_pos c5, if_neg (fun hh => hh c0), if_neg c1, if_neg (fun hh => hh c2), if_neg c4', if_pos c5]; rfl
     by_cases c6 : nb ((b.drop (gl b 5).2.2).take 4) ≠ crcN (b.take (gl b 5).2.2)
     ·unfold outR getS
      rw [if_neg c4', if_neg c5, if_pos c6, if_neg (fun hh => hh c0), if_neg c1, if_neg (fun hh => hh c2), if_neg c4', if_neg c5, if_pos c6]; rfl
     have hf := fit_iff (gl b 5).2.1 ((b.length - (gl b 5).2.2 - 4 : Nat) : Int) g1
     by_cases c7 : (fit (gl b 5).2.1 ((b.length - (gl b 5).2.2 - 4 : Nat) : Int) && M (rd b 4) ((gl b 5).2.1.map ent)) = true
     ·have c8 := c7
      rw [Bool.and_eq_true] at c8
      have c9 := hf.mp c8.1
      unfold outR getS
      rw [if_neg c4', if_neg c5, if_neg c6, if_pos ⟨rfl, c9.1, by rw [List.nil_append, ce_dE]; exact c8.2, by omega⟩, if_neg (fun hh => hh c0), if_neg c1, if_neg (fun hh => hh c2), if_neg c4', if_neg c5, if_neg c6, if_pos c7, List.nil_append, List.map_map]
      rfl
     ·unfold outR getS
      rw [if_neg c4', if_neg c5, if_neg c6, if_neg, if_neg (fun hh => hh c0), if_neg c1, if_neg (fun hh => hh c2), if_neg c4', if_neg c5, if_neg c6, if_neg c7]
      ·rfl
      ·rintro ⟨_, h1, h2, h3⟩
       rw [List.nil_append, ce_dE] at h2
       refine c7 ?_
       rw [Bool.and_eq_true]
       exact ⟨hf.mpr ⟨h1, by omega⟩, h2⟩
    rw [← hfin]
    exact hL
   ·have eg : gl b 5 = ((gu (b.drop 5)).2.2, [], 5) := by unfold gl; rw [if_pos d1]
    have e : getS b = (0, [], 0, (gu (b.drop 5)).2.2) := by unfold getS; rw [if_neg (fun hh => hh c0), if_neg c1, if_neg (fun hh => hh c2), eg, if_pos d1]
    rw [e]
    simp only [if_neg d1]
    exact Ev.now _
  ·have e : getS b = (0, [], 0, 6) := by unfold getS; rw [if_neg (fun hh => hh c0), if_neg c1, if_pos c2]
   have hne : (rd b 4 != 2) = true := bne_iff_ne.mpr (fun h => c2 (.inr h))
   rw [e]
   simp only [if_neg (fun h => c2 (.inl h) : ¬ rd b 4 = 1), hne]
   refine Ev.step (fun k => by rw [A0c.j1, if_pos rfl]) ?_
   exact Ev.now _
 ·have hpre : ((strOfNums (b.take 4)).toList != ([71, 84, 83, 49] : List UInt8)) = true := by
   unfold pre at c0; rw [if_neg c4] at c0
   rw [bne]; simpa using c0
  have e : getS b = (0, [], 0, 5) := by unfold getS; rw [if_pos c0]
  rw [e, hpre]
  refine Ev.step (fun k => by rw [A0c.j0, if_pos rfl]) ?_
  exact Ev.now _
theorem w1 : wrap64 ((0 : Int) + 1) = 1 := w64 _ (by omega)
theorem w2 : wrap64 ((1 : Int) + 1) = 2 := w64 _ (by omega)
theorem w3 : wrap64 ((2 : Int) + 1) = 3 := w64 _ (by omega)
def u64 (v : Int) : Int := IntKind.u64.wrap v
def en (x : S62) : List Int := bg 8 (u64 x.f0) ++ (uv (u64 (u64 x.f1 - u64 x.f0)) ++ (uv (u64 x.f2) ++ uv (u64 x.f3)))
theorem chk_all (l : List S62) : ∀ (d i : Nat), i + d = l.length → chk l d i = true → ∀ j, i ≤ j → (h : j < l.length) → badE l[j] = false := by
 intro d
 induction d with
 | zero => intro i hi _ j h1 h2; omega
 | succ d ih =>
  intro i hi hc j h1 h2
  rw [chk] at hc
  by_cases c : badE (A0p l (i : Int)) = true
  ·rw [if_pos c] at hc; exact absurd hc (by decide)
  rw [if_neg c] at hc
  by_cases c2 : 0 < i ∧ (A0p l (i : Int)).f0 ≤ (A0p l ((i - 1 : Nat) : Int)).f1
  ·rw [if_pos c2] at hc; exact absurd hc (by decide)
  rw [if_neg c2] at hc
  by_cases e : j = i
  ·subst e
   rw [rd72 l j h2] at c
   simpa using c
  ·exact ih (i + 1) (by omega) hc j (by omega) h2
structure Fair (x : S62) : Prop where
 c : 1 ≤ x.f2 ∧ x.f2 ≤ 65535
 l : 4 ≤ x.f3 ∧ x.f3 ≤ 2147483647
 o : x.f0 ≤ x.f1
theorem M_facts {kind : Int} {l : List S62} (h : M kind l = true) : (kind = 1 ∨ kind = 2) ∧ l.length ≤ 65535 ∧ ∀ x ∈ l, Fair x := by
 unfold M at h
 by_cases c : (kind = 1 ∨ kind = 2) ∧ l.length ≤ 65535
 ·rw [if_pos c] at h
  refine ⟨c.1, c.2, fun x hx => ?_⟩
  obtain ⟨j, hj, rfl⟩ := List.getElem_of_mem hx
  have := chk_all l l.length 0 (by omega) h j (by omega) hj
  unfold badE at this
  simp only [Bool.or_eq_false_iff, decide_eq_false_iff_not] at this
  obtain ⟨h1, h2, h3, h4, h5⟩ := this
  exact ⟨⟨by omega, by omega⟩, ⟨by omega, by omega⟩, by omega⟩
 ·rw [if_neg c] at h; exact absurd h (by decide)
def lens : List S62 → Int
 | [] => 0
 | x :: t => x.f3 + lens t
theorem gu_err (ys : List Int) : (gu ys).2.2 = 0 ∨ (gu ys).2.2 = 2 ∨ (gu ys).2.2 = 3 := by
 unfold gu A24
 split
 ·exact .inr (.inl rfl)
 ·split
  ·exact .inr (.inr rfl)
  ·split
   ·exact .inr (.inr rfl)
   ·exact .inl rfl
theorem one_err (b : List Int) (p : Nat) : 0 ≤ (one b p).1 ∧ (one b p).1 ≤ 9 := by
 unfold one
 have h1 := gu_err (b.drop (p + 8)); have h2 := gu_err (b.drop (q1 b p)); have h3 := gu_err (b.drop (q2 b p))
 split
 ·exact ⟨by simp, by simp⟩
 ·split
  ·simp only; omega
  ·split
   ·simp only; omega
   ·split
    ·simp only; omega
    ·exact ⟨by simp, by simp⟩
theorem ents_errs (b : List Int) : ∀ (m p : Nat), 0 ≤ (ents b m p).1 ∧ (ents b m p).1 ≤ 9
 | 0, p => ⟨by simp [ents], by simp [ents]⟩
 | m + 1, p => by
  rw [ents_succ]
  split
  ·exact one_err b p
  ·exact ents_errs b m _
theorem getS_err (b : List Int) : 0 ≤ (getS b).2.2.2 ∧ (getS b).2.2.2 ≤ 9 := by
 have hg : 0 ≤ (gl b 5).1 ∧ (gl b 5).1 ≤ 9 := by
  unfold gl
  have h1 := gu_err (b.drop 5)
  split
  ·simp only; omega
  ·split
   ·exact ⟨by simp, by simp⟩
   ·exact ents_errs b _ _
 unfold getS
 split
 ·exact ⟨by simp, by simp⟩
 split
 ·exact ⟨by simp, by simp⟩
 split
 ·exact ⟨by simp, by simp⟩
 split
 ·exact hg
 split
 ·exact ⟨by simp, by simp⟩
 split
 ·exact ⟨by simp, by simp⟩
 split
 ·exact ⟨by simp, by simp⟩
 ·exact ⟨by simp, by simp⟩
end Go.Proofs.YtodocfjbpkicgaaDoor.PIdx
end
section
namespace Go.Proofs.YtodocfjbpkicgaaDoor.PWhole
open Go Go.RowKit Go.Proofs.YtodocfjbpkicgaaDoor Go.Proofs.YtodocfjbpkicgaaDoor.All Go.Zw Go.Zl
open PIdx
abbrev Is (c : Int) : Prop := c = 0 ∨ c = 1 ∨ c = 2 ∨ c = 3 ∨ c = 4 ∨ c = 6 ∨ c = 7 ∨ c = 8
theorem or_add (x y k A : Nat) (hx : x = 2 ^ k * A) (hy : y < 2 ^ k) (h : x + y < 4294967296) : Go.bits .or .u32 (x : Int) (y : Int) = ((x + y : Nat) : Int) := by
 have e := Nat.two_pow_add_eq_or_of_lt (i := k) (b := y) hy A
 rw [← hx] at e
 have f1 : (BitVec.ofInt 32 (x : Int)).toNat = x := by rw [Ib.A3g 32 _ (Int.natCast_nonneg _) (by omega), Int.toNat_natCast]
 have f2 : (BitVec.ofInt 32 (y : Int)).toNat = y := by rw [Ib.A3g 32 _ (Int.natCast_nonneg _) (by omega), Int.toNat_natCast]
 show IntKind.u32.wrap (((BitVec.ofInt 32 (x : Int)) ||| (BitVec.ofInt 32 (y : Int))).toNat : Int) = _
 rw [Ib.wrap_u32, BitVec.toNat_or, f1, f2, ← e]
 omega
theorem four (a b c d : Nat) (ha : a < 256) (hb : b < 256) (hc : c < 256) (hd : d < 256) :
    Go.bits .or .u32 (Go.bits .or .u32 (Go.bits .or .u32 ((((a : Int) % 4294967296) * 16777216) % 4294967296) ((((b : Int) % 4294967296) * 65536) % 4294967296)) ((((c : Int) % 4294967296) * 256) % 4294967296)) ((d : Int) % 4294967296) = (((a : Int) * 256 + b) * 256 + c) * 256 + d := by
  have e1 : (((a : Int) % 4294967296) * 16777216) % 4294967296 = ((16777216 * a : Nat) : Int) := by omega
  have e2 : (((b : Int) % 4294967296) * 65536) % 4294967296 = ((65536 * b : Nat) : Int) := by omega
  have e3 : (((c : Int) % 4294967296) * 256) % 4294967296 = ((256 * c : Nat) : Int) := by omega
  have e4 : ((d : Int) % 4294967296) = (d : Int) := by omega
  have g1 := or_add (16777216 * a) (65536 * b) 24 a rfl (by omega) (by omega)
  have g2 := or_add (16777216 * a + 65536 * b) (256 * c) 16 (256 * a + b) (by omega) (by omega) (by omega)
  have g3 := or_add (16777216 * a + 65536 * b + 256 * c) d 8 (65536 * a + 256 * b + c) (by omega) (by omega) (by omega)
  rw [e1, e2, e3, e4, g1, g2, g3]
  omega
theorem four_nb {t : List Int} (ht : Bs.Bytes t) (hl : t.length = 4) :
    Go.bits .or .u32 (Go.bits .or .u32 (Go.bits .or .u32 (((rd t 0 % 4294967296) * 16777216) % 4294967296) (((rd t 1 % 4294967296) * 65536) % 4294967296)) (((rd t 2 % 4294967296) * 256) % 4294967296)) (rd t 3 % 4294967296) = nb t := by
  match t, hl with
  | [a, b, c, d], _ =>
    have h0 := ht a (by simp)
    have h1 := ht b (by simp)
    have h2 := ht c (by simp)
    have h3 := ht d (by simp)
    show Go.bits .or .u32 (Go.bits .or .u32 (Go.bits .or .u32 (((a % 4294967296) * 16777216) % 4294967296) (((b % 4294967296) * 65536) % 4294967296)) (((c % 4294967296) * 256) % 4294967296)) (d % 4294967296) = ((((0 * 256 + a) * 256 + b) * 256 + c) * 256 + d)
    obtain ⟨a, rfl⟩ : ∃ n : Nat, a = (n : Int) := ⟨a.toNat, by omega⟩
    obtain ⟨b, rfl⟩ : ∃ n : Nat, b = (n : Int) := ⟨b.toNat, by omega⟩
    obtain ⟨c, rfl⟩ : ∃ n : Nat, c = (n : Int) := ⟨c.toNat, by omega⟩
    obtain ⟨d, rfl⟩ : ∃ n : Nat, d = (n : Int) := ⟨d.toNat, by omega⟩
    rw [four a b c d (by omega) (by omega) (by omega) (by omega)]
    omega
theorem tail_is (kind a b c d : Int) (M : List S42) (e : Int) (he : Is e) (hM : M.length ≤ 65535) (hne : e = 0 → 1 ≤ M.length) :
    ∃ (L : List S42) (e' : Int), Ev (fun k => A07.j1 k M (if e = 0 then none else some e) a b c d) (L, if e' = 0 then none else some e') ∧ Ev (fun k => A0m.j1 k M e (e != 0) a b c d) (L, e') ∧ Is e' ∧ L.length ≤ 65535 := by
  by_cases c0 : e = 0
  · subst c0
    have h1 := hne rfl
    have h0 : (0 : Int) < (M.length : Int) := by omega
    have hw : wrap64 ((M.length : Int) - 1) = ((M.length - 1 : Nat) : Int) := by rw [PBits.w64 _ (by omega)]; omega
    have hlt : ((M.length - 1 : Nat) : Int) < (M.length : Int) := by omega
    have hz : ((0 : Int) != 0) = false := rfl
    rw [hz]
    by_cases c1 : (A25 M 0).f0 = a
    · by_cases c2 : (A25 M ((M.length - 1 : Nat) : Int)).f0 = b
      · refine ⟨M, 0, ?_, ?_, .inl rfl, hM⟩
        · exact Ev.step (fun k => by rw [A07.j1, if_pos rfl, if_pos Option.isNone_none, if_pos h0, if_pos c1, hw, if_pos (Int.natCast_nonneg _), if_pos hlt, if_pos c2]) (Ev.now (M, none))
        · exact Ev.step (fun k => by rw [A0m.j1, if_neg Bool.false_ne_true, if_pos h0, if_pos c1, hw, if_pos (Int.natCast_nonneg _), if_pos hlt, if_pos c2]) (Ev.now _)
      · refine ⟨[], 8, ?_, ?_, by decide, by decide⟩
        · exact Ev.step (fun k => by rw [A07.j1, if_pos rfl, if_pos Option.isNone_none, if_pos h0, if_pos c1, hw, if_pos (Int.natCast_nonneg _), if_pos hlt, if_neg c2]) (Ev.now (([] : List S42), some 8))
        · exact Ev.step (fun k => by rw [A0m.j1, if_neg Bool.false_ne_true, if_pos h0, if_pos c1, hw, if_pos (Int.natCast_nonneg _), if_pos hlt, if_neg c2]) (Ev.now _)
    · refine ⟨[], 8, ?_, ?_, by decide, by decide⟩
      · exact Ev.step (fun k => by rw [A07.j1, if_pos rfl, if_pos Option.isNone_none, if_pos h0, if_neg c1]) (Ev.now (([] : List S42), some 8))
      · exact Ev.step (fun k => by rw [A0m.j1, if_neg Bool.false_ne_true, if_pos h0, if_neg c1]) (Ev.now _)
  · refine ⟨[], e, ?_, ?_, he, by decide⟩
    · rw [if_neg c0]
      exact Ev.step (fun k => by rw [A07.j1, if_neg (show ¬ (some e).isNone = true from Bool.false_ne_true)]; rfl) (Ev.now (([] : List S42), some e))
    · rw [bne_iff_ne.mpr c0]
      exact Ev.step (fun k => by rw [A0m.j1, if_pos rfl]) (Ev.now _)
theorem Chunk_is (kind a b c d : Int) (xs : List Int) (hx : Bs.Bytes xs) (hl : xs.length ≤ 1000000) :
    ∃ (M : List S42) (e : Int), Ev (fun k => A07.f k kind a b c d xs) (M, if e = 0 then none else some e) ∧ Ev (fun k => A0m.f k kind a b c d xs) (M, e) ∧ Is e ∧ M.length ≤ 65535 := by
  have hno : ∀ x, x = true → (Ev (fun k => A07.j0 k kind xs x a b c d) (([] : List S42), some 1) ∧ Ev (fun k => A0m.j0 k kind xs x a b c d) (([] : List S42), 1)) := by
    intro x hx
    subst hx
    exact ⟨Ev.step (fun k => by rw [A07.j0, if_pos rfl]) (Ev.now _), Ev.step (fun k => by rw [A0m.j0, if_pos rfl]) (Ev.now _)⟩
  unfold A07.f A0m.f
  by_cases c1 : (xs.length : Int) = d
  · simp only [if_pos c1]
    by_cases c2 : (xs.length : Int) < 4
    · have c2' : d < 4 := by omega
      obtain ⟨h1, _⟩ := hno _ (decide_eq_true c2')
      obtain ⟨_, h2⟩ := hno _ (decide_eq_true c2)
      exact ⟨[], 1, h1, h2, .inr (.inl rfl), by decide⟩
    have c2' : ¬ d < 4 := by omega
    rw [decide_eq_false c2, decide_eq_false c2']
    clear hno
    obtain ⟨n, hn⟩ : ∃ n : Nat, xs.length = n + 4 := ⟨xs.length - 4, by omega⟩
    have hw : wrap64 ((xs.length : Int) - 4) = (n : Int) := by rw [PBits.w64 _ (by omega)]; omega
    have hn0 : (0 : Int) ≤ (n : Int) := Int.natCast_nonneg n
    have hnl : (n : Int) ≤ (xs.length : Int) := by omega
    have hD : (xs.take n).length = n := by rw [List.length_take]; omega
    have hT : (xs.drop n).length = 4 := by rw [List.length_drop]; omega
    have hTb : Bs.Bytes (xs.drop n) := hx.drop n
    have hDb : Bs.Bytes (xs.take n) := hx.take n
    have t0 : (0 : Int) < ((xs.drop n).length : Int) := by rw [hT]; decide
    have t1 : (1 : Int) < ((xs.drop n).length : Int) := by rw [hT]; decide
    have t2 : (2 : Int) < ((xs.drop n).length : Int) := by rw [hT]; decide
    have t3 : (3 : Int) < ((xs.drop n).length : Int) := by rw [hT]; decide
    have hf := four_nb hTb hT
    have hs1 := PCrc.sum_is (xs.take n) (by omega)
    have hs2 := PCrc.ref_is (xs.take n) (by omega)
    have hnm := rnumber_is hTb (by omega)
    have hcr := crcN_range (xs.take n)
    have hwu : IntKind.u64.wrap (crcN (xs.take n)) = crcN (xs.take n) := by rw [Ib.wrap_u64]; omega
    obtain ⟨M, e, g1, g2, g3, g4, g5⟩ := PSlow.Decode_is kind (xs.take n) hDb (by omega) c
    have g3 : Is e := by
      rcases g3 with h | h | h | h | h | h
      · exact .inl h
      · exact .inr (.inl h)
      · exact .inr (.inr (.inl h))
      · exact .inr (.inr (.inr (.inl h)))
      · exact .inr (.inr (.inr (.inr (.inl h))))
      · exact .inr (.inr (.inr (.inr (.inr (.inl h)))))
    obtain ⟨L, e', f1, f2, f3, f4⟩ := tail_is kind a b c d M e g3 g4 g5
    have hs1 : Ev (fun k => A2f.f k (xs.take n)) (crcN (xs.take n)) := hs1
    have hs2 : Ev (fun k => A09.f k (xs.take n)) (crcN (xs.take n)) := hs2
    have i0 : ∀ y, Ev (fun k => if nb (xs.drop n) = crcN (xs.take n) then (A1b.f k kind (xs.take n) c).bind fun bt => A07.j1 k bt.1 bt.2 a b c d else some (([] : List S42), some 7)) y → Ev (fun k => A07.j0 k kind xs false a b c d) y := by
      intro y hy
      have hb : Ev (fun k => (A2f.f k (xs.take n)).bind fun s => if nb (xs.drop n) = s then (A1b.f k kind (xs.take n) c).bind fun bt => A07.j1 k bt.1 bt.2 a b c d else some (([] : List S42), some 7)) y := Ev.bind hs1 hy
      refine Ev.step (fun k => ?_) hb
      rw [A07.j0, if_neg Bool.false_ne_true, hw, Int.toNat_natCast, hD, if_pos hn0, if_pos hnl, if_pos hn0, if_pos hnl, Int.toNat_natCast, if_pos t0, if_pos t1, if_pos t2, if_pos t3]
      simp only [hf]
    by_cases c3 : nb (xs.drop n) = crcN (xs.take n)
    · refine ⟨L, e', i0 _ ?_, ?_, f3, f4⟩
      · exact Ev.congr (fun k => if_pos c3) (Ev.bind g1 f1)
      · refine Ev.step (fun k => by rw [A0m.j0, if_neg Bool.false_ne_true, hw, if_pos hn0, if_pos hnl, Int.toNat_natCast]) (Ev.bind hnm (Ev.bind hs2 ?_))
        rw [hwu]
        exact Ev.congr (fun k => if_pos c3) (Ev.bind g2 f2)
    · refine ⟨[], 7, i0 _ ?_, ?_, by decide, by decide⟩
      · exact Ev.congr (fun k => if_neg c3) (Ev.now (([] : List S42), some 7))
      · refine Ev.step (fun k => by rw [A0m.j0, if_neg Bool.false_ne_true, hw, if_pos hn0, if_pos hnl, Int.toNat_natCast]) (Ev.bind hnm (Ev.bind hs2 ?_))
        rw [hwu]
        exact Ev.congr (fun k => if_neg c3) (Ev.now _)
  · simp only [if_neg c1]
    obtain ⟨h1, h2⟩ := hno true rfl
    exact ⟨[], 1, h1, h2, .inr (.inl rfl), by decide⟩
theorem sums_map : ∀ l : List S178, sums l = lens (l.map ent)
 | [] => rfl
 | e :: t => by
  have h := sums_map t
  show e.f3 + sums t = e.f3 + lens (t.map ent)
  rw [h]
theorem get_lens {b : List Int} (hb : Bs.Bytes b) (h : (getS b).2.2.2 = 0) :
    ∃ at_ : Nat, (getS b).2.2.1 = (at_ : Int) ∧ (at_ : Int) + lens (getS b).2.1 = (b.length : Int) ∧ (getS b).2.1.length ≤ 65535 ∧ ∀ x ∈ (getS b).2.1, PIdx.Fair x := by
  by_cases c0 : pre b = true
  · by_cases c1 : b.length < 5
    · unfold getS at h; rw [if_neg (fun hh => hh c0), if_pos c1] at h; exact absurd (show (2 : Int) = 0 from h) (by decide)
    by_cases c2 : rd b 4 = 1 ∨ rd b 4 = 2
    · by_cases c3 : (gl b 5).1 ≠ 0
      · unfold getS at h; rw [if_neg (fun hh => hh c0), if_neg c1, if_neg (fun hh => hh c2), if_pos c3] at h; exact absurd h c3
      by_cases c4 : b.length < (gl b 5).2.2 + 4
      · unfold getS at h; rw [if_neg (fun hh => hh c0), if_neg c1, if_neg (fun hh => hh c2), if_neg c3, if_pos c4] at h; exact absurd (show (2 : Int) = 0 from h) (by decide)
      by_cases c5 : nb ((b.drop (gl b 5).2.2).take 4) ≠ crcN (b.take (gl b 5).2.2)
      · unfold getS at h; rw [if_neg (fun hh => hh c0), if_neg c1, if_neg (fun hh => hh c2), if_neg c3, if_neg c4, if_pos c5] at h; exact absurd (show (7 : Int) = 0 from h) (by decide)
      by_cases c6 : (fit (gl b 5).2.1 ((b.length - (gl b 5).2.2 - 4 : Nat) : Int) && M (rd b 4) ((gl b 5).2.1.map ent)) = true
      · have e : getS b = (rd b 4, (gl b 5).2.1.map ent, (((gl b 5).2.2 + 4 : Nat) : Int), 0) := by
          unfold getS; rw [if_neg (fun hh => hh c0), if_neg c1, if_neg (fun hh => hh c2), if_neg c3, if_neg c4, if_neg c5, if_pos c6]
        rw [e]
        rw [Bool.and_eq_true] at c6
        have hg := gl_facts hb (p := 5) (by omega) (Decidable.not_not.mp c3)
        have hs := ((fit_iff _ _ hg.1).1 c6.1).2
        have hm := M_facts c6.2
        rw [sums_map] at hs
        refine ⟨(gl b 5).2.2 + 4, rfl, ?_, hm.2.1, hm.2.2⟩
        show (((gl b 5).2.2 + 4 : Nat) : Int) + lens ((gl b 5).2.1.map ent) = _
        rw [hs]
        omega
      · unfold getS at h; rw [if_neg (fun hh => hh c0), if_neg c1, if_neg (fun hh => hh c2), if_neg c3, if_neg c4, if_neg c5, if_neg c6] at h; exact absurd (show (8 : Int) = 0 from h) (by decide)
    · unfold getS at h; rw [if_neg (fun hh => hh c0), if_neg c1, if_pos c2] at h; exact absurd (show (6 : Int) = 0 from h) (by decide)
  · unfold getS at h; rw [if_pos c0] at h; exact absurd (show (5 : Int) = 0 from h) (by decide)
theorem lens_nonneg : ∀ (l : List S62), (∀ x ∈ l, PIdx.Fair x) → 0 ≤ lens l
 | [], _ => Int.le_refl _
 | x :: t, h => by
  have h1 := lens_nonneg t (fun y hy => h y (List.mem_cons_of_mem _ hy))
  have h2 := (h x List.mem_cons_self).l.1
  show 0 ≤ x.f3 + lens t
  omega
theorem wr_add (a f : Nat) (x : Int) (h : x = (f : Int)) (hb : a + f ≤ 1000000000) : wrap64 ((a : Int) + x) = ((a + f : Nat) : Int) := by
 subst h
 rw [PBits.w64 _ (by omega)]
 omega
theorem wr_one (i : Nat) (h : i ≤ 65535) : wrap64 ((i : Int) + 1) = ((i + 1 : Nat) : Int) := by rw [PBits.w64 _ (by omega)]; omega
theorem cap_step (i la lm lL : Nat) (hi : i < lL) (hL : lL ≤ 65535) (ha : la ≤ 65535 * i) (hm : lm ≤ 65535) : la + lm ≤ 65535 * (i + 1) ∧ la + lm < 8796093022208 ∧ i < 17592186044416 := by omega
theorem idx_step (i r n : Nat) (h : i + (r + 1) = n) : i + 1 + r = n := by omega
theorem at_step (a f : Nat) (x l b : Int) (h : (a : Int) + (x + l) = b) (hx : x = (f : Int)) : ((a + f : Nat) : Int) + l = b := by omega
theorem at_le (a f n : Nat) (x l : Int) (h : (a : Int) + (x + l) = (n : Int)) (hx : x = (f : Int)) (hl : 0 ≤ l) : a + f ≤ n := by omega
theorem Whole_l0 (kind : Int) (b : List Int) (hb : Bs.Bytes b) (hl : b.length ≤ 1000000) (L : List S62) (hL : L.length ≤ 65535) (hF : ∀ x ∈ L, PIdx.Fair x) :
    ∀ (r i at_ : Nat) (acc : List S42) (ends : List Int), i + r = L.length → (at_ : Int) + lens (L.drop i) = (b.length : Int) → acc.length ≤ 65535 * i → ends.length = i →
      ∃ (M : List S42) (e : Int) (en : List Int), Ev (fun k => A0w.l0 k b (at_ : Int) acc L (L.length : Int) (i : Int) kind L) (M, if e = 0 then none else some e) ∧ Ev (fun k => A0x.l0 k b kind (L.map cE) (at_ : Int) acc ends (i : Int)) (M, e, en) ∧ Is e ∧ M.length ≤ 65535 * L.length := by
  intro r
  induction r with
  | zero =>
    intro i at_ acc ends hi ha hacc hen
    have hnl : ¬ (i : Int) < (L.length : Int) := by omega
    have hnl' : ¬ (i : Int) < ((L.map cE).length : Int) := by rw [List.length_map]; omega
    refine ⟨acc, 0, ends, ?_, ?_, .inl rfl, ?_⟩
    · exact Ev.step (fun k => by rw [A0w.l0, if_neg hnl]) (Ev.now (acc, none))
    · exact Ev.step (fun k => by rw [A0x.l0, if_neg hnl']) (Ev.now _)
    · obtain rfl : i = L.length := by omega
      exact hacc
  | succ r ih =>
    intro i at_ acc ends hi ha hacc hen
    have hil : i < L.length := by omega
    have hlt : (i : Int) < (L.length : Int) := by omega
    have hlt' : (i : Int) < ((L.map cE).length : Int) := by rw [List.length_map]; omega
    have hrd := rd72 L i hil
    have hrd' : A1s (L.map cE) (i : Int) = cE L[i] := by rw [rd_map L i hil, hrd]
    have hdrop : L.drop i = L[i] :: L.drop (i + 1) := List.drop_eq_getElem_cons hil
    have hf := hF L[i] (List.getElem_mem hil)
    have hns := lens_nonneg (L.drop (i + 1)) (fun x hx => hF x (List.mem_of_mem_drop hx))
    rw [hdrop] at ha
    generalize L[i] = x at hrd hrd' hf ha
    have ha : (at_ : Int) + (x.f3 + lens (L.drop (i + 1))) = (b.length : Int) := ha
    have hf3 := hf.l
    obtain ⟨f3, hf3'⟩ : ∃ n : Nat, x.f3 = (n : Int) := ⟨x.f3.toNat, by omega⟩
    have hab := at_le at_ f3 b.length x.f3 _ ha hf3' hns
    have ha' := at_step at_ f3 x.f3 _ _ ha hf3'
    have c1 : (0 : Int) ≤ (i : Int) := Int.natCast_nonneg i
    have c2 : (0 : Int) ≤ (at_ : Int) := Int.natCast_nonneg at_
    have c3 : (at_ : Int) ≤ ((at_ + f3 : Nat) : Int) := Int.ofNat_le.mpr (Nat.le_add_right _ _)
    have c4 : ((at_ + f3 : Nat) : Int) ≤ (b.length : Int) := Int.ofNat_le.mpr hab
    have hxs : ((b.take (at_ + f3)).drop at_).length ≤ 1000000 := by
      rw [List.length_drop, List.length_take]
      exact Nat.le_trans (Nat.sub_le _ _) (Nat.le_trans (Nat.min_le_right _ _) hl)
    have hi1 : i ≤ 65535 := Nat.le_trans (Nat.le_of_lt hil) hL
    have hi2 : i + 1 ≤ L.length := hil
    have hab2 : at_ + f3 ≤ 1000000000 := Nat.le_trans hab (Nat.le_trans hl (by decide))
    have hw := wr_add at_ f3 x.f3 hf3' hab2
    have wi := wr_one i hi1
    obtain ⟨M, e, g1, g2, g3, g4⟩ := Chunk_is kind x.f0 x.f1 x.f2 x.f3 ((b.take (at_ + f3)).drop at_) ((hb.take _).drop _) hxs
    by_cases c0 : e = 0
    · subst c0
      have g1 : Ev (fun k => A07.f k kind x.f0 x.f1 x.f2 x.f3 ((b.take (at_ + f3)).drop at_)) (M, none) := g1
      obtain ⟨q1, ho, q3⟩ := cap_step i acc.length M.length L.length hil hL hacc g4
      have hlen : (acc ++ M).length ≤ 65535 * (i + 1) := by rw [List.length_append]; exact q1
      have ho2 : ends.length < 17592186044416 := by rw [hen]; exact q3
      obtain ⟨M', e', en, f1, f2, f3', f4⟩ := ih (i + 1) (at_ + f3) (acc ++ M) (ends ++ [((acc ++ M).length : Int)]) (idx_step i r _ hi) ha' hlen (by rw [List.length_append, List.length_singleton, hen])
      refine ⟨M', e', en, ?_, ?_, f3', f4⟩
      · refine Ev.step (fun k => by rw [A0w.l0, if_pos hlt, if_pos c1, if_pos hlt, if_pos c2, hrd, hw, if_pos c3, if_pos c4, Int.toNat_natCast, Int.toNat_natCast]) (Ev.bind g1 ?_)
        refine Ev.congr (fun k => if_pos Option.isNone_none) ?_
        exact Ev.step (fun k => by rw [A0w.j1, if_neg Bool.false_ne_true, if_pos ho, hw, wi]) f1
      · refine Ev.step (fun k => by rw [A0x.l0, if_pos hlt', if_pos c1, if_pos c2, hrd', show (cE x).f3 = x.f3 from rfl, hw, if_pos c3, if_pos c4, Int.toNat_natCast, Int.toNat_natCast]; rfl) (Ev.bind g2 ?_)
        refine Ev.step (fun k => by rw [A0x.j1, show ((0 : Int) != 0) = false from rfl, if_neg Bool.false_ne_true, if_pos ho, Option.bind_some, if_pos ho2, if_pos c1, if_pos hlt', hrd', show (cE x).f3 = x.f3 from rfl, hw, wi]) f2
    · rw [if_neg c0] at g1
      refine ⟨acc, e, ends, ?_, ?_, g3, Nat.le_trans hacc (Nat.mul_le_mul_left _ (Nat.le_of_lt hil))⟩
      · refine Ev.step (fun k => by rw [A0w.l0, if_pos hlt, if_pos c1, if_pos hlt, if_pos c2, hrd, hw, if_pos c3, if_pos c4, Int.toNat_natCast, Int.toNat_natCast]) (Ev.bind g1 ?_)
        refine Ev.congr (fun k => if_neg Bool.false_ne_true) ?_
        rw [if_neg c0]
        exact Ev.step (fun k => by rw [A0w.j1, if_pos rfl]; rfl) (Ev.now (acc, some e))
      · refine Ev.step (fun k => by rw [A0x.l0, if_pos hlt', if_pos c1, if_pos c2, hrd', show (cE x).f3 = x.f3 from rfl, hw, if_pos c3, if_pos c4, Int.toNat_natCast, Int.toNat_natCast]; rfl) (Ev.bind g2 ?_)
        exact Ev.step (fun k => by rw [A0x.j1, bne_iff_ne.mpr c0, if_pos rfl]) (Ev.now _)
theorem Whole_is (b : List Int) (hb : Bs.Bytes b) (hl : b.length ≤ 1000000) :
    ∃ (M : List S42) (e : Int) (en : List Int), Ev (fun k => A0w.f k b) (M, if e = 0 then none else some e) ∧ Ev (fun k => A0x.f k b) (M, e, en) ∧ 0 ≤ e ∧ e ≤ 9 ∧ M.length ≤ 4294836225 := by
  have g1 := Get_is b hb (by omega)
  have g2 := RGet_is b hb (by omega)
  have he := getS_err b
  unfold A0w.f A0x.f
  by_cases c0 : (getS b).2.2.2 = 0
  · obtain ⟨at_, h1, h2, h3, h4⟩ := get_lens hb c0
    obtain ⟨M, e, en, f1, f2, f3, f4⟩ := Whole_l0 (getS b).1 b hb hl (getS b).2.1 h3 h4 (getS b).2.1.length 0 at_ [] [] (by omega) h2 (Nat.zero_le _) rfl
    refine ⟨M, e, en, Ev.bind g1 ?_, Ev.bind g2 ?_, ?_, ?_, by omega⟩
    · rw [c0, h1]
      exact Ev.congr (fun k => if_pos rfl) f1
    · rw [c0, h1]
      exact Ev.congr (fun k => if_pos rfl) f2
    · rcases f3 with h | h | h | h | h | h | h | h <;> omega
    · rcases f3 with h | h | h | h | h | h | h | h <;> omega
  · refine ⟨[], (getS b).2.2.2, [], Ev.bind g1 ?_, Ev.bind g2 ?_, he.1, he.2, by decide⟩
    · have h1 : PUvar.er (getS b).2.2.2 = some (getS b).2.2.2 := if_neg c0
      rw [h1, if_neg c0]
      exact Ev.congr (fun k => if_neg Bool.false_ne_true) (Ev.now _)
    · exact Ev.congr (fun k => if_neg c0) (Ev.now _)
end Go.Proofs.YtodocfjbpkicgaaDoor.PWhole
end
section
namespace Go.Proofs.YtodocfjbpkicgaaDoor.PSame
open Go Go.RowKit Go.Proofs.YtodocfjbpkicgaaDoor Go.Proofs.YtodocfjbpkicgaaDoor.All Go.Zw Go.Zl
theorem Same_l0 (M : List S42) (hM : M.length ≤ 140737488355328) : ∀ (r i : Nat), i + r = M.length → Ev (fun k => A14.l0 k M M (i : Int)) 1 := by
 intro r
 induction r with
 | zero =>
  intro i hi
  have hnl : ¬ (i : Int) < (M.length : Int) := by omega
  exact Ev.step (fun k => by rw [A14.l0, if_neg hnl]) (Ev.now _)
 | succ r ih =>
  intro i hi
  have hlt : (i : Int) < (M.length : Int) := by omega
  have wi : wrap64 ((i : Int) + 1) = ((i + 1 : Nat) : Int) := by rw [PBits.w64 _ (by omega)]; omega
  refine Ev.step (fun k => by rw [A14.l0, if_pos hlt, if_pos (Int.natCast_nonneg i), if_pos hlt, beq_self_eq_true, beq_self_eq_true, Bool.not_true, Bool.or_self, if_neg Bool.false_ne_true, wi]) (ih (i + 1) (by omega))
theorem Same_is (M : List S42) (hM : M.length ≤ 140737488355328) : Ev (fun k => A14.f k M M) 1 := by
 unfold A14.f
 refine Ev.congr (fun k => if_pos rfl) ?_
 exact Same_l0 M hM M.length 0 (by omega)
end Go.Proofs.YtodocfjbpkicgaaDoor.PSame
end
section
namespace Go.Proofs.YtodocfjbpkicgaaDoor.Pure
open Go Go.RowKit Go.Proofs.YtodocfjbpkicgaaDoor Go.Proofs.YtodocfjbpkicgaaDoor.All Go.Zw Go.Zl Go.Proofs.YtodocfjbpkicgaaDoor.PWhole
theorem whole_no (c : Int) (h0 : 0 ≤ c) (h9 : c ≤ 9) : A2n.f (if c = 0 then none else some c) = some c := by
 have e : codeNo (if c = 0 then none else some c) = c := by
  have h : c = 0 ∨ c = 1 ∨ c = 2 ∨ c = 3 ∨ c = 4 ∨ c = 5 ∨ c = 6 ∨ c = 7 ∨ c = 8 ∨ c = 9 := by omega
  rcases h with rfl | rfl | rfl | rfl | rfl | rfl | rfl | rfl | rfl | rfl <;> decide
 unfold A2n.f
 rw [e]
theorem WholeTells_up : Ev (fun k => A21.f k) true :=
 Ev.of A21.mono (k := 300) (by decide +kernel)
theorem WholeTells_j0 (kind a b c d : Int) (xs ys : List Int) (hx : Bs.Bytes xs) (hl : xs.length ≤ 1500) (hy : Bs.Bytes ys) (hly : ys.length ≤ 2000) :
    Ev (fun k => A1a.j0 k kind xs true ys a b c d) true := by
  obtain ⟨M, e, g1, g2, g3, g4⟩ := Chunk_is kind a b c d ys hy (by omega)
  obtain ⟨N, e2, en, f1, f2, f3, f4, f5⟩ := Whole_is xs hx (by omega)
  have s1 := PSame.Same_is M (by omega)
  have s2 := PSame.Same_is N (by omega)
  have k1 := whole_no e (by rcases g3 with h | h | h | h | h | h | h | h <;> omega) (by rcases g3 with h | h | h | h | h | h | h | h <;> omega)
  have k2 := whole_no e2 f3 f4
  refine Ev.step (fun k => by rw [A1a.j0]) (Ev.bind g1 (Ev.bind g2 (Ev.bind f1 (Ev.bind f2 ?_))))
  refine Ev.congr (fun k => if_pos rfl) (Ev.bind s1 (Ev.congr (fun k => if_pos rfl) ?_))
  have hfin : Ev (fun k => (A14.f k N N).bind fun t => if t = 1 then some (e2 == e2) else none) true := Ev.bind s2 (Ev.congr (fun k => by rw [if_pos rfl, beq_self_eq_true]) (Ev.now true))
  refine Ev.congr (fun k => ?_) hfin
  simp only [k1, k2, Option.bind_some, eq_self, if_true]
theorem WholeTells (kind a b c d : Int) (xs : List Int) (fresh : Bool) (hx : Bs.Bytes xs) : ∃ k, A1a.f k kind a b c d xs fresh = some true := by
 refine Ev.rounds (g := fun k => A1a.f k kind a b c d xs fresh) ?_
 unfold A1a.f
 refine Ev.bind WholeTells_up ?_
 by_cases c1 : (xs.length : Int) > 1500
 ·exact Ev.congr (fun k => if_pos c1) (Ev.now _)
 have c2 : ([] : List Int).length + xs.length < 140737488355328 := by rw [List.length_nil]; omega
 refine Ev.congr (fun k => by rw [if_neg c1, Option.bind_some, if_pos c2, Option.bind_some, List.nil_append]) ?_
 by_cases c3 : fresh = true
 ·have hs := PCrc.ref_is xs (by omega)
  refine Ev.congr (fun k => if_pos c3) (Ev.bind hs ?_)
  generalize (((~~~ (Crc.eat (BitVec.allOnes 32) xs)).toNat : Nat) : Int) = s
  have c4 : xs.length + ([(s / 16777216) % 256, (s / 65536) % 256, (s / 256) % 256, s % 256] : List Int).length < 140737488355328 := by
   show xs.length + 4 < _
   omega
  refine Ev.congr (fun k => by rw [Option.bind_some, if_pos c4, Option.bind_some]) ?_
  refine WholeTells_j0 kind a b c _ xs _ hx (by omega) (hx.append ?_) (by rw [List.length_append]; show xs.length + 4 ≤ _; omega)
  intro y hy
  rcases List.mem_cons.1 hy with rfl | hy
  ·omega
  rcases List.mem_cons.1 hy with rfl | hy
  ·omega
  rcases List.mem_cons.1 hy with rfl | hy
  ·omega
  rcases List.mem_cons.1 hy with rfl | hy
  ·omega
  ·exact absurd hy (List.not_mem_nil)
 ·refine Ev.congr (fun k => if_neg c3) ?_
  exact WholeTells_j0 kind a b c d xs xs hx (by omega) hx (by omega)
end Go.Proofs.YtodocfjbpkicgaaDoor.Pure
end
