-- declarations that this claim needs, copied by a program of the session
import Derived.Test.YtiahbcaoikoogabDoorKbAllx20
import Derived.Test.YtiahbcaoikoogabDoorKbPKindsAsc
import Derived.Deep.SlicePairs
import Derived.SizedLaws
section
namespace Go.Proofs.YtiahbcaoikoogabDoor.Pure
open Go Go.RowKit Go.Proofs.YtiahbcaoikoogabDoor Go.Proofs.YtiahbcaoikoogabDoor.All Go.Proofs.YtiahbcaoikoogabDoorW.PrintWords Go.Proofs.YtiahbcaoikoogabDoorW.PrintLast Go.Proofs.YtiahbcaoikoogabDoor.PKinds Go.Proofs.YtiahbcaoikoogabDoor.PRising Go.Proofs.YtiahbcaoikoogabDoor.PChunk Go.Proofs.YtiahbcaoikoogabDoor.PSlowB
set_option linter.unusedVariables false
set_option linter.unusedSimpArgs false
theorem SlowBack_up : Ev (fun k => gaiterlaw10_up.f k) true :=
  Ev.of gaiterlaw10_up.mono (k := 300) (by decide +kernel)
theorem asc_enc (kind : Int) (hk : kind = 1 ∨ kind = 2) (M : List S48) (hM : Asc M) (hM60 : M.length ≤ 65535) : ∀ (r i : Nat) (n t d v e xp : Int) (xl xn : Nat), i + r = M.length → PKinds.Sb M i n t xp xl xn → (enc kind (M.drop i) (n, t, d, v, e, xp, (xl : Int), (xn : Int))).2 = 0 := by
  intro r
  induction r with
  | zero =>
    intro i n t d v e xp xl xn hi s
    rw [List.drop_of_length_le (by omega)]
    rfl
  | succ r ih =>
    intro i n t d v e xp xl xn hi s
    have hil : i < M.length := by omega
    obtain ⟨b, n', t', d', v', e', xp', yl, yn, hK, hb, hb1, hb2, hown, s'⟩ := PKinds.kstep kind hk M hM hM60 i hil n t d v e xp xl xn s
    have h := ih (i + 1) n' t' d' v' e' xp' yl yn (by omega) s'
    rw [List.drop_eq_getElem_cons hil, enc_cons, hK, if_pos rfl, if_pos h]
theorem enc_len (kind : Int) : ∀ (l : List S48) (i : Nat) (n t d v e xp : Int) (xl xn : Nat), (∀ x ∈ l, Rg x) → i + l.length ≤ 65535 → Ok (i : Int) (n, t, d, v, e, xp, (xl : Int), (xn : Int)) →
    (enc kind l (n, t, d, v, e, xp, (xl : Int), (xn : Int))).2 = 0 → (enc kind l (n, t, d, v, e, xp, (xl : Int), (xn : Int))).1.length ≤ 1000 * l.length := by
  intro l
  induction l with
  | nil => intro i n t d v e xp xl xn hl hi hok h1; exact Nat.le_refl _
  | cons x r ih =>
    intro i n t d v e xp xl xn hl hi hok h1
    have hi1 : i + 1 + r.length ≤ 65535 := by rw [List.length_cons] at hi; omega
    obtain ⟨xl', xn', el, en, hx⟩ := hok.w
    have hx : xl + xn ≤ 64 := by
      have e1 : (xl : Int) = (xl' : Int) := el
      have e2 : (xn : Int) = (xn' : Int) := en
      omega
    have hp := hok.p0
    have hn0 : 0 ≤ n := hok.n0
    have hn1 : n ≤ (i : Int) := hok.n1
    have hrx := hl x (by simp)
    obtain ⟨a1, a2, a3⟩ := enc_ok kind x r n t d v e xp xl xn h1
    have kl := kp_len kind n t d v e xp xl xn x.f0 x.f1 hrx.2 hp hx
    have ko := kp_ok (i : Int) (by omega) kind n t d v e xp xl xn x.f0 x.f1 ⟨hn0, hn1⟩ hrx.2 hp hx a1
    rw [a3]
    generalize kp kind n t d v e xp xl xn x.f0 x.f1 = K at *
    obtain ⟨b, ⟨n', t', d', v', e', xp', al, an⟩, c⟩ := K
    obtain ⟨yl, yn, e1, e2, hy⟩ := ko.w
    have e1 : al = (yl : Int) := e1
    have e2 : an = (yn : Int) := e2
    subst e1 e2
    have hok2 : Ok ((i + 1 : Nat) : Int) (n', t', d', v', e', xp', (yl : Int), (yn : Int)) := by
      rw [show ((i + 1 : Nat) : Int) = (i : Int) + 1 from by omega]
      exact ko
    have h : (enc kind r (n', t', d', v', e', xp', (yl : Int), (yn : Int))).1.length ≤ 1000 * r.length := ih (i + 1) n' t' d' v' e' xp' yl yn (fun z hz => hl z (by simp [hz])) hi1 hok2 a2
    have kl : b.length ≤ 1000 := kl
    show (b ++ (enc kind r (n', t', d', v', e', xp', (yl : Int), (yn : Int))).1).length ≤ 1000 * (x :: r).length
    rw [List.length_append, List.length_cons]
    omega
theorem zeros_number (n : Nat) : Bs.number (List.replicate n (0 : Int)) = 0 := by
  have := Bs.number_zeros [] n
  rw [List.nil_append, Bs.number_nil, Int.zero_mul] at this
  exact this
theorem rest_zeros (R : List Int) (hR : Bs.Bits R) (h : Bs.number R = 0) : R = List.replicate R.length 0 := by
  have h1 := Bs.low_number hR
  rw [h, Bs.low_zero] at h1
  exact h1.symm
theorem pack_back (b E R : List Int) (hb : Bs.Bytes b) (hE : Bs.Bits E) (hR : Bs.Bits R) (h8 : R.length < 8) (h0 : Bs.number R = 0) (he : E ++ R = Bs.flat b) : Bs.pack E = b := by
  have hl := congrArg List.length he
  rw [List.length_append, Bs.flat_length] at hl
  have hz := rest_zeros R hR h0
  have h1 := Bs.pack_zeros hE R.length
  rw [← hz, he, Bs.pack_flat' hb, List.take_of_length_le (by omega)] at h1
  exact h1.symm
theorem slow_str (b : List Int) : ((strOfNums b).toList == (strOfNums b).toList) = true := beq_self_eq_true _
theorem ans_ok (M : List S48) (S : List Int) (h : S.length < 8) (h0 : Bs.number S = 0) : ans [] (M, 0, S) = (M, none) := by
  have hf : fc (M, 0, S) = 0 := by
    unfold fc
    rw [if_pos rfl]
    show (if S.length ≥ 8 then (3 : Int) else if Bs.number S = 0 then 0 else 3) = 0
    rw [if_neg (by omega), if_pos h0]
  unfold ans
  rw [hf, if_pos rfl, List.nil_append]
theorem ans_much (M : List S48) (S : List Int) (h : S.length ≥ 8) : ans [] (M, 0, S) = (M, some 3) := by
  have hf : fc (M, 0, S) = 3 := by
    unfold fc
    rw [if_pos rfl]
    show (if S.length ≥ 8 then (3 : Int) else if Bs.number S = 0 then 0 else 3) = 3
    rw [if_pos h]
  unfold ans
  rw [hf, List.nil_append]
  rfl
theorem SlowBack_j2 (kind : Int) (b : List Int) (hb : Bs.Bytes b) (nb : b.length ≤ 600) (n : Int) : Ev (fun k => gaiterlaw10_SlowBack.j2 k b n true kind) true := by
  have hbad : ∀ (M : List S48) (c : Int), Ev (fun k => slow_Decode.f k kind b n) (M, some c) → Ev (fun k => gaiterlaw10_SlowBack.j2 k b n true kind) true := by
    intro M c h
    refine Ev.step (fun k => by rw [gaiterlaw10_SlowBack.j2]) (Ev.bind h ?_)
    exact Ev.congr (fun k => if_neg Bool.false_ne_true) (Ev.now _)
  by_cases c1 : n < 1 ∨ n > 65535
  · exact hbad [] 1 (Decode_no kind b n c1)
  obtain ⟨nn, rfl⟩ : ∃ m : Nat, n = (m : Int) := ⟨n.toNat, by omega⟩
  have g := PSlowB.Decode_is kind b hb (by omega) nn (by omega) (by omega)
  have hfl := Bs.flat_length b
  have hed := enc_dec kind nn 0 0 0 0 0 0 0 0 0 (Bs.flat b) (Bs.flat_bits b) (by omega) (by omega) (ok_zero 0 (Int.le_refl _))
  have hed : (dec kind nn z8 (Bs.flat b)).2.1 = 0 → (enc kind (dec kind nn z8 (Bs.flat b)).1 z8).2 = 0 ∧ (enc kind (dec kind nn z8 (Bs.flat b)).1 z8).1 ++ (dec kind nn z8 (Bs.flat b)).2.2 = Bs.flat b ∧ (dec kind nn z8 (Bs.flat b)).1.length = nn ∧ ∀ x ∈ (dec kind nn z8 (Bs.flat b)).1, Rg x := hed
  generalize dec kind nn z8 (Bs.flat b) = D at g hed
  obtain ⟨X, c, S⟩ := D
  by_cases c2 : fc (X, c, S) = 0
  · have c3 : c = 0 := by
      by_cases q : c = 0
      · exact q
      · unfold fc at c2
        rw [if_neg q] at c2
        exact c2
    subst c3
    obtain ⟨p1, p2, p3, p4⟩ := hed rfl
    have p1 : (enc kind X z8).2 = 0 := p1
    have p2 : (enc kind X z8).1 ++ S = Bs.flat b := p2
    have p3 : X.length = nn := p3
    have p4 : ∀ x ∈ X, Rg x := p4
    have hS : S.length < 8 ∧ Bs.number S = 0 := by
      unfold fc at c2
      rw [if_pos rfl] at c2
      have c2 : (if S.length ≥ 8 then (3 : Int) else if Bs.number S = 0 then 0 else 3) = 0 := c2
      by_cases q1 : S.length ≥ 8
      · rw [if_pos q1] at c2
        exact absurd c2 (by decide)
      · rw [if_neg q1] at c2
        by_cases q2 : Bs.number S = 0
        · exact ⟨by omega, q2⟩
        · rw [if_neg q2] at c2
          exact absurd c2 (by decide)
    have hSb : Bs.Bits S := by
      have := Bs.flat_bits b
      rw [← p2] at this
      exact this.right
    rw [ans_ok X S hS.1 hS.2] at g
    have g2 := Encode_is kind X p4 (by omega) (by omega)
    unfold res at g2
    rw [if_pos p1, List.nil_append, pack_back b _ S hb (enc_bits kind X z8) hSb hS.1 hS.2 p2] at g2
    have hlen : (X.length : Int) = (nn : Int) := by rw [p3]
    refine Ev.step (fun k => by rw [gaiterlaw10_SlowBack.j2]) (Ev.bind g ?_)
    refine Ev.congr (fun k => if_pos (show (none : Option Int).isNone = true from rfl)) (Ev.bind g2 ?_)
    exact Ev.congr (fun k => by rw [if_pos rfl, if_pos (show (none : Option Int).isNone = true from rfl), if_pos hlen, slow_str]) (Ev.now true)
  · unfold ans at g
    rw [if_neg c2] at g
    exact hbad _ _ g
theorem SlowBack_j1 (kind : Int) (hk : kind = 1 ∨ kind = 2) (l : List S48) (hl : ∀ x ∈ l, Rg x) (nl : l.length ≤ 100) (b : List Int) (hb : Bs.Bytes b) (nb : b.length ≤ 600) (n : Int) : Ev (fun k => gaiterlaw10_SlowBack.j1 k l b n true kind) true := by
  obtain ⟨M, e1, e2, hM⟩ := Rising_is l hl (by omega)
  have h2 := SlowBack_j2 kind b hb nb n
  by_cases c0 : M = []
  · subst c0
    have g1 := Encode_no kind
    refine Ev.step (fun k => by rw [gaiterlaw10_SlowBack.j1]) (Ev.bind e1 (Ev.bind g1 ?_))
    exact Ev.congr (fun k => if_neg (by show ¬ ((([] : List S48).length : Int) > 0); decide)) h2
  have h0 : 1 ≤ M.length := List.length_pos_iff.mpr c0
  have h0' : (M.length : Int) > 0 := by omega
  have hok := asc_enc kind hk M hM (by omega) M.length 0 0 0 0 0 0 0 0 0 (by omega) ⟨rfl, fun j _ h => absurd h (by omega), by decide, by decide⟩
  have hok : (enc kind M z8).2 = 0 := hok
  have hEl : (enc kind M z8).1.length ≤ 1000 * M.length := enc_len kind M 0 0 0 0 0 0 0 0 0 hM.rng (by omega) (ok_zero 0 (Int.le_refl _)) hok
  have g1 := Encode_is kind M hM.rng h0 (by omega)
  unfold res at g1
  rw [if_pos hok, List.nil_append] at g1
  have hEb := enc_bits kind M z8
  have hdec : ∀ S, dec kind M.length z8 ((enc kind M z8).1 ++ S) = (M, 0, S) := fun S => dec_enc kind M 0 0 0 0 0 0 0 0 0 S hM.rng (by omega) (ok_zero 0 (Int.le_refl _)) hok
  have hpl := Bs.pack_length (enc kind M z8).1
  have hpb := Bs.pack_bytes hEb
  have hpf := Bs.flat_pack hEb
  have hz : 8 * (((enc kind M z8).1.length + 7) / 8) - (enc kind M z8).1.length < 8 := by omega
  have d1 := PSlowB.Decode_is kind (Bs.pack (enc kind M z8).1) hpb (by omega) M.length h0 (by omega)
  rw [hpf, hdec, ans_ok _ _ (by rw [List.length_replicate]; exact hz) (zeros_number _)] at d1
  have hp0 : Bs.Bytes (Bs.pack (enc kind M z8).1 ++ [0]) := hpb.append (Bs.Bytes.cons (by decide) Bs.Bytes.nil)
  have hl0 : (Bs.pack (enc kind M z8).1 ++ [0]).length ≤ 1000000 := by rw [List.length_append, List.length_singleton]; omega
  have d2 := PSlowB.Decode_is kind (Bs.pack (enc kind M z8).1 ++ [0]) hp0 hl0 M.length h0 (by omega)
  rw [Bs.flat_append, hpf, List.append_assoc, hdec, ans_much _ _ (by rw [List.length_append, Bs.flat_length, List.length_singleton]; omega)] at d2
  have hs := PSame.Same_is M (by omega)
  have h47 : ([] : List Int).length + (Bs.pack (enc kind M z8).1).length < 140737488355328 := by rw [List.length_nil]; omega
  have h47' : (Bs.pack (enc kind M z8).1).length < 140737488355328 := by omega
  have hcode : gaiterlaw00_Code.f (some 3) = some 3 := by decide
  generalize Bs.pack (enc kind M z8).1 = P at *
  refine Ev.step (fun k => by rw [gaiterlaw10_SlowBack.j1]) (Ev.bind e1 (Ev.bind g1 ?_))
  refine Ev.congr (fun k => by rw [if_pos h0', if_pos (show (none : Option Int).isNone = true from rfl)]) (Ev.bind d1 ?_)
  refine Ev.congr (fun k => by rw [Option.bind_some, if_pos h47, Option.bind_some, List.nil_append, if_pos h47']) (Ev.bind d2 ?_)
  refine Ev.congr (fun k => if_pos (show (none : Option Int).isNone = true from rfl)) (Ev.bind hs ?_)
  refine Ev.congr (fun k => by rw [if_neg (by decide), hcode, Option.bind_some, if_pos rfl]) (Ev.bind hs ?_)
  exact Ev.congr (fun k => if_neg (by decide)) h2
theorem SlowBack : gaiterlaw10_SlowBack.Pure := by
  intro x0 l b n _ _ h1 _ _ h2 _
  have h1 : ∀ x ∈ l, Rg x := fun x h => ⟨Ib.wf_i64 (h1 x h).1, Ib.wf_u64 (h1 x h).2⟩
  have h2 : Bs.Bytes b := fun x h => Ib.wf_u8 (h2 x h)
  refine Ev.rounds (g := fun k => gaiterlaw10_SlowBack.f k x0 l b n) ?_
  unfold gaiterlaw10_SlowBack.f
  refine Ev.bind SlowBack_up ?_
  have hout : ∀ x, x = true → Ev (fun k => gaiterlaw10_SlowBack.j0 k x0 l b n true x) true := by
    intro x hx
    subst hx
    exact Ev.step (fun k => by rw [gaiterlaw10_SlowBack.j0, if_pos rfl]) (Ev.now _)
  by_cases c1 : (l.length : Int) > 100
  · simp only [if_pos c1]
    exact hout _ rfl
  simp only [if_neg c1]
  by_cases c2 : (b.length : Int) > 600
  · exact hout _ (decide_eq_true c2)
  rw [decide_eq_false c2]
  by_cases c0 : x0 = true
  · exact Ev.step (fun k => by rw [gaiterlaw10_SlowBack.j0, if_neg Bool.false_ne_true, if_pos c0]) (SlowBack_j1 2 (.inr rfl) l h1 (by omega) b h2 (by omega) n)
  · exact Ev.step (fun k => by rw [gaiterlaw10_SlowBack.j0, if_neg Bool.false_ne_true, if_neg c0]) (SlowBack_j1 1 (.inl rfl) l h1 (by omega) b h2 (by omega) n)
end Go.Proofs.YtiahbcaoikoogabDoor.Pure
end
section
namespace Go.Proofs.YtiahbcaoikoogabDoor
open Go Go.ChangeShapes Go.WideShapes Go.Deep
set_option linter.unusedVariables false
set_option linter.unusedSimpArgs false
theorem recs2 {H : Type} {enc : TypeId × Value → H} {P : Program} {W : World} {base : Nat} {spare : Nat → Bool} {held : Bool} {t e : TypeId} {f0 f1 : Field} {k0 k1 : IntKind} {a : Option Addr} {len cap : Nat} {d : DataW H} {ps : List MemPlace} {ts : List TypeId} {ds : List (DataW H)} {j : Nat}
    (hsz : (DataW.weightsEach P ts ds).all (· ≤ reachBytes) = true) (hts : ts[j]? = some t) (hds : ds[j]? = some d) (ht : P.underlying t = some (.slice e)) (he : P.underlying e = some (.struct #[f0, f1]))
    (ce : P.cellsOf e = 2) (o0 : f0.offset = 0) (o1 : f1.offset = 1) (c0 : P.cellsOf f0.type = 1) (c1 : P.cellsOf f1.type = 1) (u0 : P.underlying f0.type = some (.int k0)) (u1 : P.underlying f1.type = some (.int k1))
    {B : Nat} (hB : P.bytesOf e = B) (h : DataW.Trod enc P W base spare held t (.slice a len cap) d ps) :
    ∃ zs : List (Int × Int), len = zs.length ∧ len ≤ cap ∧ len ≤ maxLen ∧ len * B ≤ 140737488351232 ∧ (∀ z ∈ zs, (Lit.int k0 z.1).wf = true ∧ (Lit.int k1 z.2).wf = true) ∧
      (0 < len → ∃ ad, a = some ad ∧ ∀ i z, zs[i]? = some z → W.cell? (ad.add (i * 2)) = some (.int k0 z.1) ∧ W.cell? (ad.add (i * 2 + 1)) = some (.int k1 z.2)) := by
  obtain ⟨fuel, hf⟩ := h
  rcases open_slice_pairs ht he ce o0 o1 c0 c1 hf with ⟨hcs, _⟩ | ⟨a', len', cap', m, n, V0, V1, D0, D1, P0, P1, hcs, hb, hl, hm, hmm, hx, hall⟩
  · simp [Value.cells] at hcs
    obtain ⟨rfl, rfl, rfl⟩ := hcs
    exact ⟨[], rfl, Nat.le_refl _, Nat.zero_le _, by simp, fun z hz => by simp at hz, fun h => absurd h (Nat.lt_irrefl 0)⟩
  · simp [Value.cells] at hcs
    obtain ⟨rfl, rfl, rfl⟩ := hcs
    have hlm : len ≤ m := by
      rw [hmm]
      split
      · exact hl
      · exact Nat.le_refl _
    have each : ∀ i, i < len → ∃ z : Int × Int, W.cell? (a'.add (i * 2)) = some (.int k0 z.1) ∧ W.cell? (a'.add (i * 2 + 1)) = some (.int k1 z.2) ∧ (Lit.int k0 z.1).wf = true ∧ (Lit.int k1 z.2).wf = true := by
      intro i hi
      obtain ⟨h0, h1, t0, t1⟩ := hall i (Nat.lt_of_lt_of_le hi hlm)
      obtain ⟨z0, e0, _, w0⟩ := DataW.trod_int u0 t0
      obtain ⟨z1, e1, _, w1⟩ := DataW.trod_int u1 t1
      injection e0 with e0
      injection e1 with e1
      rw [e0] at h0
      rw [e1] at h1
      exact ⟨(z0, z1), h0, h1, w0, w1⟩
    obtain ⟨q, hq⟩ := choose_lt each
    obtain ⟨hx, _⟩ := Prod.mk.inj hx
    subst hx
    have z := sized_slice hsz hts hds ht
    rw [hB] at z
    simp only [List.length_map, List.length_range] at z
    refine ⟨(List.range len).map q, by simp, hl, Nat.le_trans hl hm, Nat.le_trans (Nat.mul_le_mul_right _ (by omega)) z, ?_, fun _ => ⟨a', rfl, ?_⟩⟩
    · intro p hp
      obtain ⟨i, hi, rfl⟩ := List.mem_map.1 hp
      have := hq i (List.mem_range.1 hi)
      exact ⟨this.2.2.1, this.2.2.2⟩
    · intro i p hp
      rw [List.getElem?_map] at hp
      obtain ⟨i', hi', rfl⟩ := Option.map_eq_some_iff.1 hp
      have hlt := List.getElem?_eq_some_iff.1 hi'
      obtain ⟨hlt, hie⟩ := hlt
      rw [List.length_range] at hlt
      rw [List.getElem_range] at hie
      subst hie
      have := hq i hlt
      exact ⟨this.1, this.2.1⟩
end Go.Proofs.YtiahbcaoikoogabDoor
end
