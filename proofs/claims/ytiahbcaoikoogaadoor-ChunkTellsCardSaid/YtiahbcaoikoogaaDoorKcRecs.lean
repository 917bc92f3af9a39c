-- declarations that this claim needs, copied by a program of the session
import Derived.Test.YtiahbcaoikoogaaDoorKcPChunk
import Derived.Test.YtiahbcaoikoogaaDoorKcAllx55
import Derived.Deep.SlicePairs
import Derived.SizedLaws
section
namespace Go.Proofs.YtiahbcaoikoogaaDoor.PChunk
open Go Go.RowKit Go.Proofs.YtiahbcaoikoogaaDoor Go.Proofs.YtiahbcaoikoogaaDoor.All Go.Proofs.YtiahbcaoikoogaaDoorW.PrintWords Go.Proofs.YtiahbcaoikoogaaDoorW.PrintLast Go.Proofs.YtiahbcaoikoogaaDoor.PKinds Go.Proofs.YtiahbcaoikoogaaDoor.PRising
set_option linter.unusedVariables false
set_option linter.unusedSimpArgs false
theorem REncode_l0 (kind : Int) (l : List S59) (hl : ∀ x ∈ l, Rg x) (hn : l.length ≤ 65535) :
    ∀ (r i : Nat) (H : List Int) (n t d v e xp : Int) (xl xn : Nat), i + r = l.length → Bs.Bits H → H.length ≤ 1000 * i → Ok (i : Int) (n, t, d, v, e, xp, (xl : Int), (xn : Int)) →
      Ev (fun k => gaiterref09_Encode.l0 k kind l H (i : Int) n t d v e xp (xl : Int) (xn : Int)) (rres H (enc kind (l.drop i) (n, t, d, v, e, xp, (xl : Int), (xn : Int)))) := by
  intro r
  induction r with
  | zero =>
    intro i H n t d v e xp xl xn hi hH hHl hok
    have hnl : ¬ (i : Int) < (l.length : Int) := by omega
    have hj := PBits.Bytes_is H hH (by omega)
    rw [List.drop_of_length_le (by omega)]
    show Ev _ (rres H ([], 0))
    rw [rres_nil]
    exact Ev.step (fun k => by rw [gaiterref09_Encode.l0, if_neg hnl]) (Ev.bind hj (Ev.now _))
  | succ r ih =>
    intro i H n t d v e xp xl xn hi hH hHl hok
    have hil : i < l.length := by omega
    have hlt : (i : Int) < (l.length : Int) := by omega
    have hrd := rdT l i hil
    have hr := hl l[i] (List.getElem_mem hil)
    have hdrop : l.drop i = l[i] :: l.drop (i + 1) := List.drop_eq_getElem_cons hil
    rw [hdrop]
    generalize l[i] = x at hrd hr
    obtain ⟨xl', xn', el, en, hx⟩ := hok.w
    have hx : xl + xn ≤ 64 := by
      have e1 : (xl : Int) = (xl' : Int) := el
      have e2 : (xn : Int) = (xn' : Int) := en
      omega
    have hp := hok.p0
    have hn0 : 0 ≤ n := hok.n0
    have hn1 : n ≤ (i : Int) := hok.n1
    have g1 := RPut_is kind n t d v e xp xl xn x.f0 x.f1 hn0 hr.2 hp hx
    have kb := kp_bits kind n t d v e xp xl xn x.f0 x.f1
    have kl := kp_len kind n t d v e xp xl xn x.f0 x.f1 hr.2 hp hx
    have ko := kp_ok (i : Int) (by omega) kind n t d v e xp xl xn x.f0 x.f1 ⟨hn0, hn1⟩ hr.2 hp hx
    rw [enc_cons]
    generalize kp kind n t d v e xp xl xn x.f0 x.f1 = K at *
    obtain ⟨b, ⟨n', t', d', v', e', xp', al, an⟩, c⟩ := K
    have g1 : Ev (fun k => gaiterref01_PutSample.f k kind n t d v e xp (xl : Int) (xn : Int) x.f0 x.f1) (b, n', t', d', v', e', xp', al, an, c) := g1
    by_cases c0 : c = 0
    · have ko' := ko c0
      obtain ⟨yl, yn, e1, e2, hy⟩ := ko'.w
      have e1 : al = (yl : Int) := e1
      have e2 : an = (yn : Int) := e2
      subst e1 e2 c0
      have kl : b.length ≤ 1000 := kl
      have hok2 : Ok ((i + 1 : Nat) : Int) (n', t', d', v', e', xp', (yl : Int), (yn : Int)) := by
        rw [show ((i + 1 : Nat) : Int) = (i : Int) + 1 from by omega]
        exact ko'
      have hl1 : (H ++ b).length = H.length + b.length := List.length_append
      have h47 : H.length + b.length < 140737488355328 := by omega
      have ih1 := ih (i + 1) (H ++ b) n' t' d' v' e' xp' yl yn (by omega) (hH.append kb) (by rw [hl1]; omega) hok2
      have wi : wrap64 ((i : Int) + 1) = ((i + 1 : Nat) : Int) := by rw [PBits.w64 _ (by omega)]; omega
      rw [rres_cons H b (n', t', d', v', e', xp', (yl : Int), (yn : Int)) _ (enc kind (l.drop (i + 1)) (n', t', d', v', e', xp', (yl : Int), (yn : Int))) (if_pos rfl)]
      refine Ev.step (fun k => by rw [gaiterref09_Encode.l0, if_pos hlt, if_pos (Int.natCast_nonneg i), hrd, wi]) (Ev.bind g1 ?_)
      exact Ev.congr (fun k => by rw [if_pos rfl, if_pos h47]) ih1
    · have wi : wrap64 ((i : Int) + 1) = ((i + 1 : Nat) : Int) := by rw [PBits.w64 _ (by omega)]; omega
      have he : rres H (if c = 0 then (if (enc kind (l.drop (i + 1)) (n', t', d', v', e', xp', al, an)).2 = 0 then (b ++ (enc kind (l.drop (i + 1)) (n', t', d', v', e', xp', al, an)).1, 0) else ([], (enc kind (l.drop (i + 1)) (n', t', d', v', e', xp', al, an)).2)) else ([], c)) = ([], c) := by
        rw [if_neg c0]
        unfold rres
        rw [if_neg c0]
      show Ev _ (rres H (if c = 0 then (if (enc kind (l.drop (i + 1)) (n', t', d', v', e', xp', al, an)).2 = 0 then (b ++ (enc kind (l.drop (i + 1)) (n', t', d', v', e', xp', al, an)).1, 0) else ([], (enc kind (l.drop (i + 1)) (n', t', d', v', e', xp', al, an)).2)) else ([], c)))
      rw [he]
      refine Ev.step (fun k => by rw [gaiterref09_Encode.l0, if_pos hlt, if_pos (Int.natCast_nonneg i), hrd, wi]) (Ev.bind g1 ?_)
      exact Ev.congr (fun k => if_neg c0) (Ev.now _)
theorem REncode_is (kind : Int) (l : List S59) (hl : ∀ x ∈ l, Rg x) (h0 : 1 ≤ l.length) (hn : l.length ≤ 65535) : Ev (fun k => gaiterref09_Encode.f k kind l) (rres [] (enc kind l z8)) := by
  unfold gaiterref09_Encode.f
  have c1 : ¬ (l.length : Int) < 1 := by omega
  have c2 : ¬ (l.length : Int) > 65535 := by omega
  simp only [if_neg c1]
  rw [decide_eq_false c2]
  have h := REncode_l0 kind l hl hn l.length 0 [] 0 0 0 0 0 0 0 0 (by omega) Bs.Bits.nil (Nat.zero_le _) (ok_zero 0 (Int.le_refl _))
  rw [List.drop_zero] at h
  exact Ev.step (fun k => by rw [gaiterref09_Encode.j0, if_neg Bool.false_ne_true]; rfl) h
theorem REncode_no (kind : Int) : Ev (fun k => gaiterref09_Encode.f k kind []) ([], 1) := by
  unfold gaiterref09_Encode.f
  refine Ev.congr (fun k => if_pos (by decide)) ?_
  exact Ev.step (fun k => by rw [gaiterref09_Encode.j0, if_pos rfl]) (Ev.now _)
end Go.Proofs.YtiahbcaoikoogaaDoor.PChunk
end
section
namespace Go.Proofs.YtiahbcaoikoogaaDoor.Pure
open Go Go.RowKit Go.Proofs.YtiahbcaoikoogaaDoor Go.Proofs.YtiahbcaoikoogaaDoor.All Go.Proofs.YtiahbcaoikoogaaDoorW.PrintWords Go.Proofs.YtiahbcaoikoogaaDoorW.PrintLast Go.Proofs.YtiahbcaoikoogaaDoor.PRising
set_option linter.unusedVariables false
set_option linter.unusedSimpArgs false
theorem ChunkTells_up : Ev (fun k => gaiterlaw09_up.f k) true :=
  Ev.of gaiterlaw09_up.mono (k := 300) (by decide +kernel)
theorem chunk_no (c : Int) (h : c = 0 ∨ c = 1 ∨ c = 4 ∨ c = 6) : codeNo (if c = 0 then none else some c) = c := by
  rcases h with rfl | rfl | rfl | rfl <;> decide
theorem ChunkTells : gaiterlaw09_ChunkTells.Pure := by
  intro kind l _ _ _ h1
  have h1 : ∀ x ∈ l, Rg x := fun x h => ⟨Ib.wf_i64 (h1 x h).1, Ib.wf_u64 (h1 x h).2⟩
  refine Ev.rounds (g := fun k => gaiterlaw09_ChunkTells.f k kind l) ?_
  unfold gaiterlaw09_ChunkTells.f
  refine Ev.bind ChunkTells_up ?_
  by_cases c1 : (l.length : Int) > 100
  · exact Ev.congr (fun k => if_pos c1) (Ev.now _)
  have main : ∀ (B : List Int) (c : Int), (c = 0 ∨ c = 1 ∨ c = 4 ∨ c = 6) → Ev (fun k => chunk_Encode.f k kind l) (B, if c = 0 then none else some c) → Ev (fun k => gaiterref09_Encode.f k kind l) (B, c) →
      Ev (fun k => if (l.length : Int) > 100 then some true else ((chunk_Encode.f k kind l).bind fun bt1343 => ((gaiterref09_Encode.f k kind l).bind fun bt1347 => (if true = true then (if (strOfNums bt1343.1).toList = (strOfNums bt1347.1).toList then ((gaiterlaw00_Code.f bt1343.2).bind fun t1351 => (some (t1351 == bt1347.2))) else (none)) else (none))))) true := by
    intro B c hc g1 g2
    have hcode : gaiterlaw00_Code.f (if c = 0 then none else some c) = some c := by
      unfold gaiterlaw00_Code.f
      rw [chunk_no c hc]
    refine Ev.congr (fun k => if_neg c1) (Ev.bind g1 (Ev.bind g2 ?_))
    refine Ev.congr (fun k => ?_) (Ev.now true)
    show (if true = true then (if (strOfNums B).toList = (strOfNums B).toList then ((gaiterlaw00_Code.f (if c = 0 then none else some c)).bind fun t1351 => (some (t1351 == c))) else none) else none) = some true
    rw [if_pos rfl, if_pos rfl, hcode, Option.bind_some, beq_self_eq_true]
  by_cases c2 : l = []
  · subst c2
    exact main [] 1 (.inr (.inl rfl)) (PChunk.Encode_no kind) (PChunk.REncode_no kind)
  have h0 : 1 ≤ l.length := List.length_pos_iff.mpr c2
  have g1 := PChunk.Encode_is kind l h1 h0 (by omega)
  have g2 := PChunk.REncode_is kind l h1 h0 (by omega)
  have hc := PChunk.enc_code kind l PKinds.z8
  generalize PChunk.enc kind l PKinds.z8 = E at g1 g2 hc
  unfold PChunk.res at g1
  unfold PChunk.rres at g2
  by_cases c3 : E.2 = 0
  · rw [if_pos c3] at g1 g2
    exact main _ 0 (.inl rfl) g1 g2
  · rw [if_neg c3] at g1 g2
    refine main [] E.2 (hc.elim .inl (fun h => .inr (.inr h))) ?_ g2
    rw [if_neg c3]
    exact g1
end Go.Proofs.YtiahbcaoikoogaaDoor.Pure
end
section
namespace Go.Proofs.YtiahbcaoikoogaaDoor
open Go Go.ChangeShapes Go.WideShapes Go.Deep
set_option linter.unusedVariables false
set_option linter.unusedSimpArgs false
theorem recs2 {H : Type} {enc : TypeId × Value → H} {P : Program} {W : World} {base : Nat} {spare : Nat → Bool} {held : Bool} {t e : TypeId} {f0 f1 : Field} {k0 k1 : IntKind} {a : Option Addr} {len cap : Nat} {d : DataW H} {ps : List MemPlace} {ts : List TypeId} {ds : List (DataW H)} {j : Nat}
    (hsz : (DataW.weightsEach P ts ds).all (· ≤ reachBytes) = true) (hts : ts[j]? = some t) (hds : ds[j]? = some d) (ht : P.underlying t = some (.slice e)) (he : P.underlying e = some (.struct #[f0, f1]))
    (ce : P.cellsOf e = 2) (o0 : f0.offset = 0) (o1 : f1.offset = 1) (c0 : P.cellsOf f0.type = 1) (c1 : P.cellsOf f1.type = 1) (u0 : P.underlying f0.type = some (.int k0)) (u1 : P.underlying f1.type = some (.int k1))
    {B : Nat} (hB : P.bytesOf e = B) (h : DataW.Trod enc P W base spare held t (.slice a len cap) d ps) :
    ∃ zs : List (Int × Int), len = zs.length ∧ len ≤ cap ∧ len ≤ maxLen ∧ len * B ≤ 140737488351232 ∧ (∀ z ∈ zs, (Lit.int k0 z.1).wf = true ∧ (Lit.int k1 z.2).wf = true) ∧
      (0 < len → ∃ ad, a = some ad ∧ ∀ i z, zs[i]? = some z → W.cell? (ad.add (i * 2)) = some (.int k0 z.1) ∧ W.cell? (ad.add (i * 2 + 1)) = some (.int k1 z.2)) := by
  obtain ⟨fuel, hf⟩ := h
  rcases open_slice_pairs ht he ce o0 o1 c0 c1 hf with ⟨hcs, _⟩ | ⟨a', len', cap', m, n, V0, V1, D0, D1, P0, P1, hcs, hb, hl, hm, hmm, hx, hall⟩
  · simp [Value.cells] at hcs
    obtain ⟨rfl, rfl, rfl⟩ := hcs
    exact ⟨[], rfl, Nat.le_refl _, Nat.zero_le _, by simp, fun z hz => by simp at hz, fun h => absurd h (Nat.lt_irrefl 0)⟩
  · simp [Value.cells] at hcs
    obtain ⟨rfl, rfl, rfl⟩ := hcs
    have hlm : len ≤ m := by
      rw [hmm]
      split
      · exact hl
      · exact Nat.le_refl _
    have each : ∀ i, i < len → ∃ z : Int × Int, W.cell? (a'.add (i * 2)) = some (.int k0 z.1) ∧ W.cell? (a'.add (i * 2 + 1)) = some (.int k1 z.2) ∧ (Lit.int k0 z.1).wf = true ∧ (Lit.int k1 z.2).wf = true := by
      intro i hi
      obtain ⟨h0, h1, t0, t1⟩ := hall i (Nat.lt_of_lt_of_le hi hlm)
      obtain ⟨z0, e0, _, w0⟩ := DataW.trod_int u0 t0
      obtain ⟨z1, e1, _, w1⟩ := DataW.trod_int u1 t1
      injection e0 with e0
      injection e1 with e1
      rw [e0] at h0
      rw [e1] at h1
      exact ⟨(z0, z1), h0, h1, w0, w1⟩
    obtain ⟨q, hq⟩ := choose_lt each
    obtain ⟨hx, _⟩ := Prod.mk.inj hx
    subst hx
    have z := sized_slice hsz hts hds ht
    rw [hB] at z
    simp only [List.length_map, List.length_range] at z
    refine ⟨(List.range len).map q, by simp, hl, Nat.le_trans hl hm, Nat.le_trans (Nat.mul_le_mul_right _ (by omega)) z, ?_, fun _ => ⟨a', rfl, ?_⟩⟩
    · intro p hp
      obtain ⟨i, hi, rfl⟩ := List.mem_map.1 hp
      have := hq i (List.mem_range.1 hi)
      exact ⟨this.2.2.1, this.2.2.2⟩
    · intro i p hp
      rw [List.getElem?_map] at hp
      obtain ⟨i', hi', rfl⟩ := Option.map_eq_some_iff.1 hp
      have hlt := List.getElem?_eq_some_iff.1 hi'
      obtain ⟨hlt, hie⟩ := hlt
      rw [List.length_range] at hlt
      rw [List.getElem_range] at hie
      subst hie
      have := hq i hlt
      exact ⟨this.1, this.2.1⟩
end Go.Proofs.YtiahbcaoikoogaaDoor
end
