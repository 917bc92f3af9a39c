/- A constant string that is turned to bytes, '[]byte("..")', and an append behind it: the literal's row bears a mark behind its last cell, and an append, for which it has no room, copies it into a new row that the call owns. -/
import Derived.Test.YtiahbcaoikoogaaM0
import Derived.Lib.SlBytesConst
set_option linter.unusedVariables false
set_option linter.unusedSimpArgs false
set_option linter.unusedSectionVars false
namespace Go.Proofs.Ytiahbcaoikoogaa
open Go.RowKit Go.Proofs.YtiahbcaoikoogaaW.PrintWords Go.Proofs.YtiahbcaoikoogaaW.PrintLast Go.Proofs.YtiahbcaoikoogaaW.PrintMore
section
variable {P : Program} {ops : Array Oper} {rest : List Oper} {o o2 : Oper} {a : Act} {Q : Exit → Act → World → Prop}

theorem lit_marked {w0 W : World} (base e : Nat) (hgd : o.guard = none) (hgd2 : o2.guard = none) {N N2 : Tmp} (_hd : o.dst = some N) (_hd2 : o2.dst = some N2) {cs : Array Value} {n : Nat}
    (hn : n = cs.size)
    (hrun : (execOp a.eval o).run P W = .ok (.value (.slice (some ⟨W.heap.size, 0, none⟩) n n)) (W.alloc (.cells cs e)))
    (t : TypeId) (s2 : Operand) (ht : P.underlying t = some (.slice e)) (he : P.underlying e = some (.int .u8)) (hop2 : o2.op = .convert t t s2) (hev : ∀ u : Value, (a.put o.dst u).eval s2 = u)
    (HB : Below base w0 W) (hbase : base ≤ W.heap.size)
    (h : ∀ g w1, W.heap.size ≤ g → g < w1.heap.size → (∀ (j : Nat) (u : Value), cs.toList[j]? = some u → w1.cell? ⟨g, j, none⟩ = some u) → Below base w0 w1 → W.grownBy w1 none →
      wpList P ops Q rest ((a.put o.dst (.slice (some ⟨g, 0, none⟩) n n)).put o2.dst (.slice (some ⟨g, 0, none⟩) n n)) w1) :
    wpList P ops Q (o :: o2 :: rest) a W := by
  have hrun2 : (execOp (a.put o.dst (.slice (some ⟨W.heap.size, 0, none⟩) n n)).eval o2).run P (W.alloc (.cells cs e)) = .ok (.value (.slice (some ⟨W.heap.size, 0, none⟩) n n)) (W.alloc (.cells cs e (cs.size, cs.size + 1))) := by
    have hk := Lib.run_convert_bytes_const (P := P) W t e cs n n ht he
    simp only [execOp, hop2, hev]
    simp [hk]
  refine Kd.event_run hgd hrun (Kd.event_run hgd2 hrun2 (h _ _ (Nat.le_refl _) ?_ ?_ (HB.alloc hbase _) (World.grownBy_alloc W _ none)))
  · simp [World.alloc_eq]
  · intro j u hu
    rw [cell_of_row (W.alloc (.cells cs e (cs.size, cs.size + 1))) W.heap.size j cs e (cs.size, cs.size + 1) (heap_alloc_new W _)]
    simpa using hu

theorem append_marked {w0 W : World} (base : Nat) (hgd : o.guard = none) (s x : Operand) (t e : TypeId) (k : IntKind) (bytes : Nat)
    (ho : o.op = .call { callee := .builtin .append, args := #[s, x], argTypes := #[t, t] })
    (ht : P.underlying t = some (.slice e)) (hinfo : (P.info? e).map (fun i => (i.zero, i.size, i.bytes)) = some (some (.int k 0), 1, bytes)) (hb0 : 0 < bytes)
    (g n : Nat) (xs : List Int) (p : Int) (ok : Nat → Prop) (hs : a.eval s = .slice (some ⟨g, 0, none⟩) n n) (hx : a.eval x = .slice (some ⟨W.heap.size, 0, none⟩) 1 1)
    (hn : n = xs.length) (hc : ∀ (j : Nat) (u : Value), (nums k xs)[j]? = some u → W.cell? ⟨g, j, none⟩ = some u) (hfresh : ∀ q, W.heap.size ≤ q → ok q)
    (HB : Below base w0 W) (hbase : base ≤ W.heap.size) (hl : (xs.length + 1) * bytes ≤ 140737488355328)
    (h : ∀ v1 w1, Kd.R (Kd.int k) e w1 base ok v1 (xs ++ [p]) → Below base w0 w1 → W.grownBy w1 none → (∃ b, v1.ownBlock = some b ∧ W.heap.size ≤ b) → wpList P ops Q rest (a.put o.dst v1) w1) :
    wpList P ops Q (o :: rest) a (W.alloc (.cells #[.int k p] e)) := by
  obtain ⟨i0, hi, hzz⟩ := Option.map_eq_some_iff.1 hinfo
  simp only [Prod.mk.injEq] at hzz
  obtain ⟨hz0, hz1, hz2⟩ := hzz
  have hlen : xs.length + 1 ≤ 140737488355328 := Nat.le_trans (Nat.le_mul_of_pos_right _ hb0) hl
  subst hn
  have hcc : ∀ b, (some ⟨g, 0, none⟩ : Option Addr) = some b → ∀ j u, (nums k xs)[j]? = some u → (W.alloc (.cells #[.int k p] e)).cell? (b.add j) = some u := by
    intro b hb j u hu
    cases hb
    have h1 := hc j u hu
    have h2 : (⟨g, 0, none⟩ : Addr).add j = ⟨g, j, none⟩ := add_plain g j
    rw [h2]
    have hlt : g < W.heap.size := World.block_lt_of_cell? W _ h1
    rw [← h1]
    exact World.cell?_of_block (a := ⟨g, j, none⟩) (by show (W.heap.push _)[g]? = W.heap[g]?; rw [Array.getElem?_push, if_neg (Nat.ne_of_lt hlt)])
  refine wpList_append_grows (W.alloc (.cells #[.int k p] e)) hgd s x t ho e i0 (.int k 0) 1 bytes ht hi hz0 hz1 hz2 rfl (by omega) (some ⟨g, 0, none⟩) xs.length xs.length (nums k xs) hs (by simp) (by simp [nums]) hcc
    ⟨W.heap.size, 0, none⟩ 1 1 [.int k p] hx rfl (World.news_of_block (cs := #[.int k p]) (t := e) (fr := (0, 0)) (heap_alloc_new W _)) (by simp [Value.oneCell']) (by omega) (by simp only [maxLen]; omega) hl ?_
  intro v1 w1 hown hg
  have hown' : w1.ownsRow base e 1 v1 (xs ++ [p]).length (nums k (xs ++ [p])) := by
    have h3 := own_weaken hown (base' := base) (by show _ ≤ (W.heap.push _).size; rw [Array.size_push]; omega)
    simpa [nums] using h3
  have hge : ∀ q, v1.ownBlock = some q → W.heap.size ≤ q := by
    intro q hq
    have h4 : (W.heap.push (.cells #[.int k p] e)).size ≤ q := own_base hown q hq
    rw [Array.size_push] at h4
    omega
  have hsome : ∃ b, v1.ownBlock = some b := by
    rcases hown.2 with ⟨_, h0⟩ | ⟨b, cap, cur, rfl, _⟩
    · omega
    · exact ⟨b, rfl⟩
  obtain ⟨b, hb⟩ := hsome
  exact h v1 w1 (Kd.R_of_own hown' (fun q hq => hfresh q (hge q hq))) ((HB.alloc hbase _).grown hg (by show _ ≤ (W.heap.push _).size; rw [Array.size_push]; omega) (by simp)) (World.grownBy.trans (World.grownBy_alloc W _ _) hg) ⟨b, hb, hge b hb⟩
end
end Go.Proofs.Ytiahbcaoikoogaa
