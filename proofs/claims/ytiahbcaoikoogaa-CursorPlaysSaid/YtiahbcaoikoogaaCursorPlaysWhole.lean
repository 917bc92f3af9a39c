-- written by this session; parts joined by a program of the session
import Derived.Laws.Entries
import Derived.RowKit
import Derived.Test.YtiahbcaoikoogaaAllx8
import Derived.Test.YtiahbcaoikoogaaM0
import Derived.Deep.SlicePairs
import Derived.SizedLaws
set_option linter.unusedVariables false
set_option linter.unusedSimpArgs false
set_option linter.unusedSectionVars false
namespace Ib
open Go
theorem wrap_u64 (n : Int) : IntKind.u64.wrap n = n % 18446744073709551616 := by simp [IntKind.wrap, IntKind.bits, IntKind.signed]
theorem wrap_u32 (n : Int) : IntKind.u32.wrap n = n % 4294967296 := by simp [IntKind.wrap, IntKind.bits, IntKind.signed]
theorem wrap_u8 (n : Int) : IntKind.u8.wrap n = n % 256 := by simp [IntKind.wrap, IntKind.bits, IntKind.signed]
theorem wrap_i64 (n : Int) : IntKind.i64.wrap n = (n + 9223372036854775808) % 18446744073709551616 - 9223372036854775808 := by
  simp [IntKind.wrap, IntKind.bits, IntKind.signed]
  split <;> omega
theorem wf_i64 {a : Int} (h : (Lit.int .i64 a).wf = true) : -9223372036854775808 ≤ a ∧ a < 9223372036854775808 := by
  simp [Lit.wf, IntKind.min, IntKind.max, IntKind.bits, IntKind.signed] at h; omega
theorem wf_u64 {a : Int} (h : (Lit.int .u64 a).wf = true) : 0 ≤ a ∧ a < 18446744073709551616 := by
  simp [Lit.wf, IntKind.min, IntKind.max, IntKind.bits, IntKind.signed] at h; omega
theorem wf_u8 {a : Int} (h : (Lit.int .u8 a).wf = true) : 0 ≤ a ∧ a < 256 := by
  simp [Lit.wf, IntKind.min, IntKind.max, IntKind.bits, IntKind.signed] at h; omega
theorem wf_u32 {a : Int} (h : (Lit.int .u32 a).wf = true) : 0 ≤ a ∧ a < 4294967296 := by
  simp [Lit.wf, IntKind.min, IntKind.max, IntKind.bits, IntKind.signed] at h; omega
theorem ofInt_toNat (w : Nat) (x : Int) (h0 : 0 ≤ x) (h : x < 2 ^ w) : (BitVec.ofInt w x).toNat = x.toNat := by
  rw [BitVec.toNat_ofInt]
  congr 1
  exact Int.emod_eq_of_lt h0 (by exact_mod_cast h)
theorem xor_u64 (x y : Int) (hx : 0 ≤ x ∧ x < 18446744073709551616) (hy : 0 ≤ y ∧ y < 18446744073709551616) : bits .xor .u64 x y = ((x.toNat ^^^ y.toNat : Nat) : Int) := by
  simp only [bits, wrap_u64]
  rw [show IntKind.u64.bits = 64 from rfl, BitVec.toNat_xor, ofInt_toNat 64 x hx.1 hx.2, ofInt_toNat 64 y hy.1 hy.2]
  have : x.toNat ^^^ y.toNat < 2 ^ 64 := Nat.xor_lt_two_pow (by omega) (by omega)
  omega
theorem xor_u64_ones (x : Int) (hx : 0 ≤ x ∧ x < 18446744073709551616) : bits .xor .u64 x 18446744073709551615 = 18446744073709551615 - x := by
  simp only [bits, wrap_u64]
  rw [show IntKind.u64.bits = 64 from rfl, show BitVec.ofInt 64 18446744073709551615 = BitVec.allOnes 64 from by decide, BitVec.xor_allOnes, BitVec.toNat_not, ofInt_toNat 64 x hx.1 hx.2]
  omega
theorem xor_u64_zero (x : Int) (hx : 0 ≤ x ∧ x < 18446744073709551616) : bits .xor .u64 x 0 = x := by
  rw [xor_u64 x 0 hx (by omega)]; simp; omega
theorem xor_i64_ones (x : Int) (hx : -9223372036854775808 ≤ x ∧ x < 9223372036854775808) : bits .xor .i64 x (-1) = -1 - x := by
  simp only [bits, wrap_i64]
  rw [show IntKind.i64.bits = 64 from rfl, show BitVec.ofInt 64 (-1) = BitVec.allOnes 64 from by decide, BitVec.xor_allOnes, BitVec.toNat_not, BitVec.toNat_ofInt]
  omega
theorem xor_i64_zero (x : Int) (hx : -9223372036854775808 ≤ x ∧ x < 9223372036854775808) : bits .xor .i64 x 0 = x := by
  simp only [bits, wrap_i64]
  rw [show IntKind.i64.bits = 64 from rfl, show BitVec.ofInt 64 0 = 0#64 from by decide, BitVec.xor_zero, BitVec.toNat_ofInt]
  omega
theorem and_u64 (x y : Int) (hx : 0 ≤ x ∧ x < 18446744073709551616) (hy : 0 ≤ y ∧ y < 18446744073709551616) : bits .and .u64 x y = ((x.toNat &&& y.toNat : Nat) : Int) := by
  simp only [bits, wrap_u64]
  rw [show IntKind.u64.bits = 64 from rfl, BitVec.toNat_and, ofInt_toNat 64 x hx.1 hx.2, ofInt_toNat 64 y hy.1 hy.2]
  have : x.toNat &&& y.toNat ≤ x.toNat := Nat.and_le_left
  omega
theorem and_u64_one (x : Int) (hx : 0 ≤ x ∧ x < 18446744073709551616) : bits .and .u64 x 1 = x % 2 := by
  rw [and_u64 x 1 hx (by omega)]
  rw [show (1 : Int).toNat = 2 ^ 1 - 1 from rfl, Nat.and_two_pow_sub_one_eq_mod]; omega
theorem or_u64 (x y : Int) (hx : 0 ≤ x ∧ x < 18446744073709551616) (hy : 0 ≤ y ∧ y < 18446744073709551616) : bits .or .u64 x y = ((x.toNat ||| y.toNat : Nat) : Int) := by
  simp only [bits, wrap_u64]
  rw [show IntKind.u64.bits = 64 from rfl, BitVec.toNat_or, ofInt_toNat 64 x hx.1 hx.2, ofInt_toNat 64 y hy.1 hy.2]
  have : x.toNat ||| y.toNat < 2 ^ 64 := Nat.or_lt_two_pow (by omega) (by omega)
  omega
end Ib
namespace Go.Proofs.Ytiahbcaoikoogaa.Pure
open Go Go.RowKit Go.Proofs.Ytiahbcaoikoogaa Go.Proofs.Ytiahbcaoikoogaa.All Go.Proofs.YtiahbcaoikoogaaW.PrintWords Go.Proofs.YtiahbcaoikoogaaW.PrintLast Go.Proofs.YtiahbcaoikoogaaW.PrintMore
theorem w64 (n : Int) (h : -9223372036854775808 ≤ n ∧ n < 9223372036854775808) : wrap64 n = n := by unfold wrap64; omega
theorem Rising_l0 (l : List S75) (hl : l.length ≤ 100) : ∀ (d i : Nat) (T : List S75), i + d = l.length → T.length ≤ i →
    ∃ T', Ev (fun k => gaiterlaw00_Rising.l0 k l T (i : Int)) T' ∧ T'.length ≤ 100 := by
  intro d
  induction d with
  | zero =>
    intro i T hi hT
    have hno : ¬ ((i : Int) < (l.length : Int)) := by omega
    refine ⟨T, ?_, by omega⟩
    exact Ev.step (fun k => by rw [gaiterlaw00_Rising.l0, if_neg hno]) (Ev.now _)
  | succ d ih =>
    intro i T hi hT
    have hin : (i : Int) < (l.length : Int) := by omega
    have h0 : (0 : Int) ≤ (i : Int) := Int.natCast_nonneg _
    have hlim : T.length < 8796093022208 := by omega
    obtain ⟨T1, hE1, hl1⟩ := ih (i + 1) (T ++ [(⟨(rd_T75 l (i : Int)).f0, (rd_T75 l (i : Int)).f1⟩ : S75)]) (by omega) (by rw [List.length_append, List.length_singleton]; omega)
    obtain ⟨T2, hE2, hl2⟩ := ih (i + 1) T (by omega) (by omega)
    have hw : wrap64 ((i : Int) + 1) = ((i + 1 : Nat) : Int) := by rw [w64 _ (by omega)]; omega
    by_cases c0 : (T.length : Int) = 0
    · refine ⟨T1, ?_, hl1⟩
      refine Ev.step (fun k => by rw [gaiterlaw00_Rising.l0, if_pos hin, if_pos c0, if_pos h0, if_pos hlim, hw]) ?_
      exact hE1
    · have g1 : ((T.length - 1 : Nat) : Int) < (T.length : Int) := by omega
      have e1 : wrap64 ((T.length : Int) - 1) = ((T.length - 1 : Nat) : Int) := by rw [w64 _ (by omega)]; omega
      have g0 : (0 : Int) ≤ ((T.length - 1 : Nat) : Int) := Int.natCast_nonneg _
      by_cases c1 : (rd_T75 l (i : Int)).f0 > (rd_T75 T ((T.length - 1 : Nat) : Int)).f0
      · refine ⟨T1, ?_, hl1⟩
        refine Ev.step (fun k => by rw [gaiterlaw00_Rising.l0, if_pos hin, if_neg c0, if_pos h0, e1, if_pos g0, if_pos g1, if_pos c1, if_pos hlim, hw]) ?_
        exact hE1
      · refine ⟨T2, ?_, hl2⟩
        refine Ev.step (fun k => by rw [gaiterlaw00_Rising.l0, if_pos hin, if_neg c0, if_pos h0, e1, if_pos g0, if_pos g1, if_neg c1, hw]) ?_
        exact hE2
theorem seek_l0 (T : List S75) (hT : T.length ≤ 100) (t : Int) (e : Option Int) (no : Int) (at_ : Int) (hat : -1 ≤ at_ ∧ at_ < (T.length : Int)) : ∀ (d i : Nat), i + d = T.length →
    ∃ b a dn, Ev (fun k => cursor_Seek.l0 k t (i : Int) T e at_ false) (T, e, a, dn, b) ∧ Ev (fun k => gaiterref09_Cursor_SeekTo.l0 k t (i : Int) T no at_ false) (b, no, a, dn) ∧ -1 ≤ a ∧ a < (T.length : Int) := by
  intro d
  induction d with
  | zero =>
    intro i hi
    have hno : ¬ (i : Int) < (T.length : Int) := by omega
    have hge : (i : Int) ≥ (T.length : Int) := by omega
    refine ⟨false, at_, true, ?_, ?_, hat⟩
    · exact Ev.step (fun k => by rw [cursor_Seek.l0, if_neg hno]) (Ev.now _)
    · exact Ev.step (fun k => by rw [gaiterref09_Cursor_SeekTo.l0, if_neg hno, if_pos hge]) (Ev.now _)
  | succ d ih =>
    intro i hi
    have hlt : (i : Int) < (T.length : Int) := by omega
    have hng : ¬ (i : Int) ≥ (T.length : Int) := by omega
    have h0 : (0 : Int) ≤ (i : Int) := Int.natCast_nonneg _
    by_cases c : (rd_T75 T (i : Int)).f0 ≥ t
    · have c' : ¬ (rd_T75 T (i : Int)).f0 < t := by omega
      refine ⟨true, (i : Int), false, ?_, ?_, by omega, hlt⟩
      · exact Ev.step (fun k => by rw [cursor_Seek.l0, if_pos hlt, if_pos h0, if_pos c]) (Ev.now _)
      · exact Ev.step (fun k => by rw [gaiterref09_Cursor_SeekTo.l0, if_pos hlt, if_pos h0, if_neg c', if_neg hng]) (Ev.now _)
    · have c' : (rd_T75 T (i : Int)).f0 < t := by omega
      obtain ⟨b, a, dn, h1, h2, h3⟩ := ih (i + 1) (by omega)
      have hw : wrap64 ((i : Int) + 1) = ((i + 1 : Nat) : Int) := by rw [w64 _ (by omega)]; omega
      refine ⟨b, a, dn, ?_, ?_, h3⟩
      · exact Ev.step (fun k => by rw [cursor_Seek.l0, if_pos hlt, if_pos h0, if_neg c, hw]) h1
      · exact Ev.step (fun k => by rw [gaiterref09_Cursor_SeekTo.l0, if_pos hlt, if_pos h0, if_pos c', hw]) h2
theorem seek_is (T : List S75) (hT : T.length ≤ 100) (t : Int) (e : Option Int) (no : Int) (at_ : Int) (hat : at_ = -1 ∨ (0 ≤ at_ ∧ at_ < (T.length : Int))) (dn0 : Bool) :
    ∃ b a dn, Ev (fun k => cursor_Seek.f k T e at_ dn0 t) (T, e, a, dn, b) ∧ Ev (fun k => gaiterref09_Cursor_SeekTo.f k T no at_ dn0 t) (b, no, a, dn) ∧ (a = -1 ∨ (0 ≤ a ∧ a < (T.length : Int))) := by
  unfold cursor_Seek.f gaiterref09_Cursor_SeekTo.f
  cases dn0 with
  | true => exact ⟨false, at_, true, by simp only [if_true]; exact Ev.now _, by simp only [if_true]; exact Ev.now _, hat⟩
  | false =>
    obtain ⟨i, hi, hl⟩ : ∃ i : Nat, mx at_ 0 = (i : Int) ∧ i ≤ T.length := by
      refine ⟨at_.toNat, ?_, by omega⟩
      unfold mx; split <;> omega
    by_cases hz : T.length = 0
    · have hno : ¬ ((0 : Nat) : Int) < (T.length : Int) := by omega
      have hge : ((0 : Nat) : Int) ≥ (T.length : Int) := by omega
      obtain rfl : i = 0 := by omega
      refine ⟨false, at_, true, ?_, ?_, hat⟩
      · simp only [Bool.false_eq_true, if_false, hi]
        exact Ev.step (fun k => by rw [cursor_Seek.l0, if_neg hno]) (Ev.now _)
      · simp only [Bool.false_eq_true, if_false, hi]
        exact Ev.step (fun k => by rw [gaiterref09_Cursor_SeekTo.l0, if_neg hno, if_pos hge]) (Ev.now _)
    · obtain ⟨b, a, dn, h1, h2, h3, h4⟩ := seek_l0 T hT t e no at_ (by omega) (T.length - i) i (by omega)
      exact ⟨b, a, dn, by simp only [Bool.false_eq_true, if_false, hi]; exact h1, by simp only [Bool.false_eq_true, if_false, hi]; exact h2, by omega⟩
theorem next_is (T : List S75) (hT : T.length ≤ 100) (e : Option Int) (no : Int) (at_ : Int) (hat : at_ = -1 ∨ (0 ≤ at_ ∧ at_ < (T.length : Int))) (dn0 : Bool) :
    ∃ b a dn, cursor_Next.f T e at_ dn0 = some (T, e, a, dn, b) ∧ gaiterref09_Cursor_Next.f T no at_ dn0 = some (b, no, a, dn) ∧ (a = -1 ∨ (0 ≤ a ∧ a < (T.length : Int))) := by
  unfold cursor_Next.f gaiterref09_Cursor_Next.f
  cases dn0 with
  | true => exact ⟨false, at_, true, rfl, rfl, hat⟩
  | false =>
    have hw : wrap64 (at_ + 1) = at_ + 1 := w64 _ (by omega)
    rw [hw]
    by_cases c : at_ + 1 ≥ (T.length : Int)
    · exact ⟨false, at_, true, by rw [if_neg (by decide), if_pos c], by rw [if_neg (by decide), if_pos c], hat⟩
    · exact ⟨true, at_ + 1, false, by rw [if_neg (by decide), if_neg c], by rw [if_neg (by decide), if_neg c], by omega⟩
theorem look_is (T : List S75) (e : Option Int) (no : Int) (at_ : Int) (hat : at_ = -1 ∨ (0 ≤ at_ ∧ at_ < (T.length : Int))) (dn : Bool) :
    ∃ u v, cursor_Look.f T e at_ dn = some (u, v) ∧ gaiterref09_Cursor_Look.f T no at_ dn = some (u, v, no, at_, dn) := by
  unfold cursor_Look.f gaiterref09_Cursor_Look.f
  cases dn with
  | true => exact ⟨0, 0, rfl, rfl⟩
  | false =>
    by_cases c : at_ < 0
    · exact ⟨0, 0, by rw [if_neg (by decide), if_pos c], by rw [if_neg (by decide), if_pos c]⟩
    · have h0 : 0 ≤ at_ := by omega
      have h1 : at_ < (T.length : Int) := by omega
      have h2 : ¬ at_ ≥ (T.length : Int) := by omega
      exact ⟨_, _, by rw [if_neg (by decide), if_neg c, if_neg h2, if_pos h0, if_pos h1], by rw [if_neg (by decide), if_neg c, if_pos h0, if_pos h1]⟩
def erN (no : Int) : Option Int := if no > 0 then some no else none
theorem err_is (T : List S75) (no : Int) (hn : 0 ≤ no ∧ no ≤ 9) (at_ : Int) (dn : Bool) :
    ∃ x c, cursor_Err.f T (erN no) at_ dn = some x ∧ gaiterlaw00_Code.f x = some c ∧ gaiterref09_Cursor_Err.f T no at_ dn = some (c, no, at_, dn) := by
  unfold cursor_Err.f gaiterref09_Cursor_Err.f
  cases dn with
  | false => exact ⟨none, 0, rfl, rfl, rfl⟩
  | true =>
    refine ⟨erN no, no, rfl, ?_, rfl⟩
    unfold erN
    by_cases c : no > 0
    · rw [if_pos c]
      show some (if 1 ≤ no ∧ no ≤ 9 then no else -1) = some no
      rw [if_pos (by omega)]
    · rw [if_neg c]
      show some (0 : Int) = some no
      rw [show no = 0 from by omega]
theorem pick_is (a : Int) (b : Int) (hb : 0 < b ∧ b < 1000) : ∃ t, gaiterlaw00_Pick.f a b = some t ∧ 0 ≤ t ∧ t < b := by
  have hr : -b < Int.tmod a b ∧ Int.tmod a b < b := by
    by_cases h : 0 ≤ a
    · rw [Int.tmod_eq_emod_of_nonneg h]
      have h1 := Int.emod_nonneg a (show b ≠ 0 by omega)
      have h2 := Int.emod_lt_of_pos a hb.1
      omega
    · have e : Int.tmod a b = -(Int.tmod (-a) b) := by rw [Int.neg_tmod, Int.neg_neg]
      rw [e, Int.tmod_eq_emod_of_nonneg (show 0 ≤ -a by omega)]
      have h1 := Int.emod_nonneg (-a) (show b ≠ 0 by omega)
      have h2 := Int.emod_lt_of_pos (-a) hb.1
      omega
  unfold gaiterlaw00_Pick.f
  rw [if_neg (by omega)]
  generalize Int.tmod a b = q at hr
  by_cases h : q < 0
  · rw [if_pos h]
    exact ⟨_, rfl, by rw [w64 _ (by omega)]; omega, by rw [w64 _ (by omega)]; omega⟩
  · rw [if_neg h]
    exact ⟨_, rfl, by omega, by omega⟩
theorem plays_j3 (T : List S75) (hT : T.length ≤ 100) (no : Int) (hn : 0 ≤ no ∧ no ≤ 9) (l2 : List S36) (x13 : Int) (b : Bool) (a : Int) (ha : a = -1 ∨ (0 ≤ a ∧ a < (T.length : Int))) (dn : Bool) (r : Bool)
    (hr : Ev (fun k => gaiterlaw17_CursorPlays.l0 k l2 true (wrap64 (x13 + 1)) T (erN no) a dn T no a dn) r) :
    Ev (fun k => gaiterlaw17_CursorPlays.j3 k l2 true x13 b b T (erN no) a dn T no a dn) r := by
  obtain ⟨u, v, h1, h2⟩ := look_is T (erN no) no a ha dn
  obtain ⟨x, c, h3, h4, h5⟩ := err_is T no hn a dn
  have hb : ¬ (b != b) = true := by simp
  have hd : ¬ (dn != dn) = true := by simp
  refine Ev.step (fun k => by rw [gaiterlaw17_CursorPlays.j3, h1, Option.bind_some, h2, Option.bind_some, if_neg hb, if_pos rfl, if_pos rfl, h3, Option.bind_some, h4, Option.bind_some, h5, Option.bind_some, if_pos rfl, if_pos rfl, if_neg hd]) ?_
  exact hr
theorem plays_l0 (T : List S75) (hT : T.length ≤ 100) (no : Int) (hn : 0 ≤ no ∧ no ≤ 9) (l2 : List S36) (hl : l2.length ≤ 100) : ∀ (d i : Nat) (a : Int) (dn : Bool), i + d = l2.length → (a = -1 ∨ (0 ≤ a ∧ a < (T.length : Int))) →
    Ev (fun k => gaiterlaw17_CursorPlays.l0 k l2 true (i : Int) T (erN no) a dn T no a dn) true := by
  intro d
  induction d with
  | zero =>
    intro i a dn hi ha
    exact Ev.step (fun k => by rw [gaiterlaw17_CursorPlays.l0, if_neg (show ¬ (i : Int) < (l2.length : Int) by omega)]) (Ev.now _)
  | succ d ih =>
    intro i a dn hi ha
    have hlt : (i : Int) < (l2.length : Int) := by omega
    have h0 : (0 : Int) ≤ (i : Int) := Int.natCast_nonneg _
    obtain ⟨t, ht, _, _⟩ := pick_is (rd_T36 l2 (i : Int)).f0 3 (by decide)
    have hw : wrap64 ((i : Int) + 1) = ((i + 1 : Nat) : Int) := by rw [w64 _ (by omega)]; omega
    by_cases c : t = 2
    · obtain ⟨b, a', dn', h1, h2, h3⟩ := seek_is T hT (rd_T36 l2 (i : Int)).f1 (erN no) no a ha dn
      refine Ev.step (fun k => by rw [gaiterlaw17_CursorPlays.l0, if_pos hlt, if_pos h0, ht, Option.bind_some, if_pos c]) ?_
      refine Ev.bind h1 (Ev.bind h2 ?_)
      refine plays_j3 T hT no hn l2 (i : Int) b a' h3 dn' true ?_
      rw [hw]
      exact ih (i + 1) a' dn' (by omega) h3
    · obtain ⟨b, a', dn', h1, h2, h3⟩ := next_is T hT (erN no) no a ha dn
      refine Ev.step (fun k => by rw [gaiterlaw17_CursorPlays.l0, if_pos hlt, if_pos h0, ht, Option.bind_some, if_neg c, h1, Option.bind_some, h2, Option.bind_some]) ?_
      refine plays_j3 T hT no hn l2 (i : Int) b a' h3 dn' true ?_
      rw [hw]
      exact ih (i + 1) a' dn' (by omega) h3
theorem CursorPlays : gaiterlaw17_CursorPlays.Pure := by
  intro l bad l2 _ _ _ _ _ _ _
  refine Ev.rounds (g := fun k => gaiterlaw17_CursorPlays.f k l bad l2) ?_
  have hup : Ev (fun k => gaiterlaw17_up.f k) true := Ev.of gaiterlaw17_up.mono (k := 40) (by decide +kernel)
  have hstop : Ev (fun k => gaiterlaw17_CursorPlays.j0 k l bad l2 true true) true := Ev.step (fun k => by rw [gaiterlaw17_CursorPlays.j0, if_pos rfl]) (Ev.now _)
  unfold gaiterlaw17_CursorPlays.f
  refine Ev.bind hup ?_
  by_cases c1 : (l.length : Int) > 100
  · simp only [if_pos c1]; exact hstop
  by_cases c2 : (l2.length : Int) > 100
  · simp only [if_neg c1, decide_eq_true c2]; exact hstop
  simp only [if_neg c1, decide_eq_false c2]
  obtain ⟨T, hT, hTl⟩ := Rising_l0 l (by omega) l.length 0 [] (by omega) (by simp)
  obtain ⟨no, hno, n0, n1⟩ := pick_is bad 10 (by decide)
  have hT' : Ev (fun k => gaiterlaw00_Rising.f k l) T := hT
  have hloop := plays_l0 T hTl no ⟨n0, by omega⟩ l2 (by omega) l2.length 0 (-1) false (by omega) (.inl rfl)
  have hj1 : Ev (fun k => gaiterlaw17_CursorPlays.j1 k l2 true T (erN no) no) true := by
    refine Ev.step (fun k => by rw [gaiterlaw17_CursorPlays.j1, cursor_New.f, Option.bind_some, gaiterref09_New.f, Option.bind_some]) ?_
    exact hloop
  refine Ev.step (fun k => by rw [gaiterlaw17_CursorPlays.j0, if_neg (show ¬ false = true by decide)]) ?_
  refine Ev.bind hT' ?_
  simp only [hno, Option.bind_some]
  unfold erN at hj1
  by_cases c : no > 0
  · simp only [if_pos c] at hj1 ⊢; exact hj1
  · simp only [if_neg c] at hj1 ⊢; exact hj1
end Go.Proofs.Ytiahbcaoikoogaa.Pure
namespace Go.Proofs.Ytiahbcaoikoogaa
open Go Go.ChangeShapes Go.WideShapes Go.Deep
theorem recs2 {H : Type} {enc : TypeId × Value → H} {P : Program} {W : World} {base : Nat} {spare : Nat → Bool} {held : Bool} {t e : TypeId} {f0 f1 : Field} {k0 k1 : IntKind} {a : Option Addr} {len cap : Nat} {d : DataW H} {ps : List MemPlace} {ts : List TypeId} {ds : List (DataW H)} {j : Nat}
    (hsz : (DataW.weightsEach P ts ds).all (· ≤ reachBytes) = true) (hts : ts[j]? = some t) (hds : ds[j]? = some d) (ht : P.underlying t = some (.slice e)) (he : P.underlying e = some (.struct #[f0, f1]))
    (ce : P.cellsOf e = 2) (o0 : f0.offset = 0) (o1 : f1.offset = 1) (c0 : P.cellsOf f0.type = 1) (c1 : P.cellsOf f1.type = 1) (u0 : P.underlying f0.type = some (.int k0)) (u1 : P.underlying f1.type = some (.int k1))
    {B : Nat} (hB : P.bytesOf e = B) (h : DataW.Trod enc P W base spare held t (.slice a len cap) d ps) :
    ∃ zs : List (Int × Int), len = zs.length ∧ len ≤ cap ∧ len ≤ maxLen ∧ len * B ≤ 140737488351232 ∧ (∀ z ∈ zs, (Lit.int k0 z.1).wf = true ∧ (Lit.int k1 z.2).wf = true) ∧
      (0 < len → ∃ ad, a = some ad ∧ ∀ i z, zs[i]? = some z → W.cell? (ad.add (i * 2)) = some (.int k0 z.1) ∧ W.cell? (ad.add (i * 2 + 1)) = some (.int k1 z.2)) := by
  obtain ⟨fuel, hf⟩ := h
  rcases open_slice_pairs ht he ce o0 o1 c0 c1 hf with ⟨hcs, _⟩ | ⟨a', len', cap', m, n, V0, V1, D0, D1, P0, P1, hcs, hb, hl, hm, hmm, hx, hall⟩
  · simp [Value.cells] at hcs
    obtain ⟨rfl, rfl, rfl⟩ := hcs
    exact ⟨[], rfl, Nat.le_refl _, Nat.zero_le _, by simp, fun z hz => by simp at hz, fun h => absurd h (Nat.lt_irrefl 0)⟩
  · simp [Value.cells] at hcs
    obtain ⟨rfl, rfl, rfl⟩ := hcs
    have hlm : len ≤ m := by
      rw [hmm]
      split
      · exact hl
      · exact Nat.le_refl _
    have each : ∀ i, i < len → ∃ z : Int × Int, W.cell? (a'.add (i * 2)) = some (.int k0 z.1) ∧ W.cell? (a'.add (i * 2 + 1)) = some (.int k1 z.2) ∧ (Lit.int k0 z.1).wf = true ∧ (Lit.int k1 z.2).wf = true := by
      intro i hi
      obtain ⟨h0, h1, t0, t1⟩ := hall i (Nat.lt_of_lt_of_le hi hlm)
      obtain ⟨z0, e0, _, w0⟩ := DataW.trod_int u0 t0
      obtain ⟨z1, e1, _, w1⟩ := DataW.trod_int u1 t1
      injection e0 with e0
      injection e1 with e1
      rw [e0] at h0
      rw [e1] at h1
      exact ⟨(z0, z1), h0, h1, w0, w1⟩
    obtain ⟨q, hq⟩ := choose_lt each
    obtain ⟨hx, _⟩ := Prod.mk.inj hx
    subst hx
    have z := sized_slice hsz hts hds ht
    rw [hB] at z
    simp only [List.length_map, List.length_range] at z
    refine ⟨(List.range len).map q, by simp, hl, Nat.le_trans hl hm, Nat.le_trans (Nat.mul_le_mul_right _ (by omega)) z, ?_, fun _ => ⟨a', rfl, ?_⟩⟩
    · intro p hp
      obtain ⟨i, hi, rfl⟩ := List.mem_map.1 hp
      have := hq i (List.mem_range.1 hi)
      exact ⟨this.2.2.1, this.2.2.2⟩
    · intro i p hp
      rw [List.getElem?_map] at hp
      obtain ⟨i', hi', rfl⟩ := Option.map_eq_some_iff.1 hp
      have hlt := List.getElem?_eq_some_iff.1 hi'
      obtain ⟨hlt, hie⟩ := hlt
      rw [List.length_range] at hlt
      rw [List.getElem_range] at hie
      subst hie
      have := hq i hlt
      exact ⟨this.1, this.2.1⟩
end Go.Proofs.Ytiahbcaoikoogaa
