/- What layer 5's Code has written is what its Get reads, whatever stands around it; cut off it is short; what Get reads has the bits that Code writes; no condition beside the statement's own bounds of 300 bytes. -/
import Derived.Test.YtfpcbnkipdjlhabAllx13
import Derived.Test.YtfpcbnkipdjlhabPDodRef
import Derived.Test.YtfpcbnkipdjlhabPBits3
namespace Go.Proofs.Ytfpcbnkipdjlhab.Pure
open Go Go.RowKit Go.Proofs.Ytfpcbnkipdjlhab Go.Proofs.Ytfpcbnkipdjlhab.All Go.Proofs.YtfpcbnkipdjlhabW.PrintWords Go.Proofs.YtfpcbnkipdjlhabW.PrintLast
set_option linter.unusedVariables false
set_option linter.unusedSimpArgs false

theorem DodBack_up : Ev (fun k => gaiterlaw05_up.f k) true :=
  Ev.of gaiterlaw05_up.mono (k := 40) (by decide +kernel)
theorem dod_pick (a : Int) (b : Int) (hb : 0 < b ∧ b < 1000) : ∃ t, gaiterlaw00_Pick.f a b = some t ∧ 0 ≤ t ∧ t < b := by
  have hr : -b < Int.tmod a b ∧ Int.tmod a b < b := by
    by_cases h : 0 ≤ a
    · rw [Int.tmod_eq_emod_of_nonneg h]
      have h1 := Int.emod_nonneg a (show b ≠ 0 by omega)
      have h2 := Int.emod_lt_of_pos a hb.1
      omega
    · have e : Int.tmod a b = -(Int.tmod (-a) b) := by rw [Int.neg_tmod, Int.neg_neg]
      rw [e, Int.tmod_eq_emod_of_nonneg (show 0 ≤ -a by omega)]
      have h1 := Int.emod_nonneg (-a) (show b ≠ 0 by omega)
      have h2 := Int.emod_lt_of_pos (-a) hb.1
      omega
  unfold gaiterlaw00_Pick.f
  rw [if_neg (by omega)]
  generalize Int.tmod a b = q at hr
  by_cases h : q < 0
  · rw [if_pos h]
    exact ⟨_, rfl, by rw [PBits.w64 _ (by omega)]; omega, by rw [PBits.w64 _ (by omega)]; omega⟩
  · rw [if_neg h]
    exact ⟨_, rfl, by omega, by omega⟩

theorem lead_ones : ∀ (o f : Nat) (T : List Int), o ≤ f → PDod.lead f (List.replicate o 1 ++ T) = o + PDod.lead (f - o) T := by
  intro o
  induction o with
  | zero => intro f T h; rw [List.replicate_zero, List.nil_append, Nat.sub_zero, Nat.zero_add]
  | succ o ih =>
    intro f T h
    obtain ⟨f, rfl⟩ : ∃ g, f = g + 1 := ⟨f - 1, by omega⟩
    rw [List.replicate_succ, List.cons_append]
    simp only [PDod.lead, if_true]
    rw [ih f T (by omega), Nat.add_sub_add_right]
    omega
theorem lead_dodL (v : Int) (S : List Int) : PDod.lead 4 (PDod.dodL v ++ S) = PDod.ones v := by
  have ho := PDod.ones_le v
  unfold PDod.dodL
  generalize Bs.low (v % 18446744073709551616) (PDod.size (PDod.ones v)) = M
  generalize PDod.ones v = o at ho
  rw [List.append_assoc, List.append_assoc, lead_ones o 4 _ ho]
  by_cases c : o < 4
  · rw [if_pos c, List.cons_append]
    obtain ⟨f, hf⟩ : ∃ f, 4 - o = f + 1 := ⟨3 - o, by omega⟩
    rw [hf]
    simp only [PDod.lead, show ¬ ((0 : Int) = 1) from by decide, if_false]
    rfl
  · rw [show 4 - o = 0 from by omega]
    rfl
theorem sgn_low (v : Int) (hv : -9223372036854775808 ≤ v ∧ v < 9223372036854775808) : PDod.sgn (Bs.low (v % 18446744073709551616) (PDod.size (PDod.ones v))) = v := by
  unfold PDod.sgn
  rw [Bs.low_length, Bs.number_low]
  unfold PDod.ones
  split
  · subst v; decide
  split
  · show (if v % 18446744073709551616 % 128 < 64 then v % 18446744073709551616 % 128 else v % 18446744073709551616 % 128 - 128) = v
    split <;> omega
  split
  · show (if v % 18446744073709551616 % 512 < 256 then v % 18446744073709551616 % 512 else v % 18446744073709551616 % 512 - 512) = v
    split <;> omega
  split
  · show (if v % 18446744073709551616 % 4096 < 2048 then v % 18446744073709551616 % 4096 else v % 18446744073709551616 % 4096 - 4096) = v
    split <;> omega
  · show (if v % 18446744073709551616 % 18446744073709551616 < 9223372036854775808 then v % 18446744073709551616 % 18446744073709551616 else v % 18446744073709551616 % 18446744073709551616 - 18446744073709551616) = v
    split <;> omega
theorem dodL_body (v : Int) (S : List Int) : ((PDod.dodL v ++ S).drop (min (PDod.ones v + 1) 4)).take (PDod.size (PDod.ones v)) = Bs.low (v % 18446744073709551616) (PDod.size (PDod.ones v)) := by
  have ho := PDod.ones_le v
  unfold PDod.dodL
  have hl : (Bs.low (v % 18446744073709551616) (PDod.size (PDod.ones v))).length = PDod.size (PDod.ones v) := Bs.low_length _ _
  generalize Bs.low (v % 18446744073709551616) (PDod.size (PDod.ones v)) = M at hl
  generalize PDod.ones v = o at ho hl
  have hh : (List.replicate o (1 : Int) ++ (if o < 4 then [0] else [])).length = min (o + 1) 4 := by
    rw [List.length_append, List.length_replicate]
    split
    · rw [List.length_singleton]; omega
    · rw [List.length_nil]; omega
  generalize List.replicate o (1 : Int) ++ (if o < 4 then [0] else []) = H at hh
  rw [List.append_assoc, ← hh, List.drop_left, ← hl, List.take_left]
theorem gspec_dodL (v : Int) (hv : -9223372036854775808 ≤ v ∧ v < 9223372036854775808) (S : List Int) : PDod.gspec (PDod.dodL v ++ S) = (v, ((PDod.dodL v).length : Int), 0) := by
  unfold PDod.gspec
  rw [lead_dodL, dodL_body, sgn_low v hv, PDod.dodL_length, if_neg (by rw [List.length_append, PDod.dodL_length]; omega), if_pos rfl]
theorem lead_short (v : Int) (k : Nat) (hk : k < (PDod.dodL v).length) : k < min (PDod.lead 4 ((PDod.dodL v).take k) + 1) 4 + PDod.size (PDod.lead 4 ((PDod.dodL v).take k)) := by
  have ho := PDod.ones_le v
  have hlen := PDod.dodL_length v
  by_cases c : k ≤ PDod.ones v
  · have e : (PDod.dodL v).take k = List.replicate k 1 ++ [] := by
      unfold PDod.dodL
      rw [List.append_assoc, List.take_append_of_le_length (by rw [List.length_replicate]; exact c), List.take_replicate, Nat.min_eq_left c, List.append_nil]
    have e2 : PDod.lead (4 - k) [] = 0 := by
      cases 4 - k <;> rfl
    rw [e, lead_ones k 4 [] (by omega), e2, Nat.add_zero]
    by_cases c4 : k < 4
    · omega
    · obtain rfl : k = 4 := by omega
      decide
  · have hh : PDod.lead 4 ((PDod.dodL v).take k) = PDod.ones v := by
      unfold PDod.dodL
      generalize Bs.low (v % 18446744073709551616) (PDod.size (PDod.ones v)) = M
      generalize PDod.ones v = o at ho c
      obtain ⟨n, rfl⟩ : ∃ n, k = o + n + 1 := ⟨k - o - 1, by omega⟩
      have hrl : (List.replicate o (1 : Int)).length = o := List.length_replicate
      have e : (List.replicate o (1 : Int) ++ (if o < 4 then [0] else []) ++ M).take (o + n + 1) = List.replicate o 1 ++ ((if o < 4 then [0] else []) ++ M).take (n + 1) := by
        rw [List.append_assoc, List.take_append, hrl, List.take_of_length_le (by rw [hrl]; omega), show o + n + 1 - o = n + 1 from by omega]
      rw [e, lead_ones o 4 _ ho]
      by_cases c4 : o < 4
      · rw [if_pos c4, List.cons_append, List.take_succ_cons]
        obtain ⟨f, hf⟩ : ∃ f, 4 - o = f + 1 := ⟨3 - o, by omega⟩
        rw [hf]
        simp only [PDod.lead, show ¬ ((0 : Int) = 1) from by decide, if_false]
        rfl
      · rw [show 4 - o = 0 from by omega]
        rfl
    rw [hh]
    omega
theorem gspec_short (v : Int) (k : Nat) (hk : k < (PDod.dodL v).length) : PDod.gspec ((PDod.dodL v).take k) = (0, 0, 2) := by
  unfold PDod.gspec
  exact if_pos (by
    have := lead_short v k hk
    rw [List.length_take, Nat.min_eq_left (by omega)]
    exact this)

/-- What is got has those bits as its code. -/
theorem gspec_back (R : List Int) (hR : Bs.Bits R) (h : (PDod.gspec R).2.2 = 0) : ∃ m : Nat, (PDod.gspec R).2.1 = (m : Int) ∧ m ≤ R.length ∧ PDod.dodL (PDod.gspec R).1 = R.take m := by
  have hdt := PDod.dodL_take R hR (PDod.lead 4 R) rfl
  unfold PDod.gspec at h ⊢
  by_cases c : R.length < min (PDod.lead 4 R + 1) 4 + PDod.size (PDod.lead 4 R)
  · rw [if_pos c] at h
    exact absurd h (by decide)
  rw [if_neg c] at h ⊢
  by_cases e : PDod.ones (PDod.sgn ((R.drop (min (PDod.lead 4 R + 1) 4)).take (PDod.size (PDod.lead 4 R)))) = PDod.lead 4 R
  · rw [if_pos e]
    exact ⟨_, rfl, Nat.le_of_not_lt c, hdt (Nat.le_of_not_lt c) e⟩
  · rw [if_neg e] at h
    exact absurd h (by decide)

theorem DodBack_j4 (b : List Int) (hb : Bs.Bytes b) (lb : b.length ≤ 300) (d : Int) (m : Nat) (hm : m ≤ (Bs.flat b).length) (hd : PDod.dodL d = (Bs.flat b).take m) :
    Ev (fun k => gaiterlaw05_DodBack.j4 k b true d (m : Int) false) true := by
  have hL := Bs.flat_length b
  have h0 : (0 : Int) ≤ (m : Int) := Int.natCast_nonneg _
  have h1 : (m : Int) ≤ ((Bs.flat b).length : Int) := Int.ofNat_le.2 hm
  have hlen : ((Bs.flat b).take m).length < 140737488355328 := by rw [List.length_take]; omega
  have h8 : 8 * b.length < 140737488355328 := by omega
  have hc := PDod.Code_is d
  have hi := PBits.Is_is ((Bs.flat b).take m) ((Bs.flat_bits b).take m) hlen
  rw [hd] at hc
  refine Ev.step (fun k => by rw [gaiterlaw05_DodBack.j4]) ?_
  simp only [Bool.false_eq_true, if_false, if_true]
  refine Ev.bind hc ?_
  refine Ev.bind (PBits.Flat_is b hb h8) ?_
  simp only [if_pos h0, if_pos h1, Int.toNat_natCast]
  refine Ev.bind hi ?_
  simp only [beq_self_eq_true]
  exact Ev.now _

theorem zeros_low (n : Nat) : Bs.low 0 n = List.replicate n 0 := Bs.low_zero n
theorem DodBack_j2 (b : List Int) (hb : Bs.Bytes b) (lb : b.length ≤ 300) (v : Int) (cut : Int) :
    Ev (fun k => gaiterlaw05_DodBack.j2 k b cut true false (Bs.pack (PDod.dodL v)) ((PDod.dodL v).length : Int)) true := by
  have hdl := PDod.dodL_length v
  have hsz := PDod.size_le (PDod.ones v)
  have hdb := PDod.dodL_bits v
  have hgs := gspec_short v
  have hlen1 : 1 ≤ (PDod.dodL v).length := by omega
  have hlen : (PDod.dodL v).length ≤ 68 := by omega
  generalize PDod.dodL v = D at hdb hgs hlen1 hlen
  clear hdl hsz
  obtain ⟨t, ht, ht0, ht1⟩ := dod_pick cut (D.length : Int) (by omega)
  obtain ⟨k, rfl⟩ : ∃ k : Nat, t = (k : Int) := ⟨t.toNat, by omega⟩
  have hk : k < D.length := by omega
  replace hgs := hgs k hk
  obtain ⟨z, hz⟩ : ∃ z : Nat, z = (8 - k % 8) % 8 := ⟨_, rfl⟩
  have hz8 : z < 8 := by omega
  have hzk : ∃ q, z + k = 8 * q := ⟨(z + k) / 8, by omega⟩
  have ez : Int.tmod (wrap64 (64 - Int.tmod (k : Int) 8)) 8 = (z : Int) := by
    rw [PBits.tmod_nat _ (Int.natCast_nonneg k), PBits.w64 _ (by omega), PBits.tmod_nat _ (by omega)]
    omega
  obtain ⟨q, hq⟩ := hzk
  have ew : wrap64 (Int.tdiv (wrap64 ((z : Int) + (k : Int))) 8) = (q : Int) := by
    rw [PBits.w64 ((z : Int) + (k : Int)) (by omega), PBits.tdiv_nat _ (by omega), PBits.w64 _ (by omega)]
    omega
  have hput := PBits.Put_is [] Bs.Bits.nil (by simp) 0 (by decide) (z : Int)
  rw [if_neg (by omega), Int.toNat_natCast, zeros_low, List.nil_append, Bs.pack_nil] at hput
  have hZ : Bs.Bits (List.replicate z (0 : Int)) := Bs.Bits.zeros z
  have hZl : (List.replicate z (0 : Int)).length = z := List.length_replicate
  generalize List.replicate z (0 : Int) = Z at hput hZ hZl
  have hjoin := PBits.Join_is Z D hZ hdb (by omega)
  have hput' : ((([] : List Int).length + z : Nat) : Int) = (Z.length : Int) := by rw [List.length_nil, hZl]; omega
  have hZD : Bs.Bits (Z ++ D) := hZ.append hdb
  have hpl : (Bs.pack (Z ++ D)).length = (z + D.length + 7) / 8 := by rw [Bs.pack_length, List.length_append, hZl]
  have hqle : q ≤ (Bs.pack (Z ++ D)).length := by rw [hpl]; omega
  have emn : mn ((Bs.pack (Z ++ D)).length : Int) (q : Int) = (q : Int) := by
    unfold mn
    split <;> omega
  have h0 : (0 : Int) ≤ (q : Int) := Int.natCast_nonneg _
  have h1 : (q : Int) ≤ ((Bs.pack (Z ++ D)).length : Int) := Int.ofNat_le.2 hqle
  have hby : Bs.Bytes ((Bs.pack (Z ++ D)).take q) := (Bs.pack_bytes hZD).take _
  have hfl : Bs.flat ((Bs.pack (Z ++ D)).take q) = Z ++ D.take k := by
    rw [← Bs.flat_take, Bs.flat_pack hZD, ← hq, List.take_append_of_le_length (by rw [List.length_append]; omega), List.take_append, hZl, List.take_of_length_le (by omega), Nat.add_sub_cancel_left]
  have hl8 : 8 * ((Bs.pack (Z ++ D)).take q).length < 140737488355328 := by rw [List.length_take, hpl]; omega
  have hget := PDod.Get_is _ hby hl8 (z : Int) (by omega)
  have hrest : PDod.restL (Bs.flat ((Bs.pack (Z ++ D)).take q)) (z : Int) = D.take k := by
    rw [hfl]
    unfold PDod.restL
    rw [if_neg (by rw [List.length_append]; omega), Int.toNat_natCast, ← hZl, List.drop_left]
  rw [hrest, hgs] at hget
  have h8 : 8 * b.length < 140737488355328 := by omega
  have hget2 := PDod.Get_is b hb h8 0 (by decide)
  have hr0 : PDod.restL (Bs.flat b) 0 = Bs.flat b := by
    unfold PDod.restL
    rw [if_neg (by omega)]
    rfl
  rw [hr0] at hget2
  have hback := gspec_back (Bs.flat b) (Bs.flat_bits b)
  have hcode := PDod.gspec_code (Bs.flat b)
  have hj3 := DodBack_j4 b hb lb
  have hfb := Bs.flat_length b
  generalize PDod.gspec (Bs.flat b) = G at hget2 hback hcode
  obtain ⟨d, m', c⟩ := G
  have hw8 : wrap64 (8 * (b.length : Int)) = ((Bs.flat b).length : Int) := by rw [PBits.w64 _ (by omega), hfb]; omega
  refine Ev.step (fun k => by rw [gaiterlaw05_DodBack.j2]) ?_
  simp only [Bool.false_eq_true, if_false, ht, Option.bind_some, ez]
  refine Ev.bind hput ?_
  simp only [hput']
  refine Ev.bind hjoin ?_
  simp only [ew, emn, if_pos h0, if_pos h1, Int.toNat_natCast]
  refine Ev.bind hget ?_
  simp only [PDod.gimp, show ¬ ((2 : Int) = 0) from by decide, if_false]
  refine Ev.step (fun k => by rw [gaiterlaw05_DodBack.j3]) ?_
  simp only [gaiterlaw00_Code.f, Option.bind_some, show codeNo (some 2) = 2 from by decide, if_true]
  refine Ev.bind hget2 ?_
  simp only [PDod.gimp]
  by_cases c0 : c = 0
  · obtain ⟨m, hm1, hm2, hm3⟩ := hback c0
    simp only at hm1 hm3
    subst hm1
    have hneg : ¬ ((m : Int) < 0) := Int.not_lt.2 (Int.natCast_nonneg _)
    have hgt : decide ((m : Int) > ((Bs.flat b).length : Int)) = false := decide_eq_false (by omega)
    simp only [if_pos c0, Option.isNone_none, if_true, if_neg hneg, hw8, hgt]
    exact hj3 d m hm2 hm3
  · simp only [if_neg c0, Option.isNone_some, Bool.false_eq_true, if_false]
    exact Ev.now _

theorem DodBack_j1 (l rest b : List Int) (hl : Bs.Bytes l) (hr : Bs.Bytes rest) (hb : Bs.Bytes b) (ll : l.length ≤ 300) (lr : rest.length ≤ 300) (lb : b.length ≤ 300) (v : Int) (hv : -9223372036854775808 ≤ v ∧ v < 9223372036854775808) (cut : Int) :
    Ev (fun k => gaiterlaw05_DodBack.j1 k l v rest b cut true false (Bs.pack (PDod.dodL v)) ((PDod.dodL v).length : Int)) true := by
  have hj2 := DodBack_j2 b hb lb v cut
  have hdl := PDod.dodL_length v
  have hsz := PDod.size_le (PDod.ones v)
  have hdb := PDod.dodL_bits v
  have hgs := gspec_dodL v hv
  have hlen : (PDod.dodL v).length ≤ 68 := by omega
  generalize PDod.dodL v = D at hdb hgs hlen hj2
  clear hdl hsz
  have hP := PBits.par_bits l
  have hQ := PBits.par_bits rest
  have lP : (PBits.par l).length = l.length := PBits.par_length l
  have lQ : (PBits.par rest).length = rest.length := PBits.par_length rest
  have h1 := PBits.Bits_is l hl (by omega)
  have h2 := PBits.Bits_is rest hr (by omega)
  rw [← lP] at h1
  rw [← lQ] at h2
  generalize PBits.par l = P at hP lP h1
  generalize PBits.par rest = Q at hQ lQ h2
  have lP' : P.length ≤ 300 := by omega
  have lQ' : Q.length ≤ 300 := by omega
  have hPD := hP.append hdb
  have hPDQ := hPD.append hQ
  have lPD : P.length + D.length = (P ++ D).length := List.length_append.symm
  have lPDQ : (P ++ D ++ Q).length = P.length + D.length + Q.length := by rw [List.length_append, List.length_append]
  have j1 := PBits.Join_is P D hP hdb (by omega)
  have j2 := PBits.Join_is (P ++ D) Q hPD hQ (by omega)
  have p1 : 8 * (Bs.pack (P ++ D ++ Q)).length < 140737488355328 := by rw [Bs.pack_length]; omega
  have hg := PDod.Get_is _ (Bs.pack_bytes hPDQ) p1 (P.length : Int) (by omega)
  have hrest : ∃ S, PDod.restL (Bs.flat (Bs.pack (P ++ D ++ Q))) (P.length : Int) = D ++ S := by
    unfold PDod.restL
    rw [Bs.flat_pack hPDQ]
    refine ⟨Q ++ List.replicate (8 * (((P ++ D ++ Q).length + 7) / 8) - (P ++ D ++ Q).length) 0, ?_⟩
    rw [if_neg (by rw [List.length_append]; omega), Int.toNat_natCast, List.append_assoc, List.append_assoc, List.drop_left]
  obtain ⟨S, hS⟩ := hrest
  rw [hS, hgs S] at hg
  rw [← lPD] at j2
  rw [lP] at hg
  refine Ev.step (fun k => by rw [gaiterlaw05_DodBack.j1]) ?_
  simp only [Bool.false_eq_true, if_false]
  refine Ev.bind h1 ?_
  refine Ev.bind j1 ?_
  refine Ev.bind h2 ?_
  refine Ev.bind j2 ?_
  refine Ev.bind hg ?_
  simp only [PDod.gimp, if_true, Option.isNone_none]
  exact hj2

theorem DodBack : gaiterlaw05_DodBack.Pure := by
  intro l v rest b cut _ _ hl hv _ _ hr _ _ hb _
  have hv := Ib.wf_i64 hv
  have hl : Bs.Bytes l := fun x h => Ib.wf_u8 (hl x h)
  have hr : Bs.Bytes rest := fun x h => Ib.wf_u8 (hr x h)
  have hb : Bs.Bytes b := fun x h => Ib.wf_u8 (hb x h)
  refine Ev.rounds (g := fun k => gaiterlaw05_DodBack.f k l v rest b cut) ?_
  unfold gaiterlaw05_DodBack.f
  refine Ev.bind DodBack_up ?_
  have hout : ∀ x, x = true → Ev (fun k => gaiterlaw05_DodBack.j0 k l v rest b cut true x) true := by
    intro x hx
    subst hx
    refine Ev.step (fun k => by rw [gaiterlaw05_DodBack.j0]) ?_
    simp only [if_true]
    exact Ev.now _
  by_cases c1 : (l.length : Int) > 300
  · simp only [if_pos c1]
    exact hout _ rfl
  simp only [if_neg c1]
  by_cases c2 : (rest.length : Int) > 300
  · simp only [if_pos c2]
    exact hout _ rfl
  simp only [if_neg c2]
  by_cases c3 : (b.length : Int) > 300
  · exact hout _ (decide_eq_true c3)
  rw [decide_eq_false c3]
  have hj1 := DodBack_j1 l rest b hl hr hb (by omega) (by omega) (by omega) v hv cut
  have hdl := PDod.dodL_length v
  have hsz := PDod.size_le (PDod.ones v)
  have n1 : ¬ (((PDod.dodL v).length : Int) < 1) := by omega
  have n2 : decide (((PDod.dodL v).length : Int) > 68) = false := decide_eq_false (by omega)
  refine Ev.step (fun k => by rw [gaiterlaw05_DodBack.j0]) ?_
  simp only [Bool.false_eq_true, if_false]
  refine Ev.bind (PDod.Code_is v) ?_
  simp only [if_neg n1, n2]
  exact hj1

end Go.Proofs.Ytfpcbnkipdjlhab.Pure
