/- What the document's Dod and GetDod come to, in plain words on bits: layer 5's. -/
import Derived.Test.YtfpcbnkipdjlhabAllx8
import Derived.Test.YtfpcbnkipdjlhabAllx9
import Derived.Test.YtfpcbnkipdjlhabAllx11
import Derived.Test.YtfpcbnkipdjlhabPDod
namespace Go.Proofs.Ytfpcbnkipdjlhab.PDod
open Go Go.RowKit Go.Proofs.Ytfpcbnkipdjlhab Go.Proofs.Ytfpcbnkipdjlhab.All Go.Proofs.YtfpcbnkipdjlhabW.PrintWords Go.Proofs.YtfpcbnkipdjlhabW.PrintLast
set_option linter.unusedVariables false
set_option linter.unusedSimpArgs false

theorem Room_l0 (d : Int) (n : Nat) (hn : n ≤ 60) : ∀ (e j : Nat), j + e + 1 = n → Ev (fun k => gaiterref01_Room.l0 k d (n : Int) (2 ^ j) ((j + 1 : Nat) : Int)) (decide (-(2 ^ (n - 1)) ≤ d ∧ d < 2 ^ (n - 1))) := by
  intro e
  induction e with
  | zero =>
    intro j hj
    have hp : (2 : Int) ^ j ≤ 2 ^ 60 := PBits.pow_le (by omega)
    rw [show (2 : Int) ^ 60 = 1152921504606846976 from by decide] at hp
    have h0 := Bs.pow_pos j
    have hno : ¬ (((j + 1 : Nat) : Int) < (n : Int)) := by omega
    have hw1 : wrap64 (-(2 ^ j)) = -(2 ^ j) := PBits.w64 _ (by omega)
    have hw2 : wrap64 (2 ^ j - 1) = 2 ^ j - 1 := PBits.w64 _ (by omega)
    rw [show n - 1 = j from by omega]
    refine Ev.step (fun k => by rw [gaiterref01_Room.l0]) ?_
    simp only [if_neg hno, hw1, hw2]
    by_cases c : d ≥ -(2 ^ j)
    · simp only [if_pos c]
      rw [show decide (d ≤ 2 ^ j - 1) = decide (-(2 ^ j) ≤ d ∧ d < 2 ^ j) from decide_eq_decide.2 (by omega)]
      exact Ev.now _
    · simp only [if_neg c]
      rw [decide_eq_false (show ¬ (-(2 ^ j) ≤ d ∧ d < 2 ^ j) by omega)]
      exact Ev.now _
  | succ e ih =>
    intro j hj
    have hp : (2 : Int) ^ (j + 1) ≤ 2 ^ 60 := PBits.pow_le (by omega)
    rw [show (2 : Int) ^ 60 = 1152921504606846976 from by decide] at hp
    have h0 := Bs.pow_pos (j + 1)
    have hin : ((j + 1 : Nat) : Int) < (n : Int) := by omega
    have hih := ih (j + 1) (by omega)
    have hj47 : j + 1 < 140737488355328 := by omega
    have hw1 : wrap64 (2 * 2 ^ j) = 2 ^ (j + 1) := by
      rw [Int.pow_succ, Int.mul_comm] at hp h0 ⊢
      exact PBits.w64 _ (by omega)
    have hw2 := PBits.wr_succ (j + 1) hj47
    refine Ev.step (fun k => by rw [gaiterref01_Room.l0]) ?_
    simp only [if_pos hin, hw1, hw2]
    exact hih
theorem Room_is (d : Int) (n : Nat) (h0 : 0 < n) (hn : n ≤ 60) : Ev (fun k => gaiterref01_Room.f k d (n : Int)) (decide (-(2 ^ (n - 1)) ≤ d ∧ d < 2 ^ (n - 1))) :=
  Room_l0 d n hn (n - 1) 0 (by omega)
theorem ROnes_is (d : Int) : Ev (fun k => gaiterref01_Ones.f k d) ((ones d : Nat) : Int) := by
  unfold gaiterref01_Ones.f ones
  by_cases h0 : d = 0
  · simp only [if_pos h0]; exact Ev.now _
  simp only [if_neg h0]
  have s4 : Ev (fun k => gaiterref01_Ones.l0 k d 4) 4 := Ev.step (fun k => by rw [gaiterref01_Ones.l0, if_neg (by decide)]) (Ev.now _)
  have s3 : Ev (fun k => gaiterref01_Ones.l0 k d 3) (if -2048 ≤ d ∧ d < 2048 then 3 else 4) := by
    refine Ev.step (fun k => by rw [gaiterref01_Ones.l0, if_pos (by decide), show gaiterref01_sizes.f 3 = some 12 from by decide +kernel, Option.bind_some, show wrap64 (3 + 1) = 4 from by decide +kernel]) ?_
    refine Ev.bind (Room_is d 12 (by decide) (by decide)) ?_
    rw [show (2 : Int) ^ (12 - 1) = 2048 from by decide]
    by_cases c : -2048 ≤ d ∧ d < 2048
    · simp only [decide_eq_true c, if_pos c, if_true]; exact Ev.now _
    · simp only [decide_eq_false c, if_neg c, Bool.false_eq_true, if_false]; exact s4
  have s2 : Ev (fun k => gaiterref01_Ones.l0 k d 2) (if -256 ≤ d ∧ d < 256 then 2 else if -2048 ≤ d ∧ d < 2048 then 3 else 4) := by
    refine Ev.step (fun k => by rw [gaiterref01_Ones.l0, if_pos (by decide), show gaiterref01_sizes.f 2 = some 9 from by decide +kernel, Option.bind_some, show wrap64 (2 + 1) = 3 from by decide +kernel]) ?_
    refine Ev.bind (Room_is d 9 (by decide) (by decide)) ?_
    rw [show (2 : Int) ^ (9 - 1) = 256 from by decide]
    by_cases c : -256 ≤ d ∧ d < 256
    · simp only [decide_eq_true c, if_pos c, if_true]; exact Ev.now _
    · simp only [decide_eq_false c, if_neg c, Bool.false_eq_true, if_false]; exact s3
  have s1 : Ev (fun k => gaiterref01_Ones.l0 k d 1) (if -64 ≤ d ∧ d < 64 then 1 else if -256 ≤ d ∧ d < 256 then 2 else if -2048 ≤ d ∧ d < 2048 then 3 else 4) := by
    refine Ev.step (fun k => by rw [gaiterref01_Ones.l0, if_pos (by decide), show gaiterref01_sizes.f 1 = some 7 from by decide +kernel, Option.bind_some, show wrap64 (1 + 1) = 2 from by decide +kernel]) ?_
    refine Ev.bind (Room_is d 7 (by decide) (by decide)) ?_
    rw [show (2 : Int) ^ (7 - 1) = 64 from by decide]
    by_cases c : -64 ≤ d ∧ d < 64
    · simp only [decide_eq_true c, if_pos c, if_true]; exact Ev.now _
    · simp only [decide_eq_false c, if_neg c, Bool.false_eq_true, if_false]; exact s2
  have e : ((if -64 ≤ d ∧ d < 64 then 1 else if -256 ≤ d ∧ d < 256 then 2 else if -2048 ≤ d ∧ d < 2048 then 3 else 4 : Nat) : Int) = (if -64 ≤ d ∧ d < 64 then 1 else if -256 ≤ d ∧ d < 256 then 2 else if -2048 ≤ d ∧ d < 2048 then 3 else 4 : Int) := by
    (repeat' split) <;> rfl
  rw [e]
  exact s1
theorem rsize_is (o : Nat) (h : o ≤ 4) : gaiterref01_sizes.f (o : Int) = some ((size o : Nat) : Int) := by
  have : ∀ i : Fin 5, gaiterref01_sizes.f ((i.val : Nat) : Int) = some ((size i.val : Nat) : Int) := by decide +kernel
  exact this ⟨o, by omega⟩
theorem RDod_l0 (d : Int) (n : Nat) (hn : n ≤ 4) (X : List Int) (h : ∀ acc : List Int, acc = List.replicate n 1 → Ev (fun k => gaiterref01_Dod.l0 k d (n : Int) acc (n : Int)) X) : ∀ (e j : Nat), j + e = n → Ev (fun k => gaiterref01_Dod.l0 k d (n : Int) (List.replicate j 1) (j : Int)) X := by
  intro e
  induction e with
  | zero => intro j hj; obtain rfl : j = n := by omega
            exact h _ rfl
  | succ e ih =>
    intro j hj
    have hin : (j : Int) < (n : Int) := by omega
    have hl : (List.replicate j (1 : Int)).length < 140737488355328 := by rw [List.length_replicate]; omega
    have hih := ih (j + 1) (by omega)
    have hws := PBits.wr_succ j (by omega)
    rw [List.replicate_succ'] at hih
    refine Ev.step (fun k => by rw [gaiterref01_Dod.l0]) ?_
    simp only [if_pos hin, if_pos hl, hws]
    exact hih
theorem RDod_is (d : Int) : Ev (fun k => gaiterref01_Dod.f k d) (dodL d) := by
  have ho := ones_le d
  have hs := size_le (ones d)
  have hsz := rsize_is (ones d) ho
  have hw : 0 ≤ IntKind.u64.wrap (d) ∧ IntKind.u64.wrap (d) < 18446744073709551616 := by rw [Ib.wrap_u64]; omega
  have hlow := PBits.Low_is (IntKind.u64.wrap d) ((size (ones d) : Nat) : Int) hw (by omega)
  rw [Int.toNat_natCast] at hlow
  have hdl : dodL d = List.replicate (ones d) 1 ++ (if ones d < 4 then [0] else []) ++ Bs.low (IntKind.u64.wrap d) (size (ones d)) := by rw [Ib.wrap_u64]; rfl
  unfold gaiterref01_Dod.f
  refine Ev.bind (ROnes_is d) ?_
  refine RDod_l0 d (ones d) ho _ (fun acc hacc => ?_) (ones d) 0 (by omega)
  have hal : acc.length = ones d := by rw [hacc, List.length_replicate]
  rw [hdl, ← hacc]
  have hno : ¬ (((ones d : Nat) : Int) < ((ones d : Nat) : Int)) := by omega
  have hl : acc.length < 140737488355328 := by omega
  have hl2 : (acc ++ [0]).length + (Bs.low (IntKind.u64.wrap d) (size (ones d))).length < 140737488355328 := by rw [Bs.low_length, List.length_append, List.length_singleton]; omega
  have hl3 : acc.length + (Bs.low (IntKind.u64.wrap d) (size (ones d))).length < 140737488355328 := by rw [Bs.low_length]; omega
  refine Ev.step (fun k => by rw [gaiterref01_Dod.l0]) ?_
  simp only [if_neg hno]
  by_cases c : ones d < 4
  · have c' : ((ones d : Nat) : Int) < 4 := by omega
    simp only [if_pos c', if_pos c, if_pos hl, Option.bind_some, hsz]
    refine Ev.bind hlow ?_
    simp only [if_pos hl2]
    exact Ev.now _
  · have c' : ¬ ((ones d : Nat) : Int) < 4 := by omega
    simp only [if_neg c', if_neg c, Option.bind_some, hsz, List.append_nil]
    refine Ev.bind hlow ?_
    simp only [if_pos hl3]
    exact Ev.now _
theorem Rest_is (b : List Int) (hb : Bs.Bytes b) (hl : 8 * b.length < 140737488355328) (a : Int) : Ev (fun k => gaiterlaw00_Rest.f k b a) (restL (Bs.flat b) a) := by
  unfold gaiterlaw00_Rest.f
  refine Ev.bind (PBits.Flat_is b hb hl) ?_
  by_cases c1 : a < 0
  · rw [show restL (Bs.flat b) a = [] from if_pos (.inl c1)]
    simp only [if_pos c1]
    exact Ev.now _
  by_cases c2 : a > ((Bs.flat b).length : Int)
  · rw [show restL (Bs.flat b) a = [] from if_pos (.inr c2)]
    simp only [if_neg c1, if_pos c2]
    exact Ev.now _
  · have c3 : 0 ≤ a := by omega
    have c4 : a ≤ ((Bs.flat b).length : Int) := by omega
    rw [show restL (Bs.flat b) a = (Bs.flat b).drop a.toNat from if_neg (fun h => h.elim c1 c2)]
    simp only [if_neg c1, if_neg c2, if_pos c3, if_pos c4]
    exact Ev.now _
theorem sgn_cons (x : Int) (t : List Int) : sgn (x :: t) = if Bs.number (x :: t) < 2 ^ t.length then Bs.number (x :: t) else Bs.number (x :: t) - 2 ^ (t.length + 1) := by
  unfold sgn
  rw [List.length_cons, Nat.add_sub_cancel]
theorem wrap_hi (v : Int) (h : 9223372036854775808 ≤ v ∧ v < 18446744073709551616) : wrap64 v = v - 18446744073709551616 := by unfold wrap64; omega
theorem u64_id (v : Int) (h : 0 ≤ v ∧ v < 18446744073709551616) : IntKind.u64.wrap v = v := by rw [Ib.wrap_u64]; omega
theorem mod2 (v : Int) : v % 2 ^ 1 = v % 2 := rfl
theorem signed_is (L : List Int) (hL : Bs.Bits L) (h64 : L.length ≤ 60 ∨ L.length = 64) : Ev (fun k => gaiterref01_signed.f k L) (sgn L) := by
  have hr := Bs.number_range hL
  unfold gaiterref01_signed.f
  refine Ev.bind (PBits.Number_is L hL (by omega)) ?_
  cases L with
  | nil =>
    have c : ¬ (((([] : List Int).length : Nat) : Int) > 0) := by simp
    simp only [if_neg c]
    have hz : wrap64 (Bs.number []) = sgn [] := by decide +kernel
    rw [hz]
    exact Ev.now _
  | cons x t =>
    rw [sgn_cons]
    have hx := hL x (List.mem_cons_self)
    have htb : Bs.Bits t := fun z hz => hL z (List.mem_cons_of_mem _ hz)
    have ht := Bs.number_range htb
    have hn : Bs.number (x :: t) = x * 2 ^ t.length + Bs.number t := Bs.number_cons x t
    rw [List.length_cons] at h64 hr
    have c0 : (((x :: t).length : Nat) : Int) > 0 := by rw [List.length_cons]; omega
    have c0' : 0 < (((x :: t).length : Nat) : Int) := c0
    have hpp := Bs.pow_pos t.length
    have hps : (2 : Int) ^ (t.length + 1) = 2 * 2 ^ t.length := by rw [Int.pow_succ, Int.mul_comm]
    rw [hps] at hr ⊢
    have hrd : rd (x :: t) 0 = x := PBits.rd_at (x :: t) 0 (by simp)
    simp only [if_pos c0, if_pos c0', hrd]
    by_cases c64 : (((x :: t).length : Nat) : Int) < 64
    · have hp : (2 : Int) ^ t.length ≤ 2 ^ 60 := PBits.pow_le (by rw [List.length_cons] at c64; omega)
      rw [show (2 : Int) ^ 60 = 1152921504606846976 from by decide] at hp
      simp only [if_pos c64]
      by_cases c1 : x = 1
      · have hwl : wrap64 ((((x :: t).length : Nat) : Int) - 1) = ((t.length : Nat) : Int) := by rw [List.length_cons, PBits.w64 _ (by omega)]; omega
        have hge : 0 ≤ wrap64 ((((x :: t).length : Nat) : Int) - 1) := by rw [hwl]; omega
        have hlim : ([1] : List Int).length + t.length < 140737488355328 := by rw [List.length_singleton]; omega
        have hzb : Bs.Bits ([1] ++ List.replicate t.length (0 : Int)) := Bs.Bits.append (Bs.Bits.cons (.inr rfl) Bs.Bits.nil) (Bs.Bits.zeros _)
        have hzn : Bs.number ([1] ++ List.replicate t.length (0 : Int)) = 2 ^ t.length := by rw [Bs.number_zeros]; simp [Bs.number]
        have hzl : ([1] ++ List.replicate t.length (0 : Int)).length ≤ 64 := by rw [List.length_append, List.length_singleton, List.length_replicate]; omega
        have hnum := PBits.Number_is _ hzb hzl
        rw [hzn] at hnum
        simp only [if_pos c1, Option.bind_some, if_pos hge, hwl, Int.toNat_natCast, if_pos hlim]
        subst c1
        rw [Int.one_mul] at hn
        rw [hn] at hr ⊢
        have hno : ¬ (2 ^ t.length + Bs.number t < 2 ^ t.length) := by omega
        rw [if_neg hno]
        refine Ev.bind hnum ?_
        generalize hq : (2 : Int) ^ t.length = q at *
        generalize Bs.number t = u at *
        have h1 : wrap64 (q + u) = q + u := PBits.w64 _ (by omega)
        have h2 : IntKind.u64.wrap (2 * q) = 2 * q := u64_id _ (by omega)
        have h3 : wrap64 (2 * q) = 2 * q := PBits.w64 _ (by omega)
        have h4 : wrap64 (q + u - 2 * q) = q + u - 2 * q := PBits.w64 _ (by omega)
        simp only [h2, h3, h1, h4]
        exact Ev.now _
      · have hx0 : x = 0 := by rcases hx with h | h; exact h; exact absurd h c1
        simp only [if_neg c1]
        subst hx0
        rw [Int.zero_mul, Int.zero_add] at hn
        rw [hn] at hr ⊢
        rw [if_pos ht.2, PBits.w64 _ (by omega)]
        exact Ev.now _
    · have hl63 : t.length = 63 := by rw [List.length_cons] at c64; omega
      simp only [if_neg c64]
      rw [hl63] at hr ht hn hps ⊢
      rw [show (2 : Int) ^ 63 = 9223372036854775808 from by decide] at *
      generalize Bs.number (x :: t) = u at *
      by_cases c : u < 9223372036854775808
      · rw [if_pos c, PBits.w64 _ (by omega)]
        exact Ev.now _
      · rw [if_neg c, wrap_hi _ (by omega)]
        exact Ev.now _
theorem mn_head (o : Nat) (ho : o ≤ 4) : mn (wrap64 ((o : Int) + 1)) 4 = ((min (o + 1) 4 : Nat) : Int) := by
  rw [PBits.wr_succ o (by omega)]
  unfold mn
  split <;> omega
theorem starts_is (R D : List Int) : ∃ t : Bool, gaiterref01_starts.f R D = some t ∧ (R.take D.length = D → t = true) := by
  unfold gaiterref01_starts.f
  by_cases c : (R.length : Int) ≥ (D.length : Int)
  · have hm : mn (R.length : Int) (D.length : Int) = (D.length : Int) := by unfold mn; split <;> omega
    have h0 : 0 ≤ (D.length : Int) := by omega
    have h1 : (D.length : Int) ≤ (R.length : Int) := c
    rw [if_pos c, hm, if_pos h0, if_pos h1, Int.toNat_natCast]
    refine ⟨_, rfl, fun h => ?_⟩
    rw [h]
    exact beq_self_eq_true _
  · rw [if_neg c]
    refine ⟨_, rfl, fun h => ?_⟩
    have := congrArg List.length h
    rw [List.length_take] at this
    omega
theorem RGet_j1 (R : List Int) (hR : Bs.Bits R) (hl : R.length < 140737488355328) : Ev (fun k => gaiterref01_GetDod.j1 k R ((lead 4 R : Nat) : Int)) (gspec R) := by
  have ho4 := lead_le 4 R
  unfold gspec
  have hdt := dodL_take R hR (lead 4 R) rfl
  generalize lead 4 R = o at *
  have hs64 := size_le o
  obtain ⟨h, hh⟩ : ∃ h, h = min (o + 1) 4 := ⟨_, rfl⟩
  have hh4 : h ≤ 4 := by omega
  have hb2 : h + size o < 140737488355328 := by omega
  have hszo : ∀ n, n = size o → n ≤ 60 ∨ n = 64 := fun n hn => by
    subst hn
    have : ∀ i : Fin 5, size i.val ≤ 60 ∨ size i.val = 64 := by decide
    exact this ⟨o, by omega⟩
  have hs0 := rsize_is o ho4
  have hmn := mn_head o ho4
  rw [← hh] at hmn hdt ⊢
  have hsi := fun v => size_inj (ones v) o (ones_le v) ho4
  rw [← hh] at hsi
  have htd : (R.take (h + size o)).drop h = (R.drop h).take (size o) := by rw [List.drop_take, Nat.add_sub_cancel_left]
  have hwn : wrap64 ((h : Int) + ((size o : Nat) : Int)) = ((h + size o : Nat) : Int) := PBits.wr_add h (size o) hb2
  clear hb2 hh ho4
  refine Ev.step (fun k => by rw [gaiterref01_GetDod.j1, hs0, Option.bind_some, hmn, hwn]) ?_
  clear hwn hmn hs0
  by_cases c : R.length < h + size o
  · have c' : (R.length : Int) < ((h + size o : Nat) : Int) := Int.ofNat_lt.2 c
    simp only [if_pos c', if_pos c]
    exact Ev.now _
  · have c' : ¬ (R.length : Int) < ((h + size o : Nat) : Int) := fun h => c (Int.ofNat_lt.1 h)
    have c1 : (0 : Int) ≤ (h : Int) := Int.natCast_nonneg _
    have c2 : (h : Int) ≤ ((h + size o : Nat) : Int) := Int.ofNat_le.2 (Nat.le_add_right _ _)
    have cc : h + size o ≤ R.length := Nat.le_of_not_lt c
    have c3 : ((h + size o : Nat) : Int) ≤ (R.length : Int) := Int.ofNat_le.2 cc
    have hM : Bs.Bits ((R.drop h).take (size o)) := (hR.drop _).take _
    have hMl : ((R.drop h).take (size o)).length ≤ 60 ∨ ((R.drop h).take (size o)).length = 64 := hszo _ (by rw [List.length_take, List.length_drop, Nat.min_eq_left (Nat.le_sub_of_add_le (by rwa [Nat.add_comm] at cc))])
    simp only [if_neg c', if_neg c, if_pos c1, if_pos c2, if_pos c3, Int.toNat_natCast, htd]
    refine Ev.bind (signed_is _ hM hMl) ?_
    replace hdt := hdt cc
    generalize sgn ((R.drop h).take (size o)) = v at *
    have hDl := dodL_length v
    replace hsi := hsi v
    refine Ev.bind (RDod_is v) ?_
    obtain ⟨t, ht, htr⟩ := starts_is R (dodL v)
    simp only [ht, Option.bind_some]
    by_cases e : ones v = o
    · have hd := hdt e
      have hdl : (dodL v).length = h + size o := by rw [hd, List.length_take, Nat.min_eq_left cc]
      have htt : t = true := htr (by rw [hdl, hd])
      have e' : ((dodL v).length : Int) = ((h + size o : Nat) : Int) := congrArg _ hdl
      simp only [htt, if_true, if_pos e]
      refine Ev.bind (RDod_is v) ?_
      simp only [if_pos e']
      exact Ev.now _
    · have e' : ¬ ((dodL v).length : Int) = ((h + size o : Nat) : Int) := fun hc => e (hsi (hDl.symm.trans (Int.ofNat_inj.1 hc)))
      simp only [if_neg e]
      cases t with
      | false =>
        simp only [Bool.false_eq_true, if_false]
        exact Ev.now _
      | true =>
        simp only [if_true]
        refine Ev.bind (RDod_is v) ?_
        simp only [if_neg e']
        exact Ev.now _
theorem RGet_l0 (R : List Int) (hR : Bs.Bits R) (hl : R.length < 140737488355328) : ∀ (e j : Nat), j + e = lead 4 R → Ev (fun k => gaiterref01_GetDod.l0 k R (j : Int)) (gspec R) := by
  have ho4 := lead_le 4 R
  have hoL := lead_len 4 R
  intro e
  induction e with
  | zero =>
    intro j hj
    have hj1 := RGet_j1 R hR hl
    have hst := lead_stop 4 R
    obtain rfl : j = lead 4 R := by omega
    generalize lead 4 R = o at *
    refine Ev.step (fun k => by rw [gaiterref01_GetDod.l0]) ?_
    by_cases c : (o : Int) < (R.length : Int)
    · have c' : o < R.length := by omega
      by_cases c4 : (o : Int) < 4
      · have h0 : (0 : Int) ≤ (o : Int) := by omega
        have hne : ¬ rd R (o : Int) = 1 := by
          rw [PBits.rd_at R o c']
          exact hst c' (by omega)
        simp only [if_pos c, if_pos c4, if_pos h0, if_neg hne]
        exact hj1
      · simp only [if_pos c, if_neg c4]
        exact hj1
    · simp only [if_neg c]
      exact hj1
  | succ e ih =>
    intro j hj
    have hin : j < R.length := by omega
    have c : (j : Int) < (R.length : Int) := by omega
    have c4 : (j : Int) < 4 := by omega
    have h0 : (0 : Int) ≤ (j : Int) := by omega
    have he : rd R (j : Int) = 1 := by
      rw [PBits.rd_at R j hin]
      exact lead_one 4 R j hin (by omega)
    have hw := PBits.wr_succ j (by omega)
    have hih := ih (j + 1) (by omega)
    refine Ev.step (fun k => by rw [gaiterref01_GetDod.l0]) ?_
    simp only [if_pos c, if_pos c4, if_pos h0, if_pos he, hw]
    exact hih
theorem RGet_is (R : List Int) (hR : Bs.Bits R) (hl : R.length < 140737488355328) : Ev (fun k => gaiterref01_GetDod.f k R) (gspec R) :=
  RGet_l0 R hR hl (lead 4 R) 0 (by omega)

end Go.Proofs.Ytfpcbnkipdjlhab.PDod
