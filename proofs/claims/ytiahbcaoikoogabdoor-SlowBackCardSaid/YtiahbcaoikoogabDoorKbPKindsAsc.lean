-- declarations that this claim needs, copied by a program of the session
import Derived.Test.YtiahbcaoikoogabDoorKbAllx19
import Derived.Test.YtiahbcaoikoogabDoorKbPRising
import Derived.Test.YtiahbcaoikoogabDoorKbAllx15
section
namespace Go.Proofs.YtiahbcaoikoogabDoor.PChunk
open Go Go.RowKit Go.Proofs.YtiahbcaoikoogabDoor Go.Proofs.YtiahbcaoikoogabDoor.All Go.Proofs.YtiahbcaoikoogabDoorW.PrintWords Go.Proofs.YtiahbcaoikoogabDoorW.PrintLast Go.Proofs.YtiahbcaoikoogabDoor.PKinds Go.Proofs.YtiahbcaoikoogabDoor.PRising
set_option linter.unusedVariables false
set_option linter.unusedSimpArgs false
def enc (kind : Int) : List S48 → S8 → List Int × Int
  | [], _ => ([], 0)
  | x :: r, (n, t, d, v, e, xp, xl, xn) =>
    if (kp kind n t d v e xp xl.toNat xn.toNat x.f0 x.f1).2.2 = 0 then
      (if (enc kind r (kp kind n t d v e xp xl.toNat xn.toNat x.f0 x.f1).2.1).2 = 0 then ((kp kind n t d v e xp xl.toNat xn.toNat x.f0 x.f1).1 ++ (enc kind r (kp kind n t d v e xp xl.toNat xn.toNat x.f0 x.f1).2.1).1, 0)
       else ([], (enc kind r (kp kind n t d v e xp xl.toNat xn.toNat x.f0 x.f1).2.1).2))
    else ([], (kp kind n t d v e xp xl.toNat xn.toNat x.f0 x.f1).2.2)
theorem enc_cons (kind : Int) (x : S48) (r : List S48) (n t d v e xp : Int) (xl xn : Nat) : enc kind (x :: r) (n, t, d, v, e, xp, (xl : Int), (xn : Int)) =
    if (kp kind n t d v e xp xl xn x.f0 x.f1).2.2 = 0 then
      (if (enc kind r (kp kind n t d v e xp xl xn x.f0 x.f1).2.1).2 = 0 then ((kp kind n t d v e xp xl xn x.f0 x.f1).1 ++ (enc kind r (kp kind n t d v e xp xl xn x.f0 x.f1).2.1).1, 0)
       else ([], (enc kind r (kp kind n t d v e xp xl xn x.f0 x.f1).2.1).2))
    else ([], (kp kind n t d v e xp xl xn x.f0 x.f1).2.2) := rfl
theorem enc_bits (kind : Int) : ∀ (l : List S48) (s : S8), Bs.Bits (enc kind l s).1 := by
  intro l
  induction l with
  | nil => intro s; exact Bs.Bits.nil
  | cons x r ih =>
    intro s
    obtain ⟨n, t, d, v, e, xp, xl, xn⟩ := s
    have h1 := kp_bits kind n t d v e xp xl.toNat xn.toNat x.f0 x.f1
    have h2 := ih (kp kind n t d v e xp xl.toNat xn.toNat x.f0 x.f1).2.1
    unfold enc
    split
    · split
      · exact h1.append h2
      · exact Bs.Bits.nil
    · exact Bs.Bits.nil
def res (H : List Int) (E : List Int × Int) : List Int × Option Int := if E.2 = 0 then (Bs.pack (H ++ E.1), none) else ([], some E.2)
theorem res_nil (H : List Int) : res H ([], 0) = (Bs.pack H, none) := by
  unfold res
  rw [if_pos rfl, List.append_nil]
theorem res_cons (H b : List Int) (s : S8) (E F : List Int × Int) (h : E = if F.2 = 0 then (b ++ F.1, 0) else ([], F.2)) : res H E = res (H ++ b) F := by
  subst h
  unfold res
  by_cases c : F.2 = 0
  · rw [if_pos c, if_pos c, if_pos rfl, List.append_assoc]
  · rw [if_neg c, if_neg c, if_neg c]
theorem Encode_l0 (kind : Int) (l : List S48) (hl : ∀ x ∈ l, Rg x) (hn : l.length ≤ 65535) :
    ∀ (r i : Nat) (O P : List Int) (n t d v e xp : Int) (xl xn : Nat), i + r = l.length → Bs.Bits O → Bs.Bits P → O.length + P.length ≤ 1000 * i → Ok (i : Int) (n, t, d, v, e, xp, (xl : Int), (xn : Int)) →
      Ev (fun k => chunk_Encode.l0 k kind l (l.length : Int) (i : Int) (Bs.pack O) (O.length : Int) (Bs.pack P) (P.length : Int) n t d v e xp (xl : Int) (xn : Int)) (res (O ++ P) (enc kind (l.drop i) (n, t, d, v, e, xp, (xl : Int), (xn : Int)))) := by
  intro r
  induction r with
  | zero =>
    intro i O P n t d v e xp xl xn hi hO hP hOP hok
    have hnl : ¬ (i : Int) < (l.length : Int) := by omega
    have hj := PBits.Join_is O P hO hP (by omega)
    rw [List.drop_of_length_le (by omega)]
    show Ev _ (res (O ++ P) ([], 0))
    rw [res_nil]
    exact Ev.step (fun k => by rw [chunk_Encode.l0, if_neg hnl]) (Ev.bind hj (Ev.now _))
  | succ r ih =>
    intro i O P n t d v e xp xl xn hi hO hP hOP hok
    have hil : i < l.length := by omega
    have hlt : (i : Int) < (l.length : Int) := by omega
    have hrd := rdT l i hil
    have hr := hl l[i] (List.getElem_mem hil)
    have hdrop : l.drop i = l[i] :: l.drop (i + 1) := List.drop_eq_getElem_cons hil
    rw [hdrop]
    generalize l[i] = x at hrd hr
    obtain ⟨xl', xn', el, en, hx⟩ := hok.w
    have hx : xl + xn ≤ 64 := by
      have e1 : (xl : Int) = (xl' : Int) := el
      have e2 : (xn : Int) = (xn' : Int) := en
      omega
    have hp := hok.p0
    have hn0 : 0 ≤ n := hok.n0
    have hn1 : n ≤ (i : Int) := hok.n1
    have g1 := Put_is kind n t d v e xp xl xn x.f0 x.f1 hn0 hr.2 hp hx
    have kb := kp_bits kind n t d v e xp xl xn x.f0 x.f1
    have kl := kp_len kind n t d v e xp xl xn x.f0 x.f1 hr.2 hp hx
    have ko := kp_ok (i : Int) (by omega) kind n t d v e xp xl xn x.f0 x.f1 ⟨hn0, hn1⟩ hr.2 hp hx
    rw [enc_cons]
    generalize kp kind n t d v e xp xl xn x.f0 x.f1 = K at *
    obtain ⟨b, ⟨n', t', d', v', e', xp', al, an⟩, c⟩ := K
    by_cases c0 : c = 0
    · have ko' := ko c0
      obtain ⟨yl, yn, e1, e2, hy⟩ := ko'.w
      have e1 : al = (yl : Int) := e1
      have e2 : an = (yn : Int) := e2
      subst e1 e2 c0
      have g1 : Ev (fun k => kinds_Put.f k kind n t d v e xp (xl : Int) (xn : Int) x.f0 x.f1) (Bs.pack b, (b.length : Int), n', t', d', v', e', xp', (yl : Int), (yn : Int), none) := g1
      have kl : b.length ≤ 1000 := kl
      have hok2 : Ok ((i + 1 : Nat) : Int) (n', t', d', v', e', xp', (yl : Int), (yn : Int)) := by
        rw [show ((i + 1 : Nat) : Int) = (i : Int) + 1 from by omega]
        exact ko'
      have hPb : Bs.Bits (P ++ b) := hP.append kb
      have hl1 : (P ++ b).length = P.length + b.length := List.length_append
      have hl2 : (O ++ (P ++ b)).length = O.length + (P.length + b.length) := by rw [List.length_append, hl1]
      have hj1 := PBits.Join_is P b hP kb (by omega)
      have hj2 := PBits.Join_is O (P ++ b) hO hPb (by omega)
      rw [← List.length_append] at hj1 hj2
      have ih1 := ih (i + 1) (O ++ (P ++ b)) [] n' t' d' v' e' xp' yl yn (by omega) (hO.append hPb) Bs.Bits.nil (by rw [hl2, List.length_nil]; omega) hok2
      have ih2 := ih (i + 1) O (P ++ b) n' t' d' v' e' xp' yl yn (by omega) hO hPb (by rw [hl1]; omega) hok2
      rw [List.append_nil, Bs.pack_nil, List.length_nil] at ih1
      have wi : wrap64 ((i : Int) + 1) = ((i + 1 : Nat) : Int) := by rw [PBits.w64 _ (by omega)]; omega
      rw [res_cons (O ++ P) b (n', t', d', v', e', xp', (yl : Int), (yn : Int)) _ (enc kind (l.drop (i + 1)) (n', t', d', v', e', xp', (yl : Int), (yn : Int))) (if_pos rfl), List.append_assoc]
      refine Ev.step (fun k => by rw [chunk_Encode.l0, if_pos hlt, if_pos (Int.natCast_nonneg i), if_pos hlt, hrd, wi]) (Ev.bind g1 ?_)
      refine Ev.congr (fun k => if_pos (show (none : Option Int).isNone = true from rfl)) (Ev.bind hj1 ?_)
      by_cases c1 : ((P ++ b).length : Int) > 16384
      · exact Ev.congr (fun k => if_pos c1) (Ev.bind hj2 ih1)
      · exact Ev.congr (fun k => if_neg c1) ih2
    · have g1 : Ev (fun k => kinds_Put.f k kind n t d v e xp (xl : Int) (xn : Int) x.f0 x.f1) (Bs.pack b, (b.length : Int), n', t', d', v', e', xp', al, an, some c) := by
        have h := g1
        unfold pimp at h
        rw [if_neg c0] at h
        exact h
      have wi : wrap64 ((i : Int) + 1) = ((i + 1 : Nat) : Int) := by rw [PBits.w64 _ (by omega)]; omega
      have he : res (O ++ P) (if c = 0 then (if (enc kind (l.drop (i + 1)) (n', t', d', v', e', xp', al, an)).2 = 0 then (b ++ (enc kind (l.drop (i + 1)) (n', t', d', v', e', xp', al, an)).1, 0) else ([], (enc kind (l.drop (i + 1)) (n', t', d', v', e', xp', al, an)).2)) else ([], c)) = ([], some c) := by
        rw [if_neg c0]
        unfold res
        rw [if_neg c0]
      show Ev _ (res (O ++ P) (if c = 0 then (if (enc kind (l.drop (i + 1)) (n', t', d', v', e', xp', al, an)).2 = 0 then (b ++ (enc kind (l.drop (i + 1)) (n', t', d', v', e', xp', al, an)).1, 0) else ([], (enc kind (l.drop (i + 1)) (n', t', d', v', e', xp', al, an)).2)) else ([], c)))
      rw [he]
      refine Ev.step (fun k => by rw [chunk_Encode.l0, if_pos hlt, if_pos (Int.natCast_nonneg i), if_pos hlt, hrd, wi]) (Ev.bind g1 ?_)
      exact Ev.congr (fun k => if_neg Bool.false_ne_true) (Ev.now _)
theorem Encode_is (kind : Int) (l : List S48) (hl : ∀ x ∈ l, Rg x) (h0 : 1 ≤ l.length) (hn : l.length ≤ 65535) : Ev (fun k => chunk_Encode.f k kind l) (res [] (enc kind l z8)) := by
  unfold chunk_Encode.f
  have c1 : ¬ (l.length : Int) < 1 := by omega
  have c2 : ¬ (l.length : Int) > 65535 := by omega
  simp only [if_neg c1]
  rw [decide_eq_false c2]
  have h := Encode_l0 kind l hl hn l.length 0 [] [] 0 0 0 0 0 0 0 0 (by omega) Bs.Bits.nil Bs.Bits.nil (Nat.zero_le _) (ok_zero 0 (Int.le_refl _))
  rw [Bs.pack_nil, List.length_nil, List.append_nil, List.drop_zero] at h
  exact Ev.step (fun k => by rw [chunk_Encode.j0, if_neg Bool.false_ne_true]; rfl) h
theorem Encode_no (kind : Int) : Ev (fun k => chunk_Encode.f k kind []) ([], some 1) := by
  unfold chunk_Encode.f
  refine Ev.congr (fun k => if_pos (by decide)) ?_
  exact Ev.step (fun k => by rw [chunk_Encode.j0, if_pos rfl]) (Ev.now _)
end Go.Proofs.YtiahbcaoikoogabDoor.PChunk
end
section
namespace Go.Proofs.YtiahbcaoikoogabDoor.PSame
open Go Go.RowKit Go.Proofs.YtiahbcaoikoogabDoor Go.Proofs.YtiahbcaoikoogabDoor.All Go.Proofs.YtiahbcaoikoogabDoorW.PrintWords Go.Proofs.YtiahbcaoikoogabDoorW.PrintLast
set_option linter.unusedVariables false
set_option linter.unusedSimpArgs false
theorem Same_l0 (M : List S48) (hM : M.length ≤ 1000000) : ∀ (r i : Nat), i + r = M.length → Ev (fun k => gaiterlaw00_Same.l0 k M M (i : Int)) 1 := by
  intro r
  induction r with
  | zero =>
    intro i hi
    have hnl : ¬ (i : Int) < (M.length : Int) := by omega
    exact Ev.step (fun k => by rw [gaiterlaw00_Same.l0, if_neg hnl]) (Ev.now _)
  | succ r ih =>
    intro i hi
    have hlt : (i : Int) < (M.length : Int) := by omega
    have wi : wrap64 ((i : Int) + 1) = ((i + 1 : Nat) : Int) := by rw [PBits.w64 _ (by omega)]; omega
    refine Ev.step (fun k => by rw [gaiterlaw00_Same.l0, if_pos hlt, if_pos (Int.natCast_nonneg i), if_pos hlt, beq_self_eq_true, beq_self_eq_true, Bool.not_true, Bool.or_self, if_neg Bool.false_ne_true, wi]) (ih (i + 1) (by omega))
theorem Same_is (M : List S48) (hM : M.length ≤ 1000000) : Ev (fun k => gaiterlaw00_Same.f k M M) 1 := by
  unfold gaiterlaw00_Same.f
  refine Ev.congr (fun k => if_pos rfl) ?_
  exact Same_l0 M hM M.length 0 (by omega)
end Go.Proofs.YtiahbcaoikoogabDoor.PSame
end
section
namespace Go.Proofs.YtiahbcaoikoogabDoor.PChunk
open Go Go.RowKit Go.Proofs.YtiahbcaoikoogabDoor Go.Proofs.YtiahbcaoikoogabDoor.All Go.Proofs.YtiahbcaoikoogabDoorW.PrintWords Go.Proofs.YtiahbcaoikoogabDoorW.PrintLast Go.Proofs.YtiahbcaoikoogabDoor.PKinds Go.Proofs.YtiahbcaoikoogabDoor.PRising
set_option linter.unusedVariables false
set_option linter.unusedSimpArgs false
theorem enc_ok (kind : Int) (x : S48) (r : List S48) (n t d v e xp : Int) (xl xn : Nat) (h : (enc kind (x :: r) (n, t, d, v, e, xp, (xl : Int), (xn : Int))).2 = 0) :
    (kp kind n t d v e xp xl xn x.f0 x.f1).2.2 = 0 ∧ (enc kind r (kp kind n t d v e xp xl xn x.f0 x.f1).2.1).2 = 0 ∧
      (enc kind (x :: r) (n, t, d, v, e, xp, (xl : Int), (xn : Int))).1 = (kp kind n t d v e xp xl xn x.f0 x.f1).1 ++ (enc kind r (kp kind n t d v e xp xl xn x.f0 x.f1).2.1).1 := by
  rw [enc_cons] at h ⊢
  by_cases c1 : (kp kind n t d v e xp xl xn x.f0 x.f1).2.2 = 0
  · rw [if_pos c1] at h ⊢
    by_cases c2 : (enc kind r (kp kind n t d v e xp xl xn x.f0 x.f1).2.1).2 = 0
    · rw [if_pos c2]
      exact ⟨c1, c2, rfl⟩
    · rw [if_neg c2] at h
      exact absurd h c2
  · rw [if_neg c1] at h
    exact absurd h c1
end Go.Proofs.YtiahbcaoikoogabDoor.PChunk
end
section
namespace Go.Proofs.YtiahbcaoikoogabDoor.PSlowB
open Go Go.RowKit Go.Proofs.YtiahbcaoikoogabDoor Go.Proofs.YtiahbcaoikoogabDoor.All Go.Proofs.YtiahbcaoikoogabDoorW.PrintWords Go.Proofs.YtiahbcaoikoogabDoorW.PrintLast Go.Proofs.YtiahbcaoikoogabDoor.PKinds Go.Proofs.YtiahbcaoikoogabDoor.PRising Go.Proofs.YtiahbcaoikoogabDoor.PChunk
set_option linter.unusedVariables false
set_option linter.unusedSimpArgs false
def dec (kind : Int) : Nat → S8 → List Int → List S48 × Int × List Int
  | 0, _, R => ([], 0, R)
  | r + 1, (n, t, d, v, e, xp, xl, xn), R =>
    if (PKinds.kg kind n t d v e xp xl.toNat xn.toNat R).2.2.2.2 = 0 then
      (⟨(PKinds.kg kind n t d v e xp xl.toNat xn.toNat R).1, (PKinds.kg kind n t d v e xp xl.toNat xn.toNat R).2.1⟩ :: (dec kind r (PKinds.kg kind n t d v e xp xl.toNat xn.toNat R).2.2.1 (R.drop (PKinds.kg kind n t d v e xp xl.toNat xn.toNat R).2.2.2.1.toNat)).1,
        (dec kind r (PKinds.kg kind n t d v e xp xl.toNat xn.toNat R).2.2.1 (R.drop (PKinds.kg kind n t d v e xp xl.toNat xn.toNat R).2.2.2.1.toNat)).2)
    else ([], (PKinds.kg kind n t d v e xp xl.toNat xn.toNat R).2.2.2.2, R)
theorem dec_succ (kind : Int) (r : Nat) (n t d v e xp : Int) (xl xn : Nat) (R : List Int) : dec kind (r + 1) (n, t, d, v, e, xp, (xl : Int), (xn : Int)) R =
    if (PKinds.kg kind n t d v e xp xl xn R).2.2.2.2 = 0 then
      (⟨(PKinds.kg kind n t d v e xp xl xn R).1, (PKinds.kg kind n t d v e xp xl xn R).2.1⟩ :: (dec kind r (PKinds.kg kind n t d v e xp xl xn R).2.2.1 (R.drop (PKinds.kg kind n t d v e xp xl xn R).2.2.2.1.toNat)).1,
        (dec kind r (PKinds.kg kind n t d v e xp xl xn R).2.2.1 (R.drop (PKinds.kg kind n t d v e xp xl xn R).2.2.2.1.toNat)).2)
    else ([], (PKinds.kg kind n t d v e xp xl xn R).2.2.2.2, R) := rfl
def fc (D : List S48 × Int × List Int) : Int := if D.2.1 = 0 then (if D.2.2.length ≥ 8 then 3 else if Bs.number D.2.2 = 0 then 0 else 3) else D.2.1
def ans (out : List S48) (D : List S48 × Int × List Int) : List S48 × Option Int := (out ++ D.1, if fc D = 0 then none else some (fc D))
theorem rest_drop (L : List Int) (a : Nat) (h : a ≤ L.length) : PDod.restL L (a : Int) = L.drop a := by
  unfold PDod.restL
  rw [if_neg (by omega), Int.toNat_natCast]
theorem mn_lt (a : Int) (h : a < 8) : mn a 8 = a := by
  unfold mn
  split <;> omega
theorem slow_end (kind : Int) (b : List Int) (hb : Bs.Bytes b) (hl : b.length ≤ 1000000) (nn at_ : Nat) (out : List S48) (s : S8) (n t d v e xp xl xn : Int) (ha : at_ ≤ (Bs.flat b).length) :
    Ev (fun k => slow_Decode.l0 k kind b out (at_ : Int) (nn : Int) (nn : Int) n t d v e xp xl xn) (ans out ([], 0, (Bs.flat b).drop at_)) := by
  have hnl : ¬ (nn : Int) < (nn : Int) := by omega
  have hfl := Bs.flat_length b
  have hw8 : wrap64 (8 * (b.length : Int)) = ((Bs.flat b).length : Int) := by rw [PBits.w64 _ (by omega), hfl]; omega
  have hd := List.length_drop (l := Bs.flat b) (i := at_)
  have hwr : wrap64 (((Bs.flat b).length : Int) - (at_ : Int)) = (((Bs.flat b).drop at_).length : Int) := by rw [PBits.w64 _ (by omega), hd]; omega
  have g1 := PBits.Take_is b hb (by omega) (at_ : Int)
  unfold ans fc
  rw [List.append_nil, if_pos rfl]
  by_cases c1 : ((Bs.flat b).drop at_).length ≥ 8
  · have c1' : (((Bs.flat b).drop at_).length : Int) ≥ 8 := by omega
    rw [if_pos c1]
    refine Ev.step (fun k => by rw [slow_Decode.l0, if_neg hnl, hw8, hwr]) (Ev.bind (g1 _) ?_)
    exact Ev.congr (fun k => if_pos c1') (Ev.now _)
  · have c1' : ¬ (((Bs.flat b).drop at_).length : Int) ≥ 8 := by omega
    have g1 := g1 (((Bs.flat b).drop at_).length : Int)
    rw [PBits.tk_yes (by omega), Int.toNat_natCast, Int.toNat_natCast, List.take_of_length_le (Nat.le_refl _)] at g1
    have hmn := mn_lt (((Bs.flat b).drop at_).length : Int) (by omega)
    rw [if_neg c1]
    by_cases c2 : Bs.number ((Bs.flat b).drop at_) = 0
    · have e : (out, if (if Bs.number ((Bs.flat b).drop at_) = 0 then (0 : Int) else 3) = 0 then none else some (if Bs.number ((Bs.flat b).drop at_) = 0 then (0 : Int) else 3)) = (out, none) := by rw [if_pos c2, if_pos rfl]
      show Ev _ (out, if (if Bs.number ((Bs.flat b).drop at_) = 0 then (0 : Int) else 3) = 0 then none else some (if Bs.number ((Bs.flat b).drop at_) = 0 then (0 : Int) else 3))
      rw [e]
      refine Ev.step (fun k => by rw [slow_Decode.l0, if_neg hnl, hw8, hwr, hmn]) (Ev.bind g1 ?_)
      exact Ev.congr (fun k => by rw [if_neg c1', if_pos rfl, if_pos c2]) (Ev.now (out, none))
    · have e : (out, if (if Bs.number ((Bs.flat b).drop at_) = 0 then (0 : Int) else 3) = 0 then none else some (if Bs.number ((Bs.flat b).drop at_) = 0 then (0 : Int) else 3)) = (out, some 3) := by rw [if_neg c2]; rfl
      show Ev _ (out, if (if Bs.number ((Bs.flat b).drop at_) = 0 then (0 : Int) else 3) = 0 then none else some (if Bs.number ((Bs.flat b).drop at_) = 0 then (0 : Int) else 3))
      rw [e]
      refine Ev.step (fun k => by rw [slow_Decode.l0, if_neg hnl, hw8, hwr, hmn]) (Ev.bind g1 ?_)
      exact Ev.congr (fun k => by rw [if_neg c1', if_pos rfl, if_neg c2]) (Ev.now (out, some 3))
theorem ans_cons (out : List S48) (x : S48) (D : List S48 × Int × List Int) : ans out (x :: D.1, D.2) = ans (out ++ [x]) D := by
  unfold ans fc
  rw [List.append_assoc]
  rfl
theorem slow_l0 (kind : Int) (b : List Int) (hb : Bs.Bytes b) (hl : b.length ≤ 1000000) (nn : Nat) (hnn : nn ≤ 65535) :
    ∀ (r j at_ : Nat) (out : List S48) (n t d v e xp : Int) (xl xn : Nat), j + r = nn → out.length = j → at_ ≤ (Bs.flat b).length → Ok (j : Int) (n, t, d, v, e, xp, (xl : Int), (xn : Int)) →
      Ev (fun k => slow_Decode.l0 k kind b out (at_ : Int) (nn : Int) (j : Int) n t d v e xp (xl : Int) (xn : Int)) (ans out (dec kind r (n, t, d, v, e, xp, (xl : Int), (xn : Int)) ((Bs.flat b).drop at_))) := by
  intro r
  induction r with
  | zero =>
    intro j at_ out n t d v e xp xl xn hj ho ha hok
    obtain rfl : j = nn := by omega
    exact slow_end kind b hb hl j at_ out z8 n t d v e xp (xl : Int) (xn : Int) ha
  | succ r ih =>
    intro j at_ out n t d v e xp xl xn hj ho ha hok
    have hlt : (j : Int) < (nn : Int) := by omega
    obtain ⟨xl', xn', el, en, hx⟩ := hok.w
    have hx : xl + xn ≤ 64 := by
      have e1 : (xl : Int) = (xl' : Int) := el
      have e2 : (xn : Int) = (xn' : Int) := en
      omega
    have hp := hok.p0
    have hn0 : 0 ≤ n := hok.n0
    have hn1 : n ≤ (j : Int) := hok.n1
    have hfl := Bs.flat_length b
    have hd := List.length_drop (l := Bs.flat b) (i := at_)
    have g1 := PKinds.Get_is kind n t d v e xp xl xn hn0 hp hx b hb (by omega) (at_ : Int) (by omega)
    rw [rest_drop _ _ ha] at g1
    have hRb := (Bs.flat_bits b).drop at_
    have ko := kg_ok (j : Int) (by omega) kind n t d v e xp xl xn ⟨hn0, hn1⟩ hp hx _ hRb (by omega)
    rw [dec_succ]
    generalize PKinds.kg kind n t d v e xp xl xn ((Bs.flat b).drop at_) = K at *
    obtain ⟨T, V, ⟨n', t', d', v', e', xp', al, an⟩, len, c⟩ := K
    have ho8 : out.length < 8796093022208 := by omega
    by_cases c0 : c = 0
    · obtain ⟨ko', m, hm1, hm2, hm3⟩ := ko c0
      have hm1 : len = (m : Int) := hm1
      subst hm1
      obtain ⟨yl, yn, e1, e2, hy⟩ := ko'.w
      have e1 : al = (yl : Int) := e1
      have e2 : an = (yn : Int) := e2
      subst e1 e2 c0
      have g1 : Ev (fun k => kinds_Get.f k kind n t d v e xp (xl : Int) (xn : Int) b (at_ : Int)) (T, V, n', t', d', v', e', xp', (yl : Int), (yn : Int), (m : Int), none) := g1
      have hok2 : Ok ((j + 1 : Nat) : Int) (n', t', d', v', e', xp', (yl : Int), (yn : Int)) := by
        rw [show ((j + 1 : Nat) : Int) = (j : Int) + 1 from by omega]
        exact ko'
      have l1 : (out ++ [(⟨T, V⟩ : S48)]).length = j + 1 := by rw [List.length_append, List.length_singleton, ho]
      have l2 : at_ + m ≤ (Bs.flat b).length := by
        have hm2 : m ≤ ((Bs.flat b).drop at_).length := hm2
        omega
      have l3 : j + 1 + r = nn := by omega
      have wj : wrap64 ((j : Int) + 1) = ((j + 1 : Nat) : Int) := by rw [PBits.w64 _ (by omega)]; omega
      have wa : wrap64 ((at_ : Int) + (m : Int)) = ((at_ + m : Nat) : Int) := by rw [PBits.w64 _ (by omega)]; omega
      have h1 := ih (j + 1) (at_ + m) (out ++ [⟨T, V⟩]) n' t' d' v' e' xp' yl yn l3 l1 l2 hok2
      rw [← List.drop_drop] at h1
      show Ev _ (ans out (⟨T, V⟩ :: (dec kind r (n', t', d', v', e', xp', (yl : Int), (yn : Int)) (((Bs.flat b).drop at_).drop (m : Int).toNat)).1, (dec kind r (n', t', d', v', e', xp', (yl : Int), (yn : Int)) (((Bs.flat b).drop at_).drop (m : Int).toNat)).2))
      rw [ans_cons, Int.toNat_natCast]
      refine Ev.step (fun k => by rw [slow_Decode.l0, if_pos hlt]) (Ev.bind g1 ?_)
      refine Ev.congr (fun k => by rw [if_pos (show (none : Option Int).isNone = true from rfl), if_pos ho8, wa, wj]) h1
    · have g1 : Ev (fun k => kinds_Get.f k kind n t d v e xp (xl : Int) (xn : Int) b (at_ : Int)) (T, V, n', t', d', v', e', xp', al, an, len, some c) := by
        have h := g1
        unfold gimp8 at h
        rw [if_neg c0] at h
        exact h
      have he : ∀ D : List S48 × Int × List Int, ans out (if c = 0 then (⟨T, V⟩ :: D.1, D.2) else ([], c, (Bs.flat b).drop at_)) = (out, some c) := by
        intro D
        rw [if_neg c0]
        unfold ans fc
        rw [if_neg c0, if_neg c0, List.append_nil]
      show Ev _ (ans out (if c = 0 then (⟨T, V⟩ :: (dec kind r (n', t', d', v', e', xp', al, an) (((Bs.flat b).drop at_).drop len.toNat)).1, (dec kind r (n', t', d', v', e', xp', al, an) (((Bs.flat b).drop at_).drop len.toNat)).2) else ([], c, (Bs.flat b).drop at_)))
      rw [he]
      refine Ev.step (fun k => by rw [slow_Decode.l0, if_pos hlt]) (Ev.bind g1 ?_)
      exact Ev.congr (fun k => if_neg Bool.false_ne_true) (Ev.now (out, some c))
theorem Decode_is (kind : Int) (b : List Int) (hb : Bs.Bytes b) (hl : b.length ≤ 1000000) (nn : Nat) (h1 : 1 ≤ nn) (h2 : nn ≤ 65535) : Ev (fun k => slow_Decode.f k kind b (nn : Int)) (ans [] (dec kind nn z8 (Bs.flat b))) := by
  unfold slow_Decode.f
  have c1 : ¬ (nn : Int) < 1 := by omega
  have c2 : ¬ (nn : Int) > 65535 := by omega
  simp only [if_neg c1]
  rw [decide_eq_false c2]
  have h := slow_l0 kind b hb hl nn h2 nn 0 0 [] 0 0 0 0 0 0 0 0 (by omega) rfl (Nat.zero_le _) (ok_zero 0 (Int.le_refl _))
  rw [List.drop_zero] at h
  exact Ev.step (fun k => by rw [slow_Decode.j0, if_neg Bool.false_ne_true]; rfl) h
theorem Decode_no (kind : Int) (b : List Int) (n : Int) (h : n < 1 ∨ n > 65535) : Ev (fun k => slow_Decode.f k kind b n) ([], some 1) := by
  have hno : ∀ x, x = true → Ev (fun k => slow_Decode.j0 k kind b n x) (([] : List S48), some 1) := by
    intro x hx
    subst hx
    exact Ev.step (fun k => by rw [slow_Decode.j0, if_pos rfl]) (Ev.now _)
  unfold slow_Decode.f
  by_cases c1 : n < 1
  · simp only [if_pos c1]
    exact hno _ rfl
  · simp only [if_neg c1]
    exact hno _ (decide_eq_true (h.resolve_left c1))
theorem dec_enc (kind : Int) : ∀ (l : List S48) (i : Nat) (n t d v e xp : Int) (xl xn : Nat) (S : List Int), (∀ x ∈ l, Rg x) → i + l.length ≤ 65535 → Ok (i : Int) (n, t, d, v, e, xp, (xl : Int), (xn : Int)) →
    (enc kind l (n, t, d, v, e, xp, (xl : Int), (xn : Int))).2 = 0 → dec kind l.length (n, t, d, v, e, xp, (xl : Int), (xn : Int)) ((enc kind l (n, t, d, v, e, xp, (xl : Int), (xn : Int))).1 ++ S) = (l, 0, S) := by
  intro l
  induction l with
  | nil => intro i n t d v e xp xl xn S hl hi hok h1; rfl
  | cons x r ih =>
    intro i n t d v e xp xl xn S hl hi hok h1
    have hi1 : i + 1 + r.length ≤ 65535 := by rw [List.length_cons] at hi; omega
    obtain ⟨xl', xn', el, en, hx⟩ := hok.w
    have hx : xl + xn ≤ 64 := by
      have e1 : (xl : Int) = (xl' : Int) := el
      have e2 : (xn : Int) = (xn' : Int) := en
      omega
    have hp := hok.p0
    have hn0 : 0 ≤ n := hok.n0
    have hn1 : n ≤ (i : Int) := hok.n1
    have hrx := hl x (by simp)
    obtain ⟨a1, a2, a3⟩ := enc_ok kind x r n t d v e xp xl xn h1
    have ka := fun S => (kg_own kind n t d v e xp xl xn x.f0 x.f1 hn0 hrx.1 hrx.2 hp hx a1 S).1
    have ko := kp_ok (i : Int) (by omega) kind n t d v e xp xl xn x.f0 x.f1 ⟨hn0, hn1⟩ hrx.2 hp hx a1
    rw [a3]
    generalize kp kind n t d v e xp xl xn x.f0 x.f1 = K at *
    obtain ⟨b, ⟨n', t', d', v', e', xp', al, an⟩, c⟩ := K
    obtain ⟨yl, yn, e1, e2, hy⟩ := ko.w
    have e1 : al = (yl : Int) := e1
    have e2 : an = (yn : Int) := e2
    subst e1 e2
    have hok2 : Ok ((i + 1 : Nat) : Int) (n', t', d', v', e', xp', (yl : Int), (yn : Int)) := by
      rw [show ((i + 1 : Nat) : Int) = (i : Int) + 1 from by omega]
      exact ko
    have h := ih (i + 1) n' t' d' v' e' xp' yl yn S (fun z hz => hl z (by simp [hz])) hi1 hok2 a2
    show dec kind (r.length + 1) (n, t, d, v, e, xp, (xl : Int), (xn : Int)) (b ++ (enc kind r (n', t', d', v', e', xp', (yl : Int), (yn : Int))).1 ++ S) = _
    rw [List.append_assoc, dec_succ, ka, if_pos rfl]
    show (⟨x.f0, x.f1⟩ :: (dec kind r.length (n', t', d', v', e', xp', (yl : Int), (yn : Int)) ((b ++ ((enc kind r (n', t', d', v', e', xp', (yl : Int), (yn : Int))).1 ++ S)).drop (b.length : Int).toNat)).1, (dec kind r.length (n', t', d', v', e', xp', (yl : Int), (yn : Int)) ((b ++ ((enc kind r (n', t', d', v', e', xp', (yl : Int), (yn : Int))).1 ++ S)).drop (b.length : Int).toNat)).2) = _
    rw [Int.toNat_natCast, List.drop_left, h]
theorem enc_dec (kind : Int) : ∀ (r i : Nat) (n t d v e xp : Int) (xl xn : Nat) (R : List Int), Bs.Bits R → R.length < 70368744177664 → i + r ≤ 65535 → Ok (i : Int) (n, t, d, v, e, xp, (xl : Int), (xn : Int)) →
    (dec kind r (n, t, d, v, e, xp, (xl : Int), (xn : Int)) R).2.1 = 0 →
    (enc kind (dec kind r (n, t, d, v, e, xp, (xl : Int), (xn : Int)) R).1 (n, t, d, v, e, xp, (xl : Int), (xn : Int))).2 = 0 ∧
    (enc kind (dec kind r (n, t, d, v, e, xp, (xl : Int), (xn : Int)) R).1 (n, t, d, v, e, xp, (xl : Int), (xn : Int))).1 ++ (dec kind r (n, t, d, v, e, xp, (xl : Int), (xn : Int)) R).2.2 = R ∧
    (dec kind r (n, t, d, v, e, xp, (xl : Int), (xn : Int)) R).1.length = r ∧ ∀ x ∈ (dec kind r (n, t, d, v, e, xp, (xl : Int), (xn : Int)) R).1, Rg x := by
  intro r
  induction r with
  | zero => intro i n t d v e xp xl xn R hR hl hi hok h; exact ⟨rfl, rfl, rfl, fun x hx => by simp [dec] at hx⟩
  | succ r ih =>
    intro i n t d v e xp xl xn R hR hl hi hok h
    obtain ⟨xl', xn', el, en, hx⟩ := hok.w
    have hx : xl + xn ≤ 64 := by
      have e1 : (xl : Int) = (xl' : Int) := el
      have e2 : (xn : Int) = (xn' : Int) := en
      omega
    have hp := hok.p0
    have hn0 : 0 ≤ n := hok.n0
    have hn1 : n ≤ (i : Int) := hok.n1
    rw [dec_succ] at h ⊢
    by_cases c0 : (PKinds.kg kind n t d v e xp xl xn R).2.2.2.2 = 0
    · obtain ⟨T, V, s, m, q1, q2, q3, q4, q5⟩ := kg_canon kind n t d v e xp xl xn hn0 hp hx R hR hl c0
      obtain ⟨ko, _⟩ := kg_ok (i : Int) (by omega) kind n t d v e xp xl xn ⟨hn0, hn1⟩ hp hx R hR hl c0
      rw [if_pos c0] at h ⊢
      rw [q1] at h ko ⊢
      obtain ⟨n', t', d', v', e', xp', al, an⟩ := s
      obtain ⟨yl, yn, e1, e2, hy⟩ := ko.w
      have e1 : al = (yl : Int) := e1
      have e2 : an = (yn : Int) := e2
      subst e1 e2
      have hok2 : Ok ((i + 1 : Nat) : Int) (n', t', d', v', e', xp', (yl : Int), (yn : Int)) := by
        rw [show ((i + 1 : Nat) : Int) = (i : Int) + 1 from by omega]
        exact ko
      have hdl := List.length_drop (l := R) (i := m)
      have h' : (dec kind r (n', t', d', v', e', xp', (yl : Int), (yn : Int)) (R.drop m)).2.1 = 0 := h
      obtain ⟨p1, p2, p3, p4⟩ := ih (i + 1) n' t' d' v' e' xp' yl yn (R.drop m) (hR.drop m) (by omega) (by omega) hok2 h'
      generalize hD : dec kind r (n', t', d', v', e', xp', (yl : Int), (yn : Int)) (R.drop m) = D at *
      have hE : (enc kind (⟨T, V⟩ :: D.1) (n, t, d, v, e, xp, (xl : Int), (xn : Int))) = (R.take m ++ (enc kind D.1 (n', t', d', v', e', xp', (yl : Int), (yn : Int))).1, 0) := by
        rw [enc_cons]
        show (if (kp kind n t d v e xp xl xn T V).2.2 = 0 then (if (enc kind D.1 (kp kind n t d v e xp xl xn T V).2.1).2 = 0 then ((kp kind n t d v e xp xl xn T V).1 ++ (enc kind D.1 (kp kind n t d v e xp xl xn T V).2.1).1, 0) else ([], (enc kind D.1 (kp kind n t d v e xp xl xn T V).2.1).2)) else ([], (kp kind n t d v e xp xl xn T V).2.2)) = _
        rw [q3, if_pos rfl, if_pos p1]
      have hg : (⟨T, V⟩ :: (dec kind r (n', t', d', v', e', xp', (yl : Int), (yn : Int)) (R.drop (m : Int).toNat)).1, (dec kind r (n', t', d', v', e', xp', (yl : Int), (yn : Int)) (R.drop (m : Int).toNat)).2) = ((⟨T, V⟩ :: D.1, D.2) : List S48 × Int × List Int) := by
        rw [Int.toNat_natCast, hD]
      show (enc kind (⟨T, V⟩ :: (dec kind r (n', t', d', v', e', xp', (yl : Int), (yn : Int)) (R.drop (m : Int).toNat)).1, (dec kind r (n', t', d', v', e', xp', (yl : Int), (yn : Int)) (R.drop (m : Int).toNat)).2).1 (n, t, d, v, e, xp, (xl : Int), (xn : Int))).2 = 0 ∧
        (enc kind (⟨T, V⟩ :: (dec kind r (n', t', d', v', e', xp', (yl : Int), (yn : Int)) (R.drop (m : Int).toNat)).1, (dec kind r (n', t', d', v', e', xp', (yl : Int), (yn : Int)) (R.drop (m : Int).toNat)).2).1 (n, t, d, v, e, xp, (xl : Int), (xn : Int))).1 ++ (⟨T, V⟩ :: (dec kind r (n', t', d', v', e', xp', (yl : Int), (yn : Int)) (R.drop (m : Int).toNat)).1, (dec kind r (n', t', d', v', e', xp', (yl : Int), (yn : Int)) (R.drop (m : Int).toNat)).2).2.2 = R ∧
        (⟨T, V⟩ :: (dec kind r (n', t', d', v', e', xp', (yl : Int), (yn : Int)) (R.drop (m : Int).toNat)).1, (dec kind r (n', t', d', v', e', xp', (yl : Int), (yn : Int)) (R.drop (m : Int).toNat)).2).1.length = r + 1 ∧ ∀ x ∈ (⟨T, V⟩ :: (dec kind r (n', t', d', v', e', xp', (yl : Int), (yn : Int)) (R.drop (m : Int).toNat)).1, (dec kind r (n', t', d', v', e', xp', (yl : Int), (yn : Int)) (R.drop (m : Int).toNat)).2).1, Rg x
      rw [hg]
      refine ⟨?_, ?_, ?_, ?_⟩
      · rw [hE]
      · rw [hE]
        show R.take m ++ (enc kind D.1 (n', t', d', v', e', xp', (yl : Int), (yn : Int))).1 ++ D.2.2 = R
        rw [List.append_assoc, p2, List.take_append_drop]
      · show (⟨T, V⟩ :: D.1).length = r + 1
        rw [List.length_cons, p3]
      · intro x hx
        rcases List.mem_cons.mp hx with hx | hx
        · rw [hx]
          exact ⟨q4, q5⟩
        · exact p4 x hx
    · rw [if_neg c0] at h
      exact absurd h c0
end Go.Proofs.YtiahbcaoikoogabDoor.PSlowB
end
section
namespace Go.Proofs.YtiahbcaoikoogabDoor.PKinds
open Go Go.RowKit Go.Proofs.YtiahbcaoikoogabDoor Go.Proofs.YtiahbcaoikoogabDoor.All Go.Proofs.YtiahbcaoikoogabDoorW.PrintWords Go.Proofs.YtiahbcaoikoogabDoorW.PrintLast Go.Proofs.YtiahbcaoikoogabDoor.PRising
set_option linter.unusedVariables false
set_option linter.unusedSimpArgs false
structure Sb (M : List S48) (i : Nat) (n t xp : Int) (xl xn : Nat) : Prop where
  num : n = (i : Int)
  tim : ∀ (j : Nat) (h : j < M.length), j + 1 = i → t = M[j].f0
  prv : 0 ≤ xp ∧ xp < 18446744073709551616
  win : xl + xn ≤ 64
theorem kstep (kind : Int) (hk : kind = 1 ∨ kind = 2) (M : List S48) (hM : Asc M) (hM60 : M.length ≤ 65535) (i : Nat) (hi : i < M.length) (n t d v e xp : Int) (xl xn : Nat) (s : Sb M i n t xp xl xn) :
    ∃ (b : List Int) (n' t' d' v' e' xp' : Int) (yl yn : Nat), kp kind n t d v e xp xl xn M[i].f0 M[i].f1 = (b, (n', t', d', v', e', xp', (yl : Int), (yn : Int)), 0) ∧ Bs.Bits b ∧ b.length ≤ 1000 ∧ 2 ≤ b.length ∧
      (∀ S, PKinds.kg kind n t d v e xp xl xn (b ++ S) = (M[i].f0, M[i].f1, (n', t', d', v', e', xp', (yl : Int), (yn : Int)), (b.length : Int), 0)) ∧ Sb M (i + 1) n' t' xp' yl yn := by
  have hr := hM.rng M[i] (List.getElem_mem hi)
  have hn := s.num
  have hn0 : 0 ≤ n := by omega
  have ht : n = 0 ∨ ¬ M[i].f0 ≤ t := by
    by_cases c : i = 0
    · exact .inl (by omega)
    · have e1 := s.tim (i - 1) (by omega) (by omega)
      have e2 := hM.inc (i - 1) i (by omega) hi (by omega)
      rw [← e1] at e2
      exact .inr (by omega)
  have k1 := kp_step kind n t d v e xp xl xn M[i].f0 M[i].f1 hk ht
  have k2 := kp_bits kind n t d v e xp xl xn M[i].f0 M[i].f1
  have k3 := kp_len kind n t d v e xp xl xn M[i].f0 M[i].f1 hr.2 s.prv s.win
  have k4 := kg_own kind n t d v e xp xl xn M[i].f0 M[i].f1 hn0 hr.1 hr.2 s.prv s.win k1.1
  have k5 := kp_ok (i : Int) (by omega) kind n t d v e xp xl xn M[i].f0 M[i].f1 ⟨hn0, by omega⟩ hr.2 s.prv s.win k1.1
  generalize kp kind n t d v e xp xl xn M[i].f0 M[i].f1 = K at *
  obtain ⟨b, ⟨n', t', d', v', e', xp', al, an⟩, c⟩ := K
  obtain ⟨yl, yn, e1, e2, hy⟩ := k5.w
  have e1 : al = (yl : Int) := e1
  have e2 : an = (yn : Int) := e2
  subst e1 e2
  have kc : c = 0 := k1.1
  have kn : n' = wrap64 (n + 1) := k1.2.1
  have kt : t' = M[i].f0 := k1.2.2
  subst kc
  have wn : wrap64 (n + 1) = n + 1 := PBits.w64 _ (by omega)
  refine ⟨b, n', t', d', v', e', xp', yl, yn, rfl, k2, k3, (k4 []).2, fun S => (k4 S).1, ?_, ?_, k5.p0, hy⟩
  · rw [kn, wn, hn]; omega
  · intro j hj he
    obtain rfl : j = i := by omega
    exact kt
end Go.Proofs.YtiahbcaoikoogabDoor.PKinds
end
