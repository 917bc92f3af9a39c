-- copied by a program of the session
import Derived.Test.YtiahbcaoikoogabDoorKqAllx12
import Derived.Test.YtiahbcaoikoogabDoorKqM4
section
namespace Go.Proofs.YtiahbcaoikoogabDoor.All
open Go.RowKit Go.Proofs.YtiahbcaoikoogabDoorW.PrintWords Go.Proofs.YtiahbcaoikoogabDoorW.PrintLast Go.Proofs.YtiahbcaoikoogabDoorW.PrintMore
attribute [local go_sem] A2i A2j A2v A2w A14 A15 A2k A2l
set_option linter.unusedVariables false
set_option linter.unusedSimpArgs false
def kinds_Put.f (k : Nat) (a0 : Int) (aj : Int) (ai : Int) (al : Int) (am : Int) (an : Int) (ao : Int) (ap : Int) (aq : Int) (ag : Int) (ah : Int) : Option (List Int × Int × Int × Int × Int × Int × Int × Int × Int × Int × Option Int) := (kinds_known.f a0).bind fun ay => (if ay = true then (if aj = 0 then ((A0z.f k ([] : List Int) 0 (IntKind.u64.wrap (ag)) 64).bind fun ar => ((A0z.f k ar.1 ar.2 ah 64).bind fun au => ((A0t.f k a0 aj ai al am an ao ap aq ag ah 0 0 0).bind fun aa => (some (au.1, au.2, aa.1, aa.2.1, aa.2.2.1, aa.2.2.2.1, aa.2.2.2.2.1, aa.2.2.2.2.2.1, aa.2.2.2.2.2.2.1, aa.2.2.2.2.2.2.2, none))))) else (if ag ≤ ai then (some (([] : List Int), 0, 0, 0, 0, 0, 0, 0, 0, 0, some 4)) else ((A3c.f k (wrap64 ((wrap64 (ag - ai)) - al))).bind fun af => (if a0 = 2 then ((A3c.f k (wrap64 (IntKind.u64.wrap ((IntKind.u64.wrap (ah - am)) - an)))).bind fun av => ((A3z.f k af.1 af.2 av.1 av.2).bind fun aw => ((A0t.f k a0 aj ai al am an ao ap aq ag ah 0 0 0).bind fun ac => (some (aw.1, aw.2, ac.1, ac.2.1, ac.2.2.1, ac.2.2.2.1, ac.2.2.2.2.1, ac.2.2.2.2.2.1, ac.2.2.2.2.2.2.1, ac.2.2.2.2.2.2.2, none))))) else ((A1l.f k ao ap aq ah).bind fun ae => ((A3z.f k af.1 af.2 ae.1 ae.2.1).bind fun ax => ((A0t.f k a0 aj ai al am an ao ap aq ag ah ae.2.2.1 ae.2.2.2.1 ae.2.2.2.2).bind fun ad => (some (ax.1, ax.2, ad.1, ad.2.1, ad.2.2.1, ad.2.2.2.1, ad.2.2.2.2.1, ad.2.2.2.2.2.1, ad.2.2.2.2.2.2.1, ad.2.2.2.2.2.2.2, none))))))))) else (some (([] : List Int), 0, 0, 0, 0, 0, 0, 0, 0, 0, some 6)))
end Go.Proofs.YtiahbcaoikoogabDoor.All
end
section
namespace Go.Proofs.YtiahbcaoikoogabDoor.All
open Go.RowKit Go.Proofs.YtiahbcaoikoogabDoorW.PrintWords Go.Proofs.YtiahbcaoikoogabDoorW.PrintLast Go.Proofs.YtiahbcaoikoogabDoorW.PrintMore
attribute [local go_sem] A2i A2j A2v A2w A14 A15 A2k A2l
set_option linter.unusedVariables false
set_option linter.unusedSimpArgs false
mutual
def A2m.j0 : Nat → Int → List Int → Int → Bool → Option ((List (S48)) × Option Int)
 | 0, _, _, _, _ => none
 | k + 1, x0, x1, x2, aa => if aa = true then (some (([] : List (S48)), some 1)) else (A2m.l0 k x0 x1 ([] : List (S48)) 0 x2 0 0 0 0 0 0 0 0 0)
def A2m.l0 : Nat → Int → List Int → List (S48) → Int → Int → Int → Int → Int → Int → Int → Int → Int → Int → Int → Option ((List (S48)) × Option Int)
 | 0, _, _, _, _, _, _, _, _, _, _, _, _, _, _ => none
 | k + 1, x0, x1, x8, am, an, ao, ac, ad, ae, af, ag, ah, ai, aj => if ao < an then ((A3m.f k x0 ac ad ae af ag ah ai aj x1 am).bind fun aa => (if aa.2.2.2.2.2.2.2.2.2.2.2.isNone = true then (if x8.length < 8796093022208 then (A2m.l0 k x0 x1 (x8 ++ [(⟨aa.1, aa.2.1⟩ : S48)]) (wrap64 (am + aa.2.2.2.2.2.2.2.2.2.2.1)) an (wrap64 (ao + 1)) aa.2.2.1 aa.2.2.2.1 aa.2.2.2.2.1 aa.2.2.2.2.2.1 aa.2.2.2.2.2.2.1 aa.2.2.2.2.2.2.2.1 aa.2.2.2.2.2.2.2.2.1 aa.2.2.2.2.2.2.2.2.2.1) else (none)) else (some (x8, some (aa.2.2.2.2.2.2.2.2.2.2.2.getD 0))))) else ((A2f.f k x1 am (mn (wrap64 ((wrap64 (8 * (x1.length : Int))) - am)) 8)).bind fun al => (if (wrap64 ((wrap64 (8 * (x1.length : Int))) - am)) ≥ 8 then (some (x8, some 3)) else (if al.2 = true then (if al.1 = 0 then (some (x8, none)) else (some (x8, some 3))) else (some (x8, some 3)))))
end
def A2m.f (k : Nat) (a0 : Int) (l1 : List Int) (a2 : Int) : Option ((List (S48)) × Option Int) := if a2 < 1 then (A2m.j0 k a0 l1 a2 true) else (A2m.j0 k a0 l1 a2 (decide (a2 > 65535)))
end Go.Proofs.YtiahbcaoikoogabDoor.All
end
