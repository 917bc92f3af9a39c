-- copied by a program of the session
import Derived.Test.YtodocfjbpkicgaaDoorKuAllx12
import Derived.Test.YtodocfjbpkicgaaDoorKuAllx10
import Derived.Test.YtodocfjbpkicgaaDoorKuM4
section
namespace Go.Proofs.YtodocfjbpkicgaaDoor.All
open Go.RowKit Go.Proofs.YtodocfjbpkicgaaDoorW.PrintWords Go.Proofs.YtodocfjbpkicgaaDoorW.PrintLast Go.Proofs.YtodocfjbpkicgaaDoorW.PrintMore
attribute [local go_sem] A2g A2h A2v A2w A15 A16 A2i A2j
set_option linter.unusedVariables false
set_option linter.unusedSimpArgs false
mutual
def A2t.j0 : Nat → List Int → Int → Bool → Int → Int → Int → Option (Int × Int × Int × Int × Int × Option Int)
 | 0, _, _, _, _, _, _ => none
 | k + 1, x1, x2, am, ai, ac, ad => if am = true then ((xor_Get_1.f 2).bind fun af => (some (af.1, af.2.1, af.2.2.1, af.2.2.2.1, af.2.2.2.2.1, af.2.2.2.2.2))) else ((A27.f k x1 x2 true 1).bind fun ae => (if ae.1 = 1 then ((A27.f k ae.2.1 ae.2.2.1 ae.2.2.2 1).bind fun aa => (if aa.2.2.2 = true then (if aa.1 = 1 then ((A27.f k aa.2.1 aa.2.2.1 aa.2.2.2 6).bind fun al => ((A27.f k al.2.1 al.2.2.1 al.2.2.2 6).bind fun aj => (if aj.2.2.2 = true then (A2t.j1 k x1 x2 (wrap64 (al.1)) (wrap64 ((wrap64 (aj.1)) + 1)) (aa.1 == 1) ai ac ad aj.2.1 aj.2.2.1 aj.2.2.2) else ((xor_Get_1.f 2).bind fun ag => (some (ag.1, ag.2.1, ag.2.2.1, ag.2.2.2.1, ag.2.2.2.2.1, ag.2.2.2.2.2)))))) else (A2t.j1 k x1 x2 ac ad (aa.1 == 1) ai ac ad aa.2.1 aa.2.2.1 aa.2.2.2)) else ((xor_Get_1.f 2).bind fun ah => (some (ah.1, ah.2.1, ah.2.2.1, ah.2.2.2.1, ah.2.2.2.2.1, ah.2.2.2.2.2))))) else (A2t.j3 k x1 x2 0 ai ac ad ae.2.1 ae.2.2.1 ae.2.2.2)))
def A2t.j3 : Nat → List Int → Int → Int → Int → Int → Int → List Int → Int → Bool → Option (Int × Int × Int × Int × Int × Option Int)
 | 0, _, _, _, _, _, _, _, _, _ => none
 | k + 1, x1, x2, ao, af, ag, ah, an, ai, aj => if aj = true then ((A1l.f k af ag ah (Go.bits .xor .u64 af ao)).bind fun aa => ((A2d.f k x1 x2 (mn aa.2.1 64)).bind fun al => ((A2d.f k aa.1 0 (mn aa.2.1 64)).bind fun am => (if aa.2.1 = (wrap64 (ai - x2)) then (if al.1 = am.1 then (some (Go.bits .xor .u64 af ao, aa.2.2.1, aa.2.2.2.1, aa.2.2.2.2, aa.2.1, none)) else ((xor_Get_1.f 3).bind fun ac => (some (ac.1, ac.2.1, ac.2.2.1, ac.2.2.2.1, ac.2.2.2.2.1, ac.2.2.2.2.2)))) else ((xor_Get_1.f 3).bind fun ad => (some (ad.1, ad.2.1, ad.2.2.1, ad.2.2.2.1, ad.2.2.2.2.1, ad.2.2.2.2.2))))))) else ((xor_Get_1.f 2).bind fun ae => (some (ae.1, ae.2.1, ae.2.2.1, ae.2.2.2.1, ae.2.2.2.2.1, ae.2.2.2.2.2)))
def A2t.j1 : Nat → List Int → Int → Int → Int → Bool → Int → Int → Int → List Int → Int → Bool → Option (Int × Int × Int × Int × Int × Option Int)
 | 0, _, _, _, _, _, _, _, _, _, _, _ => none
 | k + 1, x1, x2, ai, ah, aj, aa, ac, ad, ae, af, ag => if ah = 0 then (A2t.j2 k x1 x2 ai ah true aa ac ad ae af ag) else (A2t.j2 k x1 x2 ai ah (decide ((wrap64 (ai + ah)) > 64)) aa ac ad ae af ag)
def A2t.j2 : Nat → List Int → Int → Int → Int → Bool → Int → Int → Int → List Int → Int → Bool → Option (Int × Int × Int × Int × Int × Option Int)
 | 0, _, _, _, _, _, _, _, _, _, _, _ => none
 | k + 1, x1, x2, al, aj, am, ad, ae, af, ag, ah, ai => if am = true then ((xor_Get_1.f 3).bind fun aa => (some (aa.1, aa.2.1, aa.2.2.1, aa.2.2.2.1, aa.2.2.2.2.1, aa.2.2.2.2.2))) else ((A27.f k ag ah ai aj).bind fun ac => (if 0 ≤ (wrap64 ((wrap64 (64 - al)) - aj)) then (A2t.j3 k x1 x2 (shl .u64 ac.1 (wrap64 ((wrap64 (64 - al)) - aj))) ad ae af ac.2.1 ac.2.2.1 ac.2.2.2) else (none)))
end
def A2t.f (k : Nat) (aa : Int) (a0_1 : Int) (ac : Int) (l1 : List Int) (a2 : Int) : Option (Int × Int × Int × Int × Int × Option Int) := if a2 < 0 then (A2t.j0 k l1 a2 true aa a0_1 ac) else (A2t.j0 k l1 a2 (decide (a2 > (wrap64 (8 * (l1.length : Int))))) aa a0_1 ac)
end Go.Proofs.YtodocfjbpkicgaaDoor.All
end
section
namespace Go.Proofs.YtodocfjbpkicgaaDoor.All
open Go.RowKit Go.Proofs.YtodocfjbpkicgaaDoorW.PrintWords Go.Proofs.YtodocfjbpkicgaaDoorW.PrintLast Go.Proofs.YtodocfjbpkicgaaDoorW.PrintMore
attribute [local go_sem] A2g A2h A2v A2w A15 A16 A2i A2j
set_option linter.unusedVariables false
set_option linter.unusedSimpArgs false
mutual
def A24.j2 : Nat → List Int → Int → Int → Int → Option (Int × Int × Option Int)
 | 0, _, _, _, _ => none
 | k + 1, x0, x1, x7, x8 => (A3b.f x7).bind fun aa => ((A2d.f k x0 (wrap64 (x1 + x8)) aa).bind fun ac => (if ac.2 = true then (if aa > 0 then (if 0 ≤ (wrap64 (64 - aa)) then ((A1r.f k (shr .i64 (wrap64 (shl .u64 ac.1 (wrap64 (64 - aa)))) (wrap64 (64 - aa)))).bind fun ad => (if ad = x7 then (some (shr .i64 (wrap64 (shl .u64 ac.1 (wrap64 (64 - aa)))) (wrap64 (64 - aa)), wrap64 (x8 + aa), none)) else (some (0, 0, some 3)))) else (none)) else ((A1r.f k (wrap64 (ac.1))).bind fun ae => (if ae = x7 then (some (wrap64 (ac.1), wrap64 (x8 + aa), none)) else (some (0, 0, some 3))))) else (some (0, 0, some 2))))
def A24.l0 : Nat → List Int → Int → Int → Int → Option (Int × Int × Option Int)
 | 0, _, _, _, _ => none
 | k + 1, x0, x1, x7, x8 => if x7 < 4 then ((A2d.f k x0 (wrap64 (x1 + x8)) 1).bind fun aa => (if x1 < 0 then (A24.j1 k x0 x1 x7 x8 aa.1 true) else (A24.j1 k x0 x1 x7 x8 aa.1 (!aa.2)))) else (A24.j2 k x0 x1 x7 x8)
def A24.j1 : Nat → List Int → Int → Int → Int → Int → Bool → Option (Int × Int × Option Int)
 | 0, _, _, _, _, _, _ => none
 | k + 1, x0, x1, x7, x8, x9, aa => if aa = true then (some (0, 0, some 2)) else (if x9 = 0 then (A24.j2 k x0 x1 x7 (wrap64 (x8 + 1))) else (A24.l0 k x0 x1 (wrap64 (x7 + 1)) (wrap64 (x8 + 1))))
end
def A24.f (k : Nat) (l0 : List Int) (a1 : Int) : Option (Int × Int × Option Int) := A24.l0 k l0 a1 0 0
end Go.Proofs.YtodocfjbpkicgaaDoor.All
end
section
namespace Go.Proofs.YtodocfjbpkicgaaDoor.All
open Go.RowKit Go.Proofs.YtodocfjbpkicgaaDoorW.PrintWords Go.Proofs.YtodocfjbpkicgaaDoorW.PrintLast Go.Proofs.YtodocfjbpkicgaaDoorW.PrintMore
attribute [local go_sem] A2g A2h A2v A2w A15 A16 A2i A2j
set_option linter.unusedVariables false
set_option linter.unusedSimpArgs false
def kinds_Put.f (k : Nat) (a0 : Int) (aj : Int) (ai : Int) (al : Int) (am : Int) (an : Int) (ao : Int) (ap : Int) (aq : Int) (ag : Int) (ah : Int) : Option (List Int × Int × Int × Int × Int × Int × Int × Int × Int × Int × Option Int) := (kinds_known.f a0).bind fun ay => (if ay = true then (if aj = 0 then ((A0u.f k ([] : List Int) 0 (IntKind.u64.wrap (ag)) 64).bind fun ar => ((A0u.f k ar.1 ar.2 ah 64).bind fun au => ((A0z.f k a0 aj ai al am an ao ap aq ag ah 0 0 0).bind fun aa => (some (au.1, au.2, aa.1, aa.2.1, aa.2.2.1, aa.2.2.2.1, aa.2.2.2.2.1, aa.2.2.2.2.2.1, aa.2.2.2.2.2.2.1, aa.2.2.2.2.2.2.2, none))))) else (if ag ≤ ai then (some (([] : List Int), 0, 0, 0, 0, 0, 0, 0, 0, 0, some 4)) else ((A3c.f k (wrap64 ((wrap64 (ag - ai)) - al))).bind fun af => (if a0 = 2 then ((A3c.f k (wrap64 (IntKind.u64.wrap ((IntKind.u64.wrap (ah - am)) - an)))).bind fun av => ((A33.f k af.1 af.2 av.1 av.2).bind fun aw => ((A0z.f k a0 aj ai al am an ao ap aq ag ah 0 0 0).bind fun ac => (some (aw.1, aw.2, ac.1, ac.2.1, ac.2.2.1, ac.2.2.2.1, ac.2.2.2.2.1, ac.2.2.2.2.2.1, ac.2.2.2.2.2.2.1, ac.2.2.2.2.2.2.2, none))))) else ((A1l.f k ao ap aq ah).bind fun ae => ((A33.f k af.1 af.2 ae.1 ae.2.1).bind fun ax => ((A0z.f k a0 aj ai al am an ao ap aq ag ah ae.2.2.1 ae.2.2.2.1 ae.2.2.2.2).bind fun ad => (some (ax.1, ax.2, ad.1, ad.2.1, ad.2.2.1, ad.2.2.2.1, ad.2.2.2.2.1, ad.2.2.2.2.2.1, ad.2.2.2.2.2.2.1, ad.2.2.2.2.2.2.2, none))))))))) else (some (([] : List Int), 0, 0, 0, 0, 0, 0, 0, 0, 0, some 6)))
end Go.Proofs.YtodocfjbpkicgaaDoor.All
end
