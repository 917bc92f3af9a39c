-- copied by a program of the session
import Derived.Test.YtodocfjbpkicgaaDoorKvM0
namespace Go.Proofs.YtodocfjbpkicgaaDoor
open Go.RowKit Go.Proofs.YtodocfjbpkicgaaDoorW.PrintWords Go.Proofs.YtodocfjbpkicgaaDoorW.PrintLast Go.Proofs.YtodocfjbpkicgaaDoorW.PrintMore
attribute [local go_sem] A17 A18 A2o A2p A1y A1z A19 A2a
set_option linter.unusedVariables false
set_option linter.unusedSimpArgs false
def A3f.l0 : Nat → Int → List Int → Int → Int → List Int → Int → List Int → Int → Option (List Int × Int)
 | 0, _, _, _, _, _, _, _, _ => none
 | k + 1, x5, ah, ai, af, aa, ac, ae, ad => if af < ai then (if 0 ≤ af then (if af < (ah.length : Int) then (if 0 ≤ (wrap64 ((aa.length : Int) - 1)) then (if (wrap64 ((aa.length : Int) - 1)) < (aa.length : Int) then (if 0 ≤ x5 then ((some (aa.set ((wrap64 ((aa.length : Int) - 1)) : Int).toNat (Go.bits .or .u8 (rd aa (wrap64 ((aa.length : Int) - 1))) (shr .u8 (rd ah af) x5)) : List Int)).bind fun ag => (if 0 ≤ (wrap64 (8 - x5)) then (if ag.length < 140737488355328 then (A3f.l0 k x5 ah ai (wrap64 (af + 1)) (ag ++ [shl .u8 (rd ah af) (wrap64 (8 - x5))]) ac ae ad) else (none)) else (none))) else (none)) else (none)) else (none)) else (none)) else (none)) else (if 0 ≤ (wrap64 (Int.tdiv (wrap64 ((wrap64 (ac + ad)) + 7)) 8)) then (if (wrap64 (Int.tdiv (wrap64 ((wrap64 (ac + ad)) + 7)) 8)) ≤ (aa.length : Int) then (some ((aa.take ((wrap64 (Int.tdiv (wrap64 ((wrap64 (ac + ad)) + 7)) 8)) : Int).toNat), wrap64 (ac + ad))) else (none)) else (none))
def A3f.f (k : Nat) (ad : List Int) (aa : Int) (ac : List Int) (ae : Int) : Option (List Int × Int) := if (Int.tmod aa 8) = 0 then ((A2d.f [ad, ac]).bind fun af => (some (af, wrap64 (aa + ae)))) else ((A1s.f ad).bind fun ag => (A3f.l0 k (Int.tmod aa 8) ac (ac.length : Int) 0 ag aa ac ae))
end Go.Proofs.YtodocfjbpkicgaaDoor
