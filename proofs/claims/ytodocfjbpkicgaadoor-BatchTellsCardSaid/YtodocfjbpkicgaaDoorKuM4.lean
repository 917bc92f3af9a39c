-- copied by a program of the session
import Derived.Test.YtodocfjbpkicgaaDoorKuM0
namespace Go.Proofs.YtodocfjbpkicgaaDoor
open Go.RowKit Go.Proofs.YtodocfjbpkicgaaDoorW.PrintWords Go.Proofs.YtodocfjbpkicgaaDoorW.PrintLast Go.Proofs.YtodocfjbpkicgaaDoorW.PrintMore
attribute [local go_sem] A2g A2h A2v A2w A15 A16 A2i A2j
set_option linter.unusedVariables false
set_option linter.unusedSimpArgs false
def A33.l0 : Nat → Int → List Int → Int → Int → List Int → Int → List Int → Int → Option (List Int × Int)
 | 0, _, _, _, _, _, _, _, _ => none
 | k + 1, x5, ah, ai, af, aa, ac, ae, ad => if af < ai then (if 0 ≤ af then (if af < (ah.length : Int) then (if 0 ≤ (wrap64 ((aa.length : Int) - 1)) then (if (wrap64 ((aa.length : Int) - 1)) < (aa.length : Int) then (if 0 ≤ x5 then ((some (aa.set ((wrap64 ((aa.length : Int) - 1)) : Int).toNat (Go.bits .or .u8 (rd aa (wrap64 ((aa.length : Int) - 1))) (shr .u8 (rd ah af) x5)) : List Int)).bind fun ag => (if 0 ≤ (wrap64 (8 - x5)) then (if ag.length < 140737488355328 then (A33.l0 k x5 ah ai (wrap64 (af + 1)) (ag ++ [shl .u8 (rd ah af) (wrap64 (8 - x5))]) ac ae ad) else (none)) else (none))) else (none)) else (none)) else (none)) else (none)) else (none)) else (if 0 ≤ (wrap64 (Int.tdiv (wrap64 ((wrap64 (ac + ad)) + 7)) 8)) then (if (wrap64 (Int.tdiv (wrap64 ((wrap64 (ac + ad)) + 7)) 8)) ≤ (aa.length : Int) then (some ((aa.take ((wrap64 (Int.tdiv (wrap64 ((wrap64 (ac + ad)) + 7)) 8)) : Int).toNat), wrap64 (ac + ad))) else (none)) else (none))
def A33.f (k : Nat) (ac : List Int) (a0_1 : Int) (aa : List Int) (ad : Int) : Option (List Int × Int) := if (Int.tmod a0_1 8) = 0 then ((A20.f [ac, aa]).bind fun ae => (some (ae, wrap64 (a0_1 + ad)))) else ((A18.f ac).bind fun af => (A33.l0 k (Int.tmod a0_1 8) aa (aa.length : Int) 0 af a0_1 aa ad))
end Go.Proofs.YtodocfjbpkicgaaDoor
