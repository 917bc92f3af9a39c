-- copied by a program of the session
import Derived.Test.YtodocfjbpkicgaaDoorKuSa
import Derived.Test.YtodocfjbpkicgaaDoorKuAllx39
namespace Go.Proofs.YtodocfjbpkicgaaDoor.All
open Go.RowKit Go.Proofs.YtodocfjbpkicgaaDoorW.PrintWords Go.Proofs.YtodocfjbpkicgaaDoorW.PrintLast Go.Proofs.YtodocfjbpkicgaaDoorW.PrintMore
attribute [local go_sem] A2g A2h A2v A2w A15 A16 A2i A2j
set_option linter.unusedVariables false
set_option linter.unusedSimpArgs false
def kinds_next.f (k : Nat) (a0 : Int) (am : Int) (ae : Int) (af : Int) (ag : Int) (ah : Int) (ai : Int) (aj : Int) (al : Int) (l2 : List Int) (a3 : Int) : Option (Int × Int × Int × Int × Int × Int × Option Int) := (A24.f k l2 a3).bind fun aa => (if aa.2.2.isNone = true then (if a0 = 2 then ((A24.f k l2 (wrap64 (a3 + aa.2.1))).bind fun ad => (some (wrap64 ((wrap64 (ae + af)) + aa.1), IntKind.u64.wrap ((IntKind.u64.wrap (ag + ah)) + (IntKind.u64.wrap (ad.1))), 0, 0, 0, wrap64 (aa.2.1 + ad.2.1), ad.2.2))) else ((A2t.f k ai aj al l2 (wrap64 (a3 + aa.2.1))).bind fun ac => (some (wrap64 ((wrap64 (ae + af)) + aa.1), ac.1, ac.2.1, ac.2.2.1, ac.2.2.2.1, wrap64 (aa.2.1 + ac.2.2.2.2.1), ac.2.2.2.2.2)))) else (some (0, 0, 0, 0, 0, 0, some (aa.2.2.getD 0))))
end Go.Proofs.YtodocfjbpkicgaaDoor.All
