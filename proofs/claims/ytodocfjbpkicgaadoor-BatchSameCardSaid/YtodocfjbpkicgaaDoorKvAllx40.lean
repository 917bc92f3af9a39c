-- copied by a program of the session
import Derived.Test.YtodocfjbpkicgaaDoorKvAllx7
import Derived.Test.YtodocfjbpkicgaaDoorKvAllx9
import Derived.Test.YtodocfjbpkicgaaDoorKvAllx13
import Derived.Test.YtodocfjbpkicgaaDoorKvAllx33
import Derived.Test.YtodocfjbpkicgaaDoorKvM4
namespace Go.Proofs.YtodocfjbpkicgaaDoor.All
open Go.RowKit Go.Proofs.YtodocfjbpkicgaaDoorW.PrintWords Go.Proofs.YtodocfjbpkicgaaDoorW.PrintLast Go.Proofs.YtodocfjbpkicgaaDoorW.PrintMore
attribute [local go_sem] A17 A18 A2o A2p A1y A1z A19 A2a
set_option linter.unusedVariables false
set_option linter.unusedSimpArgs false
def kinds_Put.f (k : Nat) (a0 : Int) (aj : Int) (ai : Int) (al : Int) (am : Int) (an : Int) (ao : Int) (ap : Int) (aq : Int) (ag : Int) (ah : Int) : Option (List Int × Int × Int × Int × Int × Int × Int × Int × Int × Int × Option Int) := (A26.f a0).bind fun ay => (if ay = true then (if aj = 0 then ((A0v.f k ([] : List Int) 0 (IntKind.u64.wrap (ag)) 64).bind fun ar => ((A0v.f k ar.1 ar.2 ah 64).bind fun au => ((A0y.f k a0 aj ai al am an ao ap aq ag ah 0 0 0).bind fun aa => (some (au.1, au.2, aa.1, aa.2.1, aa.2.2.1, aa.2.2.2.1, aa.2.2.2.2.1, aa.2.2.2.2.2.1, aa.2.2.2.2.2.2.1, aa.2.2.2.2.2.2.2, none))))) else (if ag ≤ ai then (some (([] : List Int), 0, 0, 0, 0, 0, 0, 0, 0, 0, some 4)) else ((A2k.f k (wrap64 ((wrap64 (ag - ai)) - al))).bind fun af => (if a0 = 2 then ((A2k.f k (wrap64 (IntKind.u64.wrap ((IntKind.u64.wrap (ah - am)) - an)))).bind fun av => ((A3f.f k af.1 af.2 av.1 av.2).bind fun aw => ((A0y.f k a0 aj ai al am an ao ap aq ag ah 0 0 0).bind fun ac => (some (aw.1, aw.2, ac.1, ac.2.1, ac.2.2.1, ac.2.2.2.1, ac.2.2.2.2.1, ac.2.2.2.2.2.1, ac.2.2.2.2.2.2.1, ac.2.2.2.2.2.2.2, none))))) else ((A1b.f k ao ap aq ah).bind fun ae => ((A3f.f k af.1 af.2 ae.1 ae.2.1).bind fun ax => ((A0y.f k a0 aj ai al am an ao ap aq ag ah ae.2.2.1 ae.2.2.2.1 ae.2.2.2.2).bind fun ad => (some (ax.1, ax.2, ad.1, ad.2.1, ad.2.2.1, ad.2.2.2.1, ad.2.2.2.2.1, ad.2.2.2.2.2.1, ad.2.2.2.2.2.2.1, ad.2.2.2.2.2.2.2, none))))))))) else (some (([] : List Int), 0, 0, 0, 0, 0, 0, 0, 0, 0, some 6)))
end Go.Proofs.YtodocfjbpkicgaaDoor.All
