/- The walks by hand that the printed texts of this seat lean on. -/
import Derived.Test.YthlieaggokdppaaM1
import Derived.Test.YthlieaggokdppaaM4
