/- The walks by hand that the printed texts of this seat lean on. -/
import Derived.Test.YtfpcbnkipdjlhabM0
import Derived.Test.YtfpcbnkipdjlhabM4
