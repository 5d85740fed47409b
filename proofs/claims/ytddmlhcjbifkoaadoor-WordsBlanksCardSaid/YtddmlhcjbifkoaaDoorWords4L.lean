/- The law on more blanks, with what the laid variables give. No conditions. -/
import Derived.Test.YtddmlhcjbifkoaaDoorLaidW
import Derived.Test.YtddmlhcjbifkoaaDoorWords4
