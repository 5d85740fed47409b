/- The law on joined words, with what the laid variables give. No conditions. -/
import Derived.Test.YtddmlhcjbifkoaaDoorLaidW
import Derived.Test.YtddmlhcjbifkoaaDoorWords3
