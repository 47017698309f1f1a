/- Functions of the program as Lean functions. Written by -/
import Derived.Test.YtmgfammllddkhaaGreatDoorCO18
set_option linter.unusedVariables false
set_option maxHeartbeats 4000000
set_option maxRecDepth 100000

