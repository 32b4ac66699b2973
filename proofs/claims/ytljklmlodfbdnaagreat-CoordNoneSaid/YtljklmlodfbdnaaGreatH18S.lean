/- What functions of the program say, as relations. -/
import Derived.Test.YtljklmlodfbdnaaGreatG18S
import Derived.Test.YtljklmlodfbdnaaGreatP18k
set_option maxHeartbeats 1000000
set_option linter.unusedVariables false
set_option linter.unusedSimpArgs false
set_option maxRecDepth 100000
namespace Go.E
open Go

def none18_S (m0 : (Nat → Int)) (id1 : Int) (r : Bool) : Prop :=
  if (alive18_F) = true then
    if (code_F 1) = 1 then
      r = (true)
    else
      r = (false)
  else
    r = (false)

end Go.E
