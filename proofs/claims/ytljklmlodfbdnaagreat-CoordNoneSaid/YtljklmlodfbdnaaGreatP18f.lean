/- The coordinator: its open requests, what is seen of it. -/
import Derived.Test.YtljklmlodfbdnaaGreatD18S
import Derived.Test.YtljklmlodfbdnaaGreatEB
import Derived.Test.YtljklmlodfbdnaaGreatL4
namespace Go.E
open Go
set_option linter.unusedVariables false
set_option linter.unusedSimpArgs false
set_option maxRecDepth 100000
abbrev TT := Int × Int × Int × Int × Bool × Int × (Nat → Int) × Int × List Int × List Int × List Int × List (Nat → Int)
abbrev TM := List (Int × TT)
def T0 : TT := (0, 0, 0, 0, false, 0, (fun _ => 0), 0, [], [], [], [])
def tAt (m : TM) (k : Int) : TT := mget ieq m k T0
end Go.E
