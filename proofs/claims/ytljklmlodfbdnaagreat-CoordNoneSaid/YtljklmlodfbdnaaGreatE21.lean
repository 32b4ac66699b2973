/- The engine, part 21: slices.Sort of ints, in place. -/
import Derived.Test.YtljklmlodfbdnaaGreatE19
import Derived.Sort.OwnSortedInts
namespace Go.E
open Go Go.Proofs Go.Shelf Go.RowKit Go.Sort
set_option linter.unusedVariables false
set_option maxRecDepth 100000

section
variable {P : Program} {ρm : Ren}
def sortP (l : List Int) : Prop := l.length ≤ 1000000000000
end
end Go.E
