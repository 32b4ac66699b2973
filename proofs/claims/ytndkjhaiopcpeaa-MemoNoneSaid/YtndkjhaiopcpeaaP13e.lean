/- No book knows nothing. -/
import Derived.Test.YtndkjhaiopcpeaaF13S
import Derived.Test.YtndkjhaiopcpeaaP13a
namespace Go.E
open Go
set_option linter.unusedVariables false
set_option maxRecDepth 100000

theorem none13_t (tx seq : Int) (m : Nat → Int) : none13_F tx seq m = true := by
  unfold none13_F
  rw [if_pos alive13_t, if_pos (by decide), if_pos (by decide)]

end Go.E
