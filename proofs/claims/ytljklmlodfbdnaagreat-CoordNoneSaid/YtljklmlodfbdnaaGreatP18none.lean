/- No coordinator: nothing is done. -/
import Derived.Test.YtljklmlodfbdnaaGreatH18S
namespace Go.E
open Go
theorem none18_all (m : Nat → Int) (id : Int) : none18_S m id true := by
  unfold none18_S
  rw [if_pos (show alive18_F = true from rfl), if_pos (by decide)]
end Go.E
