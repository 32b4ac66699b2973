/- What functions of the program say, as relations. -/
import Derived.Test.YtljklmlodfbdnaaGreatEB
set_option maxHeartbeats 1000000
set_option linter.unusedVariables false
set_option linter.unusedSimpArgs false
set_option maxRecDepth 100000
namespace Go.E
open Go

def resOk_S (r0 : (Nat → Int)) (r : Bool) : Prop :=
  r = ((((decide (1 ≤ r0 0)) && (decide (r0 0 ≤ 250))) && (decide (0 ≤ r0 1))) && (decide (r0 1 ≤ 250)))

def resOk_F (r0 : (Nat → Int)) : Bool :=
  (((decide (1 ≤ r0 0)) && (decide (r0 0 ≤ 250))) && (decide (0 ≤ r0 1))) && (decide (r0 1 ≤ 250))

theorem resOk_ok (r0 : (Nat → Int)) : resOk_S r0 (resOk_F r0) := by
  obtain ⟨r, hr⟩ : ∃ r, r = resOk_F r0 := ⟨_, rfl⟩
  rw [← hr]
  unfold resOk_F at hr
  unfold resOk_S
  exact hr

end Go.E
