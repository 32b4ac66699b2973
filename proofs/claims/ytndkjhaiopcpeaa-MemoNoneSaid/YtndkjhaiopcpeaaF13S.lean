/- What functions of the program say, as relations. -/
import Derived.Test.YtndkjhaiopcpeaaB13S
set_option maxHeartbeats 1000000
set_option linter.unusedVariables false
set_option linter.unusedSimpArgs false
set_option maxRecDepth 100000
namespace Go.E
open Go

def none13_S (tx0 : Int) (seq1 : Int) (m2 : (Nat → Int)) (r : Bool) : Prop :=
  if (alive13_F) = true then
    if ((eqN 28 (fun _ => 0) (fun _ => 0))) = true then
      if (code_F 1) = 1 then
        r = (true)
      else
        r = (false)
    else
      r = (false)
  else
    r = (false)

def none13_F (tx0 : Int) (seq1 : Int) (m2 : (Nat → Int)) : Bool :=
  if (alive13_F) = true then
    if ((eqN 28 (fun _ => 0) (fun _ => 0))) = true then
      if (code_F 1) = 1 then
        true
      else
        false
    else
      false
  else
    false

theorem none13_ok (tx0 : Int) (seq1 : Int) (m2 : (Nat → Int)) : none13_S tx0 seq1 m2 (none13_F tx0 seq1 m2) := by
  obtain ⟨r, hr⟩ : ∃ r, r = none13_F tx0 seq1 m2 := ⟨_, rfl⟩
  rw [← hr]
  unfold none13_F at hr
  unfold none13_S
  by_cases hp25 : (alive13_F) = true
  · rw [if_pos hp25] at hr ⊢
    by_cases hp26 : ((eqN 28 (fun _ => 0) (fun _ => 0))) = true
    · rw [if_pos hp26] at hr ⊢
      by_cases hp27 : (code_F 1) = 1
      · rw [if_pos hp27] at hr ⊢
        exact hr
      · rw [if_neg hp27] at hr ⊢
        exact hr
    · rw [if_neg hp26] at hr ⊢
      exact hr
  · rw [if_neg hp25] at hr ⊢
    exact hr

end Go.E
