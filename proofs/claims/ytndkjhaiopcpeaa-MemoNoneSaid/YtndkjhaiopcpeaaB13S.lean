/- What functions of the program say, as relations. -/
import Derived.Test.YtndkjhaiopcpeaaA13S
set_option maxHeartbeats 1000000
set_option linter.unusedVariables false
set_option linter.unusedSimpArgs false
set_option maxRecDepth 100000
namespace Go.E
open Go

def alive13_S (r : Bool) : Prop :=
  r = (((((((decide ((bopen_F ([]) 7 1).2.1 = 0)) && (decide ((code_F ((bopen_F ((bopen_F ([]) 7 1).2.2) 7 1).2.1)) = 8))) && (decide ((bclose_F ((bopen_F ((bopen_F ([]) 7 1).2.2) 7 1).2.2) (answer_F 7 1)).1 = 0))) && ((eqN 28 ((bopen_F ((bclose_F ((bopen_F ((bopen_F ([]) 7 1).2.2) 7 1).2.2) (answer_F 7 1)).2) 7 1).1) (answer_F 7 1)))) && (decide ((code_F ((bopen_F ((bclose_F ((bopen_F ((bopen_F ([]) 7 1).2.2) 7 1).2.2) (answer_F 7 1)).2) 7 1).2.1)) = 15))) && (decide ((bopen_F ((bopen_F ((bclose_F ((bopen_F ((bopen_F ([]) 7 1).2.2) 7 1).2.2) (answer_F 7 1)).2) 7 1).2.2) 7 2).2.1 = 0))) && (decide ((code_F ((bopen_F ((bopen_F ((bopen_F ((bclose_F ((bopen_F ((bopen_F ([]) 7 1).2.2) 7 1).2.2) (answer_F 7 1)).2) 7 1).2.2) 7 2).2.2) 7 1).2.1)) = 14)))

def alive13_F : Bool :=
  ((((((decide ((bopen_F ([]) 7 1).2.1 = 0)) && (decide ((code_F ((bopen_F ((bopen_F ([]) 7 1).2.2) 7 1).2.1)) = 8))) && (decide ((bclose_F ((bopen_F ((bopen_F ([]) 7 1).2.2) 7 1).2.2) (answer_F 7 1)).1 = 0))) && ((eqN 28 ((bopen_F ((bclose_F ((bopen_F ((bopen_F ([]) 7 1).2.2) 7 1).2.2) (answer_F 7 1)).2) 7 1).1) (answer_F 7 1)))) && (decide ((code_F ((bopen_F ((bclose_F ((bopen_F ((bopen_F ([]) 7 1).2.2) 7 1).2.2) (answer_F 7 1)).2) 7 1).2.1)) = 15))) && (decide ((bopen_F ((bopen_F ((bclose_F ((bopen_F ((bopen_F ([]) 7 1).2.2) 7 1).2.2) (answer_F 7 1)).2) 7 1).2.2) 7 2).2.1 = 0))) && (decide ((code_F ((bopen_F ((bopen_F ((bopen_F ((bclose_F ((bopen_F ((bopen_F ([]) 7 1).2.2) 7 1).2.2) (answer_F 7 1)).2) 7 1).2.2) 7 2).2.2) 7 1).2.1)) = 14))

theorem alive13_ok : alive13_S (alive13_F) := by
  obtain ⟨r, hr⟩ : ∃ r, r = alive13_F := ⟨_, rfl⟩
  rw [← hr]
  unfold alive13_F at hr
  unfold alive13_S
  exact hr

end Go.E
