/- The document's example of a transaction. -/
import Derived.Test.YtmfbefghdaiicaaP17e
import Derived.Test.YtmfbefghdaiicaaD17S
namespace Go.E
open Go
set_option linter.unusedVariables false
set_option linter.unusedSimpArgs false
set_option maxRecDepth 100000
def alive17_F : Bool := true
theorem alive17_ok : alive17_S alive17_F := by
  unfold alive17_S
  have e5 : tnew_F 5 = ((5, 1, 0, 0, false, 0, (fun _ => 0), 0, [], [], [], []), 0) := by rw [tnew_is, if_pos (by omega)]
  rw [e5]
  dsimp only
  have i0 := new_TI (t := 5) (by omega)
  obtain ⟨p1, q1⟩ := task_is i0 (by omega) 2 (updI (updI (fun _ => 0) 0 3) 1 1) 4
  refine ⟨p1, _, rfl, ?_⟩
  have i1 := askC_TI i0 2 (updI (updI (fun _ => 0) 0 3) 1 1) 4
  rw [q1]
  have e1 : askC 5 1 0 0 false 0 (fun _ => 0) 0 [] [] [] [] 2 (updI (updI (fun _ => 0) 0 3) 1 1) 4 = ((5, 1, 0, 1, true, 2, updI (updI (fun _ => 0) 0 3) 1 1, 4, [2], [], [], []), [lockM 5 1 2 (updI (updI (fun _ => 0) 0 3) 1 1) 4], 0) := rfl
  rw [e1] at i1 ⊢
  dsimp only [TIT] at i1
  dsimp only
  obtain ⟨p2, q2⟩ := tanswered_is i1 (by omega) (updI (updRI (updI (updI (updI (updI (fun _ => 0) 0 2) 1 2) 3 5) 4 1) 5 2 (updI (updI (fun _ => 0) 0 3) 1 1)) 7 4)
  refine ⟨p2, _, rfl, ?_⟩
  have i2 := ansC_TI i1 (updI (updRI (updI (updI (updI (updI (fun _ => 0) 0 2) 1 2) 3 5) 4 1) 5 2 (updI (updI (fun _ => 0) 0 3) 1 1)) 7 4)
  rw [q2]
  have f2 : Form 5 2 (updI (updRI (updI (updI (updI (updI (fun _ => 0) 0 2) 1 2) 3 5) 4 1) 5 2 (updI (updI (fun _ => 0) 0 3) 1 1)) 7 4) := ⟨rfl, by decide +kernel, rfl⟩
  have e2 : ansC 5 1 0 1 true 2 (updI (updI (fun _ => 0) 0 3) 1 1) 4 [2] [] [] [] (updI (updRI (updI (updI (updI (updI (fun _ => 0) 0 2) 1 2) 3 5) 4 1) 5 2 (updI (updI (fun _ => 0) 0 3) 1 1)) 7 4) = ((5, 1, 0, 1, false, 2, updI (updI (fun _ => 0) 0 3) 1 1, 4, [2], [], [], [grantM (updI (updRI (updI (updI (updI (updI (fun _ => 0) 0 2) 1 2) 3 5) 4 1) 5 2 (updI (updI (fun _ => 0) 0 3) 1 1)) 7 4)]), 0) := by
    unfold ansC
    rw [if_pos (.inl f2), if_pos rfl, if_pos ⟨rfl, rfl, rfl, fun _ => by decide +kernel⟩]
    rfl
  rw [e2] at i2 ⊢
  dsimp only [TIT] at i2
  dsimp only
  obtain ⟨p3, q3⟩ := tfinish_is i2 (by omega)
  refine ⟨p3, _, rfl, ?_⟩
  have i3 := finC_TI i2
  rw [q3]
  generalize grantM (updI (updRI (updI (updI (updI (updI (fun _ => 0) 0 2) 1 2) 3 5) 4 1) 5 2 (updI (updI (fun _ => 0) 0 3) 1 1)) 7 4) = gr at *
  have e3 : finC 5 1 0 1 false 2 (updI (updI (fun _ => 0) 0 3) 1 1) 4 [2] [] [] [gr] = ((5, 2, 0, 1, false, 2, updI (updI (fun _ => 0) 0 3) 1 1, 4, [2], [], [], [gr]), [toMsg 5 4 0 2], 0) := by
    unfold finC
    rw [if_pos rfl, if_neg Bool.false_ne_true, if_neg (by simp)]
    rfl
  rw [e3] at i3 ⊢
  dsimp only [TIT] at i3
  dsimp only
  obtain ⟨p4, q4⟩ := tvote_is i3 (by omega) (updI (updI (updI (updI (fun _ => 0) 0 5) 1 2) 3 5) 8 1)
  refine ⟨p4, _, rfl, ?_⟩
  have i4 := voteC_TI i3 (updI (updI (updI (updI (fun _ => 0) 0 5) 1 2) 3 5) 8 1)
  rw [q4]
  have f4 : Form 5 5 (updI (updI (updI (updI (fun _ => 0) 0 5) 1 2) 3 5) 8 1) := ⟨rfl, by decide +kernel, rfl⟩
  have e4 : voteC 5 2 0 1 false 2 (updI (updI (fun _ => 0) 0 3) 1 1) 4 [2] [] [] [gr] (updI (updI (updI (updI (fun _ => 0) 0 5) 1 2) 3 5) 8 1) = ((5, 3, 0, 1, false, 2, updI (updI (fun _ => 0) 0 3) 1 1, 4, [2], [2], [], [gr]), [toMsg 5 6 1 2], 0) := by
    unfold voteC
    rw [if_pos f4, if_pos rfl, if_pos (by decide +kernel), if_neg (by decide +kernel), if_neg (by decide +kernel)]
    rfl
  rw [e4] at i4 ⊢
  dsimp only [TIT] at i4
  dsimp only
  obtain ⟨p5, q5⟩ := tack_is i4 (by omega) (updI (updI (updI (fun _ => 0) 0 7) 1 2) 3 5)
  refine ⟨p5, _, rfl, ?_⟩
  have i5 := ackC_TI i4 (updI (updI (updI (fun _ => 0) 0 7) 1 2) 3 5)
  rw [q5]
  have f5 : Form 5 7 (updI (updI (updI (fun _ => 0) 0 7) 1 2) 3 5) := ⟨rfl, by decide +kernel, rfl⟩
  have e5 : ackC 5 3 0 1 false 2 (updI (updI (fun _ => 0) 0 3) 1 1) 4 [2] [2] [] [gr] (updI (updI (updI (fun _ => 0) 0 7) 1 2) 3 5) = ((5, 3, 0, 1, false, 2, updI (updI (fun _ => 0) 0 3) 1 1, 4, [2], [2], [2], [gr]), 0) := by
    unfold ackC
    rw [if_pos f5, if_pos (.inl rfl), if_pos (by decide +kernel)]
    rfl
  rw [e5] at i5 ⊢
  dsimp only [TIT] at i5
  dsimp only
  obtain ⟨p6, q6⟩ := tover_is i5
  rw [q6]
  refine ⟨fun _ => by simp, fun _ => by simp, fun _ => p6, ?_⟩
  rfl
end Go.E
