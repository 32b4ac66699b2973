/- What functions of the program say, as relations. -/
import Derived.Test.YtljklmlodfbdnaaGreatB18S
set_option maxHeartbeats 1000000
set_option linter.unusedVariables false
set_option linter.unusedSimpArgs false
set_option maxRecDepth 100000
namespace Go.E
open Go

def task_S (t0Tx : Int) (t0State : Int) (t0Reason : Int) (t0Seq : Int) (t0Open : Bool) (t0Shard : Int) (t0At : (Nat → Int)) (t0Mode : Int) (t0Touched : (List Int)) (t0Votes : (List Int)) (t0Acks : (List Int)) (t0Got : (List (Nat → Int))) (shard1 : Int) (at2 : (Nat → Int)) (m3 : Int) (r : (Int × Int × Int × Int × Bool × Int × (Nat → Int) × Int × (List Int) × (List Int) × (List Int) × (List (Nat → Int))) × (List (Nat → Int)) × Int) : Prop :=
  if (((((decide (shard1 < 1)) || (decide (64 < shard1))) || (!((resOk_F at2)))) || (decide (m3 < 1))) || (decide (4 < m3))) = true then
    (own_P t0Tx t0State t0Reason t0Seq t0Open t0Shard t0At t0Mode t0Touched t0Votes t0Acks t0Got) ∧ (
    r = (((t0Tx, t0State, t0Reason, t0Seq, t0Open, t0Shard, t0At, t0Mode, t0Touched, t0Votes, t0Acks, t0Got), [], 1)))
  else
    if (tfree_F t0Tx t0State t0Reason t0Seq t0Open t0Shard t0At t0Mode t0Touched t0Votes t0Acks t0Got) = 0 then
      if t0Seq = 1048576 then
        (own_P t0Tx t0State t0Reason t0Seq t0Open t0Shard t0At t0Mode t0Touched t0Votes t0Acks t0Got) ∧ (
        r = (((t0Tx, t0State, t0Reason, t0Seq, t0Open, t0Shard, t0At, t0Mode, t0Touched, t0Votes, t0Acks, t0Got), [], 6)))
      else
        (own_P t0Tx t0State t0Reason t0Seq t0Open t0Shard t0At t0Mode t0Touched t0Votes t0Acks t0Got) ∧ (
        (inI64 (t0Seq + 1)) ∧ (
        (search_P t0Touched shard1) ∧ (
        if ((search_F t0Touched shard1).2) = true then
          r = (((t0Tx, t0State, t0Reason, t0Seq + 1, true, shard1, at2, m3, t0Touched, t0Votes, t0Acks, t0Got), [(tlock_F t0Tx t0State t0Reason (t0Seq + 1) true shard1 at2 m3 t0Touched t0Votes t0Acks t0Got)], 0))
        else
          (cloneI_P t0Touched) ∧ (
          (0 ≤ (search_F t0Touched shard1).1 ∧ (search_F t0Touched shard1).1 ≤ ((cloneI_F t0Touched).length : Int)) ∧ (
          (sortP (cloneI_F t0Touched)) ∧ (
          r = (((t0Tx, t0State, t0Reason, t0Seq + 1, true, shard1, at2, m3, (insL1 (cloneI_F t0Touched) ((search_F t0Touched shard1).1).toNat shard1), t0Votes, t0Acks, t0Got), [(tlock_F t0Tx t0State t0Reason (t0Seq + 1) true shard1 at2 m3 (insL1 (cloneI_F t0Touched) ((search_F t0Touched shard1).1).toNat shard1) t0Votes t0Acks t0Got)], 0))))))))
    else
      (own_P t0Tx t0State t0Reason t0Seq t0Open t0Shard t0At t0Mode t0Touched t0Votes t0Acks t0Got) ∧ (
      r = (((t0Tx, t0State, t0Reason, t0Seq, t0Open, t0Shard, t0At, t0Mode, t0Touched, t0Votes, t0Acks, t0Got), [], (tfree_F t0Tx t0State t0Reason t0Seq t0Open t0Shard t0At t0Mode t0Touched t0Votes t0Acks t0Got))))

def task_F (t0Tx : Int) (t0State : Int) (t0Reason : Int) (t0Seq : Int) (t0Open : Bool) (t0Shard : Int) (t0At : (Nat → Int)) (t0Mode : Int) (t0Touched : (List Int)) (t0Votes : (List Int)) (t0Acks : (List Int)) (t0Got : (List (Nat → Int))) (shard1 : Int) (at2 : (Nat → Int)) (m3 : Int) : (Int × Int × Int × Int × Bool × Int × (Nat → Int) × Int × (List Int) × (List Int) × (List Int) × (List (Nat → Int))) × (List (Nat → Int)) × Int :=
  if (((((decide (shard1 < 1)) || (decide (64 < shard1))) || (!((resOk_F at2)))) || (decide (m3 < 1))) || (decide (4 < m3))) = true then
    ((t0Tx, t0State, t0Reason, t0Seq, t0Open, t0Shard, t0At, t0Mode, t0Touched, t0Votes, t0Acks, t0Got), [], 1)
  else
    if (tfree_F t0Tx t0State t0Reason t0Seq t0Open t0Shard t0At t0Mode t0Touched t0Votes t0Acks t0Got) = 0 then
      if t0Seq = 1048576 then
        ((t0Tx, t0State, t0Reason, t0Seq, t0Open, t0Shard, t0At, t0Mode, t0Touched, t0Votes, t0Acks, t0Got), [], 6)
      else
        if ((search_F t0Touched shard1).2) = true then
          ((t0Tx, t0State, t0Reason, t0Seq + 1, true, shard1, at2, m3, t0Touched, t0Votes, t0Acks, t0Got), [(tlock_F t0Tx t0State t0Reason (t0Seq + 1) true shard1 at2 m3 t0Touched t0Votes t0Acks t0Got)], 0)
        else
          ((t0Tx, t0State, t0Reason, t0Seq + 1, true, shard1, at2, m3, (insL1 (cloneI_F t0Touched) ((search_F t0Touched shard1).1).toNat shard1), t0Votes, t0Acks, t0Got), [(tlock_F t0Tx t0State t0Reason (t0Seq + 1) true shard1 at2 m3 (insL1 (cloneI_F t0Touched) ((search_F t0Touched shard1).1).toNat shard1) t0Votes t0Acks t0Got)], 0)
    else
      ((t0Tx, t0State, t0Reason, t0Seq, t0Open, t0Shard, t0At, t0Mode, t0Touched, t0Votes, t0Acks, t0Got), [], (tfree_F t0Tx t0State t0Reason t0Seq t0Open t0Shard t0At t0Mode t0Touched t0Votes t0Acks t0Got))

def task_P (t0Tx : Int) (t0State : Int) (t0Reason : Int) (t0Seq : Int) (t0Open : Bool) (t0Shard : Int) (t0At : (Nat → Int)) (t0Mode : Int) (t0Touched : (List Int)) (t0Votes : (List Int)) (t0Acks : (List Int)) (t0Got : (List (Nat → Int))) (shard1 : Int) (at2 : (Nat → Int)) (m3 : Int) : Prop :=
  if (((((decide (shard1 < 1)) || (decide (64 < shard1))) || (!((resOk_F at2)))) || (decide (m3 < 1))) || (decide (4 < m3))) = true then
    (own_P t0Tx t0State t0Reason t0Seq t0Open t0Shard t0At t0Mode t0Touched t0Votes t0Acks t0Got) ∧ (
    True)
  else
    if (tfree_F t0Tx t0State t0Reason t0Seq t0Open t0Shard t0At t0Mode t0Touched t0Votes t0Acks t0Got) = 0 then
      if t0Seq = 1048576 then
        (own_P t0Tx t0State t0Reason t0Seq t0Open t0Shard t0At t0Mode t0Touched t0Votes t0Acks t0Got) ∧ (
        True)
      else
        (own_P t0Tx t0State t0Reason t0Seq t0Open t0Shard t0At t0Mode t0Touched t0Votes t0Acks t0Got) ∧ (
        (inI64 (t0Seq + 1)) ∧ (
        (search_P t0Touched shard1) ∧ (
        if ((search_F t0Touched shard1).2) = true then
          True
        else
          (cloneI_P t0Touched) ∧ (
          (0 ≤ (search_F t0Touched shard1).1 ∧ (search_F t0Touched shard1).1 ≤ ((cloneI_F t0Touched).length : Int)) ∧ (
          (sortP (cloneI_F t0Touched)) ∧ (
          True))))))
    else
      (own_P t0Tx t0State t0Reason t0Seq t0Open t0Shard t0At t0Mode t0Touched t0Votes t0Acks t0Got) ∧ (
      True)

theorem task_ok (t0Tx : Int) (t0State : Int) (t0Reason : Int) (t0Seq : Int) (t0Open : Bool) (t0Shard : Int) (t0At : (Nat → Int)) (t0Mode : Int) (t0Touched : (List Int)) (t0Votes : (List Int)) (t0Acks : (List Int)) (t0Got : (List (Nat → Int))) (shard1 : Int) (at2 : (Nat → Int)) (m3 : Int) (hP : task_P t0Tx t0State t0Reason t0Seq t0Open t0Shard t0At t0Mode t0Touched t0Votes t0Acks t0Got shard1 at2 m3) : task_S t0Tx t0State t0Reason t0Seq t0Open t0Shard t0At t0Mode t0Touched t0Votes t0Acks t0Got shard1 at2 m3 (task_F t0Tx t0State t0Reason t0Seq t0Open t0Shard t0At t0Mode t0Touched t0Votes t0Acks t0Got shard1 at2 m3) := by
  obtain ⟨r, hr⟩ : ∃ r, r = task_F t0Tx t0State t0Reason t0Seq t0Open t0Shard t0At t0Mode t0Touched t0Votes t0Acks t0Got shard1 at2 m3 := ⟨_, rfl⟩
  rw [← hr]
  unfold task_F at hr
  unfold task_S
  unfold task_P at hP
  by_cases hp41 : (((((decide (shard1 < 1)) || (decide (64 < shard1))) || (!((resOk_F at2)))) || (decide (m3 < 1))) || (decide (4 < m3))) = true
  · rw [if_pos hp41] at hr hP ⊢
    obtain ⟨hq0, hP⟩ := hP
    refine ⟨hq0, ?_⟩
    exact hr
  · rw [if_neg hp41] at hr hP ⊢
    by_cases hp42 : (tfree_F t0Tx t0State t0Reason t0Seq t0Open t0Shard t0At t0Mode t0Touched t0Votes t0Acks t0Got) = 0
    · rw [if_pos hp42] at hr hP ⊢
      by_cases hp43 : t0Seq = 1048576
      · rw [if_pos hp43] at hr hP ⊢
        obtain ⟨hq0, hP⟩ := hP
        refine ⟨hq0, ?_⟩
        exact hr
      · rw [if_neg hp43] at hr hP ⊢
        obtain ⟨hq0, hP⟩ := hP
        refine ⟨hq0, ?_⟩
        obtain ⟨hq0, hP⟩ := hP
        refine ⟨hq0, ?_⟩
        obtain ⟨hq0, hP⟩ := hP
        refine ⟨hq0, ?_⟩
        by_cases hp44 : ((search_F t0Touched shard1).2) = true
        · rw [if_pos hp44] at hr hP ⊢
          exact hr
        · rw [if_neg hp44] at hr hP ⊢
          obtain ⟨hq0, hP⟩ := hP
          refine ⟨hq0, ?_⟩
          obtain ⟨hq0, hP⟩ := hP
          refine ⟨hq0, ?_⟩
          obtain ⟨hq0, hP⟩ := hP
          refine ⟨hq0, ?_⟩
          exact hr
    · rw [if_neg hp42] at hr hP ⊢
      obtain ⟨hq0, hP⟩ := hP
      refine ⟨hq0, ?_⟩
      exact hr

end Go.E
