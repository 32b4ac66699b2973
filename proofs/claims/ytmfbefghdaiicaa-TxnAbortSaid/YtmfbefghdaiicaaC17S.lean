/- What functions of the program say, as relations. -/
import Derived.Test.YtmfbefghdaiicaaP17b
set_option maxHeartbeats 1000000
set_option linter.unusedVariables false
set_option linter.unusedSimpArgs false
set_option maxRecDepth 100000
namespace Go.E
open Go

def task_S (t0Tx : Int) (t0State : Int) (t0Reason : Int) (t0Seq : Int) (t0Open : Bool) (t0Shard : Int) (t0At : (Nat → Int)) (t0Mode : Int) (t0Touched : (List Int)) (t0Votes : (List Int)) (t0Acks : (List Int)) (t0Got : (List (Nat → Int))) (shard1 : Int) (at2 : (Nat → Int)) (m3 : Int) (r : (Int × Int × Int × Int × Bool × Int × (Nat → Int) × Int × (List Int) × (List Int) × (List Int) × (List (Nat → Int))) × (List (Nat → Int)) × Int) : Prop :=
  if (((((decide (shard1 < 1)) || (decide (64 < shard1))) || (!((resOk_F at2)))) || (decide (m3 < 1))) || (decide (4 < m3))) = true then
    (own_P t0Tx t0State t0Reason t0Seq t0Open t0Shard t0At t0Mode t0Touched t0Votes t0Acks t0Got) ∧ (
    r = (((t0Tx, t0State, t0Reason, t0Seq, t0Open, t0Shard, t0At, t0Mode, t0Touched, t0Votes, t0Acks, t0Got), [], 1)))
  else
    if (tfree_F t0Tx t0State t0Reason t0Seq t0Open t0Shard t0At t0Mode t0Touched t0Votes t0Acks t0Got) = 0 then
      if t0Seq = 1048576 then
        (own_P t0Tx t0State t0Reason t0Seq t0Open t0Shard t0At t0Mode t0Touched t0Votes t0Acks t0Got) ∧ (
        r = (((t0Tx, t0State, t0Reason, t0Seq, t0Open, t0Shard, t0At, t0Mode, t0Touched, t0Votes, t0Acks, t0Got), [], 6)))
      else
        (own_P t0Tx t0State t0Reason t0Seq t0Open t0Shard t0At t0Mode t0Touched t0Votes t0Acks t0Got) ∧ (
        (inI64 (t0Seq + 1)) ∧ (
        (search_P t0Touched shard1) ∧ (
        if ((search_F t0Touched shard1).2) = true then
          r = (((t0Tx, t0State, t0Reason, t0Seq + 1, true, shard1, at2, m3, t0Touched, t0Votes, t0Acks, t0Got), [(tlock_F t0Tx t0State t0Reason (t0Seq + 1) true shard1 at2 m3 t0Touched t0Votes t0Acks t0Got)], 0))
        else
          (cloneI_P t0Touched) ∧ (
          (0 ≤ (search_F t0Touched shard1).1 ∧ (search_F t0Touched shard1).1 ≤ ((cloneI_F t0Touched).length : Int)) ∧ (
          (sortP (cloneI_F t0Touched)) ∧ (
          r = (((t0Tx, t0State, t0Reason, t0Seq + 1, true, shard1, at2, m3, (insL1 (cloneI_F t0Touched) ((search_F t0Touched shard1).1).toNat shard1), t0Votes, t0Acks, t0Got), [(tlock_F t0Tx t0State t0Reason (t0Seq + 1) true shard1 at2 m3 (insL1 (cloneI_F t0Touched) ((search_F t0Touched shard1).1).toNat shard1) t0Votes t0Acks t0Got)], 0))))))))
    else
      (own_P t0Tx t0State t0Reason t0Seq t0Open t0Shard t0At t0Mode t0Touched t0Votes t0Acks t0Got) ∧ (
      r = (((t0Tx, t0State, t0Reason, t0Seq, t0Open, t0Shard, t0At, t0Mode, t0Touched, t0Votes, t0Acks, t0Got), [], (tfree_F t0Tx t0State t0Reason t0Seq t0Open t0Shard t0At t0Mode t0Touched t0Votes t0Acks t0Got))))

def task_F (t0Tx : Int) (t0State : Int) (t0Reason : Int) (t0Seq : Int) (t0Open : Bool) (t0Shard : Int) (t0At : (Nat → Int)) (t0Mode : Int) (t0Touched : (List Int)) (t0Votes : (List Int)) (t0Acks : (List Int)) (t0Got : (List (Nat → Int))) (shard1 : Int) (at2 : (Nat → Int)) (m3 : Int) : (Int × Int × Int × Int × Bool × Int × (Nat → Int) × Int × (List Int) × (List Int) × (List Int) × (List (Nat → Int))) × (List (Nat → Int)) × Int :=
  if (((((decide (shard1 < 1)) || (decide (64 < shard1))) || (!((resOk_F at2)))) || (decide (m3 < 1))) || (decide (4 < m3))) = true then
    ((t0Tx, t0State, t0Reason, t0Seq, t0Open, t0Shard, t0At, t0Mode, t0Touched, t0Votes, t0Acks, t0Got), [], 1)
  else
    if (tfree_F t0Tx t0State t0Reason t0Seq t0Open t0Shard t0At t0Mode t0Touched t0Votes t0Acks t0Got) = 0 then
      if t0Seq = 1048576 then
        ((t0Tx, t0State, t0Reason, t0Seq, t0Open, t0Shard, t0At, t0Mode, t0Touched, t0Votes, t0Acks, t0Got), [], 6)
      else
        if ((search_F t0Touched shard1).2) = true then
          ((t0Tx, t0State, t0Reason, t0Seq + 1, true, shard1, at2, m3, t0Touched, t0Votes, t0Acks, t0Got), [(tlock_F t0Tx t0State t0Reason (t0Seq + 1) true shard1 at2 m3 t0Touched t0Votes t0Acks t0Got)], 0)
        else
          ((t0Tx, t0State, t0Reason, t0Seq + 1, true, shard1, at2, m3, (insL1 (cloneI_F t0Touched) ((search_F t0Touched shard1).1).toNat shard1), t0Votes, t0Acks, t0Got), [(tlock_F t0Tx t0State t0Reason (t0Seq + 1) true shard1 at2 m3 (insL1 (cloneI_F t0Touched) ((search_F t0Touched shard1).1).toNat shard1) t0Votes t0Acks t0Got)], 0)
    else
      ((t0Tx, t0State, t0Reason, t0Seq, t0Open, t0Shard, t0At, t0Mode, t0Touched, t0Votes, t0Acks, t0Got), [], (tfree_F t0Tx t0State t0Reason t0Seq t0Open t0Shard t0At t0Mode t0Touched t0Votes t0Acks t0Got))

def task_P (t0Tx : Int) (t0State : Int) (t0Reason : Int) (t0Seq : Int) (t0Open : Bool) (t0Shard : Int) (t0At : (Nat → Int)) (t0Mode : Int) (t0Touched : (List Int)) (t0Votes : (List Int)) (t0Acks : (List Int)) (t0Got : (List (Nat → Int))) (shard1 : Int) (at2 : (Nat → Int)) (m3 : Int) : Prop :=
  if (((((decide (shard1 < 1)) || (decide (64 < shard1))) || (!((resOk_F at2)))) || (decide (m3 < 1))) || (decide (4 < m3))) = true then
    (own_P t0Tx t0State t0Reason t0Seq t0Open t0Shard t0At t0Mode t0Touched t0Votes t0Acks t0Got) ∧ (
    True)
  else
    if (tfree_F t0Tx t0State t0Reason t0Seq t0Open t0Shard t0At t0Mode t0Touched t0Votes t0Acks t0Got) = 0 then
      if t0Seq = 1048576 then
        (own_P t0Tx t0State t0Reason t0Seq t0Open t0Shard t0At t0Mode t0Touched t0Votes t0Acks t0Got) ∧ (
        True)
      else
        (own_P t0Tx t0State t0Reason t0Seq t0Open t0Shard t0At t0Mode t0Touched t0Votes t0Acks t0Got) ∧ (
        (inI64 (t0Seq + 1)) ∧ (
        (search_P t0Touched shard1) ∧ (
        if ((search_F t0Touched shard1).2) = true then
          True
        else
          (cloneI_P t0Touched) ∧ (
          (0 ≤ (search_F t0Touched shard1).1 ∧ (search_F t0Touched shard1).1 ≤ ((cloneI_F t0Touched).length : Int)) ∧ (
          (sortP (cloneI_F t0Touched)) ∧ (
          True))))))
    else
      (own_P t0Tx t0State t0Reason t0Seq t0Open t0Shard t0At t0Mode t0Touched t0Votes t0Acks t0Got) ∧ (
      True)

theorem task_ok (t0Tx : Int) (t0State : Int) (t0Reason : Int) (t0Seq : Int) (t0Open : Bool) (t0Shard : Int) (t0At : (Nat → Int)) (t0Mode : Int) (t0Touched : (List Int)) (t0Votes : (List Int)) (t0Acks : (List Int)) (t0Got : (List (Nat → Int))) (shard1 : Int) (at2 : (Nat → Int)) (m3 : Int) (hP : task_P t0Tx t0State t0Reason t0Seq t0Open t0Shard t0At t0Mode t0Touched t0Votes t0Acks t0Got shard1 at2 m3) : task_S t0Tx t0State t0Reason t0Seq t0Open t0Shard t0At t0Mode t0Touched t0Votes t0Acks t0Got shard1 at2 m3 (task_F t0Tx t0State t0Reason t0Seq t0Open t0Shard t0At t0Mode t0Touched t0Votes t0Acks t0Got shard1 at2 m3) := by
  obtain ⟨r, hr⟩ : ∃ r, r = task_F t0Tx t0State t0Reason t0Seq t0Open t0Shard t0At t0Mode t0Touched t0Votes t0Acks t0Got shard1 at2 m3 := ⟨_, rfl⟩
  rw [← hr]
  unfold task_F at hr
  unfold task_S
  unfold task_P at hP
  by_cases hp22 : (((((decide (shard1 < 1)) || (decide (64 < shard1))) || (!((resOk_F at2)))) || (decide (m3 < 1))) || (decide (4 < m3))) = true
  · rw [if_pos hp22] at hr hP ⊢
    obtain ⟨hq0, hP⟩ := hP
    refine ⟨hq0, ?_⟩
    exact hr
  · rw [if_neg hp22] at hr hP ⊢
    by_cases hp23 : (tfree_F t0Tx t0State t0Reason t0Seq t0Open t0Shard t0At t0Mode t0Touched t0Votes t0Acks t0Got) = 0
    · rw [if_pos hp23] at hr hP ⊢
      by_cases hp24 : t0Seq = 1048576
      · rw [if_pos hp24] at hr hP ⊢
        obtain ⟨hq0, hP⟩ := hP
        refine ⟨hq0, ?_⟩
        exact hr
      · rw [if_neg hp24] at hr hP ⊢
        obtain ⟨hq0, hP⟩ := hP
        refine ⟨hq0, ?_⟩
        obtain ⟨hq0, hP⟩ := hP
        refine ⟨hq0, ?_⟩
        obtain ⟨hq0, hP⟩ := hP
        refine ⟨hq0, ?_⟩
        by_cases hp25 : ((search_F t0Touched shard1).2) = true
        · rw [if_pos hp25] at hr hP ⊢
          exact hr
        · rw [if_neg hp25] at hr hP ⊢
          obtain ⟨hq0, hP⟩ := hP
          refine ⟨hq0, ?_⟩
          obtain ⟨hq0, hP⟩ := hP
          refine ⟨hq0, ?_⟩
          obtain ⟨hq0, hP⟩ := hP
          refine ⟨hq0, ?_⟩
          exact hr
    · rw [if_neg hp23] at hr hP ⊢
      obtain ⟨hq0, hP⟩ := hP
      refine ⟨hq0, ?_⟩
      exact hr

def tanswered_S (t0Tx : Int) (t0State : Int) (t0Reason : Int) (t0Seq : Int) (t0Open : Bool) (t0Shard : Int) (t0At : (Nat → Int)) (t0Mode : Int) (t0Touched : (List Int)) (t0Votes : (List Int)) (t0Acks : (List Int)) (t0Got : (List (Nat → Int))) (m1 : (Nat → Int)) (r : (Int × Int × Int × Int × Bool × Int × (Nat → Int) × Int × (List Int) × (List Int) × (List Int) × (List (Nat → Int))) × Int) : Prop :=
  (own_P t0Tx t0State t0Reason t0Seq t0Open t0Shard t0At t0Mode t0Touched t0Votes t0Acks t0Got) ∧ (
  (tform_P t0Tx t0State t0Reason t0Seq t0Open t0Shard t0At t0Mode t0Touched t0Votes t0Acks t0Got m1 ([2, 3])) ∧ (
  if (tform_F t0Tx t0State t0Reason t0Seq t0Open t0Shard t0At t0Mode t0Touched t0Votes t0Acks t0Got m1 ([2, 3])) = 0 then
    if t0State = 1 then
      if ((((!(t0Open)) || (!(decide (m1 4 = t0Seq)))) || (!(decide (m1 1 = t0Shard)))) || ((decide (m1 0 = 2)) && (!((eqN 2 (fun i => m1 (5 + i)) t0At))))) = true then
        r = (((t0Tx, t0State, t0Reason, t0Seq, t0Open, t0Shard, t0At, t0Mode, t0Touched, t0Votes, t0Acks, t0Got), 14))
      else
        if m1 0 = 2 then
          ((t0Got.length + 1) * 40 ≤ 140737488355328) ∧ (
          r = (((t0Tx, t0State, t0Reason, t0Seq, false, t0Shard, t0At, t0Mode, t0Touched, t0Votes, t0Acks, (t0Got ++ [(updI (updRI (updI (updI (fun _ => 0) 0 (m1 3)) 1 (m1 4)) 2 2 (fun i => m1 (5 + i))) 4 (m1 7))])), 0)))
        else
          r = (((t0Tx, t0State, t0Reason, t0Seq, false, t0Shard, t0At, t0Mode, t0Touched, t0Votes, t0Acks, t0Got), 0))
    else
      r = (((t0Tx, t0State, t0Reason, t0Seq, t0Open, t0Shard, t0At, t0Mode, t0Touched, t0Votes, t0Acks, t0Got), 11))
  else
    r = (((t0Tx, t0State, t0Reason, t0Seq, t0Open, t0Shard, t0At, t0Mode, t0Touched, t0Votes, t0Acks, t0Got), (tform_F t0Tx t0State t0Reason t0Seq t0Open t0Shard t0At t0Mode t0Touched t0Votes t0Acks t0Got m1 ([2, 3]))))))

def tanswered_F (t0Tx : Int) (t0State : Int) (t0Reason : Int) (t0Seq : Int) (t0Open : Bool) (t0Shard : Int) (t0At : (Nat → Int)) (t0Mode : Int) (t0Touched : (List Int)) (t0Votes : (List Int)) (t0Acks : (List Int)) (t0Got : (List (Nat → Int))) (m1 : (Nat → Int)) : (Int × Int × Int × Int × Bool × Int × (Nat → Int) × Int × (List Int) × (List Int) × (List Int) × (List (Nat → Int))) × Int :=
  if (tform_F t0Tx t0State t0Reason t0Seq t0Open t0Shard t0At t0Mode t0Touched t0Votes t0Acks t0Got m1 ([2, 3])) = 0 then
    if t0State = 1 then
      if ((((!(t0Open)) || (!(decide (m1 4 = t0Seq)))) || (!(decide (m1 1 = t0Shard)))) || ((decide (m1 0 = 2)) && (!((eqN 2 (fun i => m1 (5 + i)) t0At))))) = true then
        ((t0Tx, t0State, t0Reason, t0Seq, t0Open, t0Shard, t0At, t0Mode, t0Touched, t0Votes, t0Acks, t0Got), 14)
      else
        if m1 0 = 2 then
          ((t0Tx, t0State, t0Reason, t0Seq, false, t0Shard, t0At, t0Mode, t0Touched, t0Votes, t0Acks, (t0Got ++ [(updI (updRI (updI (updI (fun _ => 0) 0 (m1 3)) 1 (m1 4)) 2 2 (fun i => m1 (5 + i))) 4 (m1 7))])), 0)
        else
          ((t0Tx, t0State, t0Reason, t0Seq, false, t0Shard, t0At, t0Mode, t0Touched, t0Votes, t0Acks, t0Got), 0)
    else
      ((t0Tx, t0State, t0Reason, t0Seq, t0Open, t0Shard, t0At, t0Mode, t0Touched, t0Votes, t0Acks, t0Got), 11)
  else
    ((t0Tx, t0State, t0Reason, t0Seq, t0Open, t0Shard, t0At, t0Mode, t0Touched, t0Votes, t0Acks, t0Got), (tform_F t0Tx t0State t0Reason t0Seq t0Open t0Shard t0At t0Mode t0Touched t0Votes t0Acks t0Got m1 ([2, 3])))

def tanswered_P (t0Tx : Int) (t0State : Int) (t0Reason : Int) (t0Seq : Int) (t0Open : Bool) (t0Shard : Int) (t0At : (Nat → Int)) (t0Mode : Int) (t0Touched : (List Int)) (t0Votes : (List Int)) (t0Acks : (List Int)) (t0Got : (List (Nat → Int))) (m1 : (Nat → Int)) : Prop :=
  (own_P t0Tx t0State t0Reason t0Seq t0Open t0Shard t0At t0Mode t0Touched t0Votes t0Acks t0Got) ∧ (
  (tform_P t0Tx t0State t0Reason t0Seq t0Open t0Shard t0At t0Mode t0Touched t0Votes t0Acks t0Got m1 ([2, 3])) ∧ (
  if (tform_F t0Tx t0State t0Reason t0Seq t0Open t0Shard t0At t0Mode t0Touched t0Votes t0Acks t0Got m1 ([2, 3])) = 0 then
    if t0State = 1 then
      if ((((!(t0Open)) || (!(decide (m1 4 = t0Seq)))) || (!(decide (m1 1 = t0Shard)))) || ((decide (m1 0 = 2)) && (!((eqN 2 (fun i => m1 (5 + i)) t0At))))) = true then
        True
      else
        if m1 0 = 2 then
          ((t0Got.length + 1) * 40 ≤ 140737488355328) ∧ (
          True)
        else
          True
    else
      True
  else
    True))

theorem tanswered_ok (t0Tx : Int) (t0State : Int) (t0Reason : Int) (t0Seq : Int) (t0Open : Bool) (t0Shard : Int) (t0At : (Nat → Int)) (t0Mode : Int) (t0Touched : (List Int)) (t0Votes : (List Int)) (t0Acks : (List Int)) (t0Got : (List (Nat → Int))) (m1 : (Nat → Int)) (hP : tanswered_P t0Tx t0State t0Reason t0Seq t0Open t0Shard t0At t0Mode t0Touched t0Votes t0Acks t0Got m1) : tanswered_S t0Tx t0State t0Reason t0Seq t0Open t0Shard t0At t0Mode t0Touched t0Votes t0Acks t0Got m1 (tanswered_F t0Tx t0State t0Reason t0Seq t0Open t0Shard t0At t0Mode t0Touched t0Votes t0Acks t0Got m1) := by
  obtain ⟨r, hr⟩ : ∃ r, r = tanswered_F t0Tx t0State t0Reason t0Seq t0Open t0Shard t0At t0Mode t0Touched t0Votes t0Acks t0Got m1 := ⟨_, rfl⟩
  rw [← hr]
  unfold tanswered_F at hr
  unfold tanswered_S
  unfold tanswered_P at hP
  obtain ⟨hq0, hP⟩ := hP
  refine ⟨hq0, ?_⟩
  obtain ⟨hq0, hP⟩ := hP
  refine ⟨hq0, ?_⟩
  by_cases hp26 : (tform_F t0Tx t0State t0Reason t0Seq t0Open t0Shard t0At t0Mode t0Touched t0Votes t0Acks t0Got m1 ([2, 3])) = 0
  · rw [if_pos hp26] at hr hP ⊢
    by_cases hp27 : t0State = 1
    · rw [if_pos hp27] at hr hP ⊢
      by_cases hp28 : ((((!(t0Open)) || (!(decide (m1 4 = t0Seq)))) || (!(decide (m1 1 = t0Shard)))) || ((decide (m1 0 = 2)) && (!((eqN 2 (fun i => m1 (5 + i)) t0At))))) = true
      · rw [if_pos hp28] at hr hP ⊢
        exact hr
      · rw [if_neg hp28] at hr hP ⊢
        by_cases hp29 : m1 0 = 2
        · rw [if_pos hp29] at hr hP ⊢
          obtain ⟨hq0, hP⟩ := hP
          refine ⟨hq0, ?_⟩
          exact hr
        · rw [if_neg hp29] at hr hP ⊢
          exact hr
    · rw [if_neg hp27] at hr hP ⊢
      exact hr
  · rw [if_neg hp26] at hr hP ⊢
    exact hr

end Go.E
