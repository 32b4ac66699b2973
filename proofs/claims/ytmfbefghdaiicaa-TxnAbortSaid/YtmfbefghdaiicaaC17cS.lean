/- What functions of the program say, as relations. -/
import Derived.Test.YtmfbefghdaiicaaP17b
set_option maxHeartbeats 1000000
set_option linter.unusedVariables false
set_option linter.unusedSimpArgs false
set_option maxRecDepth 100000
namespace Go.E
open Go

def tagain_S (t0Tx : Int) (t0State : Int) (t0Reason : Int) (t0Seq : Int) (t0Open : Bool) (t0Shard : Int) (t0At : (Nat → Int)) (t0Mode : Int) (t0Touched : (List Int)) (t0Votes : (List Int)) (t0Acks : (List Int)) (t0Got : (List (Nat → Int))) (alive1 : Bool) (r : (List (Nat → Int))) : Prop :=
  if t0State = 1 then
    if (t0Open) = true then
      ((0 + 1) * 224 ≤ 140737488355328) ∧ (
      if (alive1) = true then
        (tto_P t0Tx t0State t0Reason t0Seq t0Open t0Shard t0At t0Mode t0Touched t0Votes t0Acks t0Got 8 0 t0Touched) ∧ (
        ((([] ++ [(tlock_F t0Tx t0State t0Reason t0Seq t0Open t0Shard t0At t0Mode t0Touched t0Votes t0Acks t0Got)]).length + (tto_F t0Tx t0State t0Reason t0Seq t0Open t0Shard t0At t0Mode t0Touched t0Votes t0Acks t0Got 8 0 t0Touched).length) * 224 ≤ 140737488355328) ∧ (
        r = ((([] ++ [(tlock_F t0Tx t0State t0Reason t0Seq t0Open t0Shard t0At t0Mode t0Touched t0Votes t0Acks t0Got)]) ++ (tto_F t0Tx t0State t0Reason t0Seq t0Open t0Shard t0At t0Mode t0Touched t0Votes t0Acks t0Got 8 0 t0Touched)))))
      else
        r = (([] ++ [(tlock_F t0Tx t0State t0Reason t0Seq t0Open t0Shard t0At t0Mode t0Touched t0Votes t0Acks t0Got)])))
    else
      if (alive1) = true then
        (tto_P t0Tx t0State t0Reason t0Seq t0Open t0Shard t0At t0Mode t0Touched t0Votes t0Acks t0Got 8 0 t0Touched) ∧ (
        ((0 + (tto_F t0Tx t0State t0Reason t0Seq t0Open t0Shard t0At t0Mode t0Touched t0Votes t0Acks t0Got 8 0 t0Touched).length) * 224 ≤ 140737488355328) ∧ (
        r = (([] ++ (tto_F t0Tx t0State t0Reason t0Seq t0Open t0Shard t0At t0Mode t0Touched t0Votes t0Acks t0Got 8 0 t0Touched)))))
      else
        r = ([])
  else
    if t0State = 2 then
      (tleft_P t0Tx t0State t0Reason t0Seq t0Open t0Shard t0At t0Mode t0Touched t0Votes t0Acks t0Got t0Votes) ∧ (
      (tto_P t0Tx t0State t0Reason t0Seq t0Open t0Shard t0At t0Mode t0Touched t0Votes t0Acks t0Got 4 0 (tleft_F t0Tx t0State t0Reason t0Seq t0Open t0Shard t0At t0Mode t0Touched t0Votes t0Acks t0Got t0Votes)) ∧ (
      r = ((tto_F t0Tx t0State t0Reason t0Seq t0Open t0Shard t0At t0Mode t0Touched t0Votes t0Acks t0Got 4 0 (tleft_F t0Tx t0State t0Reason t0Seq t0Open t0Shard t0At t0Mode t0Touched t0Votes t0Acks t0Got t0Votes)))))
    else
      if t0State = 3 then
        (tleft_P t0Tx t0State t0Reason t0Seq t0Open t0Shard t0At t0Mode t0Touched t0Votes t0Acks t0Got t0Acks) ∧ (
        (tdecision_P t0Tx t0State t0Reason t0Seq t0Open t0Shard t0At t0Mode t0Touched t0Votes t0Acks t0Got (tleft_F t0Tx t0State t0Reason t0Seq t0Open t0Shard t0At t0Mode t0Touched t0Votes t0Acks t0Got t0Acks)) ∧ (
        r = ((tdecision_F t0Tx t0State t0Reason t0Seq t0Open t0Shard t0At t0Mode t0Touched t0Votes t0Acks t0Got (tleft_F t0Tx t0State t0Reason t0Seq t0Open t0Shard t0At t0Mode t0Touched t0Votes t0Acks t0Got t0Acks)))))
      else
        if t0State = 4 then
          (tleft_P t0Tx t0State t0Reason t0Seq t0Open t0Shard t0At t0Mode t0Touched t0Votes t0Acks t0Got t0Acks) ∧ (
          (tdecision_P t0Tx t0State t0Reason t0Seq t0Open t0Shard t0At t0Mode t0Touched t0Votes t0Acks t0Got (tleft_F t0Tx t0State t0Reason t0Seq t0Open t0Shard t0At t0Mode t0Touched t0Votes t0Acks t0Got t0Acks)) ∧ (
          r = ((tdecision_F t0Tx t0State t0Reason t0Seq t0Open t0Shard t0At t0Mode t0Touched t0Votes t0Acks t0Got (tleft_F t0Tx t0State t0Reason t0Seq t0Open t0Shard t0At t0Mode t0Touched t0Votes t0Acks t0Got t0Acks)))))
        else
          r = ([])

def tagain_F (t0Tx : Int) (t0State : Int) (t0Reason : Int) (t0Seq : Int) (t0Open : Bool) (t0Shard : Int) (t0At : (Nat → Int)) (t0Mode : Int) (t0Touched : (List Int)) (t0Votes : (List Int)) (t0Acks : (List Int)) (t0Got : (List (Nat → Int))) (alive1 : Bool) : (List (Nat → Int)) :=
  if t0State = 1 then
    if (t0Open) = true then
      if (alive1) = true then
        (([] ++ [(tlock_F t0Tx t0State t0Reason t0Seq t0Open t0Shard t0At t0Mode t0Touched t0Votes t0Acks t0Got)]) ++ (tto_F t0Tx t0State t0Reason t0Seq t0Open t0Shard t0At t0Mode t0Touched t0Votes t0Acks t0Got 8 0 t0Touched))
      else
        ([] ++ [(tlock_F t0Tx t0State t0Reason t0Seq t0Open t0Shard t0At t0Mode t0Touched t0Votes t0Acks t0Got)])
    else
      if (alive1) = true then
        ([] ++ (tto_F t0Tx t0State t0Reason t0Seq t0Open t0Shard t0At t0Mode t0Touched t0Votes t0Acks t0Got 8 0 t0Touched))
      else
        []
  else
    if t0State = 2 then
      (tto_F t0Tx t0State t0Reason t0Seq t0Open t0Shard t0At t0Mode t0Touched t0Votes t0Acks t0Got 4 0 (tleft_F t0Tx t0State t0Reason t0Seq t0Open t0Shard t0At t0Mode t0Touched t0Votes t0Acks t0Got t0Votes))
    else
      if t0State = 3 then
        (tdecision_F t0Tx t0State t0Reason t0Seq t0Open t0Shard t0At t0Mode t0Touched t0Votes t0Acks t0Got (tleft_F t0Tx t0State t0Reason t0Seq t0Open t0Shard t0At t0Mode t0Touched t0Votes t0Acks t0Got t0Acks))
      else
        if t0State = 4 then
          (tdecision_F t0Tx t0State t0Reason t0Seq t0Open t0Shard t0At t0Mode t0Touched t0Votes t0Acks t0Got (tleft_F t0Tx t0State t0Reason t0Seq t0Open t0Shard t0At t0Mode t0Touched t0Votes t0Acks t0Got t0Acks))
        else
          []

def tagain_P (t0Tx : Int) (t0State : Int) (t0Reason : Int) (t0Seq : Int) (t0Open : Bool) (t0Shard : Int) (t0At : (Nat → Int)) (t0Mode : Int) (t0Touched : (List Int)) (t0Votes : (List Int)) (t0Acks : (List Int)) (t0Got : (List (Nat → Int))) (alive1 : Bool) : Prop :=
  if t0State = 1 then
    if (t0Open) = true then
      ((0 + 1) * 224 ≤ 140737488355328) ∧ (
      if (alive1) = true then
        (tto_P t0Tx t0State t0Reason t0Seq t0Open t0Shard t0At t0Mode t0Touched t0Votes t0Acks t0Got 8 0 t0Touched) ∧ (
        ((([] ++ [(tlock_F t0Tx t0State t0Reason t0Seq t0Open t0Shard t0At t0Mode t0Touched t0Votes t0Acks t0Got)]).length + (tto_F t0Tx t0State t0Reason t0Seq t0Open t0Shard t0At t0Mode t0Touched t0Votes t0Acks t0Got 8 0 t0Touched).length) * 224 ≤ 140737488355328) ∧ (
        True))
      else
        True)
    else
      if (alive1) = true then
        (tto_P t0Tx t0State t0Reason t0Seq t0Open t0Shard t0At t0Mode t0Touched t0Votes t0Acks t0Got 8 0 t0Touched) ∧ (
        ((0 + (tto_F t0Tx t0State t0Reason t0Seq t0Open t0Shard t0At t0Mode t0Touched t0Votes t0Acks t0Got 8 0 t0Touched).length) * 224 ≤ 140737488355328) ∧ (
        True))
      else
        True
  else
    if t0State = 2 then
      (tleft_P t0Tx t0State t0Reason t0Seq t0Open t0Shard t0At t0Mode t0Touched t0Votes t0Acks t0Got t0Votes) ∧ (
      (tto_P t0Tx t0State t0Reason t0Seq t0Open t0Shard t0At t0Mode t0Touched t0Votes t0Acks t0Got 4 0 (tleft_F t0Tx t0State t0Reason t0Seq t0Open t0Shard t0At t0Mode t0Touched t0Votes t0Acks t0Got t0Votes)) ∧ (
      True))
    else
      if t0State = 3 then
        (tleft_P t0Tx t0State t0Reason t0Seq t0Open t0Shard t0At t0Mode t0Touched t0Votes t0Acks t0Got t0Acks) ∧ (
        (tdecision_P t0Tx t0State t0Reason t0Seq t0Open t0Shard t0At t0Mode t0Touched t0Votes t0Acks t0Got (tleft_F t0Tx t0State t0Reason t0Seq t0Open t0Shard t0At t0Mode t0Touched t0Votes t0Acks t0Got t0Acks)) ∧ (
        True))
      else
        if t0State = 4 then
          (tleft_P t0Tx t0State t0Reason t0Seq t0Open t0Shard t0At t0Mode t0Touched t0Votes t0Acks t0Got t0Acks) ∧ (
          (tdecision_P t0Tx t0State t0Reason t0Seq t0Open t0Shard t0At t0Mode t0Touched t0Votes t0Acks t0Got (tleft_F t0Tx t0State t0Reason t0Seq t0Open t0Shard t0At t0Mode t0Touched t0Votes t0Acks t0Got t0Acks)) ∧ (
          True))
        else
          True

theorem tagain_ok (t0Tx : Int) (t0State : Int) (t0Reason : Int) (t0Seq : Int) (t0Open : Bool) (t0Shard : Int) (t0At : (Nat → Int)) (t0Mode : Int) (t0Touched : (List Int)) (t0Votes : (List Int)) (t0Acks : (List Int)) (t0Got : (List (Nat → Int))) (alive1 : Bool) (hP : tagain_P t0Tx t0State t0Reason t0Seq t0Open t0Shard t0At t0Mode t0Touched t0Votes t0Acks t0Got alive1) : tagain_S t0Tx t0State t0Reason t0Seq t0Open t0Shard t0At t0Mode t0Touched t0Votes t0Acks t0Got alive1 (tagain_F t0Tx t0State t0Reason t0Seq t0Open t0Shard t0At t0Mode t0Touched t0Votes t0Acks t0Got alive1) := by
  obtain ⟨r, hr⟩ : ∃ r, r = tagain_F t0Tx t0State t0Reason t0Seq t0Open t0Shard t0At t0Mode t0Touched t0Votes t0Acks t0Got alive1 := ⟨_, rfl⟩
  rw [← hr]
  unfold tagain_F at hr
  unfold tagain_S
  unfold tagain_P at hP
  by_cases hp41 : t0State = 1
  · rw [if_pos hp41] at hr hP ⊢
    by_cases hp42 : (t0Open) = true
    · rw [if_pos hp42] at hr hP ⊢
      obtain ⟨hq0, hP⟩ := hP
      refine ⟨hq0, ?_⟩
      by_cases hp43 : (alive1) = true
      · rw [if_pos hp43] at hr hP ⊢
        obtain ⟨hq0, hP⟩ := hP
        refine ⟨hq0, ?_⟩
        obtain ⟨hq0, hP⟩ := hP
        refine ⟨hq0, ?_⟩
        exact hr
      · rw [if_neg hp43] at hr hP ⊢
        exact hr
    · rw [if_neg hp42] at hr hP ⊢
      by_cases hp44 : (alive1) = true
      · rw [if_pos hp44] at hr hP ⊢
        obtain ⟨hq0, hP⟩ := hP
        refine ⟨hq0, ?_⟩
        obtain ⟨hq0, hP⟩ := hP
        refine ⟨hq0, ?_⟩
        exact hr
      · rw [if_neg hp44] at hr hP ⊢
        exact hr
  · rw [if_neg hp41] at hr hP ⊢
    by_cases hp45 : t0State = 2
    · rw [if_pos hp45] at hr hP ⊢
      obtain ⟨hq0, hP⟩ := hP
      refine ⟨hq0, ?_⟩
      obtain ⟨hq0, hP⟩ := hP
      refine ⟨hq0, ?_⟩
      exact hr
    · rw [if_neg hp45] at hr hP ⊢
      by_cases hp46 : t0State = 3
      · rw [if_pos hp46] at hr hP ⊢
        obtain ⟨hq0, hP⟩ := hP
        refine ⟨hq0, ?_⟩
        obtain ⟨hq0, hP⟩ := hP
        refine ⟨hq0, ?_⟩
        exact hr
      · rw [if_neg hp46] at hr hP ⊢
        by_cases hp47 : t0State = 4
        · rw [if_pos hp47] at hr hP ⊢
          obtain ⟨hq0, hP⟩ := hP
          refine ⟨hq0, ?_⟩
          obtain ⟨hq0, hP⟩ := hP
          refine ⟨hq0, ?_⟩
          exact hr
        · rw [if_neg hp47] at hr hP ⊢
          exact hr

def tover_S (t0Tx : Int) (t0State : Int) (t0Reason : Int) (t0Seq : Int) (t0Open : Bool) (t0Shard : Int) (t0At : (Nat → Int)) (t0Mode : Int) (t0Touched : (List Int)) (t0Votes : (List Int)) (t0Acks : (List Int)) (t0Got : (List (Nat → Int))) (r : Bool) : Prop :=
  if ((tdecided_F t0Tx t0State t0Reason t0Seq t0Open t0Shard t0At t0Mode t0Touched t0Votes t0Acks t0Got)) = true then
    (tleft_P t0Tx t0State t0Reason t0Seq t0Open t0Shard t0At t0Mode t0Touched t0Votes t0Acks t0Got t0Acks) ∧ (
    r = (decide (((tleft_F t0Tx t0State t0Reason t0Seq t0Open t0Shard t0At t0Mode t0Touched t0Votes t0Acks t0Got t0Acks).length : Int) = 0)))
  else
    r = (false)

def tover_F (t0Tx : Int) (t0State : Int) (t0Reason : Int) (t0Seq : Int) (t0Open : Bool) (t0Shard : Int) (t0At : (Nat → Int)) (t0Mode : Int) (t0Touched : (List Int)) (t0Votes : (List Int)) (t0Acks : (List Int)) (t0Got : (List (Nat → Int))) : Bool :=
  if ((tdecided_F t0Tx t0State t0Reason t0Seq t0Open t0Shard t0At t0Mode t0Touched t0Votes t0Acks t0Got)) = true then
    decide (((tleft_F t0Tx t0State t0Reason t0Seq t0Open t0Shard t0At t0Mode t0Touched t0Votes t0Acks t0Got t0Acks).length : Int) = 0)
  else
    false

def tover_P (t0Tx : Int) (t0State : Int) (t0Reason : Int) (t0Seq : Int) (t0Open : Bool) (t0Shard : Int) (t0At : (Nat → Int)) (t0Mode : Int) (t0Touched : (List Int)) (t0Votes : (List Int)) (t0Acks : (List Int)) (t0Got : (List (Nat → Int))) : Prop :=
  if ((tdecided_F t0Tx t0State t0Reason t0Seq t0Open t0Shard t0At t0Mode t0Touched t0Votes t0Acks t0Got)) = true then
    (tleft_P t0Tx t0State t0Reason t0Seq t0Open t0Shard t0At t0Mode t0Touched t0Votes t0Acks t0Got t0Acks) ∧ (
    True)
  else
    True

theorem tover_ok (t0Tx : Int) (t0State : Int) (t0Reason : Int) (t0Seq : Int) (t0Open : Bool) (t0Shard : Int) (t0At : (Nat → Int)) (t0Mode : Int) (t0Touched : (List Int)) (t0Votes : (List Int)) (t0Acks : (List Int)) (t0Got : (List (Nat → Int))) (hP : tover_P t0Tx t0State t0Reason t0Seq t0Open t0Shard t0At t0Mode t0Touched t0Votes t0Acks t0Got) : tover_S t0Tx t0State t0Reason t0Seq t0Open t0Shard t0At t0Mode t0Touched t0Votes t0Acks t0Got (tover_F t0Tx t0State t0Reason t0Seq t0Open t0Shard t0At t0Mode t0Touched t0Votes t0Acks t0Got) := by
  obtain ⟨r, hr⟩ : ∃ r, r = tover_F t0Tx t0State t0Reason t0Seq t0Open t0Shard t0At t0Mode t0Touched t0Votes t0Acks t0Got := ⟨_, rfl⟩
  rw [← hr]
  unfold tover_F at hr
  unfold tover_S
  unfold tover_P at hP
  by_cases hp48 : ((tdecided_F t0Tx t0State t0Reason t0Seq t0Open t0Shard t0At t0Mode t0Touched t0Votes t0Acks t0Got)) = true
  · rw [if_pos hp48] at hr hP ⊢
    obtain ⟨hq0, hP⟩ := hP
    refine ⟨hq0, ?_⟩
    exact hr
  · rw [if_neg hp48] at hr hP ⊢
    exact hr

end Go.E
