/- What functions of the program say, as relations. -/
import Derived.Test.YtmfbefghdaiicaaP17b
set_option maxHeartbeats 1000000
set_option linter.unusedVariables false
set_option linter.unusedSimpArgs false
set_option maxRecDepth 100000
namespace Go.E
open Go

def tfinish_S (t0Tx : Int) (t0State : Int) (t0Reason : Int) (t0Seq : Int) (t0Open : Bool) (t0Shard : Int) (t0At : (Nat → Int)) (t0Mode : Int) (t0Touched : (List Int)) (t0Votes : (List Int)) (t0Acks : (List Int)) (t0Got : (List (Nat → Int))) (r : (Int × Int × Int × Int × Bool × Int × (Nat → Int) × Int × (List Int) × (List Int) × (List Int) × (List (Nat → Int))) × (List (Nat → Int)) × Int) : Prop :=
  (own_P t0Tx t0State t0Reason t0Seq t0Open t0Shard t0At t0Mode t0Touched t0Votes t0Acks t0Got) ∧ (
  if (tfree_F t0Tx t0State t0Reason t0Seq t0Open t0Shard t0At t0Mode t0Touched t0Votes t0Acks t0Got) = 0 then
    if (t0Touched.length : Int) = 0 then
      (tdecision_P t0Tx 3 0 t0Seq false t0Shard t0At t0Mode t0Touched t0Votes t0Acks t0Got t0Touched) ∧ (
      r = (((t0Tx, 3, 0, t0Seq, false, t0Shard, t0At, t0Mode, t0Touched, t0Votes, t0Acks, t0Got), (tdecision_F t0Tx 3 0 t0Seq false t0Shard t0At t0Mode t0Touched t0Votes t0Acks t0Got t0Touched), 0)))
    else
      (tto_P t0Tx 2 t0Reason t0Seq t0Open t0Shard t0At t0Mode t0Touched t0Votes t0Acks t0Got 4 0 t0Touched) ∧ (
      r = (((t0Tx, 2, t0Reason, t0Seq, t0Open, t0Shard, t0At, t0Mode, t0Touched, t0Votes, t0Acks, t0Got), (tto_F t0Tx 2 t0Reason t0Seq t0Open t0Shard t0At t0Mode t0Touched t0Votes t0Acks t0Got 4 0 t0Touched), 0)))
  else
    r = (((t0Tx, t0State, t0Reason, t0Seq, t0Open, t0Shard, t0At, t0Mode, t0Touched, t0Votes, t0Acks, t0Got), [], (tfree_F t0Tx t0State t0Reason t0Seq t0Open t0Shard t0At t0Mode t0Touched t0Votes t0Acks t0Got))))

def tfinish_F (t0Tx : Int) (t0State : Int) (t0Reason : Int) (t0Seq : Int) (t0Open : Bool) (t0Shard : Int) (t0At : (Nat → Int)) (t0Mode : Int) (t0Touched : (List Int)) (t0Votes : (List Int)) (t0Acks : (List Int)) (t0Got : (List (Nat → Int))) : (Int × Int × Int × Int × Bool × Int × (Nat → Int) × Int × (List Int) × (List Int) × (List Int) × (List (Nat → Int))) × (List (Nat → Int)) × Int :=
  if (tfree_F t0Tx t0State t0Reason t0Seq t0Open t0Shard t0At t0Mode t0Touched t0Votes t0Acks t0Got) = 0 then
    if (t0Touched.length : Int) = 0 then
      ((t0Tx, 3, 0, t0Seq, false, t0Shard, t0At, t0Mode, t0Touched, t0Votes, t0Acks, t0Got), (tdecision_F t0Tx 3 0 t0Seq false t0Shard t0At t0Mode t0Touched t0Votes t0Acks t0Got t0Touched), 0)
    else
      ((t0Tx, 2, t0Reason, t0Seq, t0Open, t0Shard, t0At, t0Mode, t0Touched, t0Votes, t0Acks, t0Got), (tto_F t0Tx 2 t0Reason t0Seq t0Open t0Shard t0At t0Mode t0Touched t0Votes t0Acks t0Got 4 0 t0Touched), 0)
  else
    ((t0Tx, t0State, t0Reason, t0Seq, t0Open, t0Shard, t0At, t0Mode, t0Touched, t0Votes, t0Acks, t0Got), [], (tfree_F t0Tx t0State t0Reason t0Seq t0Open t0Shard t0At t0Mode t0Touched t0Votes t0Acks t0Got))

def tfinish_P (t0Tx : Int) (t0State : Int) (t0Reason : Int) (t0Seq : Int) (t0Open : Bool) (t0Shard : Int) (t0At : (Nat → Int)) (t0Mode : Int) (t0Touched : (List Int)) (t0Votes : (List Int)) (t0Acks : (List Int)) (t0Got : (List (Nat → Int))) : Prop :=
  (own_P t0Tx t0State t0Reason t0Seq t0Open t0Shard t0At t0Mode t0Touched t0Votes t0Acks t0Got) ∧ (
  if (tfree_F t0Tx t0State t0Reason t0Seq t0Open t0Shard t0At t0Mode t0Touched t0Votes t0Acks t0Got) = 0 then
    if (t0Touched.length : Int) = 0 then
      (tdecision_P t0Tx 3 0 t0Seq false t0Shard t0At t0Mode t0Touched t0Votes t0Acks t0Got t0Touched) ∧ (
      True)
    else
      (tto_P t0Tx 2 t0Reason t0Seq t0Open t0Shard t0At t0Mode t0Touched t0Votes t0Acks t0Got 4 0 t0Touched) ∧ (
      True)
  else
    True)

theorem tfinish_ok (t0Tx : Int) (t0State : Int) (t0Reason : Int) (t0Seq : Int) (t0Open : Bool) (t0Shard : Int) (t0At : (Nat → Int)) (t0Mode : Int) (t0Touched : (List Int)) (t0Votes : (List Int)) (t0Acks : (List Int)) (t0Got : (List (Nat → Int))) (hP : tfinish_P t0Tx t0State t0Reason t0Seq t0Open t0Shard t0At t0Mode t0Touched t0Votes t0Acks t0Got) : tfinish_S t0Tx t0State t0Reason t0Seq t0Open t0Shard t0At t0Mode t0Touched t0Votes t0Acks t0Got (tfinish_F t0Tx t0State t0Reason t0Seq t0Open t0Shard t0At t0Mode t0Touched t0Votes t0Acks t0Got) := by
  obtain ⟨r, hr⟩ : ∃ r, r = tfinish_F t0Tx t0State t0Reason t0Seq t0Open t0Shard t0At t0Mode t0Touched t0Votes t0Acks t0Got := ⟨_, rfl⟩
  rw [← hr]
  unfold tfinish_F at hr
  unfold tfinish_S
  unfold tfinish_P at hP
  obtain ⟨hq0, hP⟩ := hP
  refine ⟨hq0, ?_⟩
  by_cases hp30 : (tfree_F t0Tx t0State t0Reason t0Seq t0Open t0Shard t0At t0Mode t0Touched t0Votes t0Acks t0Got) = 0
  · rw [if_pos hp30] at hr hP ⊢
    by_cases hp31 : (t0Touched.length : Int) = 0
    · rw [if_pos hp31] at hr hP ⊢
      obtain ⟨hq0, hP⟩ := hP
      refine ⟨hq0, ?_⟩
      exact hr
    · rw [if_neg hp31] at hr hP ⊢
      obtain ⟨hq0, hP⟩ := hP
      refine ⟨hq0, ?_⟩
      exact hr
  · rw [if_neg hp30] at hr hP ⊢
    exact hr

def tvote_S (t0Tx : Int) (t0State : Int) (t0Reason : Int) (t0Seq : Int) (t0Open : Bool) (t0Shard : Int) (t0At : (Nat → Int)) (t0Mode : Int) (t0Touched : (List Int)) (t0Votes : (List Int)) (t0Acks : (List Int)) (t0Got : (List (Nat → Int))) (m1 : (Nat → Int)) (r : (Int × Int × Int × Int × Bool × Int × (Nat → Int) × Int × (List Int) × (List Int) × (List Int) × (List (Nat → Int))) × (List (Nat → Int)) × Int) : Prop :=
  (own_P t0Tx t0State t0Reason t0Seq t0Open t0Shard t0At t0Mode t0Touched t0Votes t0Acks t0Got) ∧ (
  (tfrom_P t0Tx t0State t0Reason t0Seq t0Open t0Shard t0At t0Mode t0Touched t0Votes t0Acks t0Got m1 5 (decide (t0State = 2))) ∧ (
  if (tfrom_F t0Tx t0State t0Reason t0Seq t0Open t0Shard t0At t0Mode t0Touched t0Votes t0Acks t0Got m1 5 (decide (t0State = 2))) = 0 then
    if m1 8 = 0 then
      (tdecision_P t0Tx 4 2 t0Seq false t0Shard t0At t0Mode t0Touched t0Votes t0Acks t0Got t0Touched) ∧ (
      r = (((t0Tx, 4, 2, t0Seq, false, t0Shard, t0At, t0Mode, t0Touched, t0Votes, t0Acks, t0Got), (tdecision_F t0Tx 4 2 t0Seq false t0Shard t0At t0Mode t0Touched t0Votes t0Acks t0Got t0Touched), 0)))
    else
      (search_P t0Votes (m1 1)) ∧ (
      if ((search_F t0Votes (m1 1)).2) = true then
        if (t0Votes.length : Int) < (t0Touched.length : Int) then
          r = (((t0Tx, t0State, t0Reason, t0Seq, t0Open, t0Shard, t0At, t0Mode, t0Touched, t0Votes, t0Acks, t0Got), [], 0))
        else
          (tdecision_P t0Tx 3 0 t0Seq false t0Shard t0At t0Mode t0Touched t0Votes t0Acks t0Got t0Touched) ∧ (
          r = (((t0Tx, 3, 0, t0Seq, false, t0Shard, t0At, t0Mode, t0Touched, t0Votes, t0Acks, t0Got), (tdecision_F t0Tx 3 0 t0Seq false t0Shard t0At t0Mode t0Touched t0Votes t0Acks t0Got t0Touched), 0)))
      else
        (cloneI_P t0Votes) ∧ (
        (0 ≤ (search_F t0Votes (m1 1)).1 ∧ (search_F t0Votes (m1 1)).1 ≤ ((cloneI_F t0Votes).length : Int)) ∧ (
        (sortP (cloneI_F t0Votes)) ∧ (
        if ((insL1 (cloneI_F t0Votes) ((search_F t0Votes (m1 1)).1).toNat (m1 1)).length : Int) < (t0Touched.length : Int) then
          r = (((t0Tx, t0State, t0Reason, t0Seq, t0Open, t0Shard, t0At, t0Mode, t0Touched, (insL1 (cloneI_F t0Votes) ((search_F t0Votes (m1 1)).1).toNat (m1 1)), t0Acks, t0Got), [], 0))
        else
          (tdecision_P t0Tx 3 0 t0Seq false t0Shard t0At t0Mode t0Touched (insL1 (cloneI_F t0Votes) ((search_F t0Votes (m1 1)).1).toNat (m1 1)) t0Acks t0Got t0Touched) ∧ (
          r = (((t0Tx, 3, 0, t0Seq, false, t0Shard, t0At, t0Mode, t0Touched, (insL1 (cloneI_F t0Votes) ((search_F t0Votes (m1 1)).1).toNat (m1 1)), t0Acks, t0Got), (tdecision_F t0Tx 3 0 t0Seq false t0Shard t0At t0Mode t0Touched (insL1 (cloneI_F t0Votes) ((search_F t0Votes (m1 1)).1).toNat (m1 1)) t0Acks t0Got t0Touched), 0)))))))
  else
    r = (((t0Tx, t0State, t0Reason, t0Seq, t0Open, t0Shard, t0At, t0Mode, t0Touched, t0Votes, t0Acks, t0Got), [], (tfrom_F t0Tx t0State t0Reason t0Seq t0Open t0Shard t0At t0Mode t0Touched t0Votes t0Acks t0Got m1 5 (decide (t0State = 2)))))))

def tvote_F (t0Tx : Int) (t0State : Int) (t0Reason : Int) (t0Seq : Int) (t0Open : Bool) (t0Shard : Int) (t0At : (Nat → Int)) (t0Mode : Int) (t0Touched : (List Int)) (t0Votes : (List Int)) (t0Acks : (List Int)) (t0Got : (List (Nat → Int))) (m1 : (Nat → Int)) : (Int × Int × Int × Int × Bool × Int × (Nat → Int) × Int × (List Int) × (List Int) × (List Int) × (List (Nat → Int))) × (List (Nat → Int)) × Int :=
  if (tfrom_F t0Tx t0State t0Reason t0Seq t0Open t0Shard t0At t0Mode t0Touched t0Votes t0Acks t0Got m1 5 (decide (t0State = 2))) = 0 then
    if m1 8 = 0 then
      ((t0Tx, 4, 2, t0Seq, false, t0Shard, t0At, t0Mode, t0Touched, t0Votes, t0Acks, t0Got), (tdecision_F t0Tx 4 2 t0Seq false t0Shard t0At t0Mode t0Touched t0Votes t0Acks t0Got t0Touched), 0)
    else
      if ((search_F t0Votes (m1 1)).2) = true then
        if (t0Votes.length : Int) < (t0Touched.length : Int) then
          ((t0Tx, t0State, t0Reason, t0Seq, t0Open, t0Shard, t0At, t0Mode, t0Touched, t0Votes, t0Acks, t0Got), [], 0)
        else
          ((t0Tx, 3, 0, t0Seq, false, t0Shard, t0At, t0Mode, t0Touched, t0Votes, t0Acks, t0Got), (tdecision_F t0Tx 3 0 t0Seq false t0Shard t0At t0Mode t0Touched t0Votes t0Acks t0Got t0Touched), 0)
      else
        if ((insL1 (cloneI_F t0Votes) ((search_F t0Votes (m1 1)).1).toNat (m1 1)).length : Int) < (t0Touched.length : Int) then
          ((t0Tx, t0State, t0Reason, t0Seq, t0Open, t0Shard, t0At, t0Mode, t0Touched, (insL1 (cloneI_F t0Votes) ((search_F t0Votes (m1 1)).1).toNat (m1 1)), t0Acks, t0Got), [], 0)
        else
          ((t0Tx, 3, 0, t0Seq, false, t0Shard, t0At, t0Mode, t0Touched, (insL1 (cloneI_F t0Votes) ((search_F t0Votes (m1 1)).1).toNat (m1 1)), t0Acks, t0Got), (tdecision_F t0Tx 3 0 t0Seq false t0Shard t0At t0Mode t0Touched (insL1 (cloneI_F t0Votes) ((search_F t0Votes (m1 1)).1).toNat (m1 1)) t0Acks t0Got t0Touched), 0)
  else
    ((t0Tx, t0State, t0Reason, t0Seq, t0Open, t0Shard, t0At, t0Mode, t0Touched, t0Votes, t0Acks, t0Got), [], (tfrom_F t0Tx t0State t0Reason t0Seq t0Open t0Shard t0At t0Mode t0Touched t0Votes t0Acks t0Got m1 5 (decide (t0State = 2))))

def tvote_P (t0Tx : Int) (t0State : Int) (t0Reason : Int) (t0Seq : Int) (t0Open : Bool) (t0Shard : Int) (t0At : (Nat → Int)) (t0Mode : Int) (t0Touched : (List Int)) (t0Votes : (List Int)) (t0Acks : (List Int)) (t0Got : (List (Nat → Int))) (m1 : (Nat → Int)) : Prop :=
  (own_P t0Tx t0State t0Reason t0Seq t0Open t0Shard t0At t0Mode t0Touched t0Votes t0Acks t0Got) ∧ (
  (tfrom_P t0Tx t0State t0Reason t0Seq t0Open t0Shard t0At t0Mode t0Touched t0Votes t0Acks t0Got m1 5 (decide (t0State = 2))) ∧ (
  if (tfrom_F t0Tx t0State t0Reason t0Seq t0Open t0Shard t0At t0Mode t0Touched t0Votes t0Acks t0Got m1 5 (decide (t0State = 2))) = 0 then
    if m1 8 = 0 then
      (tdecision_P t0Tx 4 2 t0Seq false t0Shard t0At t0Mode t0Touched t0Votes t0Acks t0Got t0Touched) ∧ (
      True)
    else
      (search_P t0Votes (m1 1)) ∧ (
      if ((search_F t0Votes (m1 1)).2) = true then
        if (t0Votes.length : Int) < (t0Touched.length : Int) then
          True
        else
          (tdecision_P t0Tx 3 0 t0Seq false t0Shard t0At t0Mode t0Touched t0Votes t0Acks t0Got t0Touched) ∧ (
          True)
      else
        (cloneI_P t0Votes) ∧ (
        (0 ≤ (search_F t0Votes (m1 1)).1 ∧ (search_F t0Votes (m1 1)).1 ≤ ((cloneI_F t0Votes).length : Int)) ∧ (
        (sortP (cloneI_F t0Votes)) ∧ (
        if ((insL1 (cloneI_F t0Votes) ((search_F t0Votes (m1 1)).1).toNat (m1 1)).length : Int) < (t0Touched.length : Int) then
          True
        else
          (tdecision_P t0Tx 3 0 t0Seq false t0Shard t0At t0Mode t0Touched (insL1 (cloneI_F t0Votes) ((search_F t0Votes (m1 1)).1).toNat (m1 1)) t0Acks t0Got t0Touched) ∧ (
          True)))))
  else
    True))

theorem tvote_ok (t0Tx : Int) (t0State : Int) (t0Reason : Int) (t0Seq : Int) (t0Open : Bool) (t0Shard : Int) (t0At : (Nat → Int)) (t0Mode : Int) (t0Touched : (List Int)) (t0Votes : (List Int)) (t0Acks : (List Int)) (t0Got : (List (Nat → Int))) (m1 : (Nat → Int)) (hP : tvote_P t0Tx t0State t0Reason t0Seq t0Open t0Shard t0At t0Mode t0Touched t0Votes t0Acks t0Got m1) : tvote_S t0Tx t0State t0Reason t0Seq t0Open t0Shard t0At t0Mode t0Touched t0Votes t0Acks t0Got m1 (tvote_F t0Tx t0State t0Reason t0Seq t0Open t0Shard t0At t0Mode t0Touched t0Votes t0Acks t0Got m1) := by
  obtain ⟨r, hr⟩ : ∃ r, r = tvote_F t0Tx t0State t0Reason t0Seq t0Open t0Shard t0At t0Mode t0Touched t0Votes t0Acks t0Got m1 := ⟨_, rfl⟩
  rw [← hr]
  unfold tvote_F at hr
  unfold tvote_S
  unfold tvote_P at hP
  obtain ⟨hq0, hP⟩ := hP
  refine ⟨hq0, ?_⟩
  obtain ⟨hq0, hP⟩ := hP
  refine ⟨hq0, ?_⟩
  by_cases hp32 : (tfrom_F t0Tx t0State t0Reason t0Seq t0Open t0Shard t0At t0Mode t0Touched t0Votes t0Acks t0Got m1 5 (decide (t0State = 2))) = 0
  · rw [if_pos hp32] at hr hP ⊢
    by_cases hp33 : m1 8 = 0
    · rw [if_pos hp33] at hr hP ⊢
      obtain ⟨hq0, hP⟩ := hP
      refine ⟨hq0, ?_⟩
      exact hr
    · rw [if_neg hp33] at hr hP ⊢
      obtain ⟨hq0, hP⟩ := hP
      refine ⟨hq0, ?_⟩
      by_cases hp34 : ((search_F t0Votes (m1 1)).2) = true
      · rw [if_pos hp34] at hr hP ⊢
        by_cases hp35 : (t0Votes.length : Int) < (t0Touched.length : Int)
        · rw [if_pos hp35] at hr hP ⊢
          exact hr
        · rw [if_neg hp35] at hr hP ⊢
          obtain ⟨hq0, hP⟩ := hP
          refine ⟨hq0, ?_⟩
          exact hr
      · rw [if_neg hp34] at hr hP ⊢
        obtain ⟨hq0, hP⟩ := hP
        refine ⟨hq0, ?_⟩
        obtain ⟨hq0, hP⟩ := hP
        refine ⟨hq0, ?_⟩
        obtain ⟨hq0, hP⟩ := hP
        refine ⟨hq0, ?_⟩
        by_cases hp36 : ((insL1 (cloneI_F t0Votes) ((search_F t0Votes (m1 1)).1).toNat (m1 1)).length : Int) < (t0Touched.length : Int)
        · rw [if_pos hp36] at hr hP ⊢
          exact hr
        · rw [if_neg hp36] at hr hP ⊢
          obtain ⟨hq0, hP⟩ := hP
          refine ⟨hq0, ?_⟩
          exact hr
  · rw [if_neg hp32] at hr hP ⊢
    exact hr

def tabort_S (t0Tx : Int) (t0State : Int) (t0Reason : Int) (t0Seq : Int) (t0Open : Bool) (t0Shard : Int) (t0At : (Nat → Int)) (t0Mode : Int) (t0Touched : (List Int)) (t0Votes : (List Int)) (t0Acks : (List Int)) (t0Got : (List (Nat → Int))) (reason1 : Int) (r : (Int × Int × Int × Int × Bool × Int × (Nat → Int) × Int × (List Int) × (List Int) × (List Int) × (List (Nat → Int))) × (List (Nat → Int)) × Int) : Prop :=
  (own_P t0Tx t0State t0Reason t0Seq t0Open t0Shard t0At t0Mode t0Touched t0Votes t0Acks t0Got) ∧ (
  if ((decide (reason1 < 1)) || (decide (5 < reason1))) = true then
    r = (((t0Tx, t0State, t0Reason, t0Seq, t0Open, t0Shard, t0At, t0Mode, t0Touched, t0Votes, t0Acks, t0Got), [], 1))
  else
    if ((tdecided_F t0Tx t0State t0Reason t0Seq t0Open t0Shard t0At t0Mode t0Touched t0Votes t0Acks t0Got)) = true then
      r = (((t0Tx, t0State, t0Reason, t0Seq, t0Open, t0Shard, t0At, t0Mode, t0Touched, t0Votes, t0Acks, t0Got), [], 15))
    else
      (tdecision_P t0Tx 4 reason1 t0Seq false t0Shard t0At t0Mode t0Touched t0Votes t0Acks t0Got t0Touched) ∧ (
      r = (((t0Tx, 4, reason1, t0Seq, false, t0Shard, t0At, t0Mode, t0Touched, t0Votes, t0Acks, t0Got), (tdecision_F t0Tx 4 reason1 t0Seq false t0Shard t0At t0Mode t0Touched t0Votes t0Acks t0Got t0Touched), 0))))

def tabort_F (t0Tx : Int) (t0State : Int) (t0Reason : Int) (t0Seq : Int) (t0Open : Bool) (t0Shard : Int) (t0At : (Nat → Int)) (t0Mode : Int) (t0Touched : (List Int)) (t0Votes : (List Int)) (t0Acks : (List Int)) (t0Got : (List (Nat → Int))) (reason1 : Int) : (Int × Int × Int × Int × Bool × Int × (Nat → Int) × Int × (List Int) × (List Int) × (List Int) × (List (Nat → Int))) × (List (Nat → Int)) × Int :=
  if ((decide (reason1 < 1)) || (decide (5 < reason1))) = true then
    ((t0Tx, t0State, t0Reason, t0Seq, t0Open, t0Shard, t0At, t0Mode, t0Touched, t0Votes, t0Acks, t0Got), [], 1)
  else
    if ((tdecided_F t0Tx t0State t0Reason t0Seq t0Open t0Shard t0At t0Mode t0Touched t0Votes t0Acks t0Got)) = true then
      ((t0Tx, t0State, t0Reason, t0Seq, t0Open, t0Shard, t0At, t0Mode, t0Touched, t0Votes, t0Acks, t0Got), [], 15)
    else
      ((t0Tx, 4, reason1, t0Seq, false, t0Shard, t0At, t0Mode, t0Touched, t0Votes, t0Acks, t0Got), (tdecision_F t0Tx 4 reason1 t0Seq false t0Shard t0At t0Mode t0Touched t0Votes t0Acks t0Got t0Touched), 0)

def tabort_P (t0Tx : Int) (t0State : Int) (t0Reason : Int) (t0Seq : Int) (t0Open : Bool) (t0Shard : Int) (t0At : (Nat → Int)) (t0Mode : Int) (t0Touched : (List Int)) (t0Votes : (List Int)) (t0Acks : (List Int)) (t0Got : (List (Nat → Int))) (reason1 : Int) : Prop :=
  (own_P t0Tx t0State t0Reason t0Seq t0Open t0Shard t0At t0Mode t0Touched t0Votes t0Acks t0Got) ∧ (
  if ((decide (reason1 < 1)) || (decide (5 < reason1))) = true then
    True
  else
    if ((tdecided_F t0Tx t0State t0Reason t0Seq t0Open t0Shard t0At t0Mode t0Touched t0Votes t0Acks t0Got)) = true then
      True
    else
      (tdecision_P t0Tx 4 reason1 t0Seq false t0Shard t0At t0Mode t0Touched t0Votes t0Acks t0Got t0Touched) ∧ (
      True))

theorem tabort_ok (t0Tx : Int) (t0State : Int) (t0Reason : Int) (t0Seq : Int) (t0Open : Bool) (t0Shard : Int) (t0At : (Nat → Int)) (t0Mode : Int) (t0Touched : (List Int)) (t0Votes : (List Int)) (t0Acks : (List Int)) (t0Got : (List (Nat → Int))) (reason1 : Int) (hP : tabort_P t0Tx t0State t0Reason t0Seq t0Open t0Shard t0At t0Mode t0Touched t0Votes t0Acks t0Got reason1) : tabort_S t0Tx t0State t0Reason t0Seq t0Open t0Shard t0At t0Mode t0Touched t0Votes t0Acks t0Got reason1 (tabort_F t0Tx t0State t0Reason t0Seq t0Open t0Shard t0At t0Mode t0Touched t0Votes t0Acks t0Got reason1) := by
  obtain ⟨r, hr⟩ : ∃ r, r = tabort_F t0Tx t0State t0Reason t0Seq t0Open t0Shard t0At t0Mode t0Touched t0Votes t0Acks t0Got reason1 := ⟨_, rfl⟩
  rw [← hr]
  unfold tabort_F at hr
  unfold tabort_S
  unfold tabort_P at hP
  obtain ⟨hq0, hP⟩ := hP
  refine ⟨hq0, ?_⟩
  by_cases hp37 : ((decide (reason1 < 1)) || (decide (5 < reason1))) = true
  · rw [if_pos hp37] at hr hP ⊢
    exact hr
  · rw [if_neg hp37] at hr hP ⊢
    by_cases hp38 : ((tdecided_F t0Tx t0State t0Reason t0Seq t0Open t0Shard t0At t0Mode t0Touched t0Votes t0Acks t0Got)) = true
    · rw [if_pos hp38] at hr hP ⊢
      exact hr
    · rw [if_neg hp38] at hr hP ⊢
      obtain ⟨hq0, hP⟩ := hP
      refine ⟨hq0, ?_⟩
      exact hr

def tack_S (t0Tx : Int) (t0State : Int) (t0Reason : Int) (t0Seq : Int) (t0Open : Bool) (t0Shard : Int) (t0At : (Nat → Int)) (t0Mode : Int) (t0Touched : (List Int)) (t0Votes : (List Int)) (t0Acks : (List Int)) (t0Got : (List (Nat → Int))) (m1 : (Nat → Int)) (r : (Int × Int × Int × Int × Bool × Int × (Nat → Int) × Int × (List Int) × (List Int) × (List Int) × (List (Nat → Int))) × Int) : Prop :=
  (own_P t0Tx t0State t0Reason t0Seq t0Open t0Shard t0At t0Mode t0Touched t0Votes t0Acks t0Got) ∧ (
  (tfrom_P t0Tx t0State t0Reason t0Seq t0Open t0Shard t0At t0Mode t0Touched t0Votes t0Acks t0Got m1 7 (tdecided_F t0Tx t0State t0Reason t0Seq t0Open t0Shard t0At t0Mode t0Touched t0Votes t0Acks t0Got)) ∧ (
  if (tfrom_F t0Tx t0State t0Reason t0Seq t0Open t0Shard t0At t0Mode t0Touched t0Votes t0Acks t0Got m1 7 (tdecided_F t0Tx t0State t0Reason t0Seq t0Open t0Shard t0At t0Mode t0Touched t0Votes t0Acks t0Got)) = 0 then
    (search_P t0Acks (m1 1)) ∧ (
    if ((search_F t0Acks (m1 1)).2) = true then
      r = (((t0Tx, t0State, t0Reason, t0Seq, t0Open, t0Shard, t0At, t0Mode, t0Touched, t0Votes, t0Acks, t0Got), 0))
    else
      (cloneI_P t0Acks) ∧ (
      (0 ≤ (search_F t0Acks (m1 1)).1 ∧ (search_F t0Acks (m1 1)).1 ≤ ((cloneI_F t0Acks).length : Int)) ∧ (
      (sortP (cloneI_F t0Acks)) ∧ (
      r = (((t0Tx, t0State, t0Reason, t0Seq, t0Open, t0Shard, t0At, t0Mode, t0Touched, t0Votes, (insL1 (cloneI_F t0Acks) ((search_F t0Acks (m1 1)).1).toNat (m1 1)), t0Got), 0))))))
  else
    r = (((t0Tx, t0State, t0Reason, t0Seq, t0Open, t0Shard, t0At, t0Mode, t0Touched, t0Votes, t0Acks, t0Got), (tfrom_F t0Tx t0State t0Reason t0Seq t0Open t0Shard t0At t0Mode t0Touched t0Votes t0Acks t0Got m1 7 (tdecided_F t0Tx t0State t0Reason t0Seq t0Open t0Shard t0At t0Mode t0Touched t0Votes t0Acks t0Got))))))

def tack_F (t0Tx : Int) (t0State : Int) (t0Reason : Int) (t0Seq : Int) (t0Open : Bool) (t0Shard : Int) (t0At : (Nat → Int)) (t0Mode : Int) (t0Touched : (List Int)) (t0Votes : (List Int)) (t0Acks : (List Int)) (t0Got : (List (Nat → Int))) (m1 : (Nat → Int)) : (Int × Int × Int × Int × Bool × Int × (Nat → Int) × Int × (List Int) × (List Int) × (List Int) × (List (Nat → Int))) × Int :=
  if (tfrom_F t0Tx t0State t0Reason t0Seq t0Open t0Shard t0At t0Mode t0Touched t0Votes t0Acks t0Got m1 7 (tdecided_F t0Tx t0State t0Reason t0Seq t0Open t0Shard t0At t0Mode t0Touched t0Votes t0Acks t0Got)) = 0 then
    if ((search_F t0Acks (m1 1)).2) = true then
      ((t0Tx, t0State, t0Reason, t0Seq, t0Open, t0Shard, t0At, t0Mode, t0Touched, t0Votes, t0Acks, t0Got), 0)
    else
      ((t0Tx, t0State, t0Reason, t0Seq, t0Open, t0Shard, t0At, t0Mode, t0Touched, t0Votes, (insL1 (cloneI_F t0Acks) ((search_F t0Acks (m1 1)).1).toNat (m1 1)), t0Got), 0)
  else
    ((t0Tx, t0State, t0Reason, t0Seq, t0Open, t0Shard, t0At, t0Mode, t0Touched, t0Votes, t0Acks, t0Got), (tfrom_F t0Tx t0State t0Reason t0Seq t0Open t0Shard t0At t0Mode t0Touched t0Votes t0Acks t0Got m1 7 (tdecided_F t0Tx t0State t0Reason t0Seq t0Open t0Shard t0At t0Mode t0Touched t0Votes t0Acks t0Got)))

def tack_P (t0Tx : Int) (t0State : Int) (t0Reason : Int) (t0Seq : Int) (t0Open : Bool) (t0Shard : Int) (t0At : (Nat → Int)) (t0Mode : Int) (t0Touched : (List Int)) (t0Votes : (List Int)) (t0Acks : (List Int)) (t0Got : (List (Nat → Int))) (m1 : (Nat → Int)) : Prop :=
  (own_P t0Tx t0State t0Reason t0Seq t0Open t0Shard t0At t0Mode t0Touched t0Votes t0Acks t0Got) ∧ (
  (tfrom_P t0Tx t0State t0Reason t0Seq t0Open t0Shard t0At t0Mode t0Touched t0Votes t0Acks t0Got m1 7 (tdecided_F t0Tx t0State t0Reason t0Seq t0Open t0Shard t0At t0Mode t0Touched t0Votes t0Acks t0Got)) ∧ (
  if (tfrom_F t0Tx t0State t0Reason t0Seq t0Open t0Shard t0At t0Mode t0Touched t0Votes t0Acks t0Got m1 7 (tdecided_F t0Tx t0State t0Reason t0Seq t0Open t0Shard t0At t0Mode t0Touched t0Votes t0Acks t0Got)) = 0 then
    (search_P t0Acks (m1 1)) ∧ (
    if ((search_F t0Acks (m1 1)).2) = true then
      True
    else
      (cloneI_P t0Acks) ∧ (
      (0 ≤ (search_F t0Acks (m1 1)).1 ∧ (search_F t0Acks (m1 1)).1 ≤ ((cloneI_F t0Acks).length : Int)) ∧ (
      (sortP (cloneI_F t0Acks)) ∧ (
      True))))
  else
    True))

theorem tack_ok (t0Tx : Int) (t0State : Int) (t0Reason : Int) (t0Seq : Int) (t0Open : Bool) (t0Shard : Int) (t0At : (Nat → Int)) (t0Mode : Int) (t0Touched : (List Int)) (t0Votes : (List Int)) (t0Acks : (List Int)) (t0Got : (List (Nat → Int))) (m1 : (Nat → Int)) (hP : tack_P t0Tx t0State t0Reason t0Seq t0Open t0Shard t0At t0Mode t0Touched t0Votes t0Acks t0Got m1) : tack_S t0Tx t0State t0Reason t0Seq t0Open t0Shard t0At t0Mode t0Touched t0Votes t0Acks t0Got m1 (tack_F t0Tx t0State t0Reason t0Seq t0Open t0Shard t0At t0Mode t0Touched t0Votes t0Acks t0Got m1) := by
  obtain ⟨r, hr⟩ : ∃ r, r = tack_F t0Tx t0State t0Reason t0Seq t0Open t0Shard t0At t0Mode t0Touched t0Votes t0Acks t0Got m1 := ⟨_, rfl⟩
  rw [← hr]
  unfold tack_F at hr
  unfold tack_S
  unfold tack_P at hP
  obtain ⟨hq0, hP⟩ := hP
  refine ⟨hq0, ?_⟩
  obtain ⟨hq0, hP⟩ := hP
  refine ⟨hq0, ?_⟩
  by_cases hp39 : (tfrom_F t0Tx t0State t0Reason t0Seq t0Open t0Shard t0At t0Mode t0Touched t0Votes t0Acks t0Got m1 7 (tdecided_F t0Tx t0State t0Reason t0Seq t0Open t0Shard t0At t0Mode t0Touched t0Votes t0Acks t0Got)) = 0
  · rw [if_pos hp39] at hr hP ⊢
    obtain ⟨hq0, hP⟩ := hP
    refine ⟨hq0, ?_⟩
    by_cases hp40 : ((search_F t0Acks (m1 1)).2) = true
    · rw [if_pos hp40] at hr hP ⊢
      exact hr
    · rw [if_neg hp40] at hr hP ⊢
      obtain ⟨hq0, hP⟩ := hP
      refine ⟨hq0, ?_⟩
      obtain ⟨hq0, hP⟩ := hP
      refine ⟨hq0, ?_⟩
      obtain ⟨hq0, hP⟩ := hP
      refine ⟨hq0, ?_⟩
      exact hr
  · rw [if_neg hp39] at hr hP ⊢
    exact hr

end Go.E
