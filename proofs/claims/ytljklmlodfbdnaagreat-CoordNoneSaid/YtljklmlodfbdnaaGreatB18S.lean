/- What functions of the program say, as relations. -/
import Derived.Test.YtljklmlodfbdnaaGreatP18a
set_option maxHeartbeats 1000000
set_option linter.unusedVariables false
set_option linter.unusedSimpArgs false
set_option maxRecDepth 100000
namespace Go.E
open Go

def own_S (t0Tx : Int) (t0State : Int) (t0Reason : Int) (t0Seq : Int) (t0Open : Bool) (t0Shard : Int) (t0At : (Nat → Int)) (t0Mode : Int) (t0Touched : (List Int)) (t0Votes : (List Int)) (t0Acks : (List Int)) (t0Got : (List (Nat → Int))) (r : (Int × Int × Int × Int × Bool × Int × (Nat → Int) × Int × (List Int) × (List Int) × (List Int) × (List (Nat → Int)))) : Prop :=
  (cloneI_P t0Touched) ∧ (
  (cloneI_P t0Votes) ∧ (
  (cloneI_P t0Acks) ∧ (
  (cloneG_P t0Got) ∧ (
  r = ((t0Tx, t0State, t0Reason, t0Seq, t0Open, t0Shard, t0At, t0Mode, (cloneI_F t0Touched), (cloneI_F t0Votes), (cloneI_F t0Acks), (cloneG_F t0Got)))))))

def own_F (t0Tx : Int) (t0State : Int) (t0Reason : Int) (t0Seq : Int) (t0Open : Bool) (t0Shard : Int) (t0At : (Nat → Int)) (t0Mode : Int) (t0Touched : (List Int)) (t0Votes : (List Int)) (t0Acks : (List Int)) (t0Got : (List (Nat → Int))) : (Int × Int × Int × Int × Bool × Int × (Nat → Int) × Int × (List Int) × (List Int) × (List Int) × (List (Nat → Int))) :=
  (t0Tx, t0State, t0Reason, t0Seq, t0Open, t0Shard, t0At, t0Mode, (cloneI_F t0Touched), (cloneI_F t0Votes), (cloneI_F t0Acks), (cloneG_F t0Got))

def own_P (t0Tx : Int) (t0State : Int) (t0Reason : Int) (t0Seq : Int) (t0Open : Bool) (t0Shard : Int) (t0At : (Nat → Int)) (t0Mode : Int) (t0Touched : (List Int)) (t0Votes : (List Int)) (t0Acks : (List Int)) (t0Got : (List (Nat → Int))) : Prop :=
  (cloneI_P t0Touched) ∧ (
  (cloneI_P t0Votes) ∧ (
  (cloneI_P t0Acks) ∧ (
  (cloneG_P t0Got) ∧ (
  True))))

theorem own_ok (t0Tx : Int) (t0State : Int) (t0Reason : Int) (t0Seq : Int) (t0Open : Bool) (t0Shard : Int) (t0At : (Nat → Int)) (t0Mode : Int) (t0Touched : (List Int)) (t0Votes : (List Int)) (t0Acks : (List Int)) (t0Got : (List (Nat → Int))) (hP : own_P t0Tx t0State t0Reason t0Seq t0Open t0Shard t0At t0Mode t0Touched t0Votes t0Acks t0Got) : own_S t0Tx t0State t0Reason t0Seq t0Open t0Shard t0At t0Mode t0Touched t0Votes t0Acks t0Got (own_F t0Tx t0State t0Reason t0Seq t0Open t0Shard t0At t0Mode t0Touched t0Votes t0Acks t0Got) := by
  obtain ⟨r, hr⟩ : ∃ r, r = own_F t0Tx t0State t0Reason t0Seq t0Open t0Shard t0At t0Mode t0Touched t0Votes t0Acks t0Got := ⟨_, rfl⟩
  rw [← hr]
  unfold own_F at hr
  unfold own_S
  unfold own_P at hP
  obtain ⟨hq0, hP⟩ := hP
  refine ⟨hq0, ?_⟩
  obtain ⟨hq0, hP⟩ := hP
  refine ⟨hq0, ?_⟩
  obtain ⟨hq0, hP⟩ := hP
  refine ⟨hq0, ?_⟩
  obtain ⟨hq0, hP⟩ := hP
  refine ⟨hq0, ?_⟩
  exact hr

def tdecision_S (t0Tx : Int) (t0State : Int) (t0Reason : Int) (t0Seq : Int) (t0Open : Bool) (t0Shard : Int) (t0At : (Nat → Int)) (t0Mode : Int) (t0Touched : (List Int)) (t0Votes : (List Int)) (t0Acks : (List Int)) (t0Got : (List (Nat → Int))) (shards1 : (List Int)) (r : (List (Nat → Int))) : Prop :=
  (tto_P t0Tx t0State t0Reason t0Seq t0Open t0Shard t0At t0Mode t0Touched t0Votes t0Acks t0Got 6 (if t0State = 3 then 1 else 0) shards1) ∧ (
  r = ((tto_F t0Tx t0State t0Reason t0Seq t0Open t0Shard t0At t0Mode t0Touched t0Votes t0Acks t0Got 6 (if t0State = 3 then 1 else 0) shards1)))

def tdecision_F (t0Tx : Int) (t0State : Int) (t0Reason : Int) (t0Seq : Int) (t0Open : Bool) (t0Shard : Int) (t0At : (Nat → Int)) (t0Mode : Int) (t0Touched : (List Int)) (t0Votes : (List Int)) (t0Acks : (List Int)) (t0Got : (List (Nat → Int))) (shards1 : (List Int)) : (List (Nat → Int)) :=
  (tto_F t0Tx t0State t0Reason t0Seq t0Open t0Shard t0At t0Mode t0Touched t0Votes t0Acks t0Got 6 (if t0State = 3 then 1 else 0) shards1)

def tdecision_P (t0Tx : Int) (t0State : Int) (t0Reason : Int) (t0Seq : Int) (t0Open : Bool) (t0Shard : Int) (t0At : (Nat → Int)) (t0Mode : Int) (t0Touched : (List Int)) (t0Votes : (List Int)) (t0Acks : (List Int)) (t0Got : (List (Nat → Int))) (shards1 : (List Int)) : Prop :=
  (tto_P t0Tx t0State t0Reason t0Seq t0Open t0Shard t0At t0Mode t0Touched t0Votes t0Acks t0Got 6 (if t0State = 3 then 1 else 0) shards1) ∧ (
  True)

theorem tdecision_ok (t0Tx : Int) (t0State : Int) (t0Reason : Int) (t0Seq : Int) (t0Open : Bool) (t0Shard : Int) (t0At : (Nat → Int)) (t0Mode : Int) (t0Touched : (List Int)) (t0Votes : (List Int)) (t0Acks : (List Int)) (t0Got : (List (Nat → Int))) (shards1 : (List Int)) (hP : tdecision_P t0Tx t0State t0Reason t0Seq t0Open t0Shard t0At t0Mode t0Touched t0Votes t0Acks t0Got shards1) : tdecision_S t0Tx t0State t0Reason t0Seq t0Open t0Shard t0At t0Mode t0Touched t0Votes t0Acks t0Got shards1 (tdecision_F t0Tx t0State t0Reason t0Seq t0Open t0Shard t0At t0Mode t0Touched t0Votes t0Acks t0Got shards1) := by
  obtain ⟨r, hr⟩ : ∃ r, r = tdecision_F t0Tx t0State t0Reason t0Seq t0Open t0Shard t0At t0Mode t0Touched t0Votes t0Acks t0Got shards1 := ⟨_, rfl⟩
  rw [← hr]
  unfold tdecision_F at hr
  unfold tdecision_S
  unfold tdecision_P at hP
  obtain ⟨hq0, hP⟩ := hP
  refine ⟨hq0, ?_⟩
  exact hr

def tnew_S (tx0 : Int) (r : (Int × Int × Int × Int × Bool × Int × (Nat → Int) × Int × (List Int) × (List Int) × (List Int) × (List (Nat → Int))) × Int) : Prop :=
  if ((decide (tx0 < 1)) || (decide (1048576 < tx0))) = true then
    r = (((0, 0, 0, 0, false, 0, (fun _ => 0), 0, [], [], [], []), 1))
  else
    r = (((tx0, 1, 0, 0, false, 0, (fun _ => 0), 0, [], [], [], []), 0))

def tnew_F (tx0 : Int) : (Int × Int × Int × Int × Bool × Int × (Nat → Int) × Int × (List Int) × (List Int) × (List Int) × (List (Nat → Int))) × Int :=
  if ((decide (tx0 < 1)) || (decide (1048576 < tx0))) = true then
    ((0, 0, 0, 0, false, 0, (fun _ => 0), 0, [], [], [], []), 1)
  else
    ((tx0, 1, 0, 0, false, 0, (fun _ => 0), 0, [], [], [], []), 0)

theorem tnew_ok (tx0 : Int) : tnew_S tx0 (tnew_F tx0) := by
  obtain ⟨r, hr⟩ : ∃ r, r = tnew_F tx0 := ⟨_, rfl⟩
  rw [← hr]
  unfold tnew_F at hr
  unfold tnew_S
  by_cases hp28 : ((decide (tx0 < 1)) || (decide (1048576 < tx0))) = true
  · rw [if_pos hp28] at hr ⊢
    exact hr
  · rw [if_neg hp28] at hr ⊢
    exact hr

def cbegin_S (c0 : (Nat → Int)) (id1 : Int) (tx2 : Int) (r : Int × (Nat → Int)) : Prop :=
  if ((decide (id1 < 1)) || (decide (c0 0 < id1))) = true then
    r = ((10, c0))
  else
    (0 ≤ id1 ∧ id1 < 9) ∧ (
    if ((decide (tx2 < 1)) || (decide (1048576 < tx2))) = true then
      r = ((1, c0))
    else
      if ((nz (c0 ((1 + (id1.toNat * 3)) + 2)))) = true then
        r = ((11, c0))
      else
        if c0 (1 + (id1.toNat * 3)) = 0 then
          (errIs_P ((cof_F c0 tx2).2) 10) ∧ (
          if ((errIs_F ((cof_F c0 tx2).2) 10)) = true then
            r = ((0, (updI c0 (1 + (id1.toNat * 3)) tx2)))
          else
            r = ((15, c0)))
        else
          r = ((8, c0)))

def cbegin_F (c0 : (Nat → Int)) (id1 : Int) (tx2 : Int) : Int × (Nat → Int) :=
  if ((decide (id1 < 1)) || (decide (c0 0 < id1))) = true then
    (10, c0)
  else
    if ((decide (tx2 < 1)) || (decide (1048576 < tx2))) = true then
      (1, c0)
    else
      if ((nz (c0 ((1 + (id1.toNat * 3)) + 2)))) = true then
        (11, c0)
      else
        if c0 (1 + (id1.toNat * 3)) = 0 then
          if ((errIs_F ((cof_F c0 tx2).2) 10)) = true then
            (0, (updI c0 (1 + (id1.toNat * 3)) tx2))
          else
            (15, c0)
        else
          (8, c0)

def cbegin_P (c0 : (Nat → Int)) (id1 : Int) (tx2 : Int) : Prop :=
  if ((decide (id1 < 1)) || (decide (c0 0 < id1))) = true then
    True
  else
    (0 ≤ id1 ∧ id1 < 9) ∧ (
    if ((decide (tx2 < 1)) || (decide (1048576 < tx2))) = true then
      True
    else
      if ((nz (c0 ((1 + (id1.toNat * 3)) + 2)))) = true then
        True
      else
        if c0 (1 + (id1.toNat * 3)) = 0 then
          (errIs_P ((cof_F c0 tx2).2) 10) ∧ (
          if ((errIs_F ((cof_F c0 tx2).2) 10)) = true then
            True
          else
            True)
        else
          True)

theorem cbegin_ok (c0 : (Nat → Int)) (id1 : Int) (tx2 : Int) (hP : cbegin_P c0 id1 tx2) : cbegin_S c0 id1 tx2 (cbegin_F c0 id1 tx2) := by
  obtain ⟨r, hr⟩ : ∃ r, r = cbegin_F c0 id1 tx2 := ⟨_, rfl⟩
  rw [← hr]
  unfold cbegin_F at hr
  unfold cbegin_S
  unfold cbegin_P at hP
  by_cases hp29 : ((decide (id1 < 1)) || (decide (c0 0 < id1))) = true
  · rw [if_pos hp29] at hr hP ⊢
    exact hr
  · rw [if_neg hp29] at hr hP ⊢
    obtain ⟨hq0, hP⟩ := hP
    refine ⟨hq0, ?_⟩
    by_cases hp30 : ((decide (tx2 < 1)) || (decide (1048576 < tx2))) = true
    · rw [if_pos hp30] at hr hP ⊢
      exact hr
    · rw [if_neg hp30] at hr hP ⊢
      by_cases hp31 : ((nz (c0 ((1 + (id1.toNat * 3)) + 2)))) = true
      · rw [if_pos hp31] at hr hP ⊢
        exact hr
      · rw [if_neg hp31] at hr hP ⊢
        by_cases hp32 : c0 (1 + (id1.toNat * 3)) = 0
        · rw [if_pos hp32] at hr hP ⊢
          obtain ⟨hq0, hP⟩ := hP
          refine ⟨hq0, ?_⟩
          by_cases hp33 : ((errIs_F ((cof_F c0 tx2).2) 10)) = true
          · rw [if_pos hp33] at hr hP ⊢
            exact hr
          · rw [if_neg hp33] at hr hP ⊢
            exact hr
        · rw [if_neg hp32] at hr hP ⊢
          exact hr

def cend_S (c0 : (Nat → Int)) (tx1 : Int) (r : Int × (Nat → Int)) : Prop :=
  if (cof_F c0 tx1).2 = 0 then
    (0 ≤ (cof_F c0 tx1).1 ∧ (cof_F c0 tx1).1 < 9) ∧ (
    r = ((0, (updI c0 (1 + (((cof_F c0 tx1).1).toNat * 3)) 0))))
  else
    r = (((cof_F c0 tx1).2, c0))

def cend_F (c0 : (Nat → Int)) (tx1 : Int) : Int × (Nat → Int) :=
  if (cof_F c0 tx1).2 = 0 then
    (0, (updI c0 (1 + (((cof_F c0 tx1).1).toNat * 3)) 0))
  else
    ((cof_F c0 tx1).2, c0)

def cend_P (c0 : (Nat → Int)) (tx1 : Int) : Prop :=
  if (cof_F c0 tx1).2 = 0 then
    (0 ≤ (cof_F c0 tx1).1 ∧ (cof_F c0 tx1).1 < 9) ∧ (
    True)
  else
    True

theorem cend_ok (c0 : (Nat → Int)) (tx1 : Int) (hP : cend_P c0 tx1) : cend_S c0 tx1 (cend_F c0 tx1) := by
  obtain ⟨r, hr⟩ : ∃ r, r = cend_F c0 tx1 := ⟨_, rfl⟩
  rw [← hr]
  unfold cend_F at hr
  unfold cend_S
  unfold cend_P at hP
  by_cases hp34 : (cof_F c0 tx1).2 = 0
  · rw [if_pos hp34] at hr hP ⊢
    obtain ⟨hq0, hP⟩ := hP
    refine ⟨hq0, ?_⟩
    exact hr
  · rw [if_neg hp34] at hr hP ⊢
    exact hr

def cnow_S (c0 : (Nat → Int)) (id1 : Int) (r : Int × Int) : Prop :=
  if ((decide (id1 < 1)) || (decide (c0 0 < id1))) = true then
    r = ((0, 10))
  else
    (0 ≤ id1 ∧ id1 < 9) ∧ (
    if c0 (1 + (id1.toNat * 3)) = 0 then
      r = ((0, 10))
    else
      r = ((c0 (1 + (id1.toNat * 3)), 0)))

def cnow_F (c0 : (Nat → Int)) (id1 : Int) : Int × Int :=
  if ((decide (id1 < 1)) || (decide (c0 0 < id1))) = true then
    (0, 10)
  else
    if c0 (1 + (id1.toNat * 3)) = 0 then
      (0, 10)
    else
      (c0 (1 + (id1.toNat * 3)), 0)

def cnow_P (c0 : (Nat → Int)) (id1 : Int) : Prop :=
  if ((decide (id1 < 1)) || (decide (c0 0 < id1))) = true then
    True
  else
    (0 ≤ id1 ∧ id1 < 9) ∧ (
    if c0 (1 + (id1.toNat * 3)) = 0 then
      True
    else
      True)

theorem cnow_ok (c0 : (Nat → Int)) (id1 : Int) (hP : cnow_P c0 id1) : cnow_S c0 id1 (cnow_F c0 id1) := by
  obtain ⟨r, hr⟩ : ∃ r, r = cnow_F c0 id1 := ⟨_, rfl⟩
  rw [← hr]
  unfold cnow_F at hr
  unfold cnow_S
  unfold cnow_P at hP
  by_cases hp35 : ((decide (id1 < 1)) || (decide (c0 0 < id1))) = true
  · rw [if_pos hp35] at hr hP ⊢
    exact hr
  · rw [if_neg hp35] at hr hP ⊢
    obtain ⟨hq0, hP⟩ := hP
    refine ⟨hq0, ?_⟩
    by_cases hp36 : c0 (1 + (id1.toNat * 3)) = 0
    · rw [if_pos hp36] at hr hP ⊢
      exact hr
    · rw [if_neg hp36] at hr hP ⊢
      exact hr

def calive_S (c0 : (Nat → Int)) (id1 : Int) (r : Bool) : Prop :=
  if ((decide (id1 < 1)) || (decide (c0 0 < id1))) = true then
    r = (false)
  else
    (0 ≤ id1 ∧ id1 < 9) ∧ (
    r = (!((nz (c0 ((1 + (id1.toNat * 3)) + 2))))))

def calive_F (c0 : (Nat → Int)) (id1 : Int) : Bool :=
  if ((decide (id1 < 1)) || (decide (c0 0 < id1))) = true then
    false
  else
    !((nz (c0 ((1 + (id1.toNat * 3)) + 2))))

def calive_P (c0 : (Nat → Int)) (id1 : Int) : Prop :=
  if ((decide (id1 < 1)) || (decide (c0 0 < id1))) = true then
    True
  else
    (0 ≤ id1 ∧ id1 < 9) ∧ (
    True)

theorem calive_ok (c0 : (Nat → Int)) (id1 : Int) (hP : calive_P c0 id1) : calive_S c0 id1 (calive_F c0 id1) := by
  obtain ⟨r, hr⟩ : ∃ r, r = calive_F c0 id1 := ⟨_, rfl⟩
  rw [← hr]
  unfold calive_F at hr
  unfold calive_S
  unfold calive_P at hP
  by_cases hp40 : ((decide (id1 < 1)) || (decide (c0 0 < id1))) = true
  · rw [if_pos hp40] at hr hP ⊢
    exact hr
  · rw [if_neg hp40] at hr hP ⊢
    obtain ⟨hq0, hP⟩ := hP
    refine ⟨hq0, ?_⟩
    exact hr

end Go.E
