/- What functions of the program say, as relations. -/
import Derived.Test.YtmfbefghdaiicaaP17a
set_option maxHeartbeats 1000000
set_option linter.unusedVariables false
set_option linter.unusedSimpArgs false
set_option maxRecDepth 100000
namespace Go.E
open Go

def own_S (t0Tx : Int) (t0State : Int) (t0Reason : Int) (t0Seq : Int) (t0Open : Bool) (t0Shard : Int) (t0At : (Nat → Int)) (t0Mode : Int) (t0Touched : (List Int)) (t0Votes : (List Int)) (t0Acks : (List Int)) (t0Got : (List (Nat → Int))) (r : (Int × Int × Int × Int × Bool × Int × (Nat → Int) × Int × (List Int) × (List Int) × (List Int) × (List (Nat → Int)))) : Prop :=
  (cloneI_P t0Touched) ∧ (
  (cloneI_P t0Votes) ∧ (
  (cloneI_P t0Acks) ∧ (
  (cloneG_P t0Got) ∧ (
  r = ((t0Tx, t0State, t0Reason, t0Seq, t0Open, t0Shard, t0At, t0Mode, (cloneI_F t0Touched), (cloneI_F t0Votes), (cloneI_F t0Acks), (cloneG_F t0Got)))))))

def own_F (t0Tx : Int) (t0State : Int) (t0Reason : Int) (t0Seq : Int) (t0Open : Bool) (t0Shard : Int) (t0At : (Nat → Int)) (t0Mode : Int) (t0Touched : (List Int)) (t0Votes : (List Int)) (t0Acks : (List Int)) (t0Got : (List (Nat → Int))) : (Int × Int × Int × Int × Bool × Int × (Nat → Int) × Int × (List Int) × (List Int) × (List Int) × (List (Nat → Int))) :=
  (t0Tx, t0State, t0Reason, t0Seq, t0Open, t0Shard, t0At, t0Mode, (cloneI_F t0Touched), (cloneI_F t0Votes), (cloneI_F t0Acks), (cloneG_F t0Got))

def own_P (t0Tx : Int) (t0State : Int) (t0Reason : Int) (t0Seq : Int) (t0Open : Bool) (t0Shard : Int) (t0At : (Nat → Int)) (t0Mode : Int) (t0Touched : (List Int)) (t0Votes : (List Int)) (t0Acks : (List Int)) (t0Got : (List (Nat → Int))) : Prop :=
  (cloneI_P t0Touched) ∧ (
  (cloneI_P t0Votes) ∧ (
  (cloneI_P t0Acks) ∧ (
  (cloneG_P t0Got) ∧ (
  True))))

theorem own_ok (t0Tx : Int) (t0State : Int) (t0Reason : Int) (t0Seq : Int) (t0Open : Bool) (t0Shard : Int) (t0At : (Nat → Int)) (t0Mode : Int) (t0Touched : (List Int)) (t0Votes : (List Int)) (t0Acks : (List Int)) (t0Got : (List (Nat → Int))) (hP : own_P t0Tx t0State t0Reason t0Seq t0Open t0Shard t0At t0Mode t0Touched t0Votes t0Acks t0Got) : own_S t0Tx t0State t0Reason t0Seq t0Open t0Shard t0At t0Mode t0Touched t0Votes t0Acks t0Got (own_F t0Tx t0State t0Reason t0Seq t0Open t0Shard t0At t0Mode t0Touched t0Votes t0Acks t0Got) := by
  obtain ⟨r, hr⟩ : ∃ r, r = own_F t0Tx t0State t0Reason t0Seq t0Open t0Shard t0At t0Mode t0Touched t0Votes t0Acks t0Got := ⟨_, rfl⟩
  rw [← hr]
  unfold own_F at hr
  unfold own_S
  unfold own_P at hP
  obtain ⟨hq0, hP⟩ := hP
  refine ⟨hq0, ?_⟩
  obtain ⟨hq0, hP⟩ := hP
  refine ⟨hq0, ?_⟩
  obtain ⟨hq0, hP⟩ := hP
  refine ⟨hq0, ?_⟩
  obtain ⟨hq0, hP⟩ := hP
  refine ⟨hq0, ?_⟩
  exact hr

def tform_S (t0Tx : Int) (t0State : Int) (t0Reason : Int) (t0Seq : Int) (t0Open : Bool) (t0Shard : Int) (t0At : (Nat → Int)) (t0Mode : Int) (t0Touched : (List Int)) (t0Votes : (List Int)) (t0Acks : (List Int)) (t0Got : (List (Nat → Int))) (m1 : (Nat → Int)) (kinds2 : (List Int)) (r : Int) : Prop :=
  (hasI_P kinds2 (m1 0)) ∧ (
  if (((!((hasI_F kinds2 (m1 0)))) || (!(decide ((msgOk_F m1) = 0)))) || (!(decide (m1 3 = t0Tx)))) = true then
    r = (5)
  else
    r = (0))

def tform_F (t0Tx : Int) (t0State : Int) (t0Reason : Int) (t0Seq : Int) (t0Open : Bool) (t0Shard : Int) (t0At : (Nat → Int)) (t0Mode : Int) (t0Touched : (List Int)) (t0Votes : (List Int)) (t0Acks : (List Int)) (t0Got : (List (Nat → Int))) (m1 : (Nat → Int)) (kinds2 : (List Int)) : Int :=
  if (((!((hasI_F kinds2 (m1 0)))) || (!(decide ((msgOk_F m1) = 0)))) || (!(decide (m1 3 = t0Tx)))) = true then
    5
  else
    0

def tform_P (t0Tx : Int) (t0State : Int) (t0Reason : Int) (t0Seq : Int) (t0Open : Bool) (t0Shard : Int) (t0At : (Nat → Int)) (t0Mode : Int) (t0Touched : (List Int)) (t0Votes : (List Int)) (t0Acks : (List Int)) (t0Got : (List (Nat → Int))) (m1 : (Nat → Int)) (kinds2 : (List Int)) : Prop :=
  (hasI_P kinds2 (m1 0)) ∧ (
  if (((!((hasI_F kinds2 (m1 0)))) || (!(decide ((msgOk_F m1) = 0)))) || (!(decide (m1 3 = t0Tx)))) = true then
    True
  else
    True)

theorem tform_ok (t0Tx : Int) (t0State : Int) (t0Reason : Int) (t0Seq : Int) (t0Open : Bool) (t0Shard : Int) (t0At : (Nat → Int)) (t0Mode : Int) (t0Touched : (List Int)) (t0Votes : (List Int)) (t0Acks : (List Int)) (t0Got : (List (Nat → Int))) (m1 : (Nat → Int)) (kinds2 : (List Int)) (hP : tform_P t0Tx t0State t0Reason t0Seq t0Open t0Shard t0At t0Mode t0Touched t0Votes t0Acks t0Got m1 kinds2) : tform_S t0Tx t0State t0Reason t0Seq t0Open t0Shard t0At t0Mode t0Touched t0Votes t0Acks t0Got m1 kinds2 (tform_F t0Tx t0State t0Reason t0Seq t0Open t0Shard t0At t0Mode t0Touched t0Votes t0Acks t0Got m1 kinds2) := by
  obtain ⟨r, hr⟩ : ∃ r, r = tform_F t0Tx t0State t0Reason t0Seq t0Open t0Shard t0At t0Mode t0Touched t0Votes t0Acks t0Got m1 kinds2 := ⟨_, rfl⟩
  rw [← hr]
  unfold tform_F at hr
  unfold tform_S
  unfold tform_P at hP
  obtain ⟨hq0, hP⟩ := hP
  refine ⟨hq0, ?_⟩
  by_cases hp15 : (((!((hasI_F kinds2 (m1 0)))) || (!(decide ((msgOk_F m1) = 0)))) || (!(decide (m1 3 = t0Tx)))) = true
  · rw [if_pos hp15] at hr hP ⊢
    exact hr
  · rw [if_neg hp15] at hr hP ⊢
    exact hr

def tfrom_S (t0Tx : Int) (t0State : Int) (t0Reason : Int) (t0Seq : Int) (t0Open : Bool) (t0Shard : Int) (t0At : (Nat → Int)) (t0Mode : Int) (t0Touched : (List Int)) (t0Votes : (List Int)) (t0Acks : (List Int)) (t0Got : (List (Nat → Int))) (m1 : (Nat → Int)) (kind2 : Int) (ready3 : Bool) (r : Int) : Prop :=
  (tform_P t0Tx t0State t0Reason t0Seq t0Open t0Shard t0At t0Mode t0Touched t0Votes t0Acks t0Got m1 ([kind2])) ∧ (
  if (tform_F t0Tx t0State t0Reason t0Seq t0Open t0Shard t0At t0Mode t0Touched t0Votes t0Acks t0Got m1 ([kind2])) = 0 then
    if (ready3) = true then
      (hasI_P t0Touched (m1 1)) ∧ (
      if ((hasI_F t0Touched (m1 1))) = true then
        r = (0)
      else
        r = (10))
    else
      r = (11)
  else
    r = ((tform_F t0Tx t0State t0Reason t0Seq t0Open t0Shard t0At t0Mode t0Touched t0Votes t0Acks t0Got m1 ([kind2]))))

def tfrom_F (t0Tx : Int) (t0State : Int) (t0Reason : Int) (t0Seq : Int) (t0Open : Bool) (t0Shard : Int) (t0At : (Nat → Int)) (t0Mode : Int) (t0Touched : (List Int)) (t0Votes : (List Int)) (t0Acks : (List Int)) (t0Got : (List (Nat → Int))) (m1 : (Nat → Int)) (kind2 : Int) (ready3 : Bool) : Int :=
  if (tform_F t0Tx t0State t0Reason t0Seq t0Open t0Shard t0At t0Mode t0Touched t0Votes t0Acks t0Got m1 ([kind2])) = 0 then
    if (ready3) = true then
      if ((hasI_F t0Touched (m1 1))) = true then
        0
      else
        10
    else
      11
  else
    (tform_F t0Tx t0State t0Reason t0Seq t0Open t0Shard t0At t0Mode t0Touched t0Votes t0Acks t0Got m1 ([kind2]))

def tfrom_P (t0Tx : Int) (t0State : Int) (t0Reason : Int) (t0Seq : Int) (t0Open : Bool) (t0Shard : Int) (t0At : (Nat → Int)) (t0Mode : Int) (t0Touched : (List Int)) (t0Votes : (List Int)) (t0Acks : (List Int)) (t0Got : (List (Nat → Int))) (m1 : (Nat → Int)) (kind2 : Int) (ready3 : Bool) : Prop :=
  (tform_P t0Tx t0State t0Reason t0Seq t0Open t0Shard t0At t0Mode t0Touched t0Votes t0Acks t0Got m1 ([kind2])) ∧ (
  if (tform_F t0Tx t0State t0Reason t0Seq t0Open t0Shard t0At t0Mode t0Touched t0Votes t0Acks t0Got m1 ([kind2])) = 0 then
    if (ready3) = true then
      (hasI_P t0Touched (m1 1)) ∧ (
      if ((hasI_F t0Touched (m1 1))) = true then
        True
      else
        True)
    else
      True
  else
    True)

theorem tfrom_ok (t0Tx : Int) (t0State : Int) (t0Reason : Int) (t0Seq : Int) (t0Open : Bool) (t0Shard : Int) (t0At : (Nat → Int)) (t0Mode : Int) (t0Touched : (List Int)) (t0Votes : (List Int)) (t0Acks : (List Int)) (t0Got : (List (Nat → Int))) (m1 : (Nat → Int)) (kind2 : Int) (ready3 : Bool) (hP : tfrom_P t0Tx t0State t0Reason t0Seq t0Open t0Shard t0At t0Mode t0Touched t0Votes t0Acks t0Got m1 kind2 ready3) : tfrom_S t0Tx t0State t0Reason t0Seq t0Open t0Shard t0At t0Mode t0Touched t0Votes t0Acks t0Got m1 kind2 ready3 (tfrom_F t0Tx t0State t0Reason t0Seq t0Open t0Shard t0At t0Mode t0Touched t0Votes t0Acks t0Got m1 kind2 ready3) := by
  obtain ⟨r, hr⟩ : ∃ r, r = tfrom_F t0Tx t0State t0Reason t0Seq t0Open t0Shard t0At t0Mode t0Touched t0Votes t0Acks t0Got m1 kind2 ready3 := ⟨_, rfl⟩
  rw [← hr]
  unfold tfrom_F at hr
  unfold tfrom_S
  unfold tfrom_P at hP
  obtain ⟨hq0, hP⟩ := hP
  refine ⟨hq0, ?_⟩
  by_cases hp16 : (tform_F t0Tx t0State t0Reason t0Seq t0Open t0Shard t0At t0Mode t0Touched t0Votes t0Acks t0Got m1 ([kind2])) = 0
  · rw [if_pos hp16] at hr hP ⊢
    by_cases hp17 : (ready3) = true
    · rw [if_pos hp17] at hr hP ⊢
      obtain ⟨hq0, hP⟩ := hP
      refine ⟨hq0, ?_⟩
      by_cases hp18 : ((hasI_F t0Touched (m1 1))) = true
      · rw [if_pos hp18] at hr hP ⊢
        exact hr
      · rw [if_neg hp18] at hr hP ⊢
        exact hr
    · rw [if_neg hp17] at hr hP ⊢
      exact hr
  · rw [if_neg hp16] at hr hP ⊢
    exact hr

def tdecision_S (t0Tx : Int) (t0State : Int) (t0Reason : Int) (t0Seq : Int) (t0Open : Bool) (t0Shard : Int) (t0At : (Nat → Int)) (t0Mode : Int) (t0Touched : (List Int)) (t0Votes : (List Int)) (t0Acks : (List Int)) (t0Got : (List (Nat → Int))) (shards1 : (List Int)) (r : (List (Nat → Int))) : Prop :=
  (tto_P t0Tx t0State t0Reason t0Seq t0Open t0Shard t0At t0Mode t0Touched t0Votes t0Acks t0Got 6 (if t0State = 3 then 1 else 0) shards1) ∧ (
  r = ((tto_F t0Tx t0State t0Reason t0Seq t0Open t0Shard t0At t0Mode t0Touched t0Votes t0Acks t0Got 6 (if t0State = 3 then 1 else 0) shards1)))

def tdecision_F (t0Tx : Int) (t0State : Int) (t0Reason : Int) (t0Seq : Int) (t0Open : Bool) (t0Shard : Int) (t0At : (Nat → Int)) (t0Mode : Int) (t0Touched : (List Int)) (t0Votes : (List Int)) (t0Acks : (List Int)) (t0Got : (List (Nat → Int))) (shards1 : (List Int)) : (List (Nat → Int)) :=
  (tto_F t0Tx t0State t0Reason t0Seq t0Open t0Shard t0At t0Mode t0Touched t0Votes t0Acks t0Got 6 (if t0State = 3 then 1 else 0) shards1)

def tdecision_P (t0Tx : Int) (t0State : Int) (t0Reason : Int) (t0Seq : Int) (t0Open : Bool) (t0Shard : Int) (t0At : (Nat → Int)) (t0Mode : Int) (t0Touched : (List Int)) (t0Votes : (List Int)) (t0Acks : (List Int)) (t0Got : (List (Nat → Int))) (shards1 : (List Int)) : Prop :=
  (tto_P t0Tx t0State t0Reason t0Seq t0Open t0Shard t0At t0Mode t0Touched t0Votes t0Acks t0Got 6 (if t0State = 3 then 1 else 0) shards1) ∧ (
  True)

theorem tdecision_ok (t0Tx : Int) (t0State : Int) (t0Reason : Int) (t0Seq : Int) (t0Open : Bool) (t0Shard : Int) (t0At : (Nat → Int)) (t0Mode : Int) (t0Touched : (List Int)) (t0Votes : (List Int)) (t0Acks : (List Int)) (t0Got : (List (Nat → Int))) (shards1 : (List Int)) (hP : tdecision_P t0Tx t0State t0Reason t0Seq t0Open t0Shard t0At t0Mode t0Touched t0Votes t0Acks t0Got shards1) : tdecision_S t0Tx t0State t0Reason t0Seq t0Open t0Shard t0At t0Mode t0Touched t0Votes t0Acks t0Got shards1 (tdecision_F t0Tx t0State t0Reason t0Seq t0Open t0Shard t0At t0Mode t0Touched t0Votes t0Acks t0Got shards1) := by
  obtain ⟨r, hr⟩ : ∃ r, r = tdecision_F t0Tx t0State t0Reason t0Seq t0Open t0Shard t0At t0Mode t0Touched t0Votes t0Acks t0Got shards1 := ⟨_, rfl⟩
  rw [← hr]
  unfold tdecision_F at hr
  unfold tdecision_S
  unfold tdecision_P at hP
  obtain ⟨hq0, hP⟩ := hP
  refine ⟨hq0, ?_⟩
  exact hr

def tleft_l1 (t0Touched : (List Int)) (but1 : (List Int)) (x8 : Int) (o : (Int) ⊕ ((Unit) ⊕ (Int))) : Prop :=
  if x8 < ((cloneI_F t0Touched).length : Int) then
    (0 ≤ x8 ∧ x8 < (cloneI_F t0Touched).length) ∧ (
    (hasI_P but1 ((cloneI_F t0Touched)[x8.toNat]!)) ∧ (
    if ((hasI_F but1 ((cloneI_F t0Touched)[x8.toNat]!))) = true then
      o = (.inr (.inr x8))
    else
      (inI64 (x8 + 1)) ∧ (
      o = (.inl (x8 + 1)))))
  else
    o = (.inr (.inl ()))

def tleft_k1a (t0Touched : (List Int)) (r : (List Int)) : Prop :=
  r = ((cloneI_F t0Touched))

def tleft_l2 (but1 : (List Int)) (s0 : (List Int)) (i5 : Int) (j6 : Int) (o : ((List Int) × Int × Int) ⊕ ((List Int) × Int)) : Prop :=
  if j6 < (s0.length : Int) then
    (0 ≤ j6 ∧ j6 < s0.length) ∧ (
    (hasI_P but1 (s0[j6.toNat]!)) ∧ (
    if ((hasI_F but1 (s0[j6.toNat]!))) = true then
      (inI64 (j6 + 1)) ∧ (
      o = (.inl (s0, i5, j6 + 1)))
    else
      (0 ≤ i5 ∧ i5 < s0.length) ∧ (
      (inI64 (i5 + 1)) ∧ (
      (inI64 (j6 + 1)) ∧ (
      o = (.inl (s0.set (i5.toNat) (s0[j6.toNat]!), i5 + 1, j6 + 1)))))))
  else
    o = (.inr (s0, i5))

def tleft_k2a (s0 : (List Int)) (i5 : Int) (r : (List Int)) : Prop :=
  (0 ≤ i5 ∧ i5 ≤ s0.length) ∧ (
  (0 ≤ i5 ∧ i5 ≤ (s0.take i5.toNat ++ List.replicate (s0.length - i5.toNat) 0).length) ∧ (
  r = (((s0.take i5.toNat ++ List.replicate (s0.length - i5.toNat) 0).take i5.toNat).drop 0)))

def tleft_k1b (t0Touched : (List Int)) (but1 : (List Int)) (x4 : Int) (r : (List Int)) : Prop :=
  if x4 = (-1) then
    r = ((cloneI_F t0Touched))
  else
    (inI64 (x4 + 1)) ∧ (
    ∃ x : (List Int) × Int, Wh (fun (s : (List Int) × Int × Int) (o : ((List Int) × Int × Int) ⊕ ((List Int) × Int)) => tleft_l2 but1 s.1 s.2.1 s.2.2 o) (((cloneI_F t0Touched), x4, x4 + 1) : (List Int) × Int × Int) x ∧ tleft_k2a x.1 x.2 r)

def tleft_S (t0Tx : Int) (t0State : Int) (t0Reason : Int) (t0Seq : Int) (t0Open : Bool) (t0Shard : Int) (t0At : (Nat → Int)) (t0Mode : Int) (t0Touched : (List Int)) (t0Votes : (List Int)) (t0Acks : (List Int)) (t0Got : (List (Nat → Int))) (but1 : (List Int)) (r : (List Int)) : Prop :=
  (cloneI_P t0Touched) ∧ (
  ∃ x : (Unit) ⊕ (Int), Wh (fun (s : Int) (o : (Int) ⊕ ((Unit) ⊕ (Int))) => tleft_l1 t0Touched but1 s o) (0 : Int) x ∧ (match x with | .inl _ => tleft_k1a t0Touched r | .inr x4 => tleft_k1b t0Touched but1 x4 r))

def tdecided_S (t0Tx : Int) (t0State : Int) (t0Reason : Int) (t0Seq : Int) (t0Open : Bool) (t0Shard : Int) (t0At : (Nat → Int)) (t0Mode : Int) (t0Touched : (List Int)) (t0Votes : (List Int)) (t0Acks : (List Int)) (t0Got : (List (Nat → Int))) (r : Bool) : Prop :=
  if t0State = 3 then
    r = (true)
  else
    if t0State = 4 then
      r = (true)
    else
      r = (false)

def tdecided_F (t0Tx : Int) (t0State : Int) (t0Reason : Int) (t0Seq : Int) (t0Open : Bool) (t0Shard : Int) (t0At : (Nat → Int)) (t0Mode : Int) (t0Touched : (List Int)) (t0Votes : (List Int)) (t0Acks : (List Int)) (t0Got : (List (Nat → Int))) : Bool :=
  if t0State = 3 then
    true
  else
    if t0State = 4 then
      true
    else
      false

theorem tdecided_ok (t0Tx : Int) (t0State : Int) (t0Reason : Int) (t0Seq : Int) (t0Open : Bool) (t0Shard : Int) (t0At : (Nat → Int)) (t0Mode : Int) (t0Touched : (List Int)) (t0Votes : (List Int)) (t0Acks : (List Int)) (t0Got : (List (Nat → Int))) : tdecided_S t0Tx t0State t0Reason t0Seq t0Open t0Shard t0At t0Mode t0Touched t0Votes t0Acks t0Got (tdecided_F t0Tx t0State t0Reason t0Seq t0Open t0Shard t0At t0Mode t0Touched t0Votes t0Acks t0Got) := by
  obtain ⟨r, hr⟩ : ∃ r, r = tdecided_F t0Tx t0State t0Reason t0Seq t0Open t0Shard t0At t0Mode t0Touched t0Votes t0Acks t0Got := ⟨_, rfl⟩
  rw [← hr]
  unfold tdecided_F at hr
  unfold tdecided_S
  by_cases hp19 : t0State = 3
  · rw [if_pos hp19] at hr ⊢
    exact hr
  · rw [if_neg hp19] at hr ⊢
    by_cases hp20 : t0State = 4
    · rw [if_pos hp20] at hr ⊢
      exact hr
    · rw [if_neg hp20] at hr ⊢
      exact hr

def tnew_S (tx0 : Int) (r : (Int × Int × Int × Int × Bool × Int × (Nat → Int) × Int × (List Int) × (List Int) × (List Int) × (List (Nat → Int))) × Int) : Prop :=
  if ((decide (tx0 < 1)) || (decide (1048576 < tx0))) = true then
    r = (((0, 0, 0, 0, false, 0, (fun _ => 0), 0, [], [], [], []), 1))
  else
    r = (((tx0, 1, 0, 0, false, 0, (fun _ => 0), 0, [], [], [], []), 0))

def tnew_F (tx0 : Int) : (Int × Int × Int × Int × Bool × Int × (Nat → Int) × Int × (List Int) × (List Int) × (List Int) × (List (Nat → Int))) × Int :=
  if ((decide (tx0 < 1)) || (decide (1048576 < tx0))) = true then
    ((0, 0, 0, 0, false, 0, (fun _ => 0), 0, [], [], [], []), 1)
  else
    ((tx0, 1, 0, 0, false, 0, (fun _ => 0), 0, [], [], [], []), 0)

theorem tnew_ok (tx0 : Int) : tnew_S tx0 (tnew_F tx0) := by
  obtain ⟨r, hr⟩ : ∃ r, r = tnew_F tx0 := ⟨_, rfl⟩
  rw [← hr]
  unfold tnew_F at hr
  unfold tnew_S
  by_cases hp21 : ((decide (tx0 < 1)) || (decide (1048576 < tx0))) = true
  · rw [if_pos hp21] at hr ⊢
    exact hr
  · rw [if_neg hp21] at hr ⊢
    exact hr

end Go.E
