/- What functions of the program say, as relations. -/
import Derived.Test.YtfpilngnhkcgjaaP06a
set_option maxHeartbeats 1000000
set_option linter.unusedVariables false
set_option linter.unusedSimpArgs false
set_option maxRecDepth 100000
namespace Go.E
open Go

def alive06_S (r : Bool) : Prop :=
  if (renew_F 3 ([]) 7 10).1 = 0 then
    (due_P 3 ((renew_F 3 ([]) 7 10).2) 12) ∧ (
    if ((due_F 3 ((renew_F 3 ([]) 7 10).2) 12).length : Int) = 0 then
      (due_P 3 ((renew_F 3 ([]) 7 10).2) 13) ∧ (
      (ints_P (due_F 3 ((renew_F 3 ([]) 7 10).2) 13) ([7])) ∧ (
      r = ((ints_F (due_F 3 ((renew_F 3 ([]) 7 10).2) 13) ([7])))))
    else
      r = (false))
  else
    r = (false)

def alive06_F : Bool :=
  if (renew_F 3 ([]) 7 10).1 = 0 then
    if ((due_F 3 ((renew_F 3 ([]) 7 10).2) 12).length : Int) = 0 then
      (ints_F (due_F 3 ((renew_F 3 ([]) 7 10).2) 13) ([7]))
    else
      false
  else
    false

def alive06_P : Prop :=
  if (renew_F 3 ([]) 7 10).1 = 0 then
    (due_P 3 ((renew_F 3 ([]) 7 10).2) 12) ∧ (
    if ((due_F 3 ((renew_F 3 ([]) 7 10).2) 12).length : Int) = 0 then
      (due_P 3 ((renew_F 3 ([]) 7 10).2) 13) ∧ (
      (ints_P (due_F 3 ((renew_F 3 ([]) 7 10).2) 13) ([7])) ∧ (
      True))
    else
      True)
  else
    True

theorem alive06_ok (hP : alive06_P) : alive06_S (alive06_F) := by
  obtain ⟨r, hr⟩ : ∃ r, r = alive06_F := ⟨_, rfl⟩
  rw [← hr]
  unfold alive06_F at hr
  unfold alive06_S
  unfold alive06_P at hP
  by_cases hp4 : (renew_F 3 ([]) 7 10).1 = 0
  · rw [if_pos hp4] at hr hP ⊢
    obtain ⟨hq0, hP⟩ := hP
    refine ⟨hq0, ?_⟩
    by_cases hp5 : ((due_F 3 ((renew_F 3 ([]) 7 10).2) 12).length : Int) = 0
    · rw [if_pos hp5] at hr hP ⊢
      obtain ⟨hq0, hP⟩ := hP
      refine ⟨hq0, ?_⟩
      obtain ⟨hq0, hP⟩ := hP
      refine ⟨hq0, ?_⟩
      exact hr
    · rw [if_neg hp5] at hr hP ⊢
      exact hr
  · rw [if_neg hp4] at hr hP ⊢
    exact hr

def timeR_S (now0 : Int) (r : Bool) : Prop :=
  r = ((decide (0 ≤ now0)) && (decide (now0 ≤ 1099511627776)))

def timeR_F (now0 : Int) : Bool :=
  (decide (0 ≤ now0)) && (decide (now0 ≤ 1099511627776))

theorem timeR_ok (now0 : Int) : timeR_S now0 (timeR_F now0) := by
  obtain ⟨r, hr⟩ : ∃ r, r = timeR_F now0 := ⟨_, rfl⟩
  rw [← hr]
  unfold timeR_F at hr
  unfold timeR_S
  exact hr

def dueR_l1 (l0 : (List (Nat → Int))) (span1 : Int) (now2 : Int) (out7 : (List Int)) (i8 : Int) (o : ((List Int) × Int) ⊕ ((List Int))) : Prop :=
  if ((decide (i8 < (l0.length : Int))) && ((timeR_F now2))) = true then
    (0 ≤ i8 ∧ i8 < l0.length) ∧ (((decide (l0[i8.toNat]! 1 ≤ now2)) = true) → 0 ≤ i8 ∧ i8 < l0.length) ∧ (((decide (l0[i8.toNat]! 1 ≤ now2)) = true) → inI64 (now2 - (l0[i8.toNat]! 1))) ∧ (
    if ((decide (l0[i8.toNat]! 1 ≤ now2)) && (decide (span1 ≤ now2 - (l0[i8.toNat]! 1)))) = true then
      (0 ≤ i8 ∧ i8 < l0.length) ∧ (
      ((out7.length + 1) * 8 ≤ 140737488355328) ∧ (
      (inI64 (i8 + 1)) ∧ (
      o = (.inl ((out7 ++ [l0[i8.toNat]! 0]), i8 + 1)))))
    else
      (inI64 (i8 + 1)) ∧ (
      o = (.inl (out7, i8 + 1))))
  else
    o = (.inr out7)

def dueR_k1a (out7 : (List Int)) (r : (List Int)) : Prop :=
  r = (out7)

def dueR_S (l0 : (List (Nat → Int))) (span1 : Int) (now2 : Int) (r : (List Int)) : Prop :=
  ∃ x : (List Int), Wh (fun (s : (List Int) × Int) (o : ((List Int) × Int) ⊕ ((List Int))) => dueR_l1 l0 span1 now2 s.1 s.2 o) (([], 0) : (List Int) × Int) x ∧ dueR_k1a x r

end Go.E
