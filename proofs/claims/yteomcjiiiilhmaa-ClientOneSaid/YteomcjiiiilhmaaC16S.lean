/- What functions of the program say, as relations. -/
import Derived.Test.YteomcjiiiilhmaaP16b
import Derived.Test.YteomcjiiiilhmaaE22
set_option maxHeartbeats 1000000
set_option linter.unusedVariables false
set_option linter.unusedSimpArgs false
set_option maxRecDepth 100000
namespace Go.E
open Go

def act16_S (c0 : (Nat → Int)) (a1 : (Nat → Int)) (r : Int × (Nat → Int)) : Prop :=
  if a1 0 = 0 then
    (cbegin_P c0 (a1 1) (a1 2)) ∧ (
    r = (((code_F ((cbegin_F c0 (a1 1) (a1 2)).1)), (cbegin_F c0 (a1 1) (a1 2)).2)))
  else
    if a1 0 = 1 then
      (cend_P c0 (a1 2)) ∧ (
      r = (((code_F ((cend_F c0 (a1 2)).1)), (cend_F c0 (a1 2)).2)))
    else
      (ccrash_P c0 (a1 1) (a1 3)) ∧ (
      r = (((code_F ((ccrash_F c0 (a1 1) (a1 3)).1)), (ccrash_F c0 (a1 1) (a1 3)).2)))

def act16_F (c0 : (Nat → Int)) (a1 : (Nat → Int)) : Int × (Nat → Int) :=
  if a1 0 = 0 then
    ((code_F ((cbegin_F c0 (a1 1) (a1 2)).1)), (cbegin_F c0 (a1 1) (a1 2)).2)
  else
    if a1 0 = 1 then
      ((code_F ((cend_F c0 (a1 2)).1)), (cend_F c0 (a1 2)).2)
    else
      ((code_F ((ccrash_F c0 (a1 1) (a1 3)).1)), (ccrash_F c0 (a1 1) (a1 3)).2)

def act16_P (c0 : (Nat → Int)) (a1 : (Nat → Int)) : Prop :=
  if a1 0 = 0 then
    (cbegin_P c0 (a1 1) (a1 2)) ∧ (
    True)
  else
    if a1 0 = 1 then
      (cend_P c0 (a1 2)) ∧ (
      True)
    else
      (ccrash_P c0 (a1 1) (a1 3)) ∧ (
      True)

theorem act16_ok (c0 : (Nat → Int)) (a1 : (Nat → Int)) (hP : act16_P c0 a1) : act16_S c0 a1 (act16_F c0 a1) := by
  obtain ⟨r, hr⟩ : ∃ r, r = act16_F c0 a1 := ⟨_, rfl⟩
  rw [← hr]
  unfold act16_F at hr
  unfold act16_S
  unfold act16_P at hP
  by_cases hp13 : a1 0 = 0
  · rw [if_pos hp13] at hr hP ⊢
    obtain ⟨hq0, hP⟩ := hP
    refine ⟨hq0, ?_⟩
    exact hr
  · rw [if_neg hp13] at hr hP ⊢
    by_cases hp14 : a1 0 = 1
    · rw [if_pos hp14] at hr hP ⊢
      obtain ⟨hq0, hP⟩ := hP
      refine ⟨hq0, ?_⟩
      exact hr
    · rw [if_neg hp14] at hr hP ⊢
      obtain ⟨hq0, hP⟩ := hP
      refine ⟨hq0, ?_⟩
      exact hr

def alive16_S (r : Bool) : Prop :=
  (cbegin_P (updI (fun _ => 0) 0 2) 1 7) ∧ (
  if (cbegin_F (updI (fun _ => 0) 0 2) 1 7).1 = 0 then
    (cbegin_P ((cbegin_F (updI (fun _ => 0) 0 2) 1 7).2) 1 8) ∧ (
    (ccrash_P ((cbegin_F ((cbegin_F (updI (fun _ => 0) 0 2) 1 7).2) 1 8).2) 1 10) ∧ (
    if (code_F ((cbegin_F ((cbegin_F (updI (fun _ => 0) 0 2) 1 7).2) 1 8).1)) = 8 then
      if (ccrash_F ((cbegin_F ((cbegin_F (updI (fun _ => 0) 0 2) 1 7).2) 1 8).2) 1 10).1 = 0 then
        (clost_P ((ccrash_F ((cbegin_F ((cbegin_F (updI (fun _ => 0) 0 2) 1 7).2) 1 8).2) 1 10).2) 14 5) ∧ (
        if ((clost_F ((ccrash_F ((cbegin_F ((cbegin_F (updI (fun _ => 0) 0 2) 1 7).2) 1 8).2) 1 10).2) 14 5).length : Int) = 0 then
          (clost_P ((ccrash_F ((cbegin_F ((cbegin_F (updI (fun _ => 0) 0 2) 1 7).2) 1 8).2) 1 10).2) 15 5) ∧ (
          (ints_P (clost_F ((ccrash_F ((cbegin_F ((cbegin_F (updI (fun _ => 0) 0 2) 1 7).2) 1 8).2) 1 10).2) 15 5) ([7])) ∧ (
          r = ((ints_F (clost_F ((ccrash_F ((cbegin_F ((cbegin_F (updI (fun _ => 0) 0 2) 1 7).2) 1 8).2) 1 10).2) 15 5) ([7])))))
        else
          r = (false))
      else
        r = (false)
    else
      r = (false)))
  else
    r = (false))

def alive16_F : Bool :=
  if (cbegin_F (updI (fun _ => 0) 0 2) 1 7).1 = 0 then
    if (code_F ((cbegin_F ((cbegin_F (updI (fun _ => 0) 0 2) 1 7).2) 1 8).1)) = 8 then
      if (ccrash_F ((cbegin_F ((cbegin_F (updI (fun _ => 0) 0 2) 1 7).2) 1 8).2) 1 10).1 = 0 then
        if ((clost_F ((ccrash_F ((cbegin_F ((cbegin_F (updI (fun _ => 0) 0 2) 1 7).2) 1 8).2) 1 10).2) 14 5).length : Int) = 0 then
          (ints_F (clost_F ((ccrash_F ((cbegin_F ((cbegin_F (updI (fun _ => 0) 0 2) 1 7).2) 1 8).2) 1 10).2) 15 5) ([7]))
        else
          false
      else
        false
    else
      false
  else
    false

def alive16_P : Prop :=
  (cbegin_P (updI (fun _ => 0) 0 2) 1 7) ∧ (
  if (cbegin_F (updI (fun _ => 0) 0 2) 1 7).1 = 0 then
    (cbegin_P ((cbegin_F (updI (fun _ => 0) 0 2) 1 7).2) 1 8) ∧ (
    (ccrash_P ((cbegin_F ((cbegin_F (updI (fun _ => 0) 0 2) 1 7).2) 1 8).2) 1 10) ∧ (
    if (code_F ((cbegin_F ((cbegin_F (updI (fun _ => 0) 0 2) 1 7).2) 1 8).1)) = 8 then
      if (ccrash_F ((cbegin_F ((cbegin_F (updI (fun _ => 0) 0 2) 1 7).2) 1 8).2) 1 10).1 = 0 then
        (clost_P ((ccrash_F ((cbegin_F ((cbegin_F (updI (fun _ => 0) 0 2) 1 7).2) 1 8).2) 1 10).2) 14 5) ∧ (
        if ((clost_F ((ccrash_F ((cbegin_F ((cbegin_F (updI (fun _ => 0) 0 2) 1 7).2) 1 8).2) 1 10).2) 14 5).length : Int) = 0 then
          (clost_P ((ccrash_F ((cbegin_F ((cbegin_F (updI (fun _ => 0) 0 2) 1 7).2) 1 8).2) 1 10).2) 15 5) ∧ (
          (ints_P (clost_F ((ccrash_F ((cbegin_F ((cbegin_F (updI (fun _ => 0) 0 2) 1 7).2) 1 8).2) 1 10).2) 15 5) ([7])) ∧ (
          True))
        else
          True)
      else
        True
    else
      True))
  else
    True)

theorem alive16_ok (hP : alive16_P) : alive16_S (alive16_F) := by
  obtain ⟨r, hr⟩ : ∃ r, r = alive16_F := ⟨_, rfl⟩
  rw [← hr]
  unfold alive16_F at hr
  unfold alive16_S
  unfold alive16_P at hP
  obtain ⟨hq0, hP⟩ := hP
  refine ⟨hq0, ?_⟩
  by_cases hp15 : (cbegin_F (updI (fun _ => 0) 0 2) 1 7).1 = 0
  · rw [if_pos hp15] at hr hP ⊢
    obtain ⟨hq0, hP⟩ := hP
    refine ⟨hq0, ?_⟩
    obtain ⟨hq0, hP⟩ := hP
    refine ⟨hq0, ?_⟩
    by_cases hp16 : (code_F ((cbegin_F ((cbegin_F (updI (fun _ => 0) 0 2) 1 7).2) 1 8).1)) = 8
    · rw [if_pos hp16] at hr hP ⊢
      by_cases hp17 : (ccrash_F ((cbegin_F ((cbegin_F (updI (fun _ => 0) 0 2) 1 7).2) 1 8).2) 1 10).1 = 0
      · rw [if_pos hp17] at hr hP ⊢
        obtain ⟨hq0, hP⟩ := hP
        refine ⟨hq0, ?_⟩
        by_cases hp18 : ((clost_F ((ccrash_F ((cbegin_F ((cbegin_F (updI (fun _ => 0) 0 2) 1 7).2) 1 8).2) 1 10).2) 14 5).length : Int) = 0
        · rw [if_pos hp18] at hr hP ⊢
          obtain ⟨hq0, hP⟩ := hP
          refine ⟨hq0, ?_⟩
          obtain ⟨hq0, hP⟩ := hP
          refine ⟨hq0, ?_⟩
          exact hr
        · rw [if_neg hp18] at hr hP ⊢
          exact hr
      · rw [if_neg hp17] at hr hP ⊢
        exact hr
    · rw [if_neg hp16] at hr hP ⊢
      exact hr
  · rw [if_neg hp15] at hr hP ⊢
    exact hr

end Go.E
