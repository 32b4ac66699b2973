/- What functions of the program say, as relations. -/
import Derived.Test.YthikmldodgijdaaP05a
set_option maxHeartbeats 1000000
set_option linter.unusedVariables false
set_option linter.unusedSimpArgs false
set_option maxRecDepth 100000
namespace Go.E
open Go

def nall_S (n0limit : Int) (n0l : (List (Nat → Int))) (r : (List (Nat → Int))) : Prop :=
  (cloneM_P n0l) ∧ (
  r = (n0l))

def nall_F (n0limit : Int) (n0l : (List (Nat → Int))) : (List (Nat → Int)) :=
  n0l

def nall_P (n0limit : Int) (n0l : (List (Nat → Int))) : Prop :=
  (cloneM_P n0l) ∧ (
  True)

theorem nall_ok (n0limit : Int) (n0l : (List (Nat → Int))) (hP : nall_P n0limit n0l) : nall_S n0limit n0l (nall_F n0limit n0l) := by
  obtain ⟨r, hr⟩ : ∃ r, r = nall_F n0limit n0l := ⟨_, rfl⟩
  rw [← hr]
  unfold nall_F at hr
  unfold nall_S
  unfold nall_P at hP
  obtain ⟨hq0, hP⟩ := hP
  refine ⟨hq0, ?_⟩
  exact hr

def drop_S (n0limit : Int) (n0l : (List (Nat → Int))) (k1 : Int) (r : Int × (List (Nat → Int))) : Prop :=
  (deliver_P n0limit n0l k1) ∧ (
  r = (((deliver_F n0limit n0l k1).2.1, (deliver_F n0limit n0l k1).2.2)))

def drop_F (n0limit : Int) (n0l : (List (Nat → Int))) (k1 : Int) : Int × (List (Nat → Int)) :=
  ((deliver_F n0limit n0l k1).2.1, (deliver_F n0limit n0l k1).2.2)

def drop_P (n0limit : Int) (n0l : (List (Nat → Int))) (k1 : Int) : Prop :=
  (deliver_P n0limit n0l k1) ∧ (
  True)

theorem drop_ok (n0limit : Int) (n0l : (List (Nat → Int))) (k1 : Int) (hP : drop_P n0limit n0l k1) : drop_S n0limit n0l k1 (drop_F n0limit n0l k1) := by
  obtain ⟨r, hr⟩ : ∃ r, r = drop_F n0limit n0l k1 := ⟨_, rfl⟩
  rw [← hr]
  unfold drop_F at hr
  unfold drop_S
  unfold drop_P at hP
  obtain ⟨hq0, hP⟩ := hP
  refine ⟨hq0, ?_⟩
  exact hr

def twice_S (n0limit : Int) (n0l : (List (Nat → Int))) (k1 : Int) (r : Int × (List (Nat → Int))) : Prop :=
  (pick_P n0limit n0l k1) ∧ (
  if (pick_F n0limit n0l k1).2 = 0 then
    (0 ≤ (pick_F n0limit n0l k1).1 ∧ (pick_F n0limit n0l k1).1 < n0l.length) ∧ (
    (send_P n0limit n0l (n0l[((pick_F n0limit n0l k1).1).toNat]!)) ∧ (
    r = (((send_F n0limit n0l (n0l[((pick_F n0limit n0l k1).1).toNat]!)).1, (send_F n0limit n0l (n0l[((pick_F n0limit n0l k1).1).toNat]!)).2))))
  else
    r = (((pick_F n0limit n0l k1).2, n0l)))

def twice_F (n0limit : Int) (n0l : (List (Nat → Int))) (k1 : Int) : Int × (List (Nat → Int)) :=
  if (pick_F n0limit n0l k1).2 = 0 then
    ((send_F n0limit n0l (n0l[((pick_F n0limit n0l k1).1).toNat]!)).1, (send_F n0limit n0l (n0l[((pick_F n0limit n0l k1).1).toNat]!)).2)
  else
    ((pick_F n0limit n0l k1).2, n0l)

def twice_P (n0limit : Int) (n0l : (List (Nat → Int))) (k1 : Int) : Prop :=
  (pick_P n0limit n0l k1) ∧ (
  if (pick_F n0limit n0l k1).2 = 0 then
    (0 ≤ (pick_F n0limit n0l k1).1 ∧ (pick_F n0limit n0l k1).1 < n0l.length) ∧ (
    (send_P n0limit n0l (n0l[((pick_F n0limit n0l k1).1).toNat]!)) ∧ (
    True))
  else
    True)

theorem twice_ok (n0limit : Int) (n0l : (List (Nat → Int))) (k1 : Int) (hP : twice_P n0limit n0l k1) : twice_S n0limit n0l k1 (twice_F n0limit n0l k1) := by
  obtain ⟨r, hr⟩ : ∃ r, r = twice_F n0limit n0l k1 := ⟨_, rfl⟩
  rw [← hr]
  unfold twice_F at hr
  unfold twice_S
  unfold twice_P at hP
  obtain ⟨hq0, hP⟩ := hP
  refine ⟨hq0, ?_⟩
  by_cases hp18 : (pick_F n0limit n0l k1).2 = 0
  · rw [if_pos hp18] at hr hP ⊢
    obtain ⟨hq0, hP⟩ := hP
    refine ⟨hq0, ?_⟩
    obtain ⟨hq0, hP⟩ := hP
    refine ⟨hq0, ?_⟩
    exact hr
  · rw [if_neg hp18] at hr hP ⊢
    exact hr

def ntake_S (n0limit : Int) (n0l : (List (Nat → Int))) (r : (List (Nat → Int)) × (List (Nat → Int))) : Prop :=
  (nall_P n0limit n0l) ∧ (
  r = (((nall_F n0limit n0l), [])))

def ntake_F (n0limit : Int) (n0l : (List (Nat → Int))) : (List (Nat → Int)) × (List (Nat → Int)) :=
  ((nall_F n0limit n0l), [])

def ntake_P (n0limit : Int) (n0l : (List (Nat → Int))) : Prop :=
  (nall_P n0limit n0l) ∧ (
  True)

theorem ntake_ok (n0limit : Int) (n0l : (List (Nat → Int))) (hP : ntake_P n0limit n0l) : ntake_S n0limit n0l (ntake_F n0limit n0l) := by
  obtain ⟨r, hr⟩ : ∃ r, r = ntake_F n0limit n0l := ⟨_, rfl⟩
  rw [← hr]
  unfold ntake_F at hr
  unfold ntake_S
  unfold ntake_P at hP
  obtain ⟨hq0, hP⟩ := hP
  refine ⟨hq0, ?_⟩
  exact hr

def letter_S (tx0 : Int) (r : (Nat → Int)) : Prop :=
  r = ((updI (updI (updI (fun _ => 0) 0 4) 2 1) 3 tx0))

def letter_F (tx0 : Int) : (Nat → Int) :=
  (updI (updI (updI (fun _ => 0) 0 4) 2 1) 3 tx0)

theorem letter_ok (tx0 : Int) : letter_S tx0 (letter_F tx0) := by
  obtain ⟨r, hr⟩ : ∃ r, r = letter_F tx0 := ⟨_, rfl⟩
  rw [← hr]
  unfold letter_F at hr
  unfold letter_S
  exact hr

def act_S (n0limit : Int) (n0l : (List (Nat → Int))) (a1 : (Nat → Int)) (r : (Nat → Int) × Int × (List (Nat → Int))) : Prop :=
  if a1 0 = 0 then
    (send_P n0limit n0l (fun i => a1 (2 + i))) ∧ (
    r = (((fun _ => 0), (code_F ((send_F n0limit n0l (fun i => a1 (2 + i))).1)), (send_F n0limit n0l (fun i => a1 (2 + i))).2)))
  else
    if a1 0 = 1 then
      (deliver_P n0limit n0l (a1 1)) ∧ (
      r = (((deliver_F n0limit n0l (a1 1)).1, (code_F ((deliver_F n0limit n0l (a1 1)).2.1)), (deliver_F n0limit n0l (a1 1)).2.2)))
    else
      if a1 0 = 2 then
        (drop_P n0limit n0l (a1 1)) ∧ (
        r = (((fun _ => 0), (code_F ((drop_F n0limit n0l (a1 1)).1)), (drop_F n0limit n0l (a1 1)).2)))
      else
        if a1 0 = 3 then
          (twice_P n0limit n0l (a1 1)) ∧ (
          r = (((fun _ => 0), (code_F ((twice_F n0limit n0l (a1 1)).1)), (twice_F n0limit n0l (a1 1)).2)))
        else
          if a1 0 = 4 then
            (ntake_P n0limit n0l) ∧ (
            r = (((fun _ => 0), 0, (ntake_F n0limit n0l).2)))
          else
            r = (((fun _ => 0), 0, n0l))

def act_F (n0limit : Int) (n0l : (List (Nat → Int))) (a1 : (Nat → Int)) : (Nat → Int) × Int × (List (Nat → Int)) :=
  if a1 0 = 0 then
    ((fun _ => 0), (code_F ((send_F n0limit n0l (fun i => a1 (2 + i))).1)), (send_F n0limit n0l (fun i => a1 (2 + i))).2)
  else
    if a1 0 = 1 then
      ((deliver_F n0limit n0l (a1 1)).1, (code_F ((deliver_F n0limit n0l (a1 1)).2.1)), (deliver_F n0limit n0l (a1 1)).2.2)
    else
      if a1 0 = 2 then
        ((fun _ => 0), (code_F ((drop_F n0limit n0l (a1 1)).1)), (drop_F n0limit n0l (a1 1)).2)
      else
        if a1 0 = 3 then
          ((fun _ => 0), (code_F ((twice_F n0limit n0l (a1 1)).1)), (twice_F n0limit n0l (a1 1)).2)
        else
          if a1 0 = 4 then
            ((fun _ => 0), 0, (ntake_F n0limit n0l).2)
          else
            ((fun _ => 0), 0, n0l)

def act_P (n0limit : Int) (n0l : (List (Nat → Int))) (a1 : (Nat → Int)) : Prop :=
  if a1 0 = 0 then
    (send_P n0limit n0l (fun i => a1 (2 + i))) ∧ (
    True)
  else
    if a1 0 = 1 then
      (deliver_P n0limit n0l (a1 1)) ∧ (
      True)
    else
      if a1 0 = 2 then
        (drop_P n0limit n0l (a1 1)) ∧ (
        True)
      else
        if a1 0 = 3 then
          (twice_P n0limit n0l (a1 1)) ∧ (
          True)
        else
          if a1 0 = 4 then
            (ntake_P n0limit n0l) ∧ (
            True)
          else
            True

theorem act_ok (n0limit : Int) (n0l : (List (Nat → Int))) (a1 : (Nat → Int)) (hP : act_P n0limit n0l a1) : act_S n0limit n0l a1 (act_F n0limit n0l a1) := by
  obtain ⟨r, hr⟩ : ∃ r, r = act_F n0limit n0l a1 := ⟨_, rfl⟩
  rw [← hr]
  unfold act_F at hr
  unfold act_S
  unfold act_P at hP
  by_cases hp19 : a1 0 = 0
  · rw [if_pos hp19] at hr hP ⊢
    obtain ⟨hq0, hP⟩ := hP
    refine ⟨hq0, ?_⟩
    exact hr
  · rw [if_neg hp19] at hr hP ⊢
    by_cases hp20 : a1 0 = 1
    · rw [if_pos hp20] at hr hP ⊢
      obtain ⟨hq0, hP⟩ := hP
      refine ⟨hq0, ?_⟩
      exact hr
    · rw [if_neg hp20] at hr hP ⊢
      by_cases hp21 : a1 0 = 2
      · rw [if_pos hp21] at hr hP ⊢
        obtain ⟨hq0, hP⟩ := hP
        refine ⟨hq0, ?_⟩
        exact hr
      · rw [if_neg hp21] at hr hP ⊢
        by_cases hp22 : a1 0 = 3
        · rw [if_pos hp22] at hr hP ⊢
          obtain ⟨hq0, hP⟩ := hP
          refine ⟨hq0, ?_⟩
          exact hr
        · rw [if_neg hp22] at hr hP ⊢
          by_cases hp23 : a1 0 = 4
          · rw [if_pos hp23] at hr hP ⊢
            obtain ⟨hq0, hP⟩ := hP
            refine ⟨hq0, ?_⟩
            exact hr
          · rw [if_neg hp23] at hr hP ⊢
            exact hr

end Go.E
