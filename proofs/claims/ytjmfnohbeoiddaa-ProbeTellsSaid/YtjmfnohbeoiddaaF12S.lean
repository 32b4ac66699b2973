/- What functions of the program say, as relations. -/
import Derived.Test.YtjmfnohbeoiddaaP12d
set_option maxHeartbeats 1000000
set_option linter.unusedVariables false
set_option linter.unusedSimpArgs false
set_option maxRecDepth 100000
namespace Go.E
open Go

def starts12_S (shard0 : Int) (ww1 : (Nat → Int)) (l2 : (List (Nat → Int))) (r : Bool) : Prop :=
  (alive12_P) ∧ (
  if (alive12_F) = true then
    if 100 < (l2.length : Int) then
      r = (true)
    else
      (startP_P shard0 ww1 l2) ∧ (
      (startR_P shard0 ww1 l2) ∧ (
      (msgs_P ((startP_F shard0 ww1 l2).1) ((startR_F shard0 ww1 l2).1)) ∧ (
      r = (((msgs_F ((startP_F shard0 ww1 l2).1) ((startR_F shard0 ww1 l2).1))) && (decide ((code_F ((startP_F shard0 ww1 l2).2)) = (startR_F shard0 ww1 l2).2))))))
  else
    r = (false))

def starts12_F (shard0 : Int) (ww1 : (Nat → Int)) (l2 : (List (Nat → Int))) : Bool :=
  if (alive12_F) = true then
    if 100 < (l2.length : Int) then
      true
    else
      ((msgs_F ((startP_F shard0 ww1 l2).1) ((startR_F shard0 ww1 l2).1))) && (decide ((code_F ((startP_F shard0 ww1 l2).2)) = (startR_F shard0 ww1 l2).2))
  else
    false

def starts12_P (shard0 : Int) (ww1 : (Nat → Int)) (l2 : (List (Nat → Int))) : Prop :=
  (alive12_P) ∧ (
  if (alive12_F) = true then
    if 100 < (l2.length : Int) then
      True
    else
      (startP_P shard0 ww1 l2) ∧ (
      (startR_P shard0 ww1 l2) ∧ (
      (msgs_P ((startP_F shard0 ww1 l2).1) ((startR_F shard0 ww1 l2).1)) ∧ (
      True)))
  else
    True)

theorem starts12_ok (shard0 : Int) (ww1 : (Nat → Int)) (l2 : (List (Nat → Int))) (hP : starts12_P shard0 ww1 l2) : starts12_S shard0 ww1 l2 (starts12_F shard0 ww1 l2) := by
  obtain ⟨r, hr⟩ : ∃ r, r = starts12_F shard0 ww1 l2 := ⟨_, rfl⟩
  rw [← hr]
  unfold starts12_F at hr
  unfold starts12_S
  unfold starts12_P at hP
  obtain ⟨hq0, hP⟩ := hP
  refine ⟨hq0, ?_⟩
  by_cases hp24 : (alive12_F) = true
  · rw [if_pos hp24] at hr hP ⊢
    by_cases hp25 : 100 < (l2.length : Int)
    · rw [if_pos hp25] at hr hP ⊢
      exact hr
    · rw [if_neg hp25] at hr hP ⊢
      obtain ⟨hq0, hP⟩ := hP
      refine ⟨hq0, ?_⟩
      obtain ⟨hq0, hP⟩ := hP
      refine ⟨hq0, ?_⟩
      obtain ⟨hq0, hP⟩ := hP
      refine ⟨hq0, ?_⟩
      exact hr
  · rw [if_neg hp24] at hr hP ⊢
    exact hr

def goes12_S (shard0 : Int) (m1 : (Nat → Int)) (seq2 : Int) (l3 : (List (Nat → Int))) (r : Bool) : Prop :=
  (alive12_P) ∧ (
  if (alive12_F) = true then
    if 100 < (l3.length : Int) then
      r = (true)
    else
      (goP_P shard0 m1 seq2 l3) ∧ (
      (goR_P shard0 m1 seq2 l3) ∧ (
      (msgs_P ((goP_F shard0 m1 seq2 l3).1) ((goR_F shard0 m1 seq2 l3).1)) ∧ (
      if ((!((msgs_F ((goP_F shard0 m1 seq2 l3).1) ((goR_F shard0 m1 seq2 l3).1)))) || (!(decide ((code_F ((goP_F shard0 m1 seq2 l3).2)) = (goR_F shard0 m1 seq2 l3).2)))) = true then
        r = (false)
      else
        if ((isR_F m1)) = true then
          if ((decide (shard0 < 1)) || (decide (64 < shard0))) = true then
            r = (((eqN 28 ((onward_F shard0 m1).1) (fun _ => 0))) && (decide ((code_F ((onward_F shard0 m1).2)) = 1)))
          else
            r = (((eqN 28 ((onward_F shard0 m1).1) (updI (updI m1 1 0) 2 shard0))) && (decide ((onward_F shard0 m1).2 = 0)))
        else
          r = (((eqN 28 ((onward_F shard0 m1).1) (fun _ => 0))) && (decide ((code_F ((onward_F shard0 m1).2)) = 5))))))
  else
    r = (false))

def goes12_F (shard0 : Int) (m1 : (Nat → Int)) (seq2 : Int) (l3 : (List (Nat → Int))) : Bool :=
  if (alive12_F) = true then
    if 100 < (l3.length : Int) then
      true
    else
      if ((!((msgs_F ((goP_F shard0 m1 seq2 l3).1) ((goR_F shard0 m1 seq2 l3).1)))) || (!(decide ((code_F ((goP_F shard0 m1 seq2 l3).2)) = (goR_F shard0 m1 seq2 l3).2)))) = true then
        false
      else
        if ((isR_F m1)) = true then
          if ((decide (shard0 < 1)) || (decide (64 < shard0))) = true then
            ((eqN 28 ((onward_F shard0 m1).1) (fun _ => 0))) && (decide ((code_F ((onward_F shard0 m1).2)) = 1))
          else
            ((eqN 28 ((onward_F shard0 m1).1) (updI (updI m1 1 0) 2 shard0))) && (decide ((onward_F shard0 m1).2 = 0))
        else
          ((eqN 28 ((onward_F shard0 m1).1) (fun _ => 0))) && (decide ((code_F ((onward_F shard0 m1).2)) = 5))
  else
    false

def goes12_P (shard0 : Int) (m1 : (Nat → Int)) (seq2 : Int) (l3 : (List (Nat → Int))) : Prop :=
  (alive12_P) ∧ (
  if (alive12_F) = true then
    if 100 < (l3.length : Int) then
      True
    else
      (goP_P shard0 m1 seq2 l3) ∧ (
      (goR_P shard0 m1 seq2 l3) ∧ (
      (msgs_P ((goP_F shard0 m1 seq2 l3).1) ((goR_F shard0 m1 seq2 l3).1)) ∧ (
      if ((!((msgs_F ((goP_F shard0 m1 seq2 l3).1) ((goR_F shard0 m1 seq2 l3).1)))) || (!(decide ((code_F ((goP_F shard0 m1 seq2 l3).2)) = (goR_F shard0 m1 seq2 l3).2)))) = true then
        True
      else
        if ((isR_F m1)) = true then
          if ((decide (shard0 < 1)) || (decide (64 < shard0))) = true then
            True
          else
            True
        else
          True)))
  else
    True)

theorem goes12_ok (shard0 : Int) (m1 : (Nat → Int)) (seq2 : Int) (l3 : (List (Nat → Int))) (hP : goes12_P shard0 m1 seq2 l3) : goes12_S shard0 m1 seq2 l3 (goes12_F shard0 m1 seq2 l3) := by
  obtain ⟨r, hr⟩ : ∃ r, r = goes12_F shard0 m1 seq2 l3 := ⟨_, rfl⟩
  rw [← hr]
  unfold goes12_F at hr
  unfold goes12_S
  unfold goes12_P at hP
  obtain ⟨hq0, hP⟩ := hP
  refine ⟨hq0, ?_⟩
  by_cases hp26 : (alive12_F) = true
  · rw [if_pos hp26] at hr hP ⊢
    by_cases hp27 : 100 < (l3.length : Int)
    · rw [if_pos hp27] at hr hP ⊢
      exact hr
    · rw [if_neg hp27] at hr hP ⊢
      obtain ⟨hq0, hP⟩ := hP
      refine ⟨hq0, ?_⟩
      obtain ⟨hq0, hP⟩ := hP
      refine ⟨hq0, ?_⟩
      obtain ⟨hq0, hP⟩ := hP
      refine ⟨hq0, ?_⟩
      by_cases hp28 : ((!((msgs_F ((goP_F shard0 m1 seq2 l3).1) ((goR_F shard0 m1 seq2 l3).1)))) || (!(decide ((code_F ((goP_F shard0 m1 seq2 l3).2)) = (goR_F shard0 m1 seq2 l3).2)))) = true
      · rw [if_pos hp28] at hr hP ⊢
        exact hr
      · rw [if_neg hp28] at hr hP ⊢
        by_cases hp29 : ((isR_F m1)) = true
        · rw [if_pos hp29] at hr hP ⊢
          by_cases hp30 : ((decide (shard0 < 1)) || (decide (64 < shard0))) = true
          · rw [if_pos hp30] at hr hP ⊢
            exact hr
          · rw [if_neg hp30] at hr hP ⊢
            exact hr
        · rw [if_neg hp29] at hr hP ⊢
          exact hr
  · rw [if_neg hp26] at hr hP ⊢
    exact hr

def tells12_S (m0 : (Nat → Int)) (open1 : (List (Nat → Int))) (r : Bool) : Prop :=
  (alive12_P) ∧ (
  if (alive12_F) = true then
    (((!((((back_F m0)) == ((backR_F m0))))) = false) → live_P m0 open1) ∧ (((!((((back_F m0)) == ((backR_F m0))))) = false) → live_P m0 open1) ∧ (
    if ((!((((back_F m0)) == ((backR_F m0))))) || (!((((live_F m0 open1)) == ((liveR_F m0 open1)))))) = true then
      r = (false)
    else
      if ((isR_F m0)) = true then
        (victimR_P m0) ∧ (
        r = ((decide ((victim_F m0).1 = (victimR_F m0))) && (decide ((victim_F m0).2 = 0))))
      else
        r = ((decide ((victim_F m0).1 = 0)) && (decide ((code_F ((victim_F m0).2)) = 5))))
  else
    r = (false))

def tells12_F (m0 : (Nat → Int)) (open1 : (List (Nat → Int))) : Bool :=
  if (alive12_F) = true then
    if ((!((((back_F m0)) == ((backR_F m0))))) || (!((((live_F m0 open1)) == ((liveR_F m0 open1)))))) = true then
      false
    else
      if ((isR_F m0)) = true then
        (decide ((victim_F m0).1 = (victimR_F m0))) && (decide ((victim_F m0).2 = 0))
      else
        (decide ((victim_F m0).1 = 0)) && (decide ((code_F ((victim_F m0).2)) = 5))
  else
    false

def tells12_P (m0 : (Nat → Int)) (open1 : (List (Nat → Int))) : Prop :=
  (alive12_P) ∧ (
  if (alive12_F) = true then
    (((!((((back_F m0)) == ((backR_F m0))))) = false) → live_P m0 open1) ∧ (((!((((back_F m0)) == ((backR_F m0))))) = false) → live_P m0 open1) ∧ (
    if ((!((((back_F m0)) == ((backR_F m0))))) || (!((((live_F m0 open1)) == ((liveR_F m0 open1)))))) = true then
      True
    else
      if ((isR_F m0)) = true then
        (victimR_P m0) ∧ (
        True)
      else
        True)
  else
    True)

theorem tells12_ok (m0 : (Nat → Int)) (open1 : (List (Nat → Int))) (hP : tells12_P m0 open1) : tells12_S m0 open1 (tells12_F m0 open1) := by
  obtain ⟨r, hr⟩ : ∃ r, r = tells12_F m0 open1 := ⟨_, rfl⟩
  rw [← hr]
  unfold tells12_F at hr
  unfold tells12_S
  unfold tells12_P at hP
  obtain ⟨hq0, hP⟩ := hP
  refine ⟨hq0, ?_⟩
  by_cases hp31 : (alive12_F) = true
  · rw [if_pos hp31] at hr hP ⊢
    obtain ⟨hq0, hq1, hP⟩ := hP
    refine ⟨hq0, hq1, ?_⟩
    by_cases hp32 : ((!((((back_F m0)) == ((backR_F m0))))) || (!((((live_F m0 open1)) == ((liveR_F m0 open1)))))) = true
    · rw [if_pos hp32] at hr hP ⊢
      exact hr
    · rw [if_neg hp32] at hr hP ⊢
      by_cases hp33 : ((isR_F m0)) = true
      · rw [if_pos hp33] at hr hP ⊢
        obtain ⟨hq0, hP⟩ := hP
        refine ⟨hq0, ?_⟩
        exact hr
      · rw [if_neg hp33] at hr hP ⊢
        exact hr
  · rw [if_neg hp31] at hr hP ⊢
    exact hr

end Go.E
