/- What functions of the program say, as relations. -/
import Derived.Test.YtmfbefghdaiicaaPA
set_option maxHeartbeats 1000000
set_option linter.unusedVariables false
set_option linter.unusedSimpArgs false
set_option maxRecDepth 100000
namespace Go.E
open Go

def may_S (m0 : (Nat → Int)) (r : Bool × (Nat → Int)) : Prop :=
  if ((decide (m0 0 = 1)) || (decide (m0 0 = 2))) = true then
    r = ((((((resOk_F (fun i => m0 (5 + i)))) && ((inn_F (m0 7) 1 4))) && ((inn_F (m0 4) 1 1048576))) && ((tx_F (m0 3))), (updI (updI (updI (updRI m0 5 2 (fun _ => 0)) 7 0) 4 0) 3 0)))
  else
    if m0 0 = 3 then
      r = ((((((inn_F (m0 4) 1 1048576)) && ((inn_F (m0 8) 1 15))) && ((inn_F 0 0 1))) && ((tx_F (m0 3))), (updI (updI (updI (updI m0 4 0) 8 0) 8 0) 3 0)))
    else
      if ((decide (m0 0 = 5)) || (decide (m0 0 = 6))) = true then
        r = ((((inn_F (m0 8) 0 1)) && ((tx_F (m0 3))), (updI (updI m0 8 0) 3 0)))
      else
        if ((decide (m0 0 = 4)) || ((decide (m0 0 = 7)) || ((decide (m0 0 = 8)) || (decide (m0 0 = 9))))) = true then
          r = (((tx_F (m0 3)), (updI m0 3 0)))
        else
          if m0 0 = 10 then
            r = (((((tx_F (m0 3))) && ((tx_F (m0 9)))) && (decide (m0 9 < m0 3)), (updI (updI m0 3 0) 9 0)))
          else
            if m0 0 = 11 then
              r = (((path_F m0), (updRI (updI (updI (updI m0 11 0) 9 0) 10 0) 12 16 (fun _ => 0))))
            else
              r = ((false, m0))

def may_F (m0 : (Nat → Int)) : Bool × (Nat → Int) :=
  if ((decide (m0 0 = 1)) || (decide (m0 0 = 2))) = true then
    (((((resOk_F (fun i => m0 (5 + i)))) && ((inn_F (m0 7) 1 4))) && ((inn_F (m0 4) 1 1048576))) && ((tx_F (m0 3))), (updI (updI (updI (updRI m0 5 2 (fun _ => 0)) 7 0) 4 0) 3 0))
  else
    if m0 0 = 3 then
      (((((inn_F (m0 4) 1 1048576)) && ((inn_F (m0 8) 1 15))) && ((inn_F 0 0 1))) && ((tx_F (m0 3))), (updI (updI (updI (updI m0 4 0) 8 0) 8 0) 3 0))
    else
      if ((decide (m0 0 = 5)) || (decide (m0 0 = 6))) = true then
        (((inn_F (m0 8) 0 1)) && ((tx_F (m0 3))), (updI (updI m0 8 0) 3 0))
      else
        if ((decide (m0 0 = 4)) || ((decide (m0 0 = 7)) || ((decide (m0 0 = 8)) || (decide (m0 0 = 9))))) = true then
          ((tx_F (m0 3)), (updI m0 3 0))
        else
          if m0 0 = 10 then
            ((((tx_F (m0 3))) && ((tx_F (m0 9)))) && (decide (m0 9 < m0 3)), (updI (updI m0 3 0) 9 0))
          else
            if m0 0 = 11 then
              ((path_F m0), (updRI (updI (updI (updI m0 11 0) 9 0) 10 0) 12 16 (fun _ => 0)))
            else
              (false, m0)

theorem may_ok (m0 : (Nat → Int)) : may_S m0 (may_F m0) := by
  obtain ⟨r, hr⟩ : ∃ r, r = may_F m0 := ⟨_, rfl⟩
  rw [← hr]
  unfold may_F at hr
  unfold may_S
  by_cases hp4 : ((decide (m0 0 = 1)) || (decide (m0 0 = 2))) = true
  · rw [if_pos hp4] at hr ⊢
    exact hr
  · rw [if_neg hp4] at hr ⊢
    by_cases hp5 : m0 0 = 3
    · rw [if_pos hp5] at hr ⊢
      exact hr
    · rw [if_neg hp5] at hr ⊢
      by_cases hp6 : ((decide (m0 0 = 5)) || (decide (m0 0 = 6))) = true
      · rw [if_pos hp6] at hr ⊢
        exact hr
      · rw [if_neg hp6] at hr ⊢
        by_cases hp7 : ((decide (m0 0 = 4)) || ((decide (m0 0 = 7)) || ((decide (m0 0 = 8)) || (decide (m0 0 = 9))))) = true
        · rw [if_pos hp7] at hr ⊢
          exact hr
        · rw [if_neg hp7] at hr ⊢
          by_cases hp8 : m0 0 = 10
          · rw [if_pos hp8] at hr ⊢
            exact hr
          · rw [if_neg hp8] at hr ⊢
            by_cases hp9 : m0 0 = 11
            · rw [if_pos hp9] at hr ⊢
              exact hr
            · rw [if_neg hp9] at hr ⊢
              exact hr

def msgOk_S (m0 : (Nat → Int)) (r : Int) : Prop :=
  if ((ends_F m0)) = true then
    if ((may_F m0).1) = true then
      if ((eqN 28 ((may_F m0).2) (updI (updI (updI (fun _ => 0) 0 (m0 0)) 1 (m0 1)) 2 (m0 2)))) = true then
        r = (0)
      else
        r = (5)
    else
      r = (5)
  else
    r = (5)

def msgOk_F (m0 : (Nat → Int)) : Int :=
  if ((ends_F m0)) = true then
    if ((may_F m0).1) = true then
      if ((eqN 28 ((may_F m0).2) (updI (updI (updI (fun _ => 0) 0 (m0 0)) 1 (m0 1)) 2 (m0 2)))) = true then
        0
      else
        5
    else
      5
  else
    5

theorem msgOk_ok (m0 : (Nat → Int)) : msgOk_S m0 (msgOk_F m0) := by
  obtain ⟨r, hr⟩ : ∃ r, r = msgOk_F m0 := ⟨_, rfl⟩
  rw [← hr]
  unfold msgOk_F at hr
  unfold msgOk_S
  by_cases hp10 : ((ends_F m0)) = true
  · rw [if_pos hp10] at hr ⊢
    by_cases hp11 : ((may_F m0).1) = true
    · rw [if_pos hp11] at hr ⊢
      by_cases hp12 : ((eqN 28 ((may_F m0).2) (updI (updI (updI (fun _ => 0) 0 (m0 0)) 1 (m0 1)) 2 (m0 2)))) = true
      · rw [if_pos hp12] at hr ⊢
        exact hr
      · rw [if_neg hp12] at hr ⊢
        exact hr
    · rw [if_neg hp11] at hr ⊢
      exact hr
  · rw [if_neg hp10] at hr ⊢
    exact hr

end Go.E
