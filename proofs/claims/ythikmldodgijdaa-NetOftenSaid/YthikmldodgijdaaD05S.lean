/- What functions of the program say, as relations. -/
import Derived.Test.YthikmldodgijdaaC05S
set_option maxHeartbeats 1000000
set_option linter.unusedVariables false
set_option linter.unusedSimpArgs false
set_option maxRecDepth 100000
namespace Go.E
open Go

def pickR_S (n0Limit : Int) (n0L : (List (Nat → Int))) (k1 : Int) (r : Int) : Prop :=
  ((n0L.length : Int) ≠ 0) ∧ (
  (
    if k1.tmod (n0L.length : Int) < 0 then
      (inI64 ((k1.tmod (n0L.length : Int)) + (n0L.length : Int))) ∧ (
      True)
    else
      True) ∧ (
  r = ((if k1.tmod (n0L.length : Int) < 0 then (k1.tmod (n0L.length : Int)) + (n0L.length : Int) else k1.tmod (n0L.length : Int)))))

def pickR_F (n0Limit : Int) (n0L : (List (Nat → Int))) (k1 : Int) : Int :=
  (if k1.tmod (n0L.length : Int) < 0 then (k1.tmod (n0L.length : Int)) + (n0L.length : Int) else k1.tmod (n0L.length : Int))

def pickR_P (n0Limit : Int) (n0L : (List (Nat → Int))) (k1 : Int) : Prop :=
  ((n0L.length : Int) ≠ 0) ∧ (
  (
    if k1.tmod (n0L.length : Int) < 0 then
      (inI64 ((k1.tmod (n0L.length : Int)) + (n0L.length : Int))) ∧ (
      True)
    else
      True) ∧ (
  True))

theorem pickR_ok (n0Limit : Int) (n0L : (List (Nat → Int))) (k1 : Int) (hP : pickR_P n0Limit n0L k1) : pickR_S n0Limit n0L k1 (pickR_F n0Limit n0L k1) := by
  obtain ⟨r, hr⟩ : ∃ r, r = pickR_F n0Limit n0L k1 := ⟨_, rfl⟩
  rw [← hr]
  unfold pickR_F at hr
  unfold pickR_S
  unfold pickR_P at hP
  obtain ⟨hq0, hP⟩ := hP
  refine ⟨hq0, ?_⟩
  refine ⟨hP.1, ?_⟩
  replace hP := hP.2
  exact hr

def doR_S (n0Limit : Int) (n0L : (List (Nat → Int))) (a1 : (Nat → Int)) (r : (Nat → Int) × Int × (List (Nat → Int))) : Prop :=
  if a1 0 = 0 then
    if ((okB (fun i => a1 (2 + i)))) = true then
      if n0Limit ≤ (n0L.length : Int) then
        r = (((fun _ => 0), 6, n0L))
      else
        ((0 + n0L.length) * 224 ≤ 140737488355328) ∧ (
        ((([] ++ n0L).length + 1) * 224 ≤ 140737488355328) ∧ (
        r = (((fun _ => 0), 0, (([] ++ n0L) ++ [(fun i => a1 (2 + i))])))))
    else
      r = (((fun _ => 0), 5, n0L))
  else
    if a1 0 = 4 then
      r = (((fun _ => 0), 0, []))
    else
      if ((decide (a1 0 < 1)) || (decide (3 < a1 0))) = true then
        r = (((fun _ => 0), 0, n0L))
      else
        if (n0L.length : Int) = 0 then
          r = (((fun _ => 0), 10, n0L))
        else
          (pickR_P n0Limit n0L (a1 1)) ∧ (
          (0 ≤ (pickR_F n0Limit n0L (a1 1)) ∧ (pickR_F n0Limit n0L (a1 1)) < n0L.length) ∧ (
          if a1 0 = 3 then
            if n0Limit ≤ (n0L.length : Int) then
              r = (((fun _ => 0), 6, n0L))
            else
              ((0 + n0L.length) * 224 ≤ 140737488355328) ∧ (
              ((([] ++ n0L).length + 1) * 224 ≤ 140737488355328) ∧ (
              r = (((fun _ => 0), 0, (([] ++ n0L) ++ [(n0L[(pickR_F n0Limit n0L (a1 1)).toNat]!)])))))
          else
            (0 ≤ (pickR_F n0Limit n0L (a1 1)) ∧ (pickR_F n0Limit n0L (a1 1)) ≤ n0L.length) ∧ (
            (inI64 ((pickR_F n0Limit n0L (a1 1)) + 1)) ∧ (
            (0 ≤ (pickR_F n0Limit n0L (a1 1)) + 1 ∧ (pickR_F n0Limit n0L (a1 1)) + 1 ≤ n0L.length) ∧ (
            ((0 + ((n0L.take (pickR_F n0Limit n0L (a1 1)).toNat).drop 0).length) * 224 ≤ 140737488355328) ∧ (
            ((([] ++ (n0L.take (pickR_F n0Limit n0L (a1 1)).toNat).drop 0).length + ((n0L.take n0L.length).drop ((pickR_F n0Limit n0L (a1 1)) + 1).toNat).length) * 224 ≤ 140737488355328) ∧ (
            if a1 0 = 2 then
              r = (((fun _ => 0), 0, (([] ++ (n0L.take (pickR_F n0Limit n0L (a1 1)).toNat).drop 0) ++ (n0L.take n0L.length).drop ((pickR_F n0Limit n0L (a1 1)) + 1).toNat)))
            else
              r = (((n0L[(pickR_F n0Limit n0L (a1 1)).toNat]!), 0, (([] ++ (n0L.take (pickR_F n0Limit n0L (a1 1)).toNat).drop 0) ++ (n0L.take n0L.length).drop ((pickR_F n0Limit n0L (a1 1)) + 1).toNat))))))))))

def doR_F (n0Limit : Int) (n0L : (List (Nat → Int))) (a1 : (Nat → Int)) : (Nat → Int) × Int × (List (Nat → Int)) :=
  if a1 0 = 0 then
    if ((okB (fun i => a1 (2 + i)))) = true then
      if n0Limit ≤ (n0L.length : Int) then
        ((fun _ => 0), 6, n0L)
      else
        ((fun _ => 0), 0, (([] ++ n0L) ++ [(fun i => a1 (2 + i))]))
    else
      ((fun _ => 0), 5, n0L)
  else
    if a1 0 = 4 then
      ((fun _ => 0), 0, [])
    else
      if ((decide (a1 0 < 1)) || (decide (3 < a1 0))) = true then
        ((fun _ => 0), 0, n0L)
      else
        if (n0L.length : Int) = 0 then
          ((fun _ => 0), 10, n0L)
        else
          if a1 0 = 3 then
            if n0Limit ≤ (n0L.length : Int) then
              ((fun _ => 0), 6, n0L)
            else
              ((fun _ => 0), 0, (([] ++ n0L) ++ [(n0L[(pickR_F n0Limit n0L (a1 1)).toNat]!)]))
          else
            if a1 0 = 2 then
              ((fun _ => 0), 0, (([] ++ (n0L.take (pickR_F n0Limit n0L (a1 1)).toNat).drop 0) ++ (n0L.take n0L.length).drop ((pickR_F n0Limit n0L (a1 1)) + 1).toNat))
            else
              ((n0L[(pickR_F n0Limit n0L (a1 1)).toNat]!), 0, (([] ++ (n0L.take (pickR_F n0Limit n0L (a1 1)).toNat).drop 0) ++ (n0L.take n0L.length).drop ((pickR_F n0Limit n0L (a1 1)) + 1).toNat))

def doR_P (n0Limit : Int) (n0L : (List (Nat → Int))) (a1 : (Nat → Int)) : Prop :=
  if a1 0 = 0 then
    if ((okB (fun i => a1 (2 + i)))) = true then
      if n0Limit ≤ (n0L.length : Int) then
        True
      else
        ((0 + n0L.length) * 224 ≤ 140737488355328) ∧ (
        ((([] ++ n0L).length + 1) * 224 ≤ 140737488355328) ∧ (
        True))
    else
      True
  else
    if a1 0 = 4 then
      True
    else
      if ((decide (a1 0 < 1)) || (decide (3 < a1 0))) = true then
        True
      else
        if (n0L.length : Int) = 0 then
          True
        else
          (pickR_P n0Limit n0L (a1 1)) ∧ (
          (0 ≤ (pickR_F n0Limit n0L (a1 1)) ∧ (pickR_F n0Limit n0L (a1 1)) < n0L.length) ∧ (
          if a1 0 = 3 then
            if n0Limit ≤ (n0L.length : Int) then
              True
            else
              ((0 + n0L.length) * 224 ≤ 140737488355328) ∧ (
              ((([] ++ n0L).length + 1) * 224 ≤ 140737488355328) ∧ (
              True))
          else
            (0 ≤ (pickR_F n0Limit n0L (a1 1)) ∧ (pickR_F n0Limit n0L (a1 1)) ≤ n0L.length) ∧ (
            (inI64 ((pickR_F n0Limit n0L (a1 1)) + 1)) ∧ (
            (0 ≤ (pickR_F n0Limit n0L (a1 1)) + 1 ∧ (pickR_F n0Limit n0L (a1 1)) + 1 ≤ n0L.length) ∧ (
            ((0 + ((n0L.take (pickR_F n0Limit n0L (a1 1)).toNat).drop 0).length) * 224 ≤ 140737488355328) ∧ (
            ((([] ++ (n0L.take (pickR_F n0Limit n0L (a1 1)).toNat).drop 0).length + ((n0L.take n0L.length).drop ((pickR_F n0Limit n0L (a1 1)) + 1).toNat).length) * 224 ≤ 140737488355328) ∧ (
            if a1 0 = 2 then
              True
            else
              True)))))))

theorem doR_ok (n0Limit : Int) (n0L : (List (Nat → Int))) (a1 : (Nat → Int)) (hP : doR_P n0Limit n0L a1) : doR_S n0Limit n0L a1 (doR_F n0Limit n0L a1) := by
  obtain ⟨r, hr⟩ : ∃ r, r = doR_F n0Limit n0L a1 := ⟨_, rfl⟩
  rw [← hr]
  unfold doR_F at hr
  unfold doR_S
  unfold doR_P at hP
  by_cases hp30 : a1 0 = 0
  · rw [if_pos hp30] at hr hP ⊢
    by_cases hp31 : ((okB (fun i => a1 (2 + i)))) = true
    · rw [if_pos hp31] at hr hP ⊢
      by_cases hp32 : n0Limit ≤ (n0L.length : Int)
      · rw [if_pos hp32] at hr hP ⊢
        exact hr
      · rw [if_neg hp32] at hr hP ⊢
        obtain ⟨hq0, hP⟩ := hP
        refine ⟨hq0, ?_⟩
        obtain ⟨hq0, hP⟩ := hP
        refine ⟨hq0, ?_⟩
        exact hr
    · rw [if_neg hp31] at hr hP ⊢
      exact hr
  · rw [if_neg hp30] at hr hP ⊢
    by_cases hp33 : a1 0 = 4
    · rw [if_pos hp33] at hr hP ⊢
      exact hr
    · rw [if_neg hp33] at hr hP ⊢
      by_cases hp34 : ((decide (a1 0 < 1)) || (decide (3 < a1 0))) = true
      · rw [if_pos hp34] at hr hP ⊢
        exact hr
      · rw [if_neg hp34] at hr hP ⊢
        by_cases hp35 : (n0L.length : Int) = 0
        · rw [if_pos hp35] at hr hP ⊢
          exact hr
        · rw [if_neg hp35] at hr hP ⊢
          obtain ⟨hq0, hP⟩ := hP
          refine ⟨hq0, ?_⟩
          obtain ⟨hq0, hP⟩ := hP
          refine ⟨hq0, ?_⟩
          by_cases hp36 : a1 0 = 3
          · rw [if_pos hp36] at hr hP ⊢
            by_cases hp37 : n0Limit ≤ (n0L.length : Int)
            · rw [if_pos hp37] at hr hP ⊢
              exact hr
            · rw [if_neg hp37] at hr hP ⊢
              obtain ⟨hq0, hP⟩ := hP
              refine ⟨hq0, ?_⟩
              obtain ⟨hq0, hP⟩ := hP
              refine ⟨hq0, ?_⟩
              exact hr
          · rw [if_neg hp36] at hr hP ⊢
            obtain ⟨hq0, hP⟩ := hP
            refine ⟨hq0, ?_⟩
            obtain ⟨hq0, hP⟩ := hP
            refine ⟨hq0, ?_⟩
            obtain ⟨hq0, hP⟩ := hP
            refine ⟨hq0, ?_⟩
            obtain ⟨hq0, hP⟩ := hP
            refine ⟨hq0, ?_⟩
            obtain ⟨hq0, hP⟩ := hP
            refine ⟨hq0, ?_⟩
            by_cases hp38 : a1 0 = 2
            · rw [if_pos hp38] at hr hP ⊢
              exact hr
            · rw [if_neg hp38] at hr hP ⊢
              exact hr

end Go.E
