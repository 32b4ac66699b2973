/- What functions of the program say, as relations. -/
import Derived.Test.YteomcjiiiilhmaaP16a
set_option maxHeartbeats 1000000
set_option linter.unusedVariables false
set_option linter.unusedSimpArgs false
set_option maxRecDepth 100000
namespace Go.E
open Go

def cbegin_S (c0 : (Nat → Int)) (id1 : Int) (tx2 : Int) (r : Int × (Nat → Int)) : Prop :=
  if ((decide (id1 < 1)) || (decide (c0 0 < id1))) = true then
    r = ((10, c0))
  else
    (0 ≤ id1 ∧ id1 < 9) ∧ (
    if ((decide (tx2 < 1)) || (decide (1048576 < tx2))) = true then
      r = ((1, c0))
    else
      if ((nz (c0 ((1 + (id1.toNat * 3)) + 2)))) = true then
        r = ((11, c0))
      else
        if c0 (1 + (id1.toNat * 3)) = 0 then
          (errIs_P ((cof_F c0 tx2).2) 10) ∧ (
          if ((errIs_F ((cof_F c0 tx2).2) 10)) = true then
            r = ((0, (updI c0 (1 + (id1.toNat * 3)) tx2)))
          else
            r = ((15, c0)))
        else
          r = ((8, c0)))

def cbegin_F (c0 : (Nat → Int)) (id1 : Int) (tx2 : Int) : Int × (Nat → Int) :=
  if ((decide (id1 < 1)) || (decide (c0 0 < id1))) = true then
    (10, c0)
  else
    if ((decide (tx2 < 1)) || (decide (1048576 < tx2))) = true then
      (1, c0)
    else
      if ((nz (c0 ((1 + (id1.toNat * 3)) + 2)))) = true then
        (11, c0)
      else
        if c0 (1 + (id1.toNat * 3)) = 0 then
          if ((errIs_F ((cof_F c0 tx2).2) 10)) = true then
            (0, (updI c0 (1 + (id1.toNat * 3)) tx2))
          else
            (15, c0)
        else
          (8, c0)

def cbegin_P (c0 : (Nat → Int)) (id1 : Int) (tx2 : Int) : Prop :=
  if ((decide (id1 < 1)) || (decide (c0 0 < id1))) = true then
    True
  else
    (0 ≤ id1 ∧ id1 < 9) ∧ (
    if ((decide (tx2 < 1)) || (decide (1048576 < tx2))) = true then
      True
    else
      if ((nz (c0 ((1 + (id1.toNat * 3)) + 2)))) = true then
        True
      else
        if c0 (1 + (id1.toNat * 3)) = 0 then
          (errIs_P ((cof_F c0 tx2).2) 10) ∧ (
          if ((errIs_F ((cof_F c0 tx2).2) 10)) = true then
            True
          else
            True)
        else
          True)

theorem cbegin_ok (c0 : (Nat → Int)) (id1 : Int) (tx2 : Int) (hP : cbegin_P c0 id1 tx2) : cbegin_S c0 id1 tx2 (cbegin_F c0 id1 tx2) := by
  obtain ⟨r, hr⟩ : ∃ r, r = cbegin_F c0 id1 tx2 := ⟨_, rfl⟩
  rw [← hr]
  unfold cbegin_F at hr
  unfold cbegin_S
  unfold cbegin_P at hP
  by_cases hp1 : ((decide (id1 < 1)) || (decide (c0 0 < id1))) = true
  · rw [if_pos hp1] at hr hP ⊢
    exact hr
  · rw [if_neg hp1] at hr hP ⊢
    obtain ⟨hq0, hP⟩ := hP
    refine ⟨hq0, ?_⟩
    by_cases hp2 : ((decide (tx2 < 1)) || (decide (1048576 < tx2))) = true
    · rw [if_pos hp2] at hr hP ⊢
      exact hr
    · rw [if_neg hp2] at hr hP ⊢
      by_cases hp3 : ((nz (c0 ((1 + (id1.toNat * 3)) + 2)))) = true
      · rw [if_pos hp3] at hr hP ⊢
        exact hr
      · rw [if_neg hp3] at hr hP ⊢
        by_cases hp4 : c0 (1 + (id1.toNat * 3)) = 0
        · rw [if_pos hp4] at hr hP ⊢
          obtain ⟨hq0, hP⟩ := hP
          refine ⟨hq0, ?_⟩
          by_cases hp5 : ((errIs_F ((cof_F c0 tx2).2) 10)) = true
          · rw [if_pos hp5] at hr hP ⊢
            exact hr
          · rw [if_neg hp5] at hr hP ⊢
            exact hr
        · rw [if_neg hp4] at hr hP ⊢
          exact hr

def cend_S (c0 : (Nat → Int)) (tx1 : Int) (r : Int × (Nat → Int)) : Prop :=
  if (cof_F c0 tx1).2 = 0 then
    (0 ≤ (cof_F c0 tx1).1 ∧ (cof_F c0 tx1).1 < 9) ∧ (
    r = ((0, (updI c0 (1 + (((cof_F c0 tx1).1).toNat * 3)) 0))))
  else
    r = (((cof_F c0 tx1).2, c0))

def cend_F (c0 : (Nat → Int)) (tx1 : Int) : Int × (Nat → Int) :=
  if (cof_F c0 tx1).2 = 0 then
    (0, (updI c0 (1 + (((cof_F c0 tx1).1).toNat * 3)) 0))
  else
    ((cof_F c0 tx1).2, c0)

def cend_P (c0 : (Nat → Int)) (tx1 : Int) : Prop :=
  if (cof_F c0 tx1).2 = 0 then
    (0 ≤ (cof_F c0 tx1).1 ∧ (cof_F c0 tx1).1 < 9) ∧ (
    True)
  else
    True

theorem cend_ok (c0 : (Nat → Int)) (tx1 : Int) (hP : cend_P c0 tx1) : cend_S c0 tx1 (cend_F c0 tx1) := by
  obtain ⟨r, hr⟩ : ∃ r, r = cend_F c0 tx1 := ⟨_, rfl⟩
  rw [← hr]
  unfold cend_F at hr
  unfold cend_S
  unfold cend_P at hP
  by_cases hp6 : (cof_F c0 tx1).2 = 0
  · rw [if_pos hp6] at hr hP ⊢
    obtain ⟨hq0, hP⟩ := hP
    refine ⟨hq0, ?_⟩
    exact hr
  · rw [if_neg hp6] at hr hP ⊢
    exact hr

def cnow_S (c0 : (Nat → Int)) (id1 : Int) (r : Int × Int) : Prop :=
  if ((decide (id1 < 1)) || (decide (c0 0 < id1))) = true then
    r = ((0, 10))
  else
    (0 ≤ id1 ∧ id1 < 9) ∧ (
    if c0 (1 + (id1.toNat * 3)) = 0 then
      r = ((0, 10))
    else
      r = ((c0 (1 + (id1.toNat * 3)), 0)))

def cnow_F (c0 : (Nat → Int)) (id1 : Int) : Int × Int :=
  if ((decide (id1 < 1)) || (decide (c0 0 < id1))) = true then
    (0, 10)
  else
    if c0 (1 + (id1.toNat * 3)) = 0 then
      (0, 10)
    else
      (c0 (1 + (id1.toNat * 3)), 0)

def cnow_P (c0 : (Nat → Int)) (id1 : Int) : Prop :=
  if ((decide (id1 < 1)) || (decide (c0 0 < id1))) = true then
    True
  else
    (0 ≤ id1 ∧ id1 < 9) ∧ (
    if c0 (1 + (id1.toNat * 3)) = 0 then
      True
    else
      True)

theorem cnow_ok (c0 : (Nat → Int)) (id1 : Int) (hP : cnow_P c0 id1) : cnow_S c0 id1 (cnow_F c0 id1) := by
  obtain ⟨r, hr⟩ : ∃ r, r = cnow_F c0 id1 := ⟨_, rfl⟩
  rw [← hr]
  unfold cnow_F at hr
  unfold cnow_S
  unfold cnow_P at hP
  by_cases hp7 : ((decide (id1 < 1)) || (decide (c0 0 < id1))) = true
  · rw [if_pos hp7] at hr hP ⊢
    exact hr
  · rw [if_neg hp7] at hr hP ⊢
    obtain ⟨hq0, hP⟩ := hP
    refine ⟨hq0, ?_⟩
    by_cases hp8 : c0 (1 + (id1.toNat * 3)) = 0
    · rw [if_pos hp8] at hr hP ⊢
      exact hr
    · rw [if_neg hp8] at hr hP ⊢
      exact hr

def ccrash_S (c0 : (Nat → Int)) (id1 : Int) (now2 : Int) (r : Int × (Nat → Int)) : Prop :=
  if ((decide (id1 < 1)) || (decide (c0 0 < id1))) = true then
    r = ((10, c0))
  else
    (0 ≤ id1 ∧ id1 < 9) ∧ (
    if ((decide (now2 < 0)) || (decide (1099511627776 < now2))) = true then
      r = ((1, c0))
    else
      if ((nz (c0 ((1 + (id1.toNat * 3)) + 2)))) = true then
        r = ((11, c0))
      else
        r = ((0, (updI (updI c0 ((1 + (id1.toNat * 3)) + 2) (bI true)) ((1 + (id1.toNat * 3)) + 1) now2))))

def ccrash_F (c0 : (Nat → Int)) (id1 : Int) (now2 : Int) : Int × (Nat → Int) :=
  if ((decide (id1 < 1)) || (decide (c0 0 < id1))) = true then
    (10, c0)
  else
    if ((decide (now2 < 0)) || (decide (1099511627776 < now2))) = true then
      (1, c0)
    else
      if ((nz (c0 ((1 + (id1.toNat * 3)) + 2)))) = true then
        (11, c0)
      else
        (0, (updI (updI c0 ((1 + (id1.toNat * 3)) + 2) (bI true)) ((1 + (id1.toNat * 3)) + 1) now2))

def ccrash_P (c0 : (Nat → Int)) (id1 : Int) (now2 : Int) : Prop :=
  if ((decide (id1 < 1)) || (decide (c0 0 < id1))) = true then
    True
  else
    (0 ≤ id1 ∧ id1 < 9) ∧ (
    if ((decide (now2 < 0)) || (decide (1099511627776 < now2))) = true then
      True
    else
      if ((nz (c0 ((1 + (id1.toNat * 3)) + 2)))) = true then
        True
      else
        True)

theorem ccrash_ok (c0 : (Nat → Int)) (id1 : Int) (now2 : Int) (hP : ccrash_P c0 id1 now2) : ccrash_S c0 id1 now2 (ccrash_F c0 id1 now2) := by
  obtain ⟨r, hr⟩ : ∃ r, r = ccrash_F c0 id1 now2 := ⟨_, rfl⟩
  rw [← hr]
  unfold ccrash_F at hr
  unfold ccrash_S
  unfold ccrash_P at hP
  by_cases hp9 : ((decide (id1 < 1)) || (decide (c0 0 < id1))) = true
  · rw [if_pos hp9] at hr hP ⊢
    exact hr
  · rw [if_neg hp9] at hr hP ⊢
    obtain ⟨hq0, hP⟩ := hP
    refine ⟨hq0, ?_⟩
    by_cases hp10 : ((decide (now2 < 0)) || (decide (1099511627776 < now2))) = true
    · rw [if_pos hp10] at hr hP ⊢
      exact hr
    · rw [if_neg hp10] at hr hP ⊢
      by_cases hp11 : ((nz (c0 ((1 + (id1.toNat * 3)) + 2)))) = true
      · rw [if_pos hp11] at hr hP ⊢
        exact hr
      · rw [if_neg hp11] at hr hP ⊢
        exact hr

def calive_S (c0 : (Nat → Int)) (id1 : Int) (r : Bool) : Prop :=
  if ((decide (id1 < 1)) || (decide (c0 0 < id1))) = true then
    r = (false)
  else
    (0 ≤ id1 ∧ id1 < 9) ∧ (
    r = (!((nz (c0 ((1 + (id1.toNat * 3)) + 2))))))

def calive_F (c0 : (Nat → Int)) (id1 : Int) : Bool :=
  if ((decide (id1 < 1)) || (decide (c0 0 < id1))) = true then
    false
  else
    !((nz (c0 ((1 + (id1.toNat * 3)) + 2))))

def calive_P (c0 : (Nat → Int)) (id1 : Int) : Prop :=
  if ((decide (id1 < 1)) || (decide (c0 0 < id1))) = true then
    True
  else
    (0 ≤ id1 ∧ id1 < 9) ∧ (
    True)

theorem calive_ok (c0 : (Nat → Int)) (id1 : Int) (hP : calive_P c0 id1) : calive_S c0 id1 (calive_F c0 id1) := by
  obtain ⟨r, hr⟩ : ∃ r, r = calive_F c0 id1 := ⟨_, rfl⟩
  rw [← hr]
  unfold calive_F at hr
  unfold calive_S
  unfold calive_P at hP
  by_cases hp12 : ((decide (id1 < 1)) || (decide (c0 0 < id1))) = true
  · rw [if_pos hp12] at hr hP ⊢
    exact hr
  · rw [if_neg hp12] at hr hP ⊢
    obtain ⟨hq0, hP⟩ := hP
    refine ⟨hq0, ?_⟩
    exact hr

def clost_l1 (c0 : (Nat → Int)) (now1 : Int) (span2 : Int) (out7 : (List Int)) (x28 : Int) (o : ((List Int) × Int) ⊕ ((List Int))) : Prop :=
  if x28 < 9 then
    (0 ≤ x28 ∧ x28 < 9) ∧ (
    (((((nz (c0 (1 + ((x28.toNat * 3) + 2))))) && (!(decide (c0 (1 + (x28.toNat * 3)) = 0)))) = true) → inI64 (now1 - (c0 (1 + ((x28.toNat * 3) + 1))))) ∧ (
    if ((((nz (c0 (1 + ((x28.toNat * 3) + 2))))) && (!(decide (c0 (1 + (x28.toNat * 3)) = 0)))) && (decide (span2 ≤ now1 - (c0 (1 + ((x28.toNat * 3) + 1)))))) = true then
      ((out7.length + 1) * 8 ≤ 140737488355328) ∧ (
      (inI64 (x28 + 1)) ∧ (
      o = (.inl ((out7 ++ [c0 (1 + (x28.toNat * 3))]), x28 + 1))))
    else
      (inI64 (x28 + 1)) ∧ (
      o = (.inl (out7, x28 + 1)))))
  else
    o = (.inr out7)

def clost_k1a (out7 : (List Int)) (r : (List Int)) : Prop :=
  (sortP out7) ∧ (
  r = ((sortL out7)))

def clost_S (c0 : (Nat → Int)) (now1 : Int) (span2 : Int) (r : (List Int)) : Prop :=
  if (((decide (now1 < 0)) || (decide (1099511627776 < now1))) || (decide (span2 < 0))) = true then
    r = ([])
  else
    ∃ x : (List Int), Wh (fun (s : (List Int) × Int) (o : ((List Int) × Int) ⊕ ((List Int))) => clost_l1 c0 now1 span2 s.1 s.2 o) (([], 0) : (List Int) × Int) x ∧ clost_k1a x r

def lostR_l1 (l0 : (List (Nat → Int))) (now1 : Int) (span2 : Int) (out7 : (List Int)) (i8 : Int) (o : ((List Int) × Int) ⊕ ((List Int))) : Prop :=
  if (((decide (i8 < (l0.length : Int))) && ((timeR_F now1))) && (decide (0 ≤ span2))) = true then
    (0 ≤ i8 ∧ i8 < l0.length) ∧ ((((nz ((l0[i8.toNat]!) 1))) = true) → 0 ≤ i8 ∧ i8 < l0.length) ∧ (((((nz ((l0[i8.toNat]!) 1))) && (decide (0 < (l0[i8.toNat]!) 0))) = true) → 0 ≤ i8 ∧ i8 < l0.length) ∧ (((((nz ((l0[i8.toNat]!) 1))) && (decide (0 < (l0[i8.toNat]!) 0))) = true) → inI64 (now1 - ((l0[i8.toNat]!) 2))) ∧ (
    if ((((nz ((l0[i8.toNat]!) 1))) && (decide (0 < (l0[i8.toNat]!) 0))) && (decide (span2 ≤ now1 - ((l0[i8.toNat]!) 2)))) = true then
      (0 ≤ i8 ∧ i8 < l0.length) ∧ (
      ((out7.length + 1) * 8 ≤ 140737488355328) ∧ (
      (inI64 (i8 + 1)) ∧ (
      o = (.inl ((out7 ++ [(l0[i8.toNat]!) 0]), i8 + 1)))))
    else
      (inI64 (i8 + 1)) ∧ (
      o = (.inl (out7, i8 + 1))))
  else
    o = (.inr out7)

def lostR_k1a (out7 : (List Int)) (r : (List Int)) : Prop :=
  (rising_P out7) ∧ (
  r = ((rising_F out7)))

def lostR_S (l0 : (List (Nat → Int))) (now1 : Int) (span2 : Int) (r : (List Int)) : Prop :=
  ∃ x : (List Int), Wh (fun (s : (List Int) × Int) (o : ((List Int) × Int) ⊕ ((List Int))) => lostR_l1 l0 now1 span2 s.1 s.2 o) (([], 0) : (List Int) × Int) x ∧ lostR_k1a x r

end Go.E
