/- What functions of the program say, as relations. -/
import Derived.Test.YthikmldodgijdaaPM
import Derived.Test.YthikmldodgijdaaPCd
set_option maxHeartbeats 1000000
set_option linter.unusedVariables false
set_option linter.unusedSimpArgs false
set_option maxRecDepth 100000
namespace Go.E
open Go

def cloneM_F (l : List (Nat → Int)) : List (Nat → Int) := l
def cloneM_P (l : List (Nat → Int)) : Prop := l.length ≤ 600000000000

def cloneM_S (s0 : (List (Nat → Int))) (r : (List (Nat → Int))) : Prop :=
  (s0 = [] → (
    r = ([]))) ∧ (
    ((0 + s0.length) * 224 ≤ 140737488355328) ∧ (
    r = (([] ++ s0))))

def pick_S (n0limit : Int) (n0l : (List (Nat → Int))) (k1 : Int) (r : Int × Int) : Prop :=
  if (n0l.length : Int) = 0 then
    r = ((0, 10))
  else
    ((n0l.length : Int) ≠ 0) ∧ (
    (inI64 ((k1.tmod (n0l.length : Int)) + (n0l.length : Int))) ∧ (
    ((n0l.length : Int) ≠ 0) ∧ (
    r = ((((k1.tmod (n0l.length : Int)) + (n0l.length : Int)).tmod (n0l.length : Int), 0)))))

def pick_F (n0limit : Int) (n0l : (List (Nat → Int))) (k1 : Int) : Int × Int :=
  if (n0l.length : Int) = 0 then
    (0, 10)
  else
    (((k1.tmod (n0l.length : Int)) + (n0l.length : Int)).tmod (n0l.length : Int), 0)

def pick_P (n0limit : Int) (n0l : (List (Nat → Int))) (k1 : Int) : Prop :=
  if (n0l.length : Int) = 0 then
    True
  else
    ((n0l.length : Int) ≠ 0) ∧ (
    (inI64 ((k1.tmod (n0l.length : Int)) + (n0l.length : Int))) ∧ (
    ((n0l.length : Int) ≠ 0) ∧ (
    True)))

theorem pick_ok (n0limit : Int) (n0l : (List (Nat → Int))) (k1 : Int) (hP : pick_P n0limit n0l k1) : pick_S n0limit n0l k1 (pick_F n0limit n0l k1) := by
  obtain ⟨r, hr⟩ : ∃ r, r = pick_F n0limit n0l k1 := ⟨_, rfl⟩
  rw [← hr]
  unfold pick_F at hr
  unfold pick_S
  unfold pick_P at hP
  by_cases hp13 : (n0l.length : Int) = 0
  · rw [if_pos hp13] at hr hP ⊢
    exact hr
  · rw [if_neg hp13] at hr hP ⊢
    obtain ⟨hq0, hP⟩ := hP
    refine ⟨hq0, ?_⟩
    obtain ⟨hq0, hP⟩ := hP
    refine ⟨hq0, ?_⟩
    obtain ⟨hq0, hP⟩ := hP
    refine ⟨hq0, ?_⟩
    exact hr

def send_S (n0limit : Int) (n0l : (List (Nat → Int))) (m1 : (Nat → Int)) (r : Int × (List (Nat → Int))) : Prop :=
  if (msgOk_F m1) = 0 then
    if (n0l.length : Int) = n0limit then
      r = ((6, n0l))
    else
      ((n0l.length + 1) * 224 ≤ 140737488355328) ∧ (
      r = ((0, (n0l ++ [m1]))))
  else
    r = (((msgOk_F m1), n0l))

def send_F (n0limit : Int) (n0l : (List (Nat → Int))) (m1 : (Nat → Int)) : Int × (List (Nat → Int)) :=
  if (msgOk_F m1) = 0 then
    if (n0l.length : Int) = n0limit then
      (6, n0l)
    else
      (0, (n0l ++ [m1]))
  else
    ((msgOk_F m1), n0l)

def send_P (n0limit : Int) (n0l : (List (Nat → Int))) (m1 : (Nat → Int)) : Prop :=
  if (msgOk_F m1) = 0 then
    if (n0l.length : Int) = n0limit then
      True
    else
      ((n0l.length + 1) * 224 ≤ 140737488355328) ∧ (
      True)
  else
    True

theorem send_ok (n0limit : Int) (n0l : (List (Nat → Int))) (m1 : (Nat → Int)) (hP : send_P n0limit n0l m1) : send_S n0limit n0l m1 (send_F n0limit n0l m1) := by
  obtain ⟨r, hr⟩ : ∃ r, r = send_F n0limit n0l m1 := ⟨_, rfl⟩
  rw [← hr]
  unfold send_F at hr
  unfold send_S
  unfold send_P at hP
  by_cases hp14 : (msgOk_F m1) = 0
  · rw [if_pos hp14] at hr hP ⊢
    by_cases hp15 : (n0l.length : Int) = n0limit
    · rw [if_pos hp15] at hr hP ⊢
      exact hr
    · rw [if_neg hp15] at hr hP ⊢
      obtain ⟨hq0, hP⟩ := hP
      refine ⟨hq0, ?_⟩
      exact hr
  · rw [if_neg hp14] at hr hP ⊢
    exact hr

def nlen_S (n0limit : Int) (n0l : (List (Nat → Int))) (r : Int) : Prop :=
  r = ((n0l.length : Int))

def nlen_F (n0limit : Int) (n0l : (List (Nat → Int))) : Int :=
  (n0l.length : Int)

theorem nlen_ok (n0limit : Int) (n0l : (List (Nat → Int))) : nlen_S n0limit n0l (nlen_F n0limit n0l) := by
  obtain ⟨r, hr⟩ : ∃ r, r = nlen_F n0limit n0l := ⟨_, rfl⟩
  rw [← hr]
  unfold nlen_F at hr
  unfold nlen_S
  exact hr

def deliver_S (n0limit : Int) (n0l : (List (Nat → Int))) (k1 : Int) (r : (Nat → Int) × Int × (List (Nat → Int))) : Prop :=
  (pick_P n0limit n0l k1) ∧ (
  if (pick_F n0limit n0l k1).2 = 0 then
    (0 ≤ (pick_F n0limit n0l k1).1 ∧ (pick_F n0limit n0l k1).1 < n0l.length) ∧ (
    (inI64 (((pick_F n0limit n0l k1).1) + 1)) ∧ (
    (0 ≤ (pick_F n0limit n0l k1).1 ∧ (pick_F n0limit n0l k1).1 ≤ ((pick_F n0limit n0l k1).1) + 1 ∧ ((pick_F n0limit n0l k1).1) + 1 ≤ n0l.length) ∧ (
    if (pick_F n0limit n0l k1).1 = ((pick_F n0limit n0l k1).1) + 1 then
      r = (((n0l[((pick_F n0limit n0l k1).1).toNat]!), 0, n0l))
    else
      (0 ≤ (pick_F n0limit n0l k1).1 ∧ (pick_F n0limit n0l k1).1 ≤ n0l.length) ∧ (
      (0 ≤ ((pick_F n0limit n0l k1).1) + 1 ∧ ((pick_F n0limit n0l k1).1) + 1 ≤ n0l.length) ∧ (
      ((((n0l.take ((pick_F n0limit n0l k1).1).toNat).drop 0 ++ (n0l.take n0l.length).drop (((pick_F n0limit n0l k1).1) + 1).toNat).length : Int) ≤ (n0l.length : Int) ∧ (n0l.length : Int) ≤ ((n0l.take ((pick_F n0limit n0l k1).1).toNat).drop 0 ++ (n0l.take n0l.length).drop (((pick_F n0limit n0l k1).1) + 1).toNat).length + (((((pick_F n0limit n0l k1).1) + 1).toNat - ((pick_F n0limit n0l k1).1).toNat) : Nat)) ∧ (
      r = (((n0l[((pick_F n0limit n0l k1).1).toNat]!), 0, ((n0l.take ((pick_F n0limit n0l k1).1).toNat).drop 0 ++ (n0l.take n0l.length).drop (((pick_F n0limit n0l k1).1) + 1).toNat)))))))))
  else
    r = (((fun _ => 0), (pick_F n0limit n0l k1).2, n0l)))

def deliver_F (n0limit : Int) (n0l : (List (Nat → Int))) (k1 : Int) : (Nat → Int) × Int × (List (Nat → Int)) :=
  if (pick_F n0limit n0l k1).2 = 0 then
    if (pick_F n0limit n0l k1).1 = ((pick_F n0limit n0l k1).1) + 1 then
      ((n0l[((pick_F n0limit n0l k1).1).toNat]!), 0, n0l)
    else
      ((n0l[((pick_F n0limit n0l k1).1).toNat]!), 0, ((n0l.take ((pick_F n0limit n0l k1).1).toNat).drop 0 ++ (n0l.take n0l.length).drop (((pick_F n0limit n0l k1).1) + 1).toNat))
  else
    ((fun _ => 0), (pick_F n0limit n0l k1).2, n0l)

def deliver_P (n0limit : Int) (n0l : (List (Nat → Int))) (k1 : Int) : Prop :=
  (pick_P n0limit n0l k1) ∧ (
  if (pick_F n0limit n0l k1).2 = 0 then
    (0 ≤ (pick_F n0limit n0l k1).1 ∧ (pick_F n0limit n0l k1).1 < n0l.length) ∧ (
    (inI64 (((pick_F n0limit n0l k1).1) + 1)) ∧ (
    (0 ≤ (pick_F n0limit n0l k1).1 ∧ (pick_F n0limit n0l k1).1 ≤ ((pick_F n0limit n0l k1).1) + 1 ∧ ((pick_F n0limit n0l k1).1) + 1 ≤ n0l.length) ∧ (
    if (pick_F n0limit n0l k1).1 = ((pick_F n0limit n0l k1).1) + 1 then
      True
    else
      (0 ≤ (pick_F n0limit n0l k1).1 ∧ (pick_F n0limit n0l k1).1 ≤ n0l.length) ∧ (
      (0 ≤ ((pick_F n0limit n0l k1).1) + 1 ∧ ((pick_F n0limit n0l k1).1) + 1 ≤ n0l.length) ∧ (
      ((((n0l.take ((pick_F n0limit n0l k1).1).toNat).drop 0 ++ (n0l.take n0l.length).drop (((pick_F n0limit n0l k1).1) + 1).toNat).length : Int) ≤ (n0l.length : Int) ∧ (n0l.length : Int) ≤ ((n0l.take ((pick_F n0limit n0l k1).1).toNat).drop 0 ++ (n0l.take n0l.length).drop (((pick_F n0limit n0l k1).1) + 1).toNat).length + (((((pick_F n0limit n0l k1).1) + 1).toNat - ((pick_F n0limit n0l k1).1).toNat) : Nat)) ∧ (
      True))))))
  else
    True)

theorem deliver_ok (n0limit : Int) (n0l : (List (Nat → Int))) (k1 : Int) (hP : deliver_P n0limit n0l k1) : deliver_S n0limit n0l k1 (deliver_F n0limit n0l k1) := by
  obtain ⟨r, hr⟩ : ∃ r, r = deliver_F n0limit n0l k1 := ⟨_, rfl⟩
  rw [← hr]
  unfold deliver_F at hr
  unfold deliver_S
  unfold deliver_P at hP
  obtain ⟨hq0, hP⟩ := hP
  refine ⟨hq0, ?_⟩
  by_cases hp16 : (pick_F n0limit n0l k1).2 = 0
  · rw [if_pos hp16] at hr hP ⊢
    obtain ⟨hq0, hP⟩ := hP
    refine ⟨hq0, ?_⟩
    obtain ⟨hq0, hP⟩ := hP
    refine ⟨hq0, ?_⟩
    obtain ⟨hq0, hP⟩ := hP
    refine ⟨hq0, ?_⟩
    by_cases hp17 : (pick_F n0limit n0l k1).1 = ((pick_F n0limit n0l k1).1) + 1
    · rw [if_pos hp17] at hr hP ⊢
      exact hr
    · rw [if_neg hp17] at hr hP ⊢
      obtain ⟨hq0, hP⟩ := hP
      refine ⟨hq0, ?_⟩
      obtain ⟨hq0, hP⟩ := hP
      refine ⟨hq0, ?_⟩
      obtain ⟨hq0, hP⟩ := hP
      refine ⟨hq0, ?_⟩
      exact hr
  · rw [if_neg hp16] at hr hP ⊢
    exact hr

end Go.E
