/- What functions of the program say, as relations. -/
import Derived.Test.YtfpilngnhkcgjaaPCd
import Derived.Test.YtfpilngnhkcgjaaE19
set_option maxHeartbeats 1000000
set_option linter.unusedVariables false
set_option linter.unusedSimpArgs false
set_option maxRecDepth 100000
namespace Go.E
open Go

def ltime_S (now0 : Int) (r : Bool) : Prop :=
  r = ((decide (0 ≤ now0)) && (decide (now0 ≤ 1099511627776)))

def ltime_F (now0 : Int) : Bool :=
  (decide (0 ≤ now0)) && (decide (now0 ≤ 1099511627776))

theorem ltime_ok (now0 : Int) : ltime_S now0 (ltime_F now0) := by
  obtain ⟨r, hr⟩ : ∃ r, r = ltime_F now0 := ⟨_, rfl⟩
  rw [← hr]
  unfold ltime_F at hr
  unfold ltime_S
  exact hr

def renew_S (l0span : Int) (l0since : (List (Int × Int))) (id1 : Int) (now2 : Int) (r : Int × (List (Int × Int))) : Prop :=
  if ((decide (id1 < 1)) || (!((ltime_F now2)))) = true then
    r = ((1, l0since))
  else
    r = ((0, mset ieq l0since id1 (if (mget ieq l0since id1 0) < now2 then now2 else (mget ieq l0since id1 0))))

def renew_F (l0span : Int) (l0since : (List (Int × Int))) (id1 : Int) (now2 : Int) : Int × (List (Int × Int)) :=
  if ((decide (id1 < 1)) || (!((ltime_F now2)))) = true then
    (1, l0since)
  else
    (0, mset ieq l0since id1 (if (mget ieq l0since id1 0) < now2 then now2 else (mget ieq l0since id1 0)))

theorem renew_ok (l0span : Int) (l0since : (List (Int × Int))) (id1 : Int) (now2 : Int) : renew_S l0span l0since id1 now2 (renew_F l0span l0since id1 now2) := by
  obtain ⟨r, hr⟩ : ∃ r, r = renew_F l0span l0since id1 now2 := ⟨_, rfl⟩
  rw [← hr]
  unfold renew_F at hr
  unfold renew_S
  by_cases hp1 : ((decide (id1 < 1)) || (!((ltime_F now2)))) = true
  · rw [if_pos hp1] at hr ⊢
    exact hr
  · rw [if_neg hp1] at hr ⊢
    exact hr

def lend_S (l0span : Int) (l0since : (List (Int × Int))) (id1 : Int) (r : Int × (List (Int × Int))) : Prop :=
  if ((mhas ieq l0since id1)) = true then
    r = ((0, mdel ieq l0since id1))
  else
    r = ((10, l0since))

def lend_F (l0span : Int) (l0since : (List (Int × Int))) (id1 : Int) : Int × (List (Int × Int)) :=
  if ((mhas ieq l0since id1)) = true then
    (0, mdel ieq l0since id1)
  else
    (10, l0since)

theorem lend_ok (l0span : Int) (l0since : (List (Int × Int))) (id1 : Int) : lend_S l0span l0since id1 (lend_F l0span l0since id1) := by
  obtain ⟨r, hr⟩ : ∃ r, r = lend_F l0span l0since id1 := ⟨_, rfl⟩
  rw [← hr]
  unfold lend_F at hr
  unfold lend_S
  by_cases hp2 : ((mhas ieq l0since id1)) = true
  · rw [if_pos hp2] at hr ⊢
    exact hr
  · rw [if_neg hp2] at hr ⊢
    exact hr

def since_S (l0span : Int) (l0since : (List (Int × Int))) (id1 : Int) (r : Int × Int) : Prop :=
  if ((mhas ieq l0since id1)) = true then
    r = ((mget ieq l0since id1 0, 0))
  else
    r = ((0, 10))

def since_F (l0span : Int) (l0since : (List (Int × Int))) (id1 : Int) : Int × Int :=
  if ((mhas ieq l0since id1)) = true then
    (mget ieq l0since id1 0, 0)
  else
    (0, 10)

theorem since_ok (l0span : Int) (l0since : (List (Int × Int))) (id1 : Int) : since_S l0span l0since id1 (since_F l0span l0since id1) := by
  obtain ⟨r, hr⟩ : ∃ r, r = since_F l0span l0since id1 := ⟨_, rfl⟩
  rw [← hr]
  unfold since_F at hr
  unfold since_S
  by_cases hp3 : ((mhas ieq l0since id1)) = true
  · rw [if_pos hp3] at hr ⊢
    exact hr
  · rw [if_neg hp3] at hr ⊢
    exact hr

def lall_S (l0span : Int) (l0since : (List (Int × Int))) (r : (List Int)) : Prop :=
  (skeysP l0since) ∧ (
  r = ((skeys l0since)))

def lall_F (l0span : Int) (l0since : (List (Int × Int))) : (List Int) :=
  (skeys l0since)

def lall_P (l0span : Int) (l0since : (List (Int × Int))) : Prop :=
  (skeysP l0since) ∧ (
  True)

theorem lall_ok (l0span : Int) (l0since : (List (Int × Int))) (hP : lall_P l0span l0since) : lall_S l0span l0since (lall_F l0span l0since) := by
  obtain ⟨r, hr⟩ : ∃ r, r = lall_F l0span l0since := ⟨_, rfl⟩
  rw [← hr]
  unfold lall_F at hr
  unfold lall_S
  unfold lall_P at hP
  obtain ⟨hq0, hP⟩ := hP
  refine ⟨hq0, ?_⟩
  exact hr

def due_l1 (l0span : Int) (l0since : (List (Int × Int))) (now1 : Int) (out5 : (List Int)) (x11 : Int) (o : ((List Int) × Int) ⊕ ((List Int))) : Prop :=
  if x11 < ((lall_F l0span l0since).length : Int) then
    (0 ≤ x11 ∧ x11 < (lall_F l0span l0since).length) ∧ (
    ((((ltime_F now1)) = true) → inI64 (now1 - (mget ieq l0since ((lall_F l0span l0since)[x11.toNat]!) 0))) ∧ (
    if (((ltime_F now1)) && (decide (l0span ≤ now1 - (mget ieq l0since ((lall_F l0span l0since)[x11.toNat]!) 0)))) = true then
      ((out5.length + 1) * 8 ≤ 140737488355328) ∧ (
      (inI64 (x11 + 1)) ∧ (
      o = (.inl ((out5 ++ [(lall_F l0span l0since)[x11.toNat]!]), x11 + 1))))
    else
      (inI64 (x11 + 1)) ∧ (
      o = (.inl (out5, x11 + 1)))))
  else
    o = (.inr out5)

def due_k1a (out5 : (List Int)) (r : (List Int)) : Prop :=
  r = (out5)

def due_S (l0span : Int) (l0since : (List (Int × Int))) (now1 : Int) (r : (List Int)) : Prop :=
  (lall_P l0span l0since) ∧ (
  ∃ x : (List Int), Wh (fun (s : (List Int) × Int) (o : ((List Int) × Int) ⊕ ((List Int))) => due_l1 l0span l0since now1 s.1 s.2 o) (([], 0) : (List Int) × Int) x ∧ due_k1a x r)

def ints_l1 (a0 : (List Int)) (b1 : (List Int)) (i5 : Int) (o : (Int) ⊕ ((Unit) ⊕ (Unit))) : Prop :=
  if i5 < (a0.length : Int) then
    (0 ≤ i5 ∧ i5 < a0.length) ∧ (
    (0 ≤ i5 ∧ i5 < b1.length) ∧ (
    if a0[i5.toNat]! = b1[i5.toNat]! then
      (inI64 (i5 + 1)) ∧ (
      o = (.inl (i5 + 1)))
    else
      o = (.inr (.inr ()))))
  else
    o = (.inr (.inl ()))

def ints_k1a (r : Bool) : Prop :=
  r = (true)

def ints_k1b (r : Bool) : Prop :=
  r = (false)

def ints_S (a0 : (List Int)) (b1 : (List Int)) (r : Bool) : Prop :=
  if (a0.length : Int) = (b1.length : Int) then
    ∃ x : (Unit) ⊕ (Unit), Wh (fun (s : Int) (o : (Int) ⊕ ((Unit) ⊕ (Unit))) => ints_l1 a0 b1 s o) (0 : Int) x ∧ (match x with | .inl _ => ints_k1a r | .inr _ => ints_k1b r)
  else
    r = (false)

end Go.E
