/- What functions of the program say, as relations. -/
import Derived.Test.YtndkjhaiopcpeaaC13S
import Derived.Test.YtndkjhaiopcpeaaE19
import Derived.Test.YtndkjhaiopcpeaaL5
set_option maxHeartbeats 1000000
set_option linter.unusedVariables false
set_option linter.unusedSimpArgs false
set_option maxRecDepth 100000
namespace Go.E
open Go

def ball_S (b0last : (List (Int × (Nat → Int)))) (r : (List Int)) : Prop :=
  (skeysP b0last) ∧ (
  r = ((skeys b0last)))

def ball_F (b0last : (List (Int × (Nat → Int)))) : (List Int) :=
  (skeys b0last)

def ball_P (b0last : (List (Int × (Nat → Int)))) : Prop :=
  (skeysP b0last) ∧ (
  True)

theorem ball_ok (b0last : (List (Int × (Nat → Int)))) (hP : ball_P b0last) : ball_S b0last (ball_F b0last) := by
  obtain ⟨r, hr⟩ : ∃ r, r = ball_F b0last := ⟨_, rfl⟩
  rw [← hr]
  unfold ball_F at hr
  unfold ball_S
  unfold ball_P at hP
  obtain ⟨hq0, hP⟩ := hP
  refine ⟨hq0, ?_⟩
  exact hr

def findR_l1 (l0 : (List (Nat → Int))) (tx1 : Int) (i5 : Int) (o : (Int) ⊕ ((Unit) ⊕ (Int))) : Prop :=
  if i5 < (l0.length : Int) then
    (0 ≤ i5 ∧ i5 < l0.length) ∧ (
    if l0[i5.toNat]! 0 = tx1 then
      o = (.inr (.inr i5))
    else
      (inI64 (i5 + 1)) ∧ (
      o = (.inl (i5 + 1))))
  else
    o = (.inr (.inl ()))

def findR_k1a (r : Int) : Prop :=
  r = ((-1))

def findR_k1b (x4 : Int) (r : Int) : Prop :=
  r = (x4)

def findR_S (l0 : (List (Nat → Int))) (tx1 : Int) (r : Int) : Prop :=
  ∃ x : (Unit) ⊕ (Int), Wh (fun (s : Int) (o : (Int) ⊕ ((Unit) ⊕ (Int))) => findR_l1 l0 tx1 s o) (0 : Int) x ∧ (match x with | .inl _ => findR_k1a r | .inr x4 => findR_k1b x4 r)

def ints_l1 (a0 : (List Int)) (b1 : (List Int)) (i5 : Int) (o : (Int) ⊕ ((Unit) ⊕ (Unit))) : Prop :=
  if i5 < (a0.length : Int) then
    (0 ≤ i5 ∧ i5 < a0.length) ∧ (
    (0 ≤ i5 ∧ i5 < b1.length) ∧ (
    if a0[i5.toNat]! = b1[i5.toNat]! then
      (inI64 (i5 + 1)) ∧ (
      o = (.inl (i5 + 1)))
    else
      o = (.inr (.inr ()))))
  else
    o = (.inr (.inl ()))

def ints_k1a (r : Bool) : Prop :=
  r = (true)

def ints_k1b (r : Bool) : Prop :=
  r = (false)

def ints_S (a0 : (List Int)) (b1 : (List Int)) (r : Bool) : Prop :=
  if (a0.length : Int) = (b1.length : Int) then
    ∃ x : (Unit) ⊕ (Unit), Wh (fun (s : Int) (o : (Int) ⊕ ((Unit) ⊕ (Unit))) => ints_l1 a0 b1 s o) (0 : Int) x ∧ (match x with | .inl _ => ints_k1a r | .inr _ => ints_k1b r)
  else
    r = (false)

end Go.E
