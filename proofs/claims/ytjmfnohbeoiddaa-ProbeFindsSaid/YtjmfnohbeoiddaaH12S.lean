/- What functions of the program say, as relations. -/
import Derived.Test.YtjmfnohbeoiddaaP12f
set_option maxHeartbeats 1000000
set_option linter.unusedVariables false
set_option linter.unusedSimpArgs false
set_option maxRecDepth 100000
namespace Go.E
open Go

def nodesR_l1 (l0 : (List (Nat → Int))) (out3 : (List Int)) (i4 : Int) (o : ((List Int) × Int) ⊕ ((List Int))) : Prop :=
  if i4 < (l0.length : Int) then
    (0 ≤ i4 ∧ i4 < l0.length) ∧ (
    (0 ≤ i4 ∧ i4 < l0.length) ∧ (
    ((out3.length + 2) * 8 ≤ 140737488355328) ∧ (
    (inI64 (i4 + 1)) ∧ (
    o = (.inl ((out3 ++ [l0[i4.toNat]! 0, l0[i4.toNat]! 2]), i4 + 1))))))
  else
    o = (.inr out3)

def nodesR_k1a (out3 : (List Int)) (r : (List Int)) : Prop :=
  (rising_P out3) ∧ (
  r = ((rising_F out3)))

def nodesR_S (l0 : (List (Nat → Int))) (r : (List Int)) : Prop :=
  ∃ x : (List Int), Wh (fun (s : (List Int) × Int) (o : ((List Int) × Int) ⊕ ((List Int))) => nodesR_l1 l0 s.1 s.2 o) (([], 0) : (List Int) × Int) x ∧ nodesR_k1a x r

def reachR_l2 (l0 : (List (Nat → Int))) (from1 : Int) (out5a : (List Int)) (more6a : Bool) (i7 : Int) (o : ((List Int) × Bool × Int) ⊕ ((List Int) × Bool)) : Prop :=
  if i7 < (l0.length : Int) then
    (0 ≤ i7 ∧ i7 < l0.length) ∧ (((decide (l0[i7.toNat]! 0 = from1)) = false) → 0 ≤ i7 ∧ i7 < l0.length) ∧ (((decide (l0[i7.toNat]! 0 = from1)) = false) → hasR_P out5a (l0[i7.toNat]! 0)) ∧ ((((decide (l0[i7.toNat]! 0 = from1)) || ((hasR_F out5a (l0[i7.toNat]! 0)))) = true) → 0 ≤ i7 ∧ i7 < l0.length) ∧ ((((decide (l0[i7.toNat]! 0 = from1)) || ((hasR_F out5a (l0[i7.toNat]! 0)))) = true) → hasR_P out5a (l0[i7.toNat]! 2)) ∧ (
    if (((decide (l0[i7.toNat]! 0 = from1)) || ((hasR_F out5a (l0[i7.toNat]! 0)))) && (!((hasR_F out5a (l0[i7.toNat]! 2))))) = true then
      (0 ≤ i7 ∧ i7 < l0.length) ∧ (
      ((out5a.length + 1) * 8 ≤ 140737488355328) ∧ (
      (inI64 (i7 + 1)) ∧ (
      o = (.inl ((out5a ++ [l0[i7.toNat]! 2]), true, i7 + 1)))))
    else
      (inI64 (i7 + 1)) ∧ (
      o = (.inl (out5a, more6a, i7 + 1))))
  else
    o = (.inr (out5a, more6a))

def reachR_k2a (out5a : (List Int)) (more6a : Bool) (o : ((List Int) × Bool) ⊕ ((List Int))) : Prop :=
  o = (.inl (out5a, more6a))

def reachR_l1 (l0 : (List (Nat → Int))) (from1 : Int) (out5 : (List Int)) (more6 : Bool) (o : ((List Int) × Bool) ⊕ ((List Int))) : Prop :=
  if (more6) = true then
    ∃ x : (List Int) × Bool, Wh (fun (s : (List Int) × Bool × Int) (o : ((List Int) × Bool × Int) ⊕ ((List Int) × Bool)) => reachR_l2 l0 from1 s.1 s.2.1 s.2.2 o) ((out5, false, 0) : (List Int) × Bool × Int) x ∧ reachR_k2a x.1 x.2 o
  else
    o = (.inr out5)

def reachR_k1a (out5 : (List Int)) (r : (List Int)) : Prop :=
  (rising_P out5) ∧ (
  r = ((rising_F out5)))

def reachR_S (l0 : (List (Nat → Int))) (from1 : Int) (r : (List Int)) : Prop :=
  ∃ x : (List Int), Wh (fun (s : (List Int) × Bool) (o : ((List Int) × Bool) ⊕ ((List Int))) => reachR_l1 l0 from1 s.1 s.2 o) (([], true) : (List Int) × Bool) x ∧ reachR_k1a x r

end Go.E
