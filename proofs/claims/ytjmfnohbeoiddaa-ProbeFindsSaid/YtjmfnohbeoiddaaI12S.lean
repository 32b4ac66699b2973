/- What functions of the program say, as relations. -/
import Derived.Test.YtjmfnohbeoiddaaP12g
set_option maxHeartbeats 1000000
set_option linter.unusedVariables false
set_option linter.unusedSimpArgs false
set_option maxRecDepth 100000
namespace Go.E
open Go

def circR_l1 (l0 : (List (Nat → Int))) (out4 : (List Int)) (i5 : Int) (o : ((List Int) × Int) ⊕ ((List Int))) : Prop :=
  if i5 < ((nodesR_F l0).length : Int) then
    (0 ≤ i5 ∧ i5 < (nodesR_F l0).length) ∧ (
    (0 ≤ i5 ∧ i5 < (nodesR_F l0).length) ∧ (
    (reachR_P l0 ((nodesR_F l0)[i5.toNat]!)) ∧ (
    (hasR_P (reachR_F l0 ((nodesR_F l0)[i5.toNat]!)) ((nodesR_F l0)[i5.toNat]!)) ∧ (
    if ((hasR_F (reachR_F l0 ((nodesR_F l0)[i5.toNat]!)) ((nodesR_F l0)[i5.toNat]!))) = true then
      (0 ≤ i5 ∧ i5 < (nodesR_F l0).length) ∧ (
      ((out4.length + 1) * 8 ≤ 140737488355328) ∧ (
      (inI64 (i5 + 1)) ∧ (
      o = (.inl ((out4 ++ [(nodesR_F l0)[i5.toNat]!]), i5 + 1)))))
    else
      (inI64 (i5 + 1)) ∧ (
      o = (.inl (out4, i5 + 1)))))))
  else
    o = (.inr out4)

def circR_k1a (out4 : (List Int)) (r : (List Int)) : Prop :=
  r = (out4)

def circR_S (l0 : (List (Nat → Int))) (r : (List Int)) : Prop :=
  (nodesR_P l0) ∧ (
  ∃ x : (List Int), Wh (fun (s : (List Int) × Int) (o : ((List Int) × Int) ⊕ ((List Int))) => circR_l1 l0 s.1 s.2 o) (([], 0) : (List Int) × Int) x ∧ circR_k1a x r)

end Go.E
