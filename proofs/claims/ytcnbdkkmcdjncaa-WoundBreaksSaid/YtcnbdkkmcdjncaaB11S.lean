/- What functions of the program say, as relations. -/
import Derived.Test.YtcnbdkkmcdjncaaP11a
set_option maxHeartbeats 1000000
set_option linter.unusedVariables false
set_option linter.unusedSimpArgs false
set_option maxRecDepth 100000
namespace Go.E
open Go

def wof_l1 (l0 : (List (Nat → Int))) (out4 : (List (Nat → Int))) (x13 : Int) (o : ((List (Nat → Int)) × Int) ⊕ ((List (Nat → Int)))) : Prop :=
  if x13 < ((skeys (wby_F l0)).length : Int) then
    (0 ≤ x13 ∧ x13 < (skeys (wby_F l0)).length) ∧ (
    ((out4.length + 1) * 16 ≤ 140737488355328) ∧ (
    (inI64 (x13 + 1)) ∧ (
    o = (.inl ((out4 ++ [(updI (updI (fun _ => 0) 0 ((skeys (wby_F l0))[x13.toNat]!)) 1 (mget ieq (wby_F l0) ((skeys (wby_F l0))[x13.toNat]!) 0))]), x13 + 1)))))
  else
    o = (.inr out4)

def wof_k1a (out4 : (List (Nat → Int))) (r : (List (Nat → Int))) : Prop :=
  r = (out4)

def wof_S (l0 : (List (Nat → Int))) (r : (List (Nat → Int))) : Prop :=
  (wby_P l0) ∧ (
  (skeysP (wby_F l0)) ∧ (
  ∃ x : (List (Nat → Int)), Wh (fun (s : (List (Nat → Int)) × Int) (o : ((List (Nat → Int)) × Int) ⊕ ((List (Nat → Int)))) => wof_l1 l0 s.1 s.2 o) (([], 0) : (List (Nat → Int)) × Int) x ∧ wof_k1a x r))

def nodesR_l1 (l0 : (List (Nat → Int))) (out3 : (List Int)) (i4 : Int) (o : ((List Int) × Int) ⊕ ((List Int))) : Prop :=
  if i4 < (l0.length : Int) then
    (0 ≤ i4 ∧ i4 < l0.length) ∧ (
    (0 ≤ i4 ∧ i4 < l0.length) ∧ (
    ((out3.length + 2) * 8 ≤ 140737488355328) ∧ (
    (inI64 (i4 + 1)) ∧ (
    o = (.inl ((out3 ++ [l0[i4.toNat]! 0, l0[i4.toNat]! 2]), i4 + 1))))))
  else
    o = (.inr out3)

def nodesR_k1a (out3 : (List Int)) (r : (List Int)) : Prop :=
  (rising_P out3) ∧ (
  r = ((rising_F out3)))

def nodesR_S (l0 : (List (Nat → Int))) (r : (List Int)) : Prop :=
  ∃ x : (List Int), Wh (fun (s : (List Int) × Int) (o : ((List Int) × Int) ⊕ ((List Int))) => nodesR_l1 l0 s.1 s.2 o) (([], 0) : (List Int) × Int) x ∧ nodesR_k1a x r

end Go.E
