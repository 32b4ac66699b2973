/- What functions of the program say, as relations. -/
import Derived.Test.YtcnbdkkmcdjncaaP11b
set_option maxHeartbeats 1000000
set_option linter.unusedVariables false
set_option linter.unusedSimpArgs false
set_option maxRecDepth 100000
namespace Go.E
open Go

def wrest_l1 (l0 : (List (Nat → Int))) (out5 : (List (Nat → Int))) (x13 : Int) (o : ((List (Nat → Int)) × Int) ⊕ ((List (Nat → Int)))) : Prop :=
  if x13 < (l0.length : Int) then
    (0 ≤ x13 ∧ x13 < l0.length) ∧ (
    (wby_P l0) ∧ (
    (hasW_P (wof_F l0) (updI (updI (fun _ => 0) 0 ((l0[x13.toNat]!) 0)) 1 (mget ieq (wby_F l0) ((l0[x13.toNat]!) 0) 0))) ∧ (
    if ((hasW_F (wof_F l0) (updI (updI (fun _ => 0) 0 ((l0[x13.toNat]!) 0)) 1 (mget ieq (wby_F l0) ((l0[x13.toNat]!) 0) 0)))) = true then
      (inI64 (x13 + 1)) ∧ (
      o = (.inl (out5, x13 + 1)))
    else
      (wby_P l0) ∧ (
      (hasW_P (wof_F l0) (updI (updI (fun _ => 0) 0 ((l0[x13.toNat]!) 2)) 1 (mget ieq (wby_F l0) ((l0[x13.toNat]!) 2) 0))) ∧ (
      if ((hasW_F (wof_F l0) (updI (updI (fun _ => 0) 0 ((l0[x13.toNat]!) 2)) 1 (mget ieq (wby_F l0) ((l0[x13.toNat]!) 2) 0)))) = true then
        (inI64 (x13 + 1)) ∧ (
        o = (.inl (out5, x13 + 1)))
      else
        ((out5.length + 1) * 32 ≤ 140737488355328) ∧ (
        (inI64 (x13 + 1)) ∧ (
        o = (.inl ((out5 ++ [(l0[x13.toNat]!)]), x13 + 1)))))))))
  else
    o = (.inr out5)

def wrest_k1a (out5 : (List (Nat → Int))) (r : (List (Nat → Int))) : Prop :=
  r = (out5)

def wrest_S (l0 : (List (Nat → Int))) (r : (List (Nat → Int))) : Prop :=
  (wof_P l0) ∧ (
  ∃ x : (List (Nat → Int)), Wh (fun (s : (List (Nat → Int)) × Int) (o : ((List (Nat → Int)) × Int) ⊕ ((List (Nat → Int)))) => wrest_l1 l0 s.1 s.2 o) (([], 0) : (List (Nat → Int)) × Int) x ∧ wrest_k1a x r)

def ofR_l1 (l0 : (List (Nat → Int))) (out4 : (List (Nat → Int))) (i5 : Int) (o : ((List (Nat → Int)) × Int) ⊕ ((List (Nat → Int)))) : Prop :=
  if i5 < ((nodesR_F l0).length : Int) then
    (0 ≤ i5 ∧ i5 < (nodesR_F l0).length) ∧ (
    (byR_P l0 ((nodesR_F l0)[i5.toNat]!)) ∧ (
    if ((byR_F l0 ((nodesR_F l0)[i5.toNat]!)).2) = true then
      (0 ≤ i5 ∧ i5 < (nodesR_F l0).length) ∧ (
      ((out4.length + 1) * 16 ≤ 140737488355328) ∧ (
      (inI64 (i5 + 1)) ∧ (
      o = (.inl ((out4 ++ [(updI (updI (fun _ => 0) 0 ((nodesR_F l0)[i5.toNat]!)) 1 ((byR_F l0 ((nodesR_F l0)[i5.toNat]!)).1))]), i5 + 1)))))
    else
      (inI64 (i5 + 1)) ∧ (
      o = (.inl (out4, i5 + 1)))))
  else
    o = (.inr out4)

def ofR_k1a (out4 : (List (Nat → Int))) (r : (List (Nat → Int))) : Prop :=
  r = (out4)

def ofR_S (l0 : (List (Nat → Int))) (r : (List (Nat → Int))) : Prop :=
  (nodesR_P l0) ∧ (
  ∃ x : (List (Nat → Int)), Wh (fun (s : (List (Nat → Int)) × Int) (o : ((List (Nat → Int)) × Int) ⊕ ((List (Nat → Int)))) => ofR_l1 l0 s.1 s.2 o) (([], 0) : (List (Nat → Int)) × Int) x ∧ ofR_k1a x r)

def restR_l1 (l0 : (List (Nat → Int))) (out3 : (List (Nat → Int))) (i4 : Int) (o : ((List (Nat → Int)) × Int) ⊕ ((List (Nat → Int)))) : Prop :=
  if i4 < (l0.length : Int) then
    (0 ≤ i4 ∧ i4 < l0.length) ∧ (
    (byR_P l0 (l0[i4.toNat]! 0)) ∧ (
    (0 ≤ i4 ∧ i4 < l0.length) ∧ (
    (byR_P l0 (l0[i4.toNat]! 2)) ∧ (
    if ((!((byR_F l0 (l0[i4.toNat]! 0)).2)) && (!((byR_F l0 (l0[i4.toNat]! 2)).2))) = true then
      (0 ≤ i4 ∧ i4 < l0.length) ∧ (
      ((out3.length + 1) * 32 ≤ 140737488355328) ∧ (
      (inI64 (i4 + 1)) ∧ (
      o = (.inl ((out3 ++ [(l0[i4.toNat]!)]), i4 + 1)))))
    else
      (inI64 (i4 + 1)) ∧ (
      o = (.inl (out3, i4 + 1)))))))
  else
    o = (.inr out3)

def restR_k1a (out3 : (List (Nat → Int))) (r : (List (Nat → Int))) : Prop :=
  r = (out3)

def restR_S (l0 : (List (Nat → Int))) (r : (List (Nat → Int))) : Prop :=
  ∃ x : (List (Nat → Int)), Wh (fun (s : (List (Nat → Int)) × Int) (o : ((List (Nat → Int)) × Int) ⊕ ((List (Nat → Int)))) => restR_l1 l0 s.1 s.2 o) (([], 0) : (List (Nat → Int)) × Int) x ∧ restR_k1a x r

end Go.E
