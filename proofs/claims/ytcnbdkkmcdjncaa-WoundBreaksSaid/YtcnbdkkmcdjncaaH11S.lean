/- What functions of the program say, as relations. -/
import Derived.Test.YtcnbdkkmcdjncaaP11g
set_option maxHeartbeats 1000000
set_option linter.unusedVariables false
set_option linter.unusedSimpArgs false
set_option maxRecDepth 100000
namespace Go.E
open Go

def breaks11_l1 (l0 : (List (Nat → Int))) (plain5 : (List (Nat → Int))) (i6 : Int) (o : ((List (Nat → Int)) × Int) ⊕ (((List (Nat → Int))) ⊕ (Unit))) : Prop :=
  if i6 < ((wrest_F l0).length : Int) then
    (0 ≤ i6 ∧ i6 < (wrest_F l0).length) ∧ (
    (0 ≤ i6 ∧ i6 < (wrest_F l0).length) ∧ (
    if (wrest_F l0)[i6.toNat]! 0 < (wrest_F l0)[i6.toNat]! 2 then
      o = (.inr (.inr ()))
    else
      (0 ≤ i6 ∧ i6 < (wrest_F l0).length) ∧ (
      (0 ≤ i6 ∧ i6 < (wrest_F l0).length) ∧ (
      if (wrest_F l0)[i6.toNat]! 0 = (wrest_F l0)[i6.toNat]! 2 then
        (inI64 (i6 + 1)) ∧ (
        o = (.inl (plain5, i6 + 1)))
      else
        (0 ≤ i6 ∧ i6 < (wrest_F l0).length) ∧ (
        ((plain5.length + 1) * 32 ≤ 140737488355328) ∧ (
        (inI64 (i6 + 1)) ∧ (
        o = (.inl ((plain5 ++ [((wrest_F l0)[i6.toNat]!)]), i6 + 1)))))))))
  else
    o = (.inr (.inl plain5))

def breaks11_l4 (l0 : (List (Nat → Int))) (i10 : Int) (k13 : Int) (hurt12a : Bool) (x14 : Int) (o : (Bool × Int) ⊕ (Bool)) : Prop :=
  if x14 < ((wof_F l0).length : Int) then
    (((hurt12a) = false) → 0 ≤ x14 ∧ x14 < (wof_F l0).length) ∧ (((hurt12a) = false) → 0 ≤ k13 ∧ k13 < (gway_F l0 ((nodesR_F l0)[i10.toNat]!) ((nodesR_F l0)[i10.toNat]!)).length) ∧ (
    (inI64 (x14 + 1)) ∧ (
    o = (.inl ((hurt12a) || (decide ((wof_F l0)[x14.toNat]! 0 = (gway_F l0 ((nodesR_F l0)[i10.toNat]!) ((nodesR_F l0)[i10.toNat]!))[k13.toNat]!)), x14 + 1))))
  else
    o = (.inr hurt12a)

def breaks11_k4a (k13 : Int) (hurt12a : Bool) (o : (Bool × Int) ⊕ (Bool)) : Prop :=
  (inI64 (k13 + 1)) ∧ (
  o = (.inl (hurt12a, k13 + 1)))

def breaks11_l3 (l0 : (List (Nat → Int))) (i10 : Int) (hurt12 : Bool) (k13 : Int) (o : (Bool × Int) ⊕ (Bool)) : Prop :=
  if k13 < ((gway_F l0 ((nodesR_F l0)[i10.toNat]!) ((nodesR_F l0)[i10.toNat]!)).length : Int) then
    ∃ x : Bool, Wh (fun (s : Bool × Int) (o : (Bool × Int) ⊕ (Bool)) => breaks11_l4 l0 i10 k13 s.1 s.2 o) ((hurt12, 0) : Bool × Int) x ∧ breaks11_k4a k13 x o
  else
    o = (.inr hurt12)

def breaks11_k3a (i10 : Int) (hurt12 : Bool) (o : (Int) ⊕ ((Unit) ⊕ (Unit))) : Prop :=
  if (hurt12) = true then
    (inI64 (i10 + 1)) ∧ (
    o = (.inl (i10 + 1)))
  else
    o = (.inr (.inr ()))

def breaks11_l2 (l0 : (List (Nat → Int))) (i10 : Int) (o : (Int) ⊕ ((Unit) ⊕ (Unit))) : Prop :=
  if i10 < ((nodesR_F l0).length : Int) then
    (0 ≤ i10 ∧ i10 < (nodesR_F l0).length) ∧ (
    (0 ≤ i10 ∧ i10 < (nodesR_F l0).length) ∧ (
    (gway_P l0 ((nodesR_F l0)[i10.toNat]!) ((nodesR_F l0)[i10.toNat]!)) ∧ (
    if ((gway_F l0 ((nodesR_F l0)[i10.toNat]!) ((nodesR_F l0)[i10.toNat]!)).length : Int) < 3 then
      (inI64 (i10 + 1)) ∧ (
      o = (.inl (i10 + 1)))
    else
      ∃ x : Bool, Wh (fun (s : Bool × Int) (o : (Bool × Int) ⊕ (Bool)) => breaks11_l3 l0 i10 s.1 s.2 o) ((false, 0) : Bool × Int) x ∧ breaks11_k3a i10 x o)))
  else
    o = (.inr (.inl ()))

def breaks11_k2a (r : Bool) : Prop :=
  r = (true)

def breaks11_k2b (r : Bool) : Prop :=
  r = (false)

def breaks11_k1a (l0 : (List (Nat → Int))) (plain5 : (List (Nat → Int))) (r : Bool) : Prop :=
  (gorder_P plain5) ∧ (
  if (gorder_F plain5).2 = 0 then
    (nodesR_P l0) ∧ (
    ∃ x : (Unit) ⊕ (Unit), Wh (fun (s : Int) (o : (Int) ⊕ ((Unit) ⊕ (Unit))) => breaks11_l2 l0 s o) (0 : Int) x ∧ (match x with | .inl _ => breaks11_k2a r | .inr _ => breaks11_k2b r))
  else
    r = (false))

def breaks11_k1b (r : Bool) : Prop :=
  r = (false)

def breaks11_S (l0 : (List (Nat → Int))) (r : Bool) : Prop :=
  (alive11_P) ∧ (
  if (alive11_F) = true then
    if 60 < (l0.length : Int) then
      r = (true)
    else
      (wrest_P l0) ∧ (
      (wof_P l0) ∧ (
      ∃ x : ((List (Nat → Int))) ⊕ (Unit), Wh (fun (s : (List (Nat → Int)) × Int) (o : ((List (Nat → Int)) × Int) ⊕ (((List (Nat → Int))) ⊕ (Unit))) => breaks11_l1 l0 s.1 s.2 o) (([], 0) : (List (Nat → Int)) × Int) x ∧ (match x with | .inl plain5 => breaks11_k1a l0 plain5 r | .inr _ => breaks11_k1b r)))
  else
    r = (false))

end Go.E
