/- What functions of the program say, as relations. -/
import Derived.Test.YtcnbdkkmcdjncaaP11d
set_option maxHeartbeats 1000000
set_option linter.unusedVariables false
set_option linter.unusedSimpArgs false
set_option maxRecDepth 100000
namespace Go.E
open Go

def gnext_l1 (l0 : (List (Nat → Int))) (from1 : Int) (to5 : (List (Int × Bool))) (x11 : Int) (o : ((List (Int × Bool)) × Int) ⊕ ((List (Int × Bool)))) : Prop :=
  if x11 < (l0.length : Int) then
    (0 ≤ x11 ∧ x11 < l0.length) ∧ (
    if (l0[x11.toNat]!) 0 = from1 then
      (inI64 (x11 + 1)) ∧ (
      o = (.inl (mset ieq to5 ((l0[x11.toNat]!) 2) true, x11 + 1)))
    else
      (inI64 (x11 + 1)) ∧ (
      o = (.inl (to5, x11 + 1))))
  else
    o = (.inr to5)

def gnext_k1a (to5 : (List (Int × Bool))) (r : (List Int)) : Prop :=
  (skeysP to5) ∧ (
  r = ((skeys to5)))

def gnext_S (l0 : (List (Nat → Int))) (from1 : Int) (r : (List Int)) : Prop :=
  ∃ x : (List (Int × Bool)), Wh (fun (s : (List (Int × Bool)) × Int) (o : ((List (Int × Bool)) × Int) ⊕ ((List (Int × Bool)))) => gnext_l1 l0 from1 s.1 s.2 o) (([], 0) : (List (Int × Bool)) × Int) x ∧ gnext_k1a x r

def gnodes_l1 (l0 : (List (Nat → Int))) (all3 : (List (Int × Bool))) (x9 : Int) (o : ((List (Int × Bool)) × Int) ⊕ ((List (Int × Bool)))) : Prop :=
  if x9 < (l0.length : Int) then
    (0 ≤ x9 ∧ x9 < l0.length) ∧ (
    (inI64 (x9 + 1)) ∧ (
    o = (.inl (mset ieq (mset ieq all3 ((l0[x9.toNat]!) 0) true) ((l0[x9.toNat]!) 2) true, x9 + 1))))
  else
    o = (.inr all3)

def gnodes_k1a (all3 : (List (Int × Bool))) (r : (List Int)) : Prop :=
  (skeysP all3) ∧ (
  r = ((skeys all3)))

def gnodes_S (l0 : (List (Nat → Int))) (r : (List Int)) : Prop :=
  ∃ x : (List (Int × Bool)), Wh (fun (s : (List (Int × Bool)) × Int) (o : ((List (Int × Bool)) × Int) ⊕ ((List (Int × Bool)))) => gnodes_l1 l0 s.1 s.2 o) (([], 0) : (List (Int × Bool)) × Int) x ∧ gnodes_k1a x r

def hasI_l1 (s0 : (List Int)) (v1 : Int) (x8 : Int) (o : (Int) ⊕ ((Unit) ⊕ (Int))) : Prop :=
  if x8 < (s0.length : Int) then
    (0 ≤ x8 ∧ x8 < s0.length) ∧ (
    if v1 = s0[x8.toNat]! then
      o = (.inr (.inr x8))
    else
      (inI64 (x8 + 1)) ∧ (
      o = (.inl (x8 + 1))))
  else
    o = (.inr (.inl ()))

def hasI_k1a (r : Bool) : Prop :=
  r = (false)

def hasI_k1b (x4 : Int) (r : Bool) : Prop :=
  r = (decide (0 ≤ x4))

def hasI_S (s0 : (List Int)) (v1 : Int) (r : Bool) : Prop :=
  ∃ x : (Unit) ⊕ (Int), Wh (fun (s : Int) (o : (Int) ⊕ ((Unit) ⊕ (Int))) => hasI_l1 s0 v1 s o) (0 : Int) x ∧ (match x with | .inl _ => hasI_k1a r | .inr x4 => hasI_k1b x4 r)

end Go.E
