/- What functions of the program say, as relations. -/
import Derived.Test.YthikmldodgijdaaC05S
set_option maxHeartbeats 1000000
set_option linter.unusedVariables false
set_option linter.unusedSimpArgs false
set_option maxRecDepth 100000
namespace Go.E
open Go

def own5_l1 (l0 : (List (Nat → Int))) (want7 : (List (Nat → Int))) (i8 : Int) (fb13_1 : (List (Nat → Int))) (o : ((List (Nat → Int)) × Int × (List (Nat → Int))) ⊕ ((List (Nat → Int)) × (List (Nat → Int)))) : Prop :=
  if i8 < (l0.length : Int) then
    (0 ≤ i8 ∧ i8 < l0.length) ∧ (
    (send_P 300 fb13_1 (l0[i8.toNat]!)) ∧ (
    if (send_F 300 fb13_1 (l0[i8.toNat]!)).1 = 0 then
      (0 ≤ i8 ∧ i8 < l0.length) ∧ (
      ((want7.length + 1) * 224 ≤ 140737488355328) ∧ (
      (inI64 (i8 + 1)) ∧ (
      o = (.inl ((want7 ++ [(l0[i8.toNat]!)]), i8 + 1, (send_F 300 fb13_1 (l0[i8.toNat]!)).2)))))
    else
      (inI64 (i8 + 1)) ∧ (
      o = (.inl (want7, i8 + 1, (send_F 300 fb13_1 (l0[i8.toNat]!)).2)))))
  else
    o = (.inr (want7, fb13_1))

def own5_l2 (a9 : (List (Nat → Int))) (i10 : Int) (o : ((List (Nat → Int)) × Int) ⊕ (Unit)) : Prop :=
  if i10 < (a9.length : Int) then
    (0 ≤ i10 ∧ i10 < a9.length) ∧ (
    (inI64 (i10 + 1)) ∧ (
    o = (.inl (a9.set (i10.toNat) ((fun _ => 0)), i10 + 1))))
  else
    o = (.inr ())

def own5_k2a (want7 : (List (Nat → Int))) (fb13_1 : (List (Nat → Int))) (r : Bool) : Prop :=
  if (code_F 1) = 1 then
    (ntake_P 300 fb13_1) ∧ (
    (msgs_P ((ntake_F 300 fb13_1).1) want7) ∧ (
    if ((msgs_F ((ntake_F 300 fb13_1).1) want7)) = true then
      r = (decide ((nlen_F 300 ((ntake_F 300 fb13_1).2)) = 0))
    else
      r = (false)))
  else
    r = (false)

def own5_k1a (want7 : (List (Nat → Int))) (fb13_1 : (List (Nat → Int))) (r : Bool) : Prop :=
  (nall_P 300 fb13_1) ∧ (
  ∃ x : Unit, Wh (fun (s : (List (Nat → Int)) × Int) (o : ((List (Nat → Int)) × Int) ⊕ (Unit)) => own5_l2 s.1 s.2 o) (((nall_F 300 fb13_1), 0) : (List (Nat → Int)) × Int) x ∧ own5_k2a want7 fb13_1 r)

def own5_S (l0 : (List (Nat → Int))) (k1 : Int) (r : Bool) : Prop :=
  (alive05_P) ∧ (
  if (alive05_F) = true then
    if 200 < (l0.length : Int) then
      r = (true)
    else
      ∃ x : (List (Nat → Int)) × (List (Nat → Int)), Wh (fun (s : (List (Nat → Int)) × Int × (List (Nat → Int))) (o : ((List (Nat → Int)) × Int × (List (Nat → Int))) ⊕ ((List (Nat → Int)) × (List (Nat → Int)))) => own5_l1 l0 s.1 s.2.1 s.2.2 o) (([], 0, []) : (List (Nat → Int)) × Int × (List (Nat → Int))) x ∧ own5_k1a x.1 x.2 r
  else
    r = (false))

end Go.E
