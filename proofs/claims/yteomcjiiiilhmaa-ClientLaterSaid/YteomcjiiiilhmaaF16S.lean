/- What functions of the program say, as relations. -/
import Derived.Test.YteomcjiiiilhmaaC16S
set_option maxHeartbeats 1000000
set_option linter.unusedVariables false
set_option linter.unusedSimpArgs false
set_option maxRecDepth 100000
namespace Go.E
open Go

def later16_l1 (acts0 : (List (Nat → Int))) (i13 : Int) (fb13 : (Nat → Int)) (o : (Int × (Nat → Int)) ⊕ ((Nat → Int))) : Prop :=
  if i13 < (acts0.length : Int) then
    (0 ≤ i13 ∧ i13 < acts0.length) ∧ (
    (act16_P fb13 (acts0[i13.toNat]!)) ∧ (
    (inI64 (i13 + 1)) ∧ (
    o = (.inl (i13 + 1, (act16_F fb13 (acts0[i13.toNat]!)).2)))))
  else
    o = (.inr fb13)

def later16_l3 (now1 : Int) (by2 : Int) (span3 : Int) (less4 : Int) (fb13 : (Nat → Int)) (i16 : Int) (there17 : Bool) (k18 : Int) (o : (Bool × Int) ⊕ (Bool)) : Prop :=
  if k18 < ((clost_F fb13 ((IntKind.i64.wrap now1) + (IntKind.i64.wrap by2)) (if 0 < ((IntKind.i64.wrap span3) - (IntKind.i64.wrap less4)) then ((IntKind.i64.wrap span3) - (IntKind.i64.wrap less4)) else 0)).length : Int) then
    (((there17) = false) → 0 ≤ i16 ∧ i16 < (clost_F fb13 (IntKind.i64.wrap now1) (IntKind.i64.wrap span3)).length) ∧ (((there17) = false) → 0 ≤ k18 ∧ k18 < (clost_F fb13 ((IntKind.i64.wrap now1) + (IntKind.i64.wrap by2)) (if 0 < ((IntKind.i64.wrap span3) - (IntKind.i64.wrap less4)) then ((IntKind.i64.wrap span3) - (IntKind.i64.wrap less4)) else 0)).length) ∧ (
    (inI64 (k18 + 1)) ∧ (
    o = (.inl ((there17) || (decide ((clost_F fb13 (IntKind.i64.wrap now1) (IntKind.i64.wrap span3))[i16.toNat]! = (clost_F fb13 ((IntKind.i64.wrap now1) + (IntKind.i64.wrap by2)) (if 0 < ((IntKind.i64.wrap span3) - (IntKind.i64.wrap less4)) then ((IntKind.i64.wrap span3) - (IntKind.i64.wrap less4)) else 0))[k18.toNat]!)), k18 + 1))))
  else
    o = (.inr there17)

def later16_k3a (now1 : Int) (span3 : Int) (fb13 : (Nat → Int)) (i16 : Int) (there17 : Bool) (o : (Int) ⊕ ((Unit) ⊕ (Unit))) : Prop :=
  (0 ≤ i16 ∧ i16 < (clost_F fb13 (IntKind.i64.wrap now1) (IntKind.i64.wrap span3)).length) ∧ (
  if (there17) = true then
    if (cof_F fb13 ((clost_F fb13 (IntKind.i64.wrap now1) (IntKind.i64.wrap span3))[i16.toNat]!)).2 = 0 then
      (calive_P fb13 ((cof_F fb13 ((clost_F fb13 (IntKind.i64.wrap now1) (IntKind.i64.wrap span3))[i16.toNat]!)).1)) ∧ (
      if ((calive_F fb13 ((cof_F fb13 ((clost_F fb13 (IntKind.i64.wrap now1) (IntKind.i64.wrap span3))[i16.toNat]!)).1))) = true then
        o = (.inr (.inr ()))
      else
        (inI64 (i16 + 1)) ∧ (
        o = (.inl (i16 + 1))))
    else
      o = (.inr (.inr ()))
  else
    o = (.inr (.inr ())))

def later16_l2 (now1 : Int) (by2 : Int) (span3 : Int) (less4 : Int) (fb13 : (Nat → Int)) (i16 : Int) (o : (Int) ⊕ ((Unit) ⊕ (Unit))) : Prop :=
  if i16 < ((clost_F fb13 (IntKind.i64.wrap now1) (IntKind.i64.wrap span3)).length : Int) then
    ∃ x : Bool, Wh (fun (s : Bool × Int) (o : (Bool × Int) ⊕ (Bool)) => later16_l3 now1 by2 span3 less4 fb13 i16 s.1 s.2 o) ((false, 0) : Bool × Int) x ∧ later16_k3a now1 span3 fb13 i16 x o
  else
    o = (.inr (.inl ()))

def later16_l4 (now1 : Int) (by2 : Int) (span3 : Int) (less4 : Int) (fb13 : (Nat → Int)) (i21 : Int) (fb13a : (Nat → Int)) (o : (Int × (Nat → Int)) ⊕ (((Nat → Int)) ⊕ ((Nat → Int)))) : Prop :=
  if i21 < ((clost_F fb13 ((IntKind.i64.wrap now1) + (IntKind.i64.wrap by2)) (if 0 < ((IntKind.i64.wrap span3) - (IntKind.i64.wrap less4)) then ((IntKind.i64.wrap span3) - (IntKind.i64.wrap less4)) else 0)).length : Int) then
    (0 ≤ i21 ∧ i21 < (clost_F fb13 ((IntKind.i64.wrap now1) + (IntKind.i64.wrap by2)) (if 0 < ((IntKind.i64.wrap span3) - (IntKind.i64.wrap less4)) then ((IntKind.i64.wrap span3) - (IntKind.i64.wrap less4)) else 0)).length) ∧ (
    (cend_P fb13a ((clost_F fb13 ((IntKind.i64.wrap now1) + (IntKind.i64.wrap by2)) (if 0 < ((IntKind.i64.wrap span3) - (IntKind.i64.wrap less4)) then ((IntKind.i64.wrap span3) - (IntKind.i64.wrap less4)) else 0))[i21.toNat]!)) ∧ (
    if (cend_F fb13a ((clost_F fb13 ((IntKind.i64.wrap now1) + (IntKind.i64.wrap by2)) (if 0 < ((IntKind.i64.wrap span3) - (IntKind.i64.wrap less4)) then ((IntKind.i64.wrap span3) - (IntKind.i64.wrap less4)) else 0))[i21.toNat]!)).1 = 0 then
      (inI64 (i21 + 1)) ∧ (
      o = (.inl (i21 + 1, (cend_F fb13a ((clost_F fb13 ((IntKind.i64.wrap now1) + (IntKind.i64.wrap by2)) (if 0 < ((IntKind.i64.wrap span3) - (IntKind.i64.wrap less4)) then ((IntKind.i64.wrap span3) - (IntKind.i64.wrap less4)) else 0))[i21.toNat]!)).2)))
    else
      o = (.inr (.inr ((cend_F fb13a ((clost_F fb13 ((IntKind.i64.wrap now1) + (IntKind.i64.wrap by2)) (if 0 < ((IntKind.i64.wrap span3) - (IntKind.i64.wrap less4)) then ((IntKind.i64.wrap span3) - (IntKind.i64.wrap less4)) else 0))[i21.toNat]!)).2)))))
  else
    o = (.inr (.inl fb13a))

def later16_k4a (now1 : Int) (by2 : Int) (span3 : Int) (less4 : Int) (fb13a : (Nat → Int)) (r : Bool) : Prop :=
  (inI64 ((IntKind.i64.wrap now1) + (IntKind.i64.wrap by2))) ∧ (
  (inI64 ((IntKind.i64.wrap span3) - (IntKind.i64.wrap less4))) ∧ (
  (clost_P fb13a ((IntKind.i64.wrap now1) + (IntKind.i64.wrap by2)) (if 0 < ((IntKind.i64.wrap span3) - (IntKind.i64.wrap less4)) then ((IntKind.i64.wrap span3) - (IntKind.i64.wrap less4)) else 0)) ∧ (
  r = (decide (((clost_F fb13a ((IntKind.i64.wrap now1) + (IntKind.i64.wrap by2)) (if 0 < ((IntKind.i64.wrap span3) - (IntKind.i64.wrap less4)) then ((IntKind.i64.wrap span3) - (IntKind.i64.wrap less4)) else 0)).length : Int) = 0)))))

def later16_k4b (fb13a : (Nat → Int)) (r : Bool) : Prop :=
  r = (false)

def later16_k2a (now1 : Int) (by2 : Int) (span3 : Int) (less4 : Int) (fb13 : (Nat → Int)) (r : Bool) : Prop :=
  ∃ x : ((Nat → Int)) ⊕ ((Nat → Int)), Wh (fun (s : Int × (Nat → Int)) (o : (Int × (Nat → Int)) ⊕ (((Nat → Int)) ⊕ ((Nat → Int)))) => later16_l4 now1 by2 span3 less4 fb13 s.1 s.2 o) ((0, fb13) : Int × (Nat → Int)) x ∧ (match x with | .inl fb13a => later16_k4a now1 by2 span3 less4 fb13a r | .inr fb13a => later16_k4b fb13a r)

def later16_k2b (r : Bool) : Prop :=
  r = (false)

def later16_k1a (now1 : Int) (by2 : Int) (span3 : Int) (less4 : Int) (fb13 : (Nat → Int)) (r : Bool) : Prop :=
  (clost_P fb13 (IntKind.i64.wrap now1) (IntKind.i64.wrap span3)) ∧ (
  (inI64 ((IntKind.i64.wrap now1) + (IntKind.i64.wrap by2))) ∧ (
  (inI64 ((IntKind.i64.wrap span3) - (IntKind.i64.wrap less4))) ∧ (
  (clost_P fb13 ((IntKind.i64.wrap now1) + (IntKind.i64.wrap by2)) (if 0 < ((IntKind.i64.wrap span3) - (IntKind.i64.wrap less4)) then ((IntKind.i64.wrap span3) - (IntKind.i64.wrap less4)) else 0)) ∧ (
  ∃ x : (Unit) ⊕ (Unit), Wh (fun (s : Int) (o : (Int) ⊕ ((Unit) ⊕ (Unit))) => later16_l2 now1 by2 span3 less4 fb13 s o) (0 : Int) x ∧ (match x with | .inl _ => later16_k2a now1 by2 span3 less4 fb13 r | .inr _ => later16_k2b r)))))

def later16_S (acts0 : (List (Nat → Int))) (now1 : Int) (by2 : Int) (span3 : Int) (less4 : Int) (r : Bool) : Prop :=
  (alive16_P) ∧ (
  if (alive16_F) = true then
    if 60 < (acts0.length : Int) then
      r = (true)
    else
      ∃ x : (Nat → Int), Wh (fun (s : Int × (Nat → Int)) (o : (Int × (Nat → Int)) ⊕ ((Nat → Int))) => later16_l1 acts0 s.1 s.2 o) ((0, (updI (fun _ => 0) 0 8)) : Int × (Nat → Int)) x ∧ later16_k1a now1 by2 span3 less4 x r
  else
    r = (false))

end Go.E
