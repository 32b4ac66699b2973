/- What functions of the program say, as relations. -/
import Derived.Test.YtmfbefghdaiicaaD17bS
import Derived.Test.YtmfbefghdaiicaaPOQ
set_option maxHeartbeats 1000000
set_option linter.unusedVariables false
set_option linter.unusedSimpArgs false
set_option maxRecDepth 100000
namespace Go.E
open Go

def sends17_l3 (living1 : Bool) (rn20 : (Int × Int × Int × Int × Bool × Int × (Nat → Int) × Int × (List Int) × (List Int) × (List Int) × (List (Nat → Int))) × (List (Nat → Int)) × Int) (k11 : Int) (there12 : Bool) (n13 : Int) (o : (Bool × Int) ⊕ (Bool)) : Prop :=
  if n13 < (rn20.1.2.2.2.2.2.2.2.2.1.length : Int) then
    (((there12) = false) → 0 ≤ n13 ∧ n13 < rn20.1.2.2.2.2.2.2.2.2.1.length) ∧ (((there12) = false) → 0 ≤ k11 ∧ k11 < (rn20.2.1 ++ (tagain_F rn20.1.1 rn20.1.2.1 rn20.1.2.2.1 rn20.1.2.2.2.1 rn20.1.2.2.2.2.1 rn20.1.2.2.2.2.2.1 rn20.1.2.2.2.2.2.2.1 rn20.1.2.2.2.2.2.2.2.1 rn20.1.2.2.2.2.2.2.2.2.1 rn20.1.2.2.2.2.2.2.2.2.2.1 rn20.1.2.2.2.2.2.2.2.2.2.2.1 rn20.1.2.2.2.2.2.2.2.2.2.2.2 living1)).length) ∧ (
    (inI64 (n13 + 1)) ∧ (
    o = (.inl ((there12) || (decide (rn20.1.2.2.2.2.2.2.2.2.1[n13.toNat]! = (rn20.2.1 ++ (tagain_F rn20.1.1 rn20.1.2.1 rn20.1.2.2.1 rn20.1.2.2.2.1 rn20.1.2.2.2.2.1 rn20.1.2.2.2.2.2.1 rn20.1.2.2.2.2.2.2.1 rn20.1.2.2.2.2.2.2.2.1 rn20.1.2.2.2.2.2.2.2.2.1 rn20.1.2.2.2.2.2.2.2.2.2.1 rn20.1.2.2.2.2.2.2.2.2.2.2.1 rn20.1.2.2.2.2.2.2.2.2.2.2.2 living1))[k11.toNat]! 2)), n13 + 1))))
  else
    o = (.inr there12)

def sends17_k3a (living1 : Bool) (rn20 : (Int × Int × Int × Int × Bool × Int × (Nat → Int) × Int × (List Int) × (List Int) × (List Int) × (List (Nat → Int))) × (List (Nat → Int)) × Int) (k11 : Int) (there12 : Bool) (o : (Int) ⊕ ((Unit) ⊕ (Unit))) : Prop :=
  (((!(there12)) = false) → 0 ≤ k11 ∧ k11 < (rn20.2.1 ++ (tagain_F rn20.1.1 rn20.1.2.1 rn20.1.2.2.1 rn20.1.2.2.2.1 rn20.1.2.2.2.2.1 rn20.1.2.2.2.2.2.1 rn20.1.2.2.2.2.2.2.1 rn20.1.2.2.2.2.2.2.2.1 rn20.1.2.2.2.2.2.2.2.2.1 rn20.1.2.2.2.2.2.2.2.2.2.1 rn20.1.2.2.2.2.2.2.2.2.2.2.1 rn20.1.2.2.2.2.2.2.2.2.2.2.2 living1)).length) ∧ ((((!(there12)) || (!(decide ((rn20.2.1 ++ (tagain_F rn20.1.1 rn20.1.2.1 rn20.1.2.2.1 rn20.1.2.2.2.1 rn20.1.2.2.2.2.1 rn20.1.2.2.2.2.2.1 rn20.1.2.2.2.2.2.2.1 rn20.1.2.2.2.2.2.2.2.1 rn20.1.2.2.2.2.2.2.2.2.1 rn20.1.2.2.2.2.2.2.2.2.2.1 rn20.1.2.2.2.2.2.2.2.2.2.2.1 rn20.1.2.2.2.2.2.2.2.2.2.2.2 living1))[k11.toNat]! 3 = 5)))) = false) → 0 ≤ k11 ∧ k11 < (rn20.2.1 ++ (tagain_F rn20.1.1 rn20.1.2.1 rn20.1.2.2.1 rn20.1.2.2.2.1 rn20.1.2.2.2.2.1 rn20.1.2.2.2.2.2.1 rn20.1.2.2.2.2.2.2.1 rn20.1.2.2.2.2.2.2.2.1 rn20.1.2.2.2.2.2.2.2.2.1 rn20.1.2.2.2.2.2.2.2.2.2.1 rn20.1.2.2.2.2.2.2.2.2.2.2.1 rn20.1.2.2.2.2.2.2.2.2.2.2.2 living1)).length) ∧ ((((!(there12)) || (!(decide ((rn20.2.1 ++ (tagain_F rn20.1.1 rn20.1.2.1 rn20.1.2.2.1 rn20.1.2.2.2.1 rn20.1.2.2.2.2.1 rn20.1.2.2.2.2.2.1 rn20.1.2.2.2.2.2.2.1 rn20.1.2.2.2.2.2.2.2.1 rn20.1.2.2.2.2.2.2.2.2.1 rn20.1.2.2.2.2.2.2.2.2.2.1 rn20.1.2.2.2.2.2.2.2.2.2.2.1 rn20.1.2.2.2.2.2.2.2.2.2.2.2 living1))[k11.toNat]! 3 = 5)))) = false) → okV_P ((rn20.2.1 ++ (tagain_F rn20.1.1 rn20.1.2.1 rn20.1.2.2.1 rn20.1.2.2.2.1 rn20.1.2.2.2.2.1 rn20.1.2.2.2.2.2.1 rn20.1.2.2.2.2.2.2.1 rn20.1.2.2.2.2.2.2.2.1 rn20.1.2.2.2.2.2.2.2.2.1 rn20.1.2.2.2.2.2.2.2.2.2.1 rn20.1.2.2.2.2.2.2.2.2.2.2.1 rn20.1.2.2.2.2.2.2.2.2.2.2.2 living1))[k11.toNat]!)) ∧ (
  if (((!(there12)) || (!(decide ((rn20.2.1 ++ (tagain_F rn20.1.1 rn20.1.2.1 rn20.1.2.2.1 rn20.1.2.2.2.1 rn20.1.2.2.2.2.1 rn20.1.2.2.2.2.2.1 rn20.1.2.2.2.2.2.2.1 rn20.1.2.2.2.2.2.2.2.1 rn20.1.2.2.2.2.2.2.2.2.1 rn20.1.2.2.2.2.2.2.2.2.2.1 rn20.1.2.2.2.2.2.2.2.2.2.2.1 rn20.1.2.2.2.2.2.2.2.2.2.2.2 living1))[k11.toNat]! 3 = 5)))) || (!((okV_F ((rn20.2.1 ++ (tagain_F rn20.1.1 rn20.1.2.1 rn20.1.2.2.1 rn20.1.2.2.2.1 rn20.1.2.2.2.2.1 rn20.1.2.2.2.2.2.1 rn20.1.2.2.2.2.2.2.1 rn20.1.2.2.2.2.2.2.2.1 rn20.1.2.2.2.2.2.2.2.2.1 rn20.1.2.2.2.2.2.2.2.2.2.1 rn20.1.2.2.2.2.2.2.2.2.2.2.1 rn20.1.2.2.2.2.2.2.2.2.2.2.2 living1))[k11.toNat]!))))) = true then
    o = (.inr (.inr ()))
  else
    (inI64 (k11 + 1)) ∧ (
    o = (.inl (k11 + 1))))

def sends17_l2 (living1 : Bool) (rn20 : (Int × Int × Int × Int × Bool × Int × (Nat → Int) × Int × (List Int) × (List Int) × (List Int) × (List (Nat → Int))) × (List (Nat → Int)) × Int) (k11 : Int) (o : (Int) ⊕ ((Unit) ⊕ (Unit))) : Prop :=
  if k11 < ((rn20.2.1 ++ (tagain_F rn20.1.1 rn20.1.2.1 rn20.1.2.2.1 rn20.1.2.2.2.1 rn20.1.2.2.2.2.1 rn20.1.2.2.2.2.2.1 rn20.1.2.2.2.2.2.2.1 rn20.1.2.2.2.2.2.2.2.1 rn20.1.2.2.2.2.2.2.2.2.1 rn20.1.2.2.2.2.2.2.2.2.2.1 rn20.1.2.2.2.2.2.2.2.2.2.2.1 rn20.1.2.2.2.2.2.2.2.2.2.2.2 living1)).length : Int) then
    ∃ x : Bool, Wh (fun (s : Bool × Int) (o : (Bool × Int) ⊕ (Bool)) => sends17_l3 living1 rn20 k11 s.1 s.2 o) ((false, 0) : Bool × Int) x ∧ sends17_k3a living1 rn20 k11 x o
  else
    o = (.inr (.inl ()))

def sends17_k2a (living1 : Bool) (i7 : Int) (rn20 : (Int × Int × Int × Int × Bool × Int × (Nat → Int) × Int × (List Int) × (List Int) × (List Int) × (List (Nat → Int))) × (List (Nat → Int)) × Int) (o : (Int × Int × Int × Int × Int × Bool × Int × (Nat → Int) × Int × (List Int) × (List Int) × (List Int) × (List (Nat → Int))) ⊕ ((Int × Int × Int × Int × Bool × Int × (Nat → Int) × Int × (List Int) × (List Int) × (List Int) × (List (Nat → Int))) ⊕ (Int × Int × Int × Int × Bool × Int × (Nat → Int) × Int × (List Int) × (List Int) × (List Int) × (List (Nat → Int))))) : Prop :=
  (tover_P rn20.1.1 rn20.1.2.1 rn20.1.2.2.1 rn20.1.2.2.2.1 rn20.1.2.2.2.2.1 rn20.1.2.2.2.2.2.1 rn20.1.2.2.2.2.2.2.1 rn20.1.2.2.2.2.2.2.2.1 rn20.1.2.2.2.2.2.2.2.2.1 rn20.1.2.2.2.2.2.2.2.2.2.1 rn20.1.2.2.2.2.2.2.2.2.2.2.1 rn20.1.2.2.2.2.2.2.2.2.2.2.2) ∧ (
  if ((tover_F rn20.1.1 rn20.1.2.1 rn20.1.2.2.1 rn20.1.2.2.2.1 rn20.1.2.2.2.2.1 rn20.1.2.2.2.2.2.1 rn20.1.2.2.2.2.2.2.1 rn20.1.2.2.2.2.2.2.2.1 rn20.1.2.2.2.2.2.2.2.2.1 rn20.1.2.2.2.2.2.2.2.2.2.1 rn20.1.2.2.2.2.2.2.2.2.2.2.1 rn20.1.2.2.2.2.2.2.2.2.2.2.2)) = true then
    (tagain_P rn20.1.1 rn20.1.2.1 rn20.1.2.2.1 rn20.1.2.2.2.1 rn20.1.2.2.2.2.1 rn20.1.2.2.2.2.2.1 rn20.1.2.2.2.2.2.2.1 rn20.1.2.2.2.2.2.2.2.1 rn20.1.2.2.2.2.2.2.2.2.1 rn20.1.2.2.2.2.2.2.2.2.2.1 rn20.1.2.2.2.2.2.2.2.2.2.2.1 rn20.1.2.2.2.2.2.2.2.2.2.2.2 living1) ∧ (
    if ((tagain_F rn20.1.1 rn20.1.2.1 rn20.1.2.2.1 rn20.1.2.2.2.1 rn20.1.2.2.2.2.1 rn20.1.2.2.2.2.2.1 rn20.1.2.2.2.2.2.2.1 rn20.1.2.2.2.2.2.2.2.1 rn20.1.2.2.2.2.2.2.2.2.1 rn20.1.2.2.2.2.2.2.2.2.2.1 rn20.1.2.2.2.2.2.2.2.2.2.2.1 rn20.1.2.2.2.2.2.2.2.2.2.2.2 living1).length : Int) = 0 then
      (inI64 (i7 + 1)) ∧ (
      o = (.inl (i7 + 1, rn20.1.1, rn20.1.2.1, rn20.1.2.2.1, rn20.1.2.2.2.1, rn20.1.2.2.2.2.1, rn20.1.2.2.2.2.2.1, rn20.1.2.2.2.2.2.2.1, rn20.1.2.2.2.2.2.2.2.1, rn20.1.2.2.2.2.2.2.2.2.1, rn20.1.2.2.2.2.2.2.2.2.2.1, rn20.1.2.2.2.2.2.2.2.2.2.2.1, rn20.1.2.2.2.2.2.2.2.2.2.2.2)))
    else
      o = (.inr (.inr (rn20.1.1, rn20.1.2.1, rn20.1.2.2.1, rn20.1.2.2.2.1, rn20.1.2.2.2.2.1, rn20.1.2.2.2.2.2.1, rn20.1.2.2.2.2.2.2.1, rn20.1.2.2.2.2.2.2.2.1, rn20.1.2.2.2.2.2.2.2.2.1, rn20.1.2.2.2.2.2.2.2.2.2.1, rn20.1.2.2.2.2.2.2.2.2.2.2.1, rn20.1.2.2.2.2.2.2.2.2.2.2.2))))
  else
    (inI64 (i7 + 1)) ∧ (
    o = (.inl (i7 + 1, rn20.1.1, rn20.1.2.1, rn20.1.2.2.1, rn20.1.2.2.2.1, rn20.1.2.2.2.2.1, rn20.1.2.2.2.2.2.1, rn20.1.2.2.2.2.2.2.1, rn20.1.2.2.2.2.2.2.2.1, rn20.1.2.2.2.2.2.2.2.2.1, rn20.1.2.2.2.2.2.2.2.2.2.1, rn20.1.2.2.2.2.2.2.2.2.2.2.1, rn20.1.2.2.2.2.2.2.2.2.2.2.2))))

def sends17_k2b (rn20 : (Int × Int × Int × Int × Bool × Int × (Nat → Int) × Int × (List Int) × (List Int) × (List Int) × (List (Nat → Int))) × (List (Nat → Int)) × Int) (o : (Int × Int × Int × Int × Int × Bool × Int × (Nat → Int) × Int × (List Int) × (List Int) × (List Int) × (List (Nat → Int))) ⊕ ((Int × Int × Int × Int × Bool × Int × (Nat → Int) × Int × (List Int) × (List Int) × (List Int) × (List (Nat → Int))) ⊕ (Int × Int × Int × Int × Bool × Int × (Nat → Int) × Int × (List Int) × (List Int) × (List Int) × (List (Nat → Int))))) : Prop :=
  o = (.inr (.inr (rn20.1.1, rn20.1.2.1, rn20.1.2.2.1, rn20.1.2.2.2.1, rn20.1.2.2.2.2.1, rn20.1.2.2.2.2.2.1, rn20.1.2.2.2.2.2.2.1, rn20.1.2.2.2.2.2.2.2.1, rn20.1.2.2.2.2.2.2.2.2.1, rn20.1.2.2.2.2.2.2.2.2.2.1, rn20.1.2.2.2.2.2.2.2.2.2.2.1, rn20.1.2.2.2.2.2.2.2.2.2.2.2)))

def sends17_l5 (living1 : Bool) (fb5 : Int) (fb5_1 : Int) (fb5_2 : Int) (fb5_3 : Int) (fb5_4 : Bool) (fb5_5 : Int) (fb5_6 : (Nat → Int)) (fb5_8 : Int) (fb5_9 : (List Int)) (fb5_10 : (List Int)) (fb5_11 : (List Int)) (fb5_12 : (List (Nat → Int))) (k11 : Int) (there12 : Bool) (n13 : Int) (o : (Bool × Int) ⊕ (Bool)) : Prop :=
  if n13 < (fb5_9.length : Int) then
    (((there12) = false) → 0 ≤ n13 ∧ n13 < fb5_9.length) ∧ (((there12) = false) → 0 ≤ k11 ∧ k11 < ([] ++ (tagain_F fb5 fb5_1 fb5_2 fb5_3 fb5_4 fb5_5 fb5_6 fb5_8 fb5_9 fb5_10 fb5_11 fb5_12 living1)).length) ∧ (
    (inI64 (n13 + 1)) ∧ (
    o = (.inl ((there12) || (decide (fb5_9[n13.toNat]! = ([] ++ (tagain_F fb5 fb5_1 fb5_2 fb5_3 fb5_4 fb5_5 fb5_6 fb5_8 fb5_9 fb5_10 fb5_11 fb5_12 living1))[k11.toNat]! 2)), n13 + 1))))
  else
    o = (.inr there12)

def sends17_k5a (living1 : Bool) (fb5 : Int) (fb5_1 : Int) (fb5_2 : Int) (fb5_3 : Int) (fb5_4 : Bool) (fb5_5 : Int) (fb5_6 : (Nat → Int)) (fb5_8 : Int) (fb5_9 : (List Int)) (fb5_10 : (List Int)) (fb5_11 : (List Int)) (fb5_12 : (List (Nat → Int))) (k11 : Int) (there12 : Bool) (o : (Int) ⊕ ((Unit) ⊕ (Unit))) : Prop :=
  (((!(there12)) = false) → 0 ≤ k11 ∧ k11 < ([] ++ (tagain_F fb5 fb5_1 fb5_2 fb5_3 fb5_4 fb5_5 fb5_6 fb5_8 fb5_9 fb5_10 fb5_11 fb5_12 living1)).length) ∧ ((((!(there12)) || (!(decide (([] ++ (tagain_F fb5 fb5_1 fb5_2 fb5_3 fb5_4 fb5_5 fb5_6 fb5_8 fb5_9 fb5_10 fb5_11 fb5_12 living1))[k11.toNat]! 3 = 5)))) = false) → 0 ≤ k11 ∧ k11 < ([] ++ (tagain_F fb5 fb5_1 fb5_2 fb5_3 fb5_4 fb5_5 fb5_6 fb5_8 fb5_9 fb5_10 fb5_11 fb5_12 living1)).length) ∧ ((((!(there12)) || (!(decide (([] ++ (tagain_F fb5 fb5_1 fb5_2 fb5_3 fb5_4 fb5_5 fb5_6 fb5_8 fb5_9 fb5_10 fb5_11 fb5_12 living1))[k11.toNat]! 3 = 5)))) = false) → okV_P (([] ++ (tagain_F fb5 fb5_1 fb5_2 fb5_3 fb5_4 fb5_5 fb5_6 fb5_8 fb5_9 fb5_10 fb5_11 fb5_12 living1))[k11.toNat]!)) ∧ (
  if (((!(there12)) || (!(decide (([] ++ (tagain_F fb5 fb5_1 fb5_2 fb5_3 fb5_4 fb5_5 fb5_6 fb5_8 fb5_9 fb5_10 fb5_11 fb5_12 living1))[k11.toNat]! 3 = 5)))) || (!((okV_F (([] ++ (tagain_F fb5 fb5_1 fb5_2 fb5_3 fb5_4 fb5_5 fb5_6 fb5_8 fb5_9 fb5_10 fb5_11 fb5_12 living1))[k11.toNat]!))))) = true then
    o = (.inr (.inr ()))
  else
    (inI64 (k11 + 1)) ∧ (
    o = (.inl (k11 + 1))))

def sends17_l4 (living1 : Bool) (fb5 : Int) (fb5_1 : Int) (fb5_2 : Int) (fb5_3 : Int) (fb5_4 : Bool) (fb5_5 : Int) (fb5_6 : (Nat → Int)) (fb5_8 : Int) (fb5_9 : (List Int)) (fb5_10 : (List Int)) (fb5_11 : (List Int)) (fb5_12 : (List (Nat → Int))) (k11 : Int) (o : (Int) ⊕ ((Unit) ⊕ (Unit))) : Prop :=
  if k11 < (([] ++ (tagain_F fb5 fb5_1 fb5_2 fb5_3 fb5_4 fb5_5 fb5_6 fb5_8 fb5_9 fb5_10 fb5_11 fb5_12 living1)).length : Int) then
    ∃ x : Bool, Wh (fun (s : Bool × Int) (o : (Bool × Int) ⊕ (Bool)) => sends17_l5 living1 fb5 fb5_1 fb5_2 fb5_3 fb5_4 fb5_5 fb5_6 fb5_8 fb5_9 fb5_10 fb5_11 fb5_12 k11 s.1 s.2 o) ((false, 0) : Bool × Int) x ∧ sends17_k5a living1 fb5 fb5_1 fb5_2 fb5_3 fb5_4 fb5_5 fb5_6 fb5_8 fb5_9 fb5_10 fb5_11 fb5_12 k11 x o
  else
    o = (.inr (.inl ()))

def sends17_k4a (living1 : Bool) (i7 : Int) (fb5 : Int) (fb5_1 : Int) (fb5_2 : Int) (fb5_3 : Int) (fb5_4 : Bool) (fb5_5 : Int) (fb5_6 : (Nat → Int)) (fb5_8 : Int) (fb5_9 : (List Int)) (fb5_10 : (List Int)) (fb5_11 : (List Int)) (fb5_12 : (List (Nat → Int))) (o : (Int × Int × Int × Int × Int × Bool × Int × (Nat → Int) × Int × (List Int) × (List Int) × (List Int) × (List (Nat → Int))) ⊕ ((Int × Int × Int × Int × Bool × Int × (Nat → Int) × Int × (List Int) × (List Int) × (List Int) × (List (Nat → Int))) ⊕ (Int × Int × Int × Int × Bool × Int × (Nat → Int) × Int × (List Int) × (List Int) × (List Int) × (List (Nat → Int))))) : Prop :=
  (tover_P fb5 fb5_1 fb5_2 fb5_3 fb5_4 fb5_5 fb5_6 fb5_8 fb5_9 fb5_10 fb5_11 fb5_12) ∧ (
  if ((tover_F fb5 fb5_1 fb5_2 fb5_3 fb5_4 fb5_5 fb5_6 fb5_8 fb5_9 fb5_10 fb5_11 fb5_12)) = true then
    (tagain_P fb5 fb5_1 fb5_2 fb5_3 fb5_4 fb5_5 fb5_6 fb5_8 fb5_9 fb5_10 fb5_11 fb5_12 living1) ∧ (
    if ((tagain_F fb5 fb5_1 fb5_2 fb5_3 fb5_4 fb5_5 fb5_6 fb5_8 fb5_9 fb5_10 fb5_11 fb5_12 living1).length : Int) = 0 then
      (inI64 (i7 + 1)) ∧ (
      o = (.inl (i7 + 1, fb5, fb5_1, fb5_2, fb5_3, fb5_4, fb5_5, fb5_6, fb5_8, fb5_9, fb5_10, fb5_11, fb5_12)))
    else
      o = (.inr (.inr (fb5, fb5_1, fb5_2, fb5_3, fb5_4, fb5_5, fb5_6, fb5_8, fb5_9, fb5_10, fb5_11, fb5_12))))
  else
    (inI64 (i7 + 1)) ∧ (
    o = (.inl (i7 + 1, fb5, fb5_1, fb5_2, fb5_3, fb5_4, fb5_5, fb5_6, fb5_8, fb5_9, fb5_10, fb5_11, fb5_12))))

def sends17_k4b (fb5 : Int) (fb5_1 : Int) (fb5_2 : Int) (fb5_3 : Int) (fb5_4 : Bool) (fb5_5 : Int) (fb5_6 : (Nat → Int)) (fb5_8 : Int) (fb5_9 : (List Int)) (fb5_10 : (List Int)) (fb5_11 : (List Int)) (fb5_12 : (List (Nat → Int))) (o : (Int × Int × Int × Int × Int × Bool × Int × (Nat → Int) × Int × (List Int) × (List Int) × (List Int) × (List (Nat → Int))) ⊕ ((Int × Int × Int × Int × Bool × Int × (Nat → Int) × Int × (List Int) × (List Int) × (List Int) × (List (Nat → Int))) ⊕ (Int × Int × Int × Int × Bool × Int × (Nat → Int) × Int × (List Int) × (List Int) × (List Int) × (List (Nat → Int))))) : Prop :=
  o = (.inr (.inr (fb5, fb5_1, fb5_2, fb5_3, fb5_4, fb5_5, fb5_6, fb5_8, fb5_9, fb5_10, fb5_11, fb5_12)))

def sends17_l1 (acts0 : (List (Nat → Int))) (living1 : Bool) (i7 : Int) (fb5 : Int) (fb5_1 : Int) (fb5_2 : Int) (fb5_3 : Int) (fb5_4 : Bool) (fb5_5 : Int) (fb5_6 : (Nat → Int)) (fb5_8 : Int) (fb5_9 : (List Int)) (fb5_10 : (List Int)) (fb5_11 : (List Int)) (fb5_12 : (List (Nat → Int))) (o : (Int × Int × Int × Int × Int × Bool × Int × (Nat → Int) × Int × (List Int) × (List Int) × (List Int) × (List (Nat → Int))) ⊕ ((Int × Int × Int × Int × Bool × Int × (Nat → Int) × Int × (List Int) × (List Int) × (List Int) × (List (Nat → Int))) ⊕ (Int × Int × Int × Int × Bool × Int × (Nat → Int) × Int × (List Int) × (List Int) × (List Int) × (List (Nat → Int))))) : Prop :=
  if i7 < (acts0.length : Int) then
    if 0 ≤ (acts0[i7.toNat]!) 0 ∧ (acts0[i7.toNat]!) 0 ≤ 5 then
      ∃ rn20 : (Int × Int × Int × Int × Bool × Int × (Nat → Int) × Int × (List Int) × (List Int) × (List Int) × (List (Nat → Int))) × (List (Nat → Int)) × Int, rn20 = (act17_F fb5 fb5_1 fb5_2 fb5_3 fb5_4 fb5_5 fb5_6 fb5_8 fb5_9 fb5_10 fb5_11 fb5_12 (acts0[i7.toNat]!)) ∧ (
      (
        (0 ≤ i7 ∧ i7 < acts0.length) ∧ (
        (act17_P fb5 fb5_1 fb5_2 fb5_3 fb5_4 fb5_5 fb5_6 fb5_8 fb5_9 fb5_10 fb5_11 fb5_12 (acts0[i7.toNat]!)) ∧ (
        True))) ∧ (
      (tagain_P rn20.1.1 rn20.1.2.1 rn20.1.2.2.1 rn20.1.2.2.2.1 rn20.1.2.2.2.2.1 rn20.1.2.2.2.2.2.1 rn20.1.2.2.2.2.2.2.1 rn20.1.2.2.2.2.2.2.2.1 rn20.1.2.2.2.2.2.2.2.2.1 rn20.1.2.2.2.2.2.2.2.2.2.1 rn20.1.2.2.2.2.2.2.2.2.2.2.1 rn20.1.2.2.2.2.2.2.2.2.2.2.2 living1) ∧ (
      ((rn20.2.1.length + (tagain_F rn20.1.1 rn20.1.2.1 rn20.1.2.2.1 rn20.1.2.2.2.1 rn20.1.2.2.2.2.1 rn20.1.2.2.2.2.2.1 rn20.1.2.2.2.2.2.2.1 rn20.1.2.2.2.2.2.2.2.1 rn20.1.2.2.2.2.2.2.2.2.1 rn20.1.2.2.2.2.2.2.2.2.2.1 rn20.1.2.2.2.2.2.2.2.2.2.2.1 rn20.1.2.2.2.2.2.2.2.2.2.2.2 living1).length) * 224 ≤ 140737488355328) ∧ (
      ∃ x : (Unit) ⊕ (Unit), Wh (fun (s : Int) (o : (Int) ⊕ ((Unit) ⊕ (Unit))) => sends17_l2 living1 rn20 s o) (0 : Int) x ∧ (match x with | .inl _ => sends17_k2a living1 i7 rn20 o | .inr _ => sends17_k2b rn20 o)))))
    else
      (
        (0 ≤ i7 ∧ i7 < acts0.length) ∧ (
        (¬ ((acts0[i7.toNat]!) 0 = 0)) ∧ (
        (¬ ((acts0[i7.toNat]!) 0 = 1)) ∧ (
        (¬ ((acts0[i7.toNat]!) 0 = 2)) ∧ (
        (¬ ((acts0[i7.toNat]!) 0 = 3)) ∧ (
        (¬ ((acts0[i7.toNat]!) 0 = 4)) ∧ (
        (¬ ((acts0[i7.toNat]!) 0 = 5)) ∧ (
        True)))))))) ∧ (
      (tagain_P fb5 fb5_1 fb5_2 fb5_3 fb5_4 fb5_5 fb5_6 fb5_8 fb5_9 fb5_10 fb5_11 fb5_12 living1) ∧ (
      ((0 + (tagain_F fb5 fb5_1 fb5_2 fb5_3 fb5_4 fb5_5 fb5_6 fb5_8 fb5_9 fb5_10 fb5_11 fb5_12 living1).length) * 224 ≤ 140737488355328) ∧ (
      ∃ x : (Unit) ⊕ (Unit), Wh (fun (s : Int) (o : (Int) ⊕ ((Unit) ⊕ (Unit))) => sends17_l4 living1 fb5 fb5_1 fb5_2 fb5_3 fb5_4 fb5_5 fb5_6 fb5_8 fb5_9 fb5_10 fb5_11 fb5_12 s o) (0 : Int) x ∧ (match x with | .inl _ => sends17_k4a living1 i7 fb5 fb5_1 fb5_2 fb5_3 fb5_4 fb5_5 fb5_6 fb5_8 fb5_9 fb5_10 fb5_11 fb5_12 o | .inr _ => sends17_k4b fb5 fb5_1 fb5_2 fb5_3 fb5_4 fb5_5 fb5_6 fb5_8 fb5_9 fb5_10 fb5_11 fb5_12 o))))
  else
    o = (.inr (.inl (fb5, fb5_1, fb5_2, fb5_3, fb5_4, fb5_5, fb5_6, fb5_8, fb5_9, fb5_10, fb5_11, fb5_12)))

def sends17_k1a (fb5 : Int) (fb5_1 : Int) (fb5_2 : Int) (fb5_3 : Int) (fb5_4 : Bool) (fb5_5 : Int) (fb5_6 : (Nat → Int)) (fb5_8 : Int) (fb5_9 : (List Int)) (fb5_10 : (List Int)) (fb5_11 : (List Int)) (fb5_12 : (List (Nat → Int))) (r : Bool) : Prop :=
  r = (true)

def sends17_k1b (fb5 : Int) (fb5_1 : Int) (fb5_2 : Int) (fb5_3 : Int) (fb5_4 : Bool) (fb5_5 : Int) (fb5_6 : (Nat → Int)) (fb5_8 : Int) (fb5_9 : (List Int)) (fb5_10 : (List Int)) (fb5_11 : (List Int)) (fb5_12 : (List (Nat → Int))) (r : Bool) : Prop :=
  r = (false)

def sends17_S (acts0 : (List (Nat → Int))) (living1 : Bool) (r : Bool) : Prop :=
  if (alive17_F) = true then
    if 100 < (acts0.length : Int) then
      r = (true)
    else
      if (tnew_F 5).2 = 0 then
        ∃ x : (Int × Int × Int × Int × Bool × Int × (Nat → Int) × Int × (List Int) × (List Int) × (List Int) × (List (Nat → Int))) ⊕ (Int × Int × Int × Int × Bool × Int × (Nat → Int) × Int × (List Int) × (List Int) × (List Int) × (List (Nat → Int))), Wh (fun (s : Int × Int × Int × Int × Int × Bool × Int × (Nat → Int) × Int × (List Int) × (List Int) × (List Int) × (List (Nat → Int))) (o : (Int × Int × Int × Int × Int × Bool × Int × (Nat → Int) × Int × (List Int) × (List Int) × (List Int) × (List (Nat → Int))) ⊕ ((Int × Int × Int × Int × Bool × Int × (Nat → Int) × Int × (List Int) × (List Int) × (List Int) × (List (Nat → Int))) ⊕ (Int × Int × Int × Int × Bool × Int × (Nat → Int) × Int × (List Int) × (List Int) × (List Int) × (List (Nat → Int))))) => sends17_l1 acts0 living1 s.1 s.2.1 s.2.2.1 s.2.2.2.1 s.2.2.2.2.1 s.2.2.2.2.2.1 s.2.2.2.2.2.2.1 s.2.2.2.2.2.2.2.1 s.2.2.2.2.2.2.2.2.1 s.2.2.2.2.2.2.2.2.2.1 s.2.2.2.2.2.2.2.2.2.2.1 s.2.2.2.2.2.2.2.2.2.2.2.1 s.2.2.2.2.2.2.2.2.2.2.2.2 o) ((0, ((tnew_F 5).1).1, ((tnew_F 5).1).2.1, ((tnew_F 5).1).2.2.1, ((tnew_F 5).1).2.2.2.1, ((tnew_F 5).1).2.2.2.2.1, ((tnew_F 5).1).2.2.2.2.2.1, ((tnew_F 5).1).2.2.2.2.2.2.1, ((tnew_F 5).1).2.2.2.2.2.2.2.1, ((tnew_F 5).1).2.2.2.2.2.2.2.2.1, ((tnew_F 5).1).2.2.2.2.2.2.2.2.2.1, ((tnew_F 5).1).2.2.2.2.2.2.2.2.2.2.1, ((tnew_F 5).1).2.2.2.2.2.2.2.2.2.2.2) : Int × Int × Int × Int × Int × Bool × Int × (Nat → Int) × Int × (List Int) × (List Int) × (List Int) × (List (Nat → Int))) x ∧ (match x with | .inl (fb5, fb5_1, fb5_2, fb5_3, fb5_4, fb5_5, fb5_6, fb5_8, fb5_9, fb5_10, fb5_11, fb5_12) => sends17_k1a fb5 fb5_1 fb5_2 fb5_3 fb5_4 fb5_5 fb5_6 fb5_8 fb5_9 fb5_10 fb5_11 fb5_12 r | .inr (fb5, fb5_1, fb5_2, fb5_3, fb5_4, fb5_5, fb5_6, fb5_8, fb5_9, fb5_10, fb5_11, fb5_12) => sends17_k1b fb5 fb5_1 fb5_2 fb5_3 fb5_4 fb5_5 fb5_6 fb5_8 fb5_9 fb5_10 fb5_11 fb5_12 r)
      else
        r = (false)
  else
    r = (false)

end Go.E
