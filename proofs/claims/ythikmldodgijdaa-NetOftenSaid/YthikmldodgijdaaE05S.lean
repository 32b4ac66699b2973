/- What functions of the program say, as relations. -/
import Derived.Test.YthikmldodgijdaaD05S
set_option maxHeartbeats 1000000
set_option linter.unusedVariables false
set_option linter.unusedSimpArgs false
set_option maxRecDepth 100000
namespace Go.E
open Go

def acts5_l1 (limit0 : Int) (l1 : (List (Nat → Int))) (i8 : Int) (fb13_1 : (List (Nat → Int))) (fb45_1 : (List (Nat → Int))) (o : (Int × (List (Nat → Int)) × (List (Nat → Int))) ⊕ (((List (Nat → Int)) × (List (Nat → Int))) ⊕ ((List (Nat → Int)) × (List (Nat → Int))))) : Prop :=
  if i8 < (l1.length : Int) then
    (0 ≤ i8 ∧ i8 < l1.length) ∧ (
    if l1[i8.toNat]! 0 = 4 then
      (ntake_P limit0 fb13_1) ∧ (
      (msgs_P ((ntake_F limit0 fb13_1).1) fb45_1) ∧ (
      if ((msgs_F ((ntake_F limit0 fb13_1).1) fb45_1)) = true then
        (inI64 (i8 + 1)) ∧ (
        o = (.inl (i8 + 1, (ntake_F limit0 fb13_1).2, [])))
      else
        o = (.inr (.inr (fb45_1, (ntake_F limit0 fb13_1).2)))))
    else
      (0 ≤ i8 ∧ i8 < l1.length) ∧ (
      (act_P limit0 fb13_1 (l1[i8.toNat]!)) ∧ (
      (0 ≤ i8 ∧ i8 < l1.length) ∧ (
      (doR_P limit0 fb45_1 (l1[i8.toNat]!)) ∧ (
      if ((eqN 28 ((act_F limit0 fb13_1 (l1[i8.toNat]!)).1) ((doR_F limit0 fb45_1 (l1[i8.toNat]!)).1))) = true then
        if (act_F limit0 fb13_1 (l1[i8.toNat]!)).2.1 = (doR_F limit0 fb45_1 (l1[i8.toNat]!)).2.1 then
          if (nlen_F limit0 ((act_F limit0 fb13_1 (l1[i8.toNat]!)).2.2)) = (((doR_F limit0 fb45_1 (l1[i8.toNat]!)).2.2).length : Int) then
            (nall_P limit0 ((act_F limit0 fb13_1 (l1[i8.toNat]!)).2.2)) ∧ (
            (msgs_P (nall_F limit0 ((act_F limit0 fb13_1 (l1[i8.toNat]!)).2.2)) ((doR_F limit0 fb45_1 (l1[i8.toNat]!)).2.2)) ∧ (
            if ((msgs_F (nall_F limit0 ((act_F limit0 fb13_1 (l1[i8.toNat]!)).2.2)) ((doR_F limit0 fb45_1 (l1[i8.toNat]!)).2.2))) = true then
              (inI64 (i8 + 1)) ∧ (
              o = (.inl (i8 + 1, (act_F limit0 fb13_1 (l1[i8.toNat]!)).2.2, (doR_F limit0 fb45_1 (l1[i8.toNat]!)).2.2)))
            else
              o = (.inr (.inr ((doR_F limit0 fb45_1 (l1[i8.toNat]!)).2.2, (act_F limit0 fb13_1 (l1[i8.toNat]!)).2.2)))))
          else
            o = (.inr (.inr ((doR_F limit0 fb45_1 (l1[i8.toNat]!)).2.2, (act_F limit0 fb13_1 (l1[i8.toNat]!)).2.2)))
        else
          o = (.inr (.inr ((doR_F limit0 fb45_1 (l1[i8.toNat]!)).2.2, (act_F limit0 fb13_1 (l1[i8.toNat]!)).2.2)))
      else
        o = (.inr (.inr ((doR_F limit0 fb45_1 (l1[i8.toNat]!)).2.2, (act_F limit0 fb13_1 (l1[i8.toNat]!)).2.2))))))))
  else
    o = (.inr (.inl (fb45_1, fb13_1)))

def acts5_k1a (limit0 : Int) (fb45_1 : (List (Nat → Int))) (fb13_1 : (List (Nat → Int))) (r : Bool) : Prop :=
  r = (decide ((nlen_F limit0 fb13_1) = (fb45_1.length : Int)))

def acts5_k1b (fb45_1 : (List (Nat → Int))) (fb13_1 : (List (Nat → Int))) (r : Bool) : Prop :=
  r = (false)

def acts5_S (limit0 : Int) (l1 : (List (Nat → Int))) (r : Bool) : Prop :=
  (alive05_P) ∧ (
  if (alive05_F) = true then
    if 200 < (l1.length : Int) then
      r = (true)
    else
      if ((decide (limit0 < 1)) || (decide (65536 < limit0))) = true then
        r = (decide ((code_F 2) = 2))
      else
        ∃ x : ((List (Nat → Int)) × (List (Nat → Int))) ⊕ ((List (Nat → Int)) × (List (Nat → Int))), Wh (fun (s : Int × (List (Nat → Int)) × (List (Nat → Int))) (o : (Int × (List (Nat → Int)) × (List (Nat → Int))) ⊕ (((List (Nat → Int)) × (List (Nat → Int))) ⊕ ((List (Nat → Int)) × (List (Nat → Int))))) => acts5_l1 limit0 l1 s.1 s.2.1 s.2.2 o) ((0, [], []) : Int × (List (Nat → Int)) × (List (Nat → Int))) x ∧ (match x with | .inl (fb45_1, fb13_1) => acts5_k1a limit0 fb45_1 fb13_1 r | .inr (fb45_1, fb13_1) => acts5_k1b fb45_1 fb13_1 r)
  else
    r = (false))

def often5_l1 (limit0 : Int) (l1 : (List (Nat → Int))) (in7 : (List ((Nat → Int) × Int))) (out8 : (List ((Nat → Int) × Int))) (i9 : Int) (fb13_1 : (List (Nat → Int))) (o : ((List ((Nat → Int) × Int)) × (List ((Nat → Int) × Int)) × Int × (List (Nat → Int))) ⊕ (((List (Nat → Int))) ⊕ ((List (Nat → Int))))) : Prop :=
  if i9 < (l1.length : Int) then
    (nall_P limit0 fb13_1) ∧ (
    (0 ≤ i9 ∧ i9 < l1.length) ∧ (
    (act_P limit0 fb13_1 (l1[i9.toNat]!)) ∧ (
    if (act_F limit0 fb13_1 (l1[i9.toNat]!)).2.1 = 0 then
      (0 ≤ i9 ∧ i9 < l1.length) ∧ (
      if l1[i9.toNat]! 0 = 0 then
        (0 ≤ i9 ∧ i9 < l1.length) ∧ (
        (inI64 ((mget (eqN 28) in7 (fun i => (l1[i9.toNat]!) (2 + i)) 0) + 1)) ∧ (
        (inI64 (i9 + 1)) ∧ (
        o = (.inl (mset (eqN 28) in7 (fun i => (l1[i9.toNat]!) (2 + i)) ((mget (eqN 28) in7 (fun i => (l1[i9.toNat]!) (2 + i)) 0) + 1), out8, i9 + 1, (act_F limit0 fb13_1 (l1[i9.toNat]!)).2.2)))))
      else
        if l1[i9.toNat]! 0 = 1 then
          (inI64 ((mget (eqN 28) out8 ((act_F limit0 fb13_1 (l1[i9.toNat]!)).1) 0) + 1)) ∧ (
          if mget (eqN 28) in7 ((act_F limit0 fb13_1 (l1[i9.toNat]!)).1) 0 < mget (eqN 28) (mset (eqN 28) out8 ((act_F limit0 fb13_1 (l1[i9.toNat]!)).1) ((mget (eqN 28) out8 ((act_F limit0 fb13_1 (l1[i9.toNat]!)).1) 0) + 1)) ((act_F limit0 fb13_1 (l1[i9.toNat]!)).1) 0 then
            o = (.inr (.inr ((act_F limit0 fb13_1 (l1[i9.toNat]!)).2.2)))
          else
            (inI64 (i9 + 1)) ∧ (
            o = (.inl (in7, mset (eqN 28) out8 ((act_F limit0 fb13_1 (l1[i9.toNat]!)).1) ((mget (eqN 28) out8 ((act_F limit0 fb13_1 (l1[i9.toNat]!)).1) 0) + 1), i9 + 1, (act_F limit0 fb13_1 (l1[i9.toNat]!)).2.2))))
        else
          if l1[i9.toNat]! 0 = 3 then
            (nall_P limit0 ((act_F limit0 fb13_1 (l1[i9.toNat]!)).2.2)) ∧ (
            (inI64 (((nall_F limit0 fb13_1).length : Int) + 1)) ∧ (
            if ((nall_F limit0 ((act_F limit0 fb13_1 (l1[i9.toNat]!)).2.2)).length : Int) = ((nall_F limit0 fb13_1).length : Int) + 1 then
              (inI64 (((nall_F limit0 ((act_F limit0 fb13_1 (l1[i9.toNat]!)).2.2)).length : Int) - 1)) ∧ (
              (0 ≤ ((nall_F limit0 ((act_F limit0 fb13_1 (l1[i9.toNat]!)).2.2)).length : Int) - 1 ∧ ((nall_F limit0 ((act_F limit0 fb13_1 (l1[i9.toNat]!)).2.2)).length : Int) - 1 < (nall_F limit0 ((act_F limit0 fb13_1 (l1[i9.toNat]!)).2.2)).length) ∧ (
              (inI64 ((mget (eqN 28) in7 ((nall_F limit0 ((act_F limit0 fb13_1 (l1[i9.toNat]!)).2.2))[(((nall_F limit0 ((act_F limit0 fb13_1 (l1[i9.toNat]!)).2.2)).length : Int) - 1).toNat]!) 0) + 1)) ∧ (
              (inI64 (i9 + 1)) ∧ (
              o = (.inl (mset (eqN 28) in7 ((nall_F limit0 ((act_F limit0 fb13_1 (l1[i9.toNat]!)).2.2))[(((nall_F limit0 ((act_F limit0 fb13_1 (l1[i9.toNat]!)).2.2)).length : Int) - 1).toNat]!) ((mget (eqN 28) in7 ((nall_F limit0 ((act_F limit0 fb13_1 (l1[i9.toNat]!)).2.2))[(((nall_F limit0 ((act_F limit0 fb13_1 (l1[i9.toNat]!)).2.2)).length : Int) - 1).toNat]!) 0) + 1), out8, i9 + 1, (act_F limit0 fb13_1 (l1[i9.toNat]!)).2.2))))))
            else
              o = (.inr (.inr ((act_F limit0 fb13_1 (l1[i9.toNat]!)).2.2)))))
          else
            (inI64 (i9 + 1)) ∧ (
            o = (.inl (in7, out8, i9 + 1, (act_F limit0 fb13_1 (l1[i9.toNat]!)).2.2))))
    else
      (inI64 (i9 + 1)) ∧ (
      o = (.inl (in7, out8, i9 + 1, (act_F limit0 fb13_1 (l1[i9.toNat]!)).2.2))))))
  else
    o = (.inr (.inl fb13_1))

def often5_k1a (fb13_1 : (List (Nat → Int))) (r : Bool) : Prop :=
  r = (true)

def often5_k1b (fb13_1 : (List (Nat → Int))) (r : Bool) : Prop :=
  r = (false)

def often5_S (limit0 : Int) (l1 : (List (Nat → Int))) (r : Bool) : Prop :=
  (alive05_P) ∧ (
  if (alive05_F) = true then
    if 200 < (l1.length : Int) then
      r = (true)
    else
      if ((decide (limit0 < 1)) || (decide (65536 < limit0))) = true then
        r = ((decide (limit0 < 1)) || (decide (65536 < limit0)))
      else
        ∃ x : ((List (Nat → Int))) ⊕ ((List (Nat → Int))), Wh (fun (s : (List ((Nat → Int) × Int)) × (List ((Nat → Int) × Int)) × Int × (List (Nat → Int))) (o : ((List ((Nat → Int) × Int)) × (List ((Nat → Int) × Int)) × Int × (List (Nat → Int))) ⊕ (((List (Nat → Int))) ⊕ ((List (Nat → Int))))) => often5_l1 limit0 l1 s.1 s.2.1 s.2.2.1 s.2.2.2 o) (([], [], 0, []) : (List ((Nat → Int) × Int)) × (List ((Nat → Int) × Int)) × Int × (List (Nat → Int))) x ∧ (match x with | .inl fb13_1 => often5_k1a fb13_1 r | .inr fb13_1 => often5_k1b fb13_1 r)
  else
    r = (false))

end Go.E
