/- What functions of the program say, as relations. -/
import Derived.Test.YtdmibiefinhneaaP10c
set_option maxHeartbeats 1000000
set_option linter.unusedVariables false
set_option linter.unusedSimpArgs false
set_option maxRecDepth 100000
namespace Go.E
open Go

def gcirc_l1 (l0 : (List (Nat → Int))) (out3 : (List Int)) (x9 : Int) (o : ((List Int) × Int) ⊕ ((List Int))) : Prop :=
  if x9 < ((gnodes_F l0).length : Int) then
    (0 ≤ x9 ∧ x9 < (gnodes_F l0).length) ∧ (
    (greach_P l0 ((gnodes_F l0)[x9.toNat]!)) ∧ (
    (hasI_P (greach_F l0 ((gnodes_F l0)[x9.toNat]!)) ((gnodes_F l0)[x9.toNat]!)) ∧ (
    if ((hasI_F (greach_F l0 ((gnodes_F l0)[x9.toNat]!)) ((gnodes_F l0)[x9.toNat]!))) = true then
      ((out3.length + 1) * 8 ≤ 140737488355328) ∧ (
      (inI64 (x9 + 1)) ∧ (
      o = (.inl ((out3 ++ [(gnodes_F l0)[x9.toNat]!]), x9 + 1))))
    else
      (inI64 (x9 + 1)) ∧ (
      o = (.inl (out3, x9 + 1))))))
  else
    o = (.inr out3)

def gcirc_k1a (out3 : (List Int)) (r : (List Int)) : Prop :=
  r = (out3)

def gcirc_S (l0 : (List (Nat → Int))) (r : (List Int)) : Prop :=
  (gnodes_P l0) ∧ (
  ∃ x : (List Int), Wh (fun (s : (List Int) × Int) (o : ((List Int) × Int) ⊕ ((List Int))) => gcirc_l1 l0 s.1 s.2 o) (([], 0) : (List Int) × Int) x ∧ gcirc_k1a x r)

def circR_l1 (l0 : (List (Nat → Int))) (out4 : (List Int)) (i5 : Int) (o : ((List Int) × Int) ⊕ ((List Int))) : Prop :=
  if i5 < ((nodesR_F l0).length : Int) then
    (0 ≤ i5 ∧ i5 < (nodesR_F l0).length) ∧ (
    (0 ≤ i5 ∧ i5 < (nodesR_F l0).length) ∧ (
    (reachR_P l0 ((nodesR_F l0)[i5.toNat]!)) ∧ (
    (hasR_P (reachR_F l0 ((nodesR_F l0)[i5.toNat]!)) ((nodesR_F l0)[i5.toNat]!)) ∧ (
    if ((hasR_F (reachR_F l0 ((nodesR_F l0)[i5.toNat]!)) ((nodesR_F l0)[i5.toNat]!))) = true then
      (0 ≤ i5 ∧ i5 < (nodesR_F l0).length) ∧ (
      ((out4.length + 1) * 8 ≤ 140737488355328) ∧ (
      (inI64 (i5 + 1)) ∧ (
      o = (.inl ((out4 ++ [(nodesR_F l0)[i5.toNat]!]), i5 + 1)))))
    else
      (inI64 (i5 + 1)) ∧ (
      o = (.inl (out4, i5 + 1)))))))
  else
    o = (.inr out4)

def circR_k1a (out4 : (List Int)) (r : (List Int)) : Prop :=
  r = (out4)

def circR_S (l0 : (List (Nat → Int))) (r : (List Int)) : Prop :=
  (nodesR_P l0) ∧ (
  ∃ x : (List Int), Wh (fun (s : (List Int) × Int) (o : ((List Int) × Int) ⊕ ((List Int))) => circR_l1 l0 s.1 s.2 o) (([], 0) : (List Int) × Int) x ∧ circR_k1a x r)

def orderR_l3 (l0 : (List (Nat → Int))) (out5a : (List Int)) (i7 : Int) (free8 : Bool) (k9 : Int) (o : (Bool × Int) ⊕ (Bool)) : Prop :=
  if k9 < (l0.length : Int) then
    (0 ≤ k9 ∧ k9 < l0.length) ∧ (0 ≤ i7 ∧ i7 < (nodesR_F l0).length) ∧ (((decide (l0[k9.toNat]! 2 = (nodesR_F l0)[i7.toNat]!)) = true) → 0 ≤ k9 ∧ k9 < l0.length) ∧ (((decide (l0[k9.toNat]! 2 = (nodesR_F l0)[i7.toNat]!)) = true) → hasR_P out5a (l0[k9.toNat]! 0)) ∧ (
    (inI64 (k9 + 1)) ∧ (
    o = (.inl ((!((decide (l0[k9.toNat]! 2 = (nodesR_F l0)[i7.toNat]!)) && (!((hasR_F out5a (l0[k9.toNat]! 0)))))) && (free8), k9 + 1))))
  else
    o = (.inr free8)

def orderR_k3a (l0 : (List (Nat → Int))) (out5a : (List Int)) (found6 : Bool) (i7 : Int) (free8 : Bool) (o : ((List Int) × Bool × Int) ⊕ ((List Int) × Bool)) : Prop :=
  if (free8) = true then
    (0 ≤ i7 ∧ i7 < (nodesR_F l0).length) ∧ (
    ((out5a.length + 1) * 8 ≤ 140737488355328) ∧ (
    (inI64 (i7 + 1)) ∧ (
    o = (.inl ((out5a ++ [(nodesR_F l0)[i7.toNat]!]), true, i7 + 1)))))
  else
    (inI64 (i7 + 1)) ∧ (
    o = (.inl (out5a, found6, i7 + 1)))

def orderR_l2 (l0 : (List (Nat → Int))) (out5a : (List Int)) (found6 : Bool) (i7 : Int) (o : ((List Int) × Bool × Int) ⊕ ((List Int) × Bool)) : Prop :=
  if ((decide (i7 < ((nodesR_F l0).length : Int))) && (!(found6))) = true then
    (0 ≤ i7 ∧ i7 < (nodesR_F l0).length) ∧ (
    (hasR_P out5a ((nodesR_F l0)[i7.toNat]!)) ∧ (
    if ((hasR_F out5a ((nodesR_F l0)[i7.toNat]!))) = true then
      (inI64 (i7 + 1)) ∧ (
      o = (.inl (out5a, found6, i7 + 1)))
    else
      ∃ x : Bool, Wh (fun (s : Bool × Int) (o : (Bool × Int) ⊕ (Bool)) => orderR_l3 l0 out5a i7 s.1 s.2 o) ((true, 0) : Bool × Int) x ∧ orderR_k3a l0 out5a found6 i7 x o))
  else
    o = (.inr (out5a, found6))

def orderR_k2a (out5a : (List Int)) (found6 : Bool) (o : ((List Int)) ⊕ (((List Int)) ⊕ (Unit))) : Prop :=
  if (found6) = true then
    o = (.inl out5a)
  else
    o = (.inr (.inr ()))

def orderR_l1 (l0 : (List (Nat → Int))) (out5 : (List Int)) (o : ((List Int)) ⊕ (((List Int)) ⊕ (Unit))) : Prop :=
  if (out5.length : Int) < ((nodesR_F l0).length : Int) then
    ∃ x : (List Int) × Bool, Wh (fun (s : (List Int) × Bool × Int) (o : ((List Int) × Bool × Int) ⊕ ((List Int) × Bool)) => orderR_l2 l0 s.1 s.2.1 s.2.2 o) ((out5, false, 0) : (List Int) × Bool × Int) x ∧ orderR_k2a x.1 x.2 o
  else
    o = (.inr (.inl out5))

def orderR_k1a (out5 : (List Int)) (r : (List Int) × Bool) : Prop :=
  r = ((out5, true))

def orderR_k1b (r : (List Int) × Bool) : Prop :=
  r = (([], false))

def orderR_S (l0 : (List (Nat → Int))) (r : (List Int) × Bool) : Prop :=
  (nodesR_P l0) ∧ (
  ∃ x : ((List Int)) ⊕ (Unit), Wh (fun (s : (List Int)) (o : ((List Int)) ⊕ (((List Int)) ⊕ (Unit))) => orderR_l1 l0 s o) ([] : (List Int)) x ∧ (match x with | .inl out5 => orderR_k1a out5 r | .inr _ => orderR_k1b r))

def gway_l2 (l0 : (List (Nat → Int))) (to2 : Int) (n9 : Int) (best10 : Int) (x43 : Int) (o : (Int × Int) ⊕ (Int)) : Prop :=
  if x43 < ((gnext_F l0 n9).length : Int) then
    (0 ≤ x43 ∧ x43 < (gnext_F l0 n9).length) ∧ (
    (inI64 (x43 + 1)) ∧ (
    o = (.inl ((if (((mhas ieq (gfar_F l0 to2) ((gnext_F l0 n9)[x43.toNat]!))) && ((decide (best10 < 0)) || (decide (mget ieq (gfar_F l0 to2) ((gnext_F l0 n9)[x43.toNat]!) 0 < best10)))) = true then mget ieq (gfar_F l0 to2) ((gnext_F l0 n9)[x43.toNat]!) 0 else best10), x43 + 1))))
  else
    o = (.inr best10)

def gway_l3 (l0 : (List (Nat → Int))) (to2 : Int) (n9 : Int) (best10 : Int) (n9a : Int) (x69 : Int) (o : (Int × Int) ⊕ (Int)) : Prop :=
  if x69 < ((gnext_F l0 n9).length : Int) then
    (0 ≤ x69 ∧ x69 < (gnext_F l0 n9).length) ∧ (
    if (((mhas ieq (gfar_F l0 to2) ((gnext_F l0 n9)[x69.toNat]!))) && (decide (mget ieq (gfar_F l0 to2) ((gnext_F l0 n9)[x69.toNat]!) 0 = best10))) = true then
      o = (.inr ((gnext_F l0 n9)[x69.toNat]!))
    else
      (inI64 (x69 + 1)) ∧ (
      o = (.inl (n9a, x69 + 1))))
  else
    o = (.inr n9a)

def gway_k3a (out8 : (List Int)) (n9a : Int) (o : ((List Int) × Int) ⊕ ((List Int))) : Prop :=
  ((out8.length + 1) * 8 ≤ 140737488355328) ∧ (
  o = (.inl ((out8 ++ [n9a]), n9a)))

def gway_k2a (l0 : (List (Nat → Int))) (to2 : Int) (out8 : (List Int)) (n9 : Int) (best10 : Int) (o : ((List Int) × Int) ⊕ ((List Int))) : Prop :=
  (gnext_P l0 n9) ∧ (
  ∃ x : Int, Wh (fun (s : Int × Int) (o : (Int × Int) ⊕ (Int)) => gway_l3 l0 to2 n9 best10 s.1 s.2 o) ((n9, 0) : Int × Int) x ∧ gway_k3a out8 x o)

def gway_l1 (l0 : (List (Nat → Int))) (to2 : Int) (out8 : (List Int)) (n9 : Int) (o : ((List Int) × Int) ⊕ ((List Int))) : Prop :=
  if ((!(decide (n9 = to2))) || (decide ((out8.length : Int) = 1))) = true then
    (gnext_P l0 n9) ∧ (
    ∃ x : Int, Wh (fun (s : Int × Int) (o : (Int × Int) ⊕ (Int)) => gway_l2 l0 to2 n9 s.1 s.2 o) (((-1), 0) : Int × Int) x ∧ gway_k2a l0 to2 out8 n9 x o)
  else
    o = (.inr out8)

def gway_k1a (out8 : (List Int)) (r : (List Int)) : Prop :=
  r = (out8)

def gway_S (l0 : (List (Nat → Int))) (from1 : Int) (to2 : Int) (r : (List Int)) : Prop :=
  (greach_P l0 from1) ∧ (
  (hasI_P (greach_F l0 from1) to2) ∧ (
  if ((hasI_F (greach_F l0 from1) to2)) = true then
    (gfar_P l0 to2) ∧ (
    ∃ x : (List Int), Wh (fun (s : (List Int) × Int) (o : ((List Int) × Int) ⊕ ((List Int))) => gway_l1 l0 to2 s.1 s.2 o) ((([from1] : List Int), from1) : (List Int) × Int) x ∧ gway_k1a x r)
  else
    r = ([])))

end Go.E
