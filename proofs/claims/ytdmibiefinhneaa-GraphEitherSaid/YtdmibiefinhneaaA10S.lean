/- What functions of the program say, as relations. -/
import Derived.Test.YtdmibiefinhneaaE19
import Derived.Test.YtdmibiefinhneaaL4
import Derived.Test.YtdmibiefinhneaaPCd
set_option maxHeartbeats 1000000
set_option linter.unusedVariables false
set_option linter.unusedSimpArgs false
set_option maxRecDepth 100000
namespace Go.E
open Go

def gnext_l1 (l0 : (List (Nat → Int))) (from1 : Int) (to5 : (List (Int × Bool))) (x11 : Int) (o : ((List (Int × Bool)) × Int) ⊕ ((List (Int × Bool)))) : Prop :=
  if x11 < (l0.length : Int) then
    (0 ≤ x11 ∧ x11 < l0.length) ∧ (
    if (l0[x11.toNat]!) 0 = from1 then
      (inI64 (x11 + 1)) ∧ (
      o = (.inl (mset ieq to5 ((l0[x11.toNat]!) 2) true, x11 + 1)))
    else
      (inI64 (x11 + 1)) ∧ (
      o = (.inl (to5, x11 + 1))))
  else
    o = (.inr to5)

def gnext_k1a (to5 : (List (Int × Bool))) (r : (List Int)) : Prop :=
  (skeysP to5) ∧ (
  r = ((skeys to5)))

def gnext_S (l0 : (List (Nat → Int))) (from1 : Int) (r : (List Int)) : Prop :=
  ∃ x : (List (Int × Bool)), Wh (fun (s : (List (Int × Bool)) × Int) (o : ((List (Int × Bool)) × Int) ⊕ ((List (Int × Bool)))) => gnext_l1 l0 from1 s.1 s.2 o) (([], 0) : (List (Int × Bool)) × Int) x ∧ gnext_k1a x r

def gnodes_l1 (l0 : (List (Nat → Int))) (all3 : (List (Int × Bool))) (x9 : Int) (o : ((List (Int × Bool)) × Int) ⊕ ((List (Int × Bool)))) : Prop :=
  if x9 < (l0.length : Int) then
    (0 ≤ x9 ∧ x9 < l0.length) ∧ (
    (inI64 (x9 + 1)) ∧ (
    o = (.inl (mset ieq (mset ieq all3 ((l0[x9.toNat]!) 0) true) ((l0[x9.toNat]!) 2) true, x9 + 1))))
  else
    o = (.inr all3)

def gnodes_k1a (all3 : (List (Int × Bool))) (r : (List Int)) : Prop :=
  (skeysP all3) ∧ (
  r = ((skeys all3)))

def gnodes_S (l0 : (List (Nat → Int))) (r : (List Int)) : Prop :=
  ∃ x : (List (Int × Bool)), Wh (fun (s : (List (Int × Bool)) × Int) (o : ((List (Int × Bool)) × Int) ⊕ ((List (Int × Bool)))) => gnodes_l1 l0 s.1 s.2 o) (([], 0) : (List (Int × Bool)) × Int) x ∧ gnodes_k1a x r

def hasI_l1 (s0 : (List Int)) (v1 : Int) (x8 : Int) (o : (Int) ⊕ ((Unit) ⊕ (Int))) : Prop :=
  if x8 < (s0.length : Int) then
    (0 ≤ x8 ∧ x8 < s0.length) ∧ (
    if v1 = s0[x8.toNat]! then
      o = (.inr (.inr x8))
    else
      (inI64 (x8 + 1)) ∧ (
      o = (.inl (x8 + 1))))
  else
    o = (.inr (.inl ()))

def hasI_k1a (r : Bool) : Prop :=
  r = (false)

def hasI_k1b (x4 : Int) (r : Bool) : Prop :=
  r = (decide (0 ≤ x4))

def hasI_S (s0 : (List Int)) (v1 : Int) (r : Bool) : Prop :=
  ∃ x : (Unit) ⊕ (Int), Wh (fun (s : Int) (o : (Int) ⊕ ((Unit) ⊕ (Int))) => hasI_l1 s0 v1 s o) (0 : Int) x ∧ (match x with | .inl _ => hasI_k1a r | .inr x4 => hasI_k1b x4 r)

def ints_l1 (a0 : (List Int)) (b1 : (List Int)) (i5 : Int) (o : (Int) ⊕ ((Unit) ⊕ (Unit))) : Prop :=
  if i5 < (a0.length : Int) then
    (0 ≤ i5 ∧ i5 < a0.length) ∧ (
    (0 ≤ i5 ∧ i5 < b1.length) ∧ (
    if a0[i5.toNat]! = b1[i5.toNat]! then
      (inI64 (i5 + 1)) ∧ (
      o = (.inl (i5 + 1)))
    else
      o = (.inr (.inr ()))))
  else
    o = (.inr (.inl ()))

def ints_k1a (r : Bool) : Prop :=
  r = (true)

def ints_k1b (r : Bool) : Prop :=
  r = (false)

def ints_S (a0 : (List Int)) (b1 : (List Int)) (r : Bool) : Prop :=
  if (a0.length : Int) = (b1.length : Int) then
    ∃ x : (Unit) ⊕ (Unit), Wh (fun (s : Int) (o : (Int) ⊕ ((Unit) ⊕ (Unit))) => ints_l1 a0 b1 s o) (0 : Int) x ∧ (match x with | .inl _ => ints_k1a r | .inr _ => ints_k1b r)
  else
    r = (false)

def risingR_l2 (l0 : (List Int)) (out3 : (List Int)) (i4 : Int) (at5 : Int) (o : (Int) ⊕ (Int)) : Prop :=
  (((decide (at5 < (out3.length : Int))) = true) → 0 ≤ at5 ∧ at5 < out3.length) ∧ (((decide (at5 < (out3.length : Int))) = true) → 0 ≤ i4 ∧ i4 < l0.length) ∧ (
  if ((decide (at5 < (out3.length : Int))) && (decide (out3[at5.toNat]! < l0[i4.toNat]!))) = true then
    (inI64 (at5 + 1)) ∧ (
    o = (.inl (at5 + 1)))
  else
    o = (.inr at5))

def risingR_k2a (l0 : (List Int)) (out3 : (List Int)) (i4 : Int) (at5 : Int) (o : ((List Int) × Int) ⊕ ((List Int))) : Prop :=
  (((decide (at5 < (out3.length : Int))) = true) → 0 ≤ at5 ∧ at5 < out3.length) ∧ (((decide (at5 < (out3.length : Int))) = true) → 0 ≤ i4 ∧ i4 < l0.length) ∧ (
  if ((decide (at5 < (out3.length : Int))) && (decide (out3[at5.toNat]! = l0[i4.toNat]!))) = true then
    (inI64 (i4 + 1)) ∧ (
    o = (.inl (out3, i4 + 1)))
  else
    (0 ≤ at5 ∧ at5 ≤ out3.length) ∧ (
    (0 ≤ i4 ∧ i4 < l0.length) ∧ (
    (0 ≤ at5 ∧ at5 ≤ out3.length) ∧ (
    ((0 + ((out3.take at5.toNat).drop 0).length) * 8 ≤ 140737488355328) ∧ (
    ((([] ++ (out3.take at5.toNat).drop 0).length + 1) * 8 ≤ 140737488355328) ∧ (
    (((([] ++ (out3.take at5.toNat).drop 0) ++ [l0[i4.toNat]!]).length + ((out3.take out3.length).drop at5.toNat).length) * 8 ≤ 140737488355328) ∧ (
    (inI64 (i4 + 1)) ∧ (
    o = (.inl (((([] ++ (out3.take at5.toNat).drop 0) ++ [l0[i4.toNat]!]) ++ (out3.take out3.length).drop at5.toNat), i4 + 1))))))))))

def risingR_l1 (l0 : (List Int)) (out3 : (List Int)) (i4 : Int) (o : ((List Int) × Int) ⊕ ((List Int))) : Prop :=
  if i4 < (l0.length : Int) then
    ∃ x : Int, Wh (fun (s : Int) (o : (Int) ⊕ (Int)) => risingR_l2 l0 out3 i4 s o) (0 : Int) x ∧ risingR_k2a l0 out3 i4 x o
  else
    o = (.inr out3)

def risingR_k1a (out3 : (List Int)) (r : (List Int)) : Prop :=
  r = (out3)

def risingR_S (l0 : (List Int)) (r : (List Int)) : Prop :=
  ∃ x : (List Int), Wh (fun (s : (List Int) × Int) (o : ((List Int) × Int) ⊕ ((List Int))) => risingR_l1 l0 s.1 s.2 o) (([], 0) : (List Int) × Int) x ∧ risingR_k1a x r

def hasR_l1 (l0 : (List Int)) (n1 : Int) (i5 : Int) (o : (Int) ⊕ ((Unit) ⊕ (Unit))) : Prop :=
  if i5 < (l0.length : Int) then
    (0 ≤ i5 ∧ i5 < l0.length) ∧ (
    if l0[i5.toNat]! = n1 then
      o = (.inr (.inr ()))
    else
      (inI64 (i5 + 1)) ∧ (
      o = (.inl (i5 + 1))))
  else
    o = (.inr (.inl ()))

def hasR_k1a (r : Bool) : Prop :=
  r = (false)

def hasR_k1b (r : Bool) : Prop :=
  r = (true)

def hasR_S (l0 : (List Int)) (n1 : Int) (r : Bool) : Prop :=
  ∃ x : (Unit) ⊕ (Unit), Wh (fun (s : Int) (o : (Int) ⊕ ((Unit) ⊕ (Unit))) => hasR_l1 l0 n1 s o) (0 : Int) x ∧ (match x with | .inl _ => hasR_k1a r | .inr _ => hasR_k1b r)

def edgeR_l1 (l0 : (List (Nat → Int))) (from1 : Int) (to2 : Int) (i7 : Int) (o : (Int) ⊕ ((Unit) ⊕ (Unit))) : Prop :=
  if i7 < (l0.length : Int) then
    (0 ≤ i7 ∧ i7 < l0.length) ∧ (((decide (l0[i7.toNat]! 0 = from1)) = true) → 0 ≤ i7 ∧ i7 < l0.length) ∧ (
    if ((decide (l0[i7.toNat]! 0 = from1)) && (decide (l0[i7.toNat]! 2 = to2))) = true then
      o = (.inr (.inr ()))
    else
      (inI64 (i7 + 1)) ∧ (
      o = (.inl (i7 + 1))))
  else
    o = (.inr (.inl ()))

def edgeR_k1a (r : Bool) : Prop :=
  r = (false)

def edgeR_k1b (r : Bool) : Prop :=
  r = (true)

def edgeR_S (l0 : (List (Nat → Int))) (from1 : Int) (to2 : Int) (r : Bool) : Prop :=
  ∃ x : (Unit) ⊕ (Unit), Wh (fun (s : Int) (o : (Int) ⊕ ((Unit) ⊕ (Unit))) => edgeR_l1 l0 from1 to2 s o) (0 : Int) x ∧ (match x with | .inl _ => edgeR_k1a r | .inr _ => edgeR_k1b r)

end Go.E
