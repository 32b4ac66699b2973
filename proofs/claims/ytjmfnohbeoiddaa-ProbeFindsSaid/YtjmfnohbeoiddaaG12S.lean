/- What functions of the program say, as relations. -/
import Derived.Test.YtjmfnohbeoiddaaC12S
import Derived.Test.YtjmfnohbeoiddaaL5
set_option maxHeartbeats 1000000
set_option linter.unusedVariables false
set_option linter.unusedSimpArgs false
set_option maxRecDepth 100000
namespace Go.E
open Go

def risingR_l2 (l0 : (List Int)) (out3 : (List Int)) (i4 : Int) (at5 : Int) (o : (Int) ⊕ (Int)) : Prop :=
  (((decide (at5 < (out3.length : Int))) = true) → 0 ≤ at5 ∧ at5 < out3.length) ∧ (((decide (at5 < (out3.length : Int))) = true) → 0 ≤ i4 ∧ i4 < l0.length) ∧ (
  if ((decide (at5 < (out3.length : Int))) && (decide (out3[at5.toNat]! < l0[i4.toNat]!))) = true then
    (inI64 (at5 + 1)) ∧ (
    o = (.inl (at5 + 1)))
  else
    o = (.inr at5))

def risingR_k2a (l0 : (List Int)) (out3 : (List Int)) (i4 : Int) (at5 : Int) (o : ((List Int) × Int) ⊕ ((List Int))) : Prop :=
  (((decide (at5 < (out3.length : Int))) = true) → 0 ≤ at5 ∧ at5 < out3.length) ∧ (((decide (at5 < (out3.length : Int))) = true) → 0 ≤ i4 ∧ i4 < l0.length) ∧ (
  if ((decide (at5 < (out3.length : Int))) && (decide (out3[at5.toNat]! = l0[i4.toNat]!))) = true then
    (inI64 (i4 + 1)) ∧ (
    o = (.inl (out3, i4 + 1)))
  else
    (0 ≤ at5 ∧ at5 ≤ out3.length) ∧ (
    (0 ≤ i4 ∧ i4 < l0.length) ∧ (
    (0 ≤ at5 ∧ at5 ≤ out3.length) ∧ (
    ((0 + ((out3.take at5.toNat).drop 0).length) * 8 ≤ 140737488355328) ∧ (
    ((([] ++ (out3.take at5.toNat).drop 0).length + 1) * 8 ≤ 140737488355328) ∧ (
    (((([] ++ (out3.take at5.toNat).drop 0) ++ [l0[i4.toNat]!]).length + ((out3.take out3.length).drop at5.toNat).length) * 8 ≤ 140737488355328) ∧ (
    (inI64 (i4 + 1)) ∧ (
    o = (.inl (((([] ++ (out3.take at5.toNat).drop 0) ++ [l0[i4.toNat]!]) ++ (out3.take out3.length).drop at5.toNat), i4 + 1))))))))))

def risingR_l1 (l0 : (List Int)) (out3 : (List Int)) (i4 : Int) (o : ((List Int) × Int) ⊕ ((List Int))) : Prop :=
  if i4 < (l0.length : Int) then
    ∃ x : Int, Wh (fun (s : Int) (o : (Int) ⊕ (Int)) => risingR_l2 l0 out3 i4 s o) (0 : Int) x ∧ risingR_k2a l0 out3 i4 x o
  else
    o = (.inr out3)

def risingR_k1a (out3 : (List Int)) (r : (List Int)) : Prop :=
  r = (out3)

def risingR_S (l0 : (List Int)) (r : (List Int)) : Prop :=
  ∃ x : (List Int), Wh (fun (s : (List Int) × Int) (o : ((List Int) × Int) ⊕ ((List Int))) => risingR_l1 l0 s.1 s.2 o) (([], 0) : (List Int) × Int) x ∧ risingR_k1a x r

def hasR_l1 (l0 : (List Int)) (n1 : Int) (i5 : Int) (o : (Int) ⊕ ((Unit) ⊕ (Unit))) : Prop :=
  if i5 < (l0.length : Int) then
    (0 ≤ i5 ∧ i5 < l0.length) ∧ (
    if l0[i5.toNat]! = n1 then
      o = (.inr (.inr ()))
    else
      (inI64 (i5 + 1)) ∧ (
      o = (.inl (i5 + 1))))
  else
    o = (.inr (.inl ()))

def hasR_k1a (r : Bool) : Prop :=
  r = (false)

def hasR_k1b (r : Bool) : Prop :=
  r = (true)

def hasR_S (l0 : (List Int)) (n1 : Int) (r : Bool) : Prop :=
  ∃ x : (Unit) ⊕ (Unit), Wh (fun (s : Int) (o : (Int) ⊕ ((Unit) ⊕ (Unit))) => hasR_l1 l0 n1 s o) (0 : Int) x ∧ (match x with | .inl _ => hasR_k1a r | .inr _ => hasR_k1b r)

end Go.E
