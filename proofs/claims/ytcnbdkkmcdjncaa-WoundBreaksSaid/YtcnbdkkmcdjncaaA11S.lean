/- What functions of the program say, as relations. -/
import Derived.Test.YtcnbdkkmcdjncaaE19
import Derived.Test.YtcnbdkkmcdjncaaL4
set_option maxHeartbeats 1000000
set_option linter.unusedVariables false
set_option linter.unusedSimpArgs false
set_option maxRecDepth 100000
namespace Go.E
open Go

def wby_l1 (l0 : (List (Nat → Int))) (out3 : (List (Int × Int))) (x11 : Int) (o : ((List (Int × Int)) × Int) ⊕ ((List (Int × Int)))) : Prop :=
  if x11 < (l0.length : Int) then
    (0 ≤ x11 ∧ x11 < l0.length) ∧ (
    if (l0[x11.toNat]!) 2 ≤ (l0[x11.toNat]!) 0 then
      (inI64 (x11 + 1)) ∧ (
      o = (.inl (out3, x11 + 1)))
    else
      if ((!((mhas ieq out3 ((l0[x11.toNat]!) 2)))) || (decide ((l0[x11.toNat]!) 0 < mget ieq out3 ((l0[x11.toNat]!) 2) 0))) = true then
        (inI64 (x11 + 1)) ∧ (
        o = (.inl (mset ieq out3 ((l0[x11.toNat]!) 2) ((l0[x11.toNat]!) 0), x11 + 1)))
      else
        (inI64 (x11 + 1)) ∧ (
        o = (.inl (out3, x11 + 1))))
  else
    o = (.inr out3)

def wby_k1a (out3 : (List (Int × Int))) (r : (List (Int × Int))) : Prop :=
  r = (out3)

def wby_S (l0 : (List (Nat → Int))) (r : (List (Int × Int))) : Prop :=
  ∃ x : (List (Int × Int)), Wh (fun (s : (List (Int × Int)) × Int) (o : ((List (Int × Int)) × Int) ⊕ ((List (Int × Int)))) => wby_l1 l0 s.1 s.2 o) (([], 0) : (List (Int × Int)) × Int) x ∧ wby_k1a x r

def hasW_l1 (s0 : (List (Nat → Int))) (v1 : (Nat → Int)) (x8 : Int) (o : (Int) ⊕ ((Unit) ⊕ (Int))) : Prop :=
  if x8 < (s0.length : Int) then
    (0 ≤ x8 ∧ x8 < s0.length) ∧ (
    if ((eqN 2 v1 (s0[x8.toNat]!))) = true then
      o = (.inr (.inr x8))
    else
      (inI64 (x8 + 1)) ∧ (
      o = (.inl (x8 + 1))))
  else
    o = (.inr (.inl ()))

def hasW_k1a (r : Bool) : Prop :=
  r = (false)

def hasW_k1b (x4 : Int) (r : Bool) : Prop :=
  r = (decide (0 ≤ x4))

def hasW_S (s0 : (List (Nat → Int))) (v1 : (Nat → Int)) (r : Bool) : Prop :=
  ∃ x : (Unit) ⊕ (Int), Wh (fun (s : Int) (o : (Int) ⊕ ((Unit) ⊕ (Int))) => hasW_l1 s0 v1 s o) (0 : Int) x ∧ (match x with | .inl _ => hasW_k1a r | .inr x4 => hasW_k1b x4 r)

def oldest_l1 (l0 : (List (Nat → Int))) (n4 : Int) (x16 : Int) (o : (Int × Int) ⊕ (Int)) : Prop :=
  if x16 < (l0.length : Int) then
    (0 ≤ x16 ∧ x16 < l0.length) ∧ (
    (inI64 (x16 + 1)) ∧ (
    o = (.inl ((if ((l0[x16.toNat]!) 2) < (if ((l0[x16.toNat]!) 0) < n4 then ((l0[x16.toNat]!) 0) else n4) then ((l0[x16.toNat]!) 2) else (if ((l0[x16.toNat]!) 0) < n4 then ((l0[x16.toNat]!) 0) else n4)), x16 + 1))))
  else
    o = (.inr n4)

def oldest_k1a (n4 : Int) (r : Int × Bool) : Prop :=
  r = ((n4, true))

def oldest_S (l0 : (List (Nat → Int))) (r : Int × Bool) : Prop :=
  if (l0.length : Int) = 0 then
    r = ((0, false))
  else
    (0 ≤ (0 : Int) ∧ (0 : Int) < l0.length) ∧ (
    ∃ x : Int, Wh (fun (s : Int × Int) (o : (Int × Int) ⊕ (Int)) => oldest_l1 l0 s.1 s.2 o) ((l0[0]! 0, 0) : Int × Int) x ∧ oldest_k1a x r)

def esame_l1 (a0 : (List (Nat → Int))) (b1 : (List (Nat → Int))) (i5 : Int) (o : (Int) ⊕ ((Unit) ⊕ (Unit))) : Prop :=
  if i5 < (a0.length : Int) then
    (0 ≤ i5 ∧ i5 < a0.length) ∧ (
    (0 ≤ i5 ∧ i5 < b1.length) ∧ (
    if ((eqN 4 (a0[i5.toNat]!) (b1[i5.toNat]!))) = true then
      (inI64 (i5 + 1)) ∧ (
      o = (.inl (i5 + 1)))
    else
      o = (.inr (.inr ()))))
  else
    o = (.inr (.inl ()))

def esame_k1a (r : Bool) : Prop :=
  r = (true)

def esame_k1b (r : Bool) : Prop :=
  r = (false)

def esame_S (a0 : (List (Nat → Int))) (b1 : (List (Nat → Int))) (r : Bool) : Prop :=
  if (a0.length : Int) = (b1.length : Int) then
    ∃ x : (Unit) ⊕ (Unit), Wh (fun (s : Int) (o : (Int) ⊕ ((Unit) ⊕ (Unit))) => esame_l1 a0 b1 s o) (0 : Int) x ∧ (match x with | .inl _ => esame_k1a r | .inr _ => esame_k1b r)
  else
    r = (false)

def risingR_l2 (l0 : (List Int)) (out3 : (List Int)) (i4 : Int) (at5 : Int) (o : (Int) ⊕ (Int)) : Prop :=
  (((decide (at5 < (out3.length : Int))) = true) → 0 ≤ at5 ∧ at5 < out3.length) ∧ (((decide (at5 < (out3.length : Int))) = true) → 0 ≤ i4 ∧ i4 < l0.length) ∧ (
  if ((decide (at5 < (out3.length : Int))) && (decide (out3[at5.toNat]! < l0[i4.toNat]!))) = true then
    (inI64 (at5 + 1)) ∧ (
    o = (.inl (at5 + 1)))
  else
    o = (.inr at5))

def risingR_k2a (l0 : (List Int)) (out3 : (List Int)) (i4 : Int) (at5 : Int) (o : ((List Int) × Int) ⊕ ((List Int))) : Prop :=
  (((decide (at5 < (out3.length : Int))) = true) → 0 ≤ at5 ∧ at5 < out3.length) ∧ (((decide (at5 < (out3.length : Int))) = true) → 0 ≤ i4 ∧ i4 < l0.length) ∧ (
  if ((decide (at5 < (out3.length : Int))) && (decide (out3[at5.toNat]! = l0[i4.toNat]!))) = true then
    (inI64 (i4 + 1)) ∧ (
    o = (.inl (out3, i4 + 1)))
  else
    (0 ≤ at5 ∧ at5 ≤ out3.length) ∧ (
    (0 ≤ i4 ∧ i4 < l0.length) ∧ (
    (0 ≤ at5 ∧ at5 ≤ out3.length) ∧ (
    ((0 + ((out3.take at5.toNat).drop 0).length) * 8 ≤ 140737488355328) ∧ (
    ((([] ++ (out3.take at5.toNat).drop 0).length + 1) * 8 ≤ 140737488355328) ∧ (
    (((([] ++ (out3.take at5.toNat).drop 0) ++ [l0[i4.toNat]!]).length + ((out3.take out3.length).drop at5.toNat).length) * 8 ≤ 140737488355328) ∧ (
    (inI64 (i4 + 1)) ∧ (
    o = (.inl (((([] ++ (out3.take at5.toNat).drop 0) ++ [l0[i4.toNat]!]) ++ (out3.take out3.length).drop at5.toNat), i4 + 1))))))))))

def risingR_l1 (l0 : (List Int)) (out3 : (List Int)) (i4 : Int) (o : ((List Int) × Int) ⊕ ((List Int))) : Prop :=
  if i4 < (l0.length : Int) then
    ∃ x : Int, Wh (fun (s : Int) (o : (Int) ⊕ (Int)) => risingR_l2 l0 out3 i4 s o) (0 : Int) x ∧ risingR_k2a l0 out3 i4 x o
  else
    o = (.inr out3)

def risingR_k1a (out3 : (List Int)) (r : (List Int)) : Prop :=
  r = (out3)

def risingR_S (l0 : (List Int)) (r : (List Int)) : Prop :=
  ∃ x : (List Int), Wh (fun (s : (List Int) × Int) (o : ((List Int) × Int) ⊕ ((List Int))) => risingR_l1 l0 s.1 s.2 o) (([], 0) : (List Int) × Int) x ∧ risingR_k1a x r

def byR_l1 (l0 : (List (Nat → Int))) (tx1 : Int) (n6 : Int) (some7 : Bool) (i8 : Int) (o : (Int × Bool × Int) ⊕ (Int × Bool)) : Prop :=
  if i8 < (l0.length : Int) then
    (0 ≤ i8 ∧ i8 < l0.length) ∧ (((decide (l0[i8.toNat]! 2 = tx1)) = true) → 0 ≤ i8 ∧ i8 < l0.length) ∧ ((((decide (l0[i8.toNat]! 2 = tx1)) && (decide (l0[i8.toNat]! 0 < tx1))) = true) → ((!(some7)) = false) → 0 ≤ i8 ∧ i8 < l0.length) ∧ (
    (
      if (((decide (l0[i8.toNat]! 2 = tx1)) && (decide (l0[i8.toNat]! 0 < tx1))) && ((!(some7)) || (decide (l0[i8.toNat]! 0 < n6)))) = true then
        (0 ≤ i8 ∧ i8 < l0.length) ∧ (
        True)
      else
        True) ∧ (
    (inI64 (i8 + 1)) ∧ (
    o = (.inl ((if (((decide (l0[i8.toNat]! 2 = tx1)) && (decide (l0[i8.toNat]! 0 < tx1))) && ((!(some7)) || (decide (l0[i8.toNat]! 0 < n6)))) = true then l0[i8.toNat]! 0 else n6), (((decide (l0[i8.toNat]! 2 = tx1)) && (decide (l0[i8.toNat]! 0 < tx1))) && ((!(some7)) || (decide (l0[i8.toNat]! 0 < n6)))) || (some7), i8 + 1)))))
  else
    o = (.inr (n6, some7))

def byR_k1a (n6 : Int) (some7 : Bool) (r : Int × Bool) : Prop :=
  r = ((n6, some7))

def byR_S (l0 : (List (Nat → Int))) (tx1 : Int) (r : Int × Bool) : Prop :=
  ∃ x : Int × Bool, Wh (fun (s : Int × Bool × Int) (o : (Int × Bool × Int) ⊕ (Int × Bool)) => byR_l1 l0 tx1 s.1 s.2.1 s.2.2 o) ((0, false, 0) : Int × Bool × Int) x ∧ byR_k1a x.1 x.2 r

end Go.E
