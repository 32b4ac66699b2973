/- What functions of the program say, as relations. -/
import Derived.Test.YteomcjiiiilhmaaPCd
import Derived.Test.YteomcjiiiilhmaaE20
import Derived.Test.YteomcjiiiilhmaaE21
import Derived.Test.YteomcjiiiilhmaaL5
set_option maxHeartbeats 1000000
set_option linter.unusedVariables false
set_option linter.unusedSimpArgs false
set_option maxRecDepth 100000
namespace Go.E
open Go

def ints_l1 (a0 : (List Int)) (b1 : (List Int)) (i5 : Int) (o : (Int) ⊕ ((Unit) ⊕ (Unit))) : Prop :=
  if i5 < (a0.length : Int) then
    (0 ≤ i5 ∧ i5 < a0.length) ∧ (
    (0 ≤ i5 ∧ i5 < b1.length) ∧ (
    if a0[i5.toNat]! = b1[i5.toNat]! then
      (inI64 (i5 + 1)) ∧ (
      o = (.inl (i5 + 1)))
    else
      o = (.inr (.inr ()))))
  else
    o = (.inr (.inl ()))

def ints_k1a (r : Bool) : Prop :=
  r = (true)

def ints_k1b (r : Bool) : Prop :=
  r = (false)

def ints_S (a0 : (List Int)) (b1 : (List Int)) (r : Bool) : Prop :=
  if (a0.length : Int) = (b1.length : Int) then
    ∃ x : (Unit) ⊕ (Unit), Wh (fun (s : Int) (o : (Int) ⊕ ((Unit) ⊕ (Unit))) => ints_l1 a0 b1 s o) (0 : Int) x ∧ (match x with | .inl _ => ints_k1a r | .inr _ => ints_k1b r)
  else
    r = (false)

def risingR_l2 (l0 : (List Int)) (out3 : (List Int)) (i4 : Int) (at5 : Int) (o : (Int) ⊕ (Int)) : Prop :=
  (((decide (at5 < (out3.length : Int))) = true) → 0 ≤ at5 ∧ at5 < out3.length) ∧ (((decide (at5 < (out3.length : Int))) = true) → 0 ≤ i4 ∧ i4 < l0.length) ∧ (
  if ((decide (at5 < (out3.length : Int))) && (decide (out3[at5.toNat]! < l0[i4.toNat]!))) = true then
    (inI64 (at5 + 1)) ∧ (
    o = (.inl (at5 + 1)))
  else
    o = (.inr at5))

def risingR_k2a (l0 : (List Int)) (out3 : (List Int)) (i4 : Int) (at5 : Int) (o : ((List Int) × Int) ⊕ ((List Int))) : Prop :=
  (((decide (at5 < (out3.length : Int))) = true) → 0 ≤ at5 ∧ at5 < out3.length) ∧ (((decide (at5 < (out3.length : Int))) = true) → 0 ≤ i4 ∧ i4 < l0.length) ∧ (
  if ((decide (at5 < (out3.length : Int))) && (decide (out3[at5.toNat]! = l0[i4.toNat]!))) = true then
    (inI64 (i4 + 1)) ∧ (
    o = (.inl (out3, i4 + 1)))
  else
    (0 ≤ at5 ∧ at5 ≤ out3.length) ∧ (
    (0 ≤ i4 ∧ i4 < l0.length) ∧ (
    (0 ≤ at5 ∧ at5 ≤ out3.length) ∧ (
    ((0 + ((out3.take at5.toNat).drop 0).length) * 8 ≤ 140737488355328) ∧ (
    ((([] ++ (out3.take at5.toNat).drop 0).length + 1) * 8 ≤ 140737488355328) ∧ (
    (((([] ++ (out3.take at5.toNat).drop 0) ++ [l0[i4.toNat]!]).length + ((out3.take out3.length).drop at5.toNat).length) * 8 ≤ 140737488355328) ∧ (
    (inI64 (i4 + 1)) ∧ (
    o = (.inl (((([] ++ (out3.take at5.toNat).drop 0) ++ [l0[i4.toNat]!]) ++ (out3.take out3.length).drop at5.toNat), i4 + 1))))))))))

def risingR_l1 (l0 : (List Int)) (out3 : (List Int)) (i4 : Int) (o : ((List Int) × Int) ⊕ ((List Int))) : Prop :=
  if i4 < (l0.length : Int) then
    ∃ x : Int, Wh (fun (s : Int) (o : (Int) ⊕ (Int)) => risingR_l2 l0 out3 i4 s o) (0 : Int) x ∧ risingR_k2a l0 out3 i4 x o
  else
    o = (.inr out3)

def risingR_k1a (out3 : (List Int)) (r : (List Int)) : Prop :=
  r = (out3)

def risingR_S (l0 : (List Int)) (r : (List Int)) : Prop :=
  ∃ x : (List Int), Wh (fun (s : (List Int) × Int) (o : ((List Int) × Int) ⊕ ((List Int))) => risingR_l1 l0 s.1 s.2 o) (([], 0) : (List Int) × Int) x ∧ risingR_k1a x r

def timeR_S (now0 : Int) (r : Bool) : Prop :=
  r = ((decide (0 ≤ now0)) && (decide (now0 ≤ 1099511627776)))

def timeR_F (now0 : Int) : Bool :=
  (decide (0 ≤ now0)) && (decide (now0 ≤ 1099511627776))

theorem timeR_ok (now0 : Int) : timeR_S now0 (timeR_F now0) := by
  obtain ⟨r, hr⟩ : ∃ r, r = timeR_F now0 := ⟨_, rfl⟩
  rw [← hr]
  unfold timeR_F at hr
  unfold timeR_S
  exact hr

def cof_l1 (c0 : (Nat → Int)) (tx1 : Int) (whose6 : Int) (x16 : Int) (o : (Int × Int) ⊕ (Int)) : Prop :=
  if x16 < 9 then
    (0 ≤ x16 ∧ x16 < 9) ∧ (
    if ((decide (x16 = 0)) || (decide (tx1 < 1))) = true then
      (inI64 (x16 + 1)) ∧ (
      o = (.inl (whose6, x16 + 1)))
    else
      if c0 (1 + (x16.toNat * 3)) = tx1 then
        o = (.inr x16)
      else
        (inI64 (x16 + 1)) ∧ (
        o = (.inl (whose6, x16 + 1))))
  else
    o = (.inr whose6)

def cof_k1a (whose6 : Int) (r : Int × Int) : Prop :=
  if whose6 = 0 then
    r = ((0, 10))
  else
    r = ((whose6, 0))

def cof_S (c0 : (Nat → Int)) (tx1 : Int) (r : Int × Int) : Prop :=
  ∃ x : Int, Wh (fun (s : Int × Int) (o : (Int × Int) ⊕ (Int)) => cof_l1 c0 tx1 s.1 s.2 o) ((0, 0) : Int × Int) x ∧ cof_k1a x r

def ofR_l1 (l0 : (List (Nat → Int))) (tx1 : Int) (i5 : Int) (o : (Int) ⊕ ((Unit) ⊕ (Int))) : Prop :=
  if i5 < (l0.length : Int) then
    (((decide (0 < tx1)) = true) → 0 ≤ i5 ∧ i5 < l0.length) ∧ (
    if ((decide (0 < tx1)) && (decide ((l0[i5.toNat]!) 0 = tx1))) = true then
      (inI64 (i5 + 1)) ∧ (
      o = (.inr (.inr (i5 + 1))))
    else
      (inI64 (i5 + 1)) ∧ (
      o = (.inl (i5 + 1))))
  else
    o = (.inr (.inl ()))

def ofR_k1a (r : Int) : Prop :=
  r = (0)

def ofR_k1b (x4 : Int) (r : Int) : Prop :=
  r = (x4)

def ofR_S (l0 : (List (Nat → Int))) (tx1 : Int) (r : Int) : Prop :=
  ∃ x : (Unit) ⊕ (Int), Wh (fun (s : Int) (o : (Int) ⊕ ((Unit) ⊕ (Int))) => ofR_l1 l0 tx1 s o) (0 : Int) x ∧ (match x with | .inl _ => ofR_k1a r | .inr x4 => ofR_k1b x4 r)

end Go.E
