/- What functions of the program say, as relations. -/
import Derived.Test.YtmfbefghdaiicaaPR
import Derived.Test.YtmfbefghdaiicaaPCd
import Derived.Test.YtmfbefghdaiicaaE20
import Derived.Test.YtmfbefghdaiicaaE24
import Derived.Test.YtmfbefghdaiicaaL5
set_option maxHeartbeats 1000000
set_option linter.unusedVariables false
set_option linter.unusedSimpArgs false
set_option maxRecDepth 100000
namespace Go.E
open Go

def ints_l1 (a0 : (List Int)) (b1 : (List Int)) (i5 : Int) (o : (Int) ⊕ ((Unit) ⊕ (Unit))) : Prop :=
  if i5 < (a0.length : Int) then
    (0 ≤ i5 ∧ i5 < a0.length) ∧ (
    (0 ≤ i5 ∧ i5 < b1.length) ∧ (
    if a0[i5.toNat]! = b1[i5.toNat]! then
      (inI64 (i5 + 1)) ∧ (
      o = (.inl (i5 + 1)))
    else
      o = (.inr (.inr ()))))
  else
    o = (.inr (.inl ()))

def ints_k1a (r : Bool) : Prop :=
  r = (true)

def ints_k1b (r : Bool) : Prop :=
  r = (false)

def ints_S (a0 : (List Int)) (b1 : (List Int)) (r : Bool) : Prop :=
  if (a0.length : Int) = (b1.length : Int) then
    ∃ x : (Unit) ⊕ (Unit), Wh (fun (s : Int) (o : (Int) ⊕ ((Unit) ⊕ (Unit))) => ints_l1 a0 b1 s o) (0 : Int) x ∧ (match x with | .inl _ => ints_k1a r | .inr _ => ints_k1b r)
  else
    r = (false)

def grants_l1 (a0 : (List (Nat → Int))) (b1 : (List (Nat → Int))) (i5 : Int) (o : (Int) ⊕ ((Unit) ⊕ (Unit))) : Prop :=
  if i5 < (a0.length : Int) then
    (0 ≤ i5 ∧ i5 < a0.length) ∧ (
    (0 ≤ i5 ∧ i5 < b1.length) ∧ (
    if ((eqN 5 (a0[i5.toNat]!) (b1[i5.toNat]!))) = true then
      (inI64 (i5 + 1)) ∧ (
      o = (.inl (i5 + 1)))
    else
      o = (.inr (.inr ()))))
  else
    o = (.inr (.inl ()))

def grants_k1a (r : Bool) : Prop :=
  r = (true)

def grants_k1b (r : Bool) : Prop :=
  r = (false)

def grants_S (a0 : (List (Nat → Int))) (b1 : (List (Nat → Int))) (r : Bool) : Prop :=
  if (a0.length : Int) = (b1.length : Int) then
    ∃ x : (Unit) ⊕ (Unit), Wh (fun (s : Int) (o : (Int) ⊕ ((Unit) ⊕ (Unit))) => grants_l1 a0 b1 s o) (0 : Int) x ∧ (match x with | .inl _ => grants_k1a r | .inr _ => grants_k1b r)
  else
    r = (false)

def cloneI_S (s0 : (List Int)) (r : (List Int)) : Prop :=
  (s0 = [] → (
    r = ([]))) ∧ (
    ((0 + s0.length) * 8 ≤ 140737488355328) ∧ (
    r = (([] ++ s0))))

def cloneG_S (s0 : (List (Nat → Int))) (r : (List (Nat → Int))) : Prop :=
  (s0 = [] → (
    r = ([]))) ∧ (
    ((0 + s0.length) * 40 ≤ 140737488355328) ∧ (
    r = (([] ++ s0))))

def tfree_S (t0Tx : Int) (t0State : Int) (t0Reason : Int) (t0Seq : Int) (t0Open : Bool) (t0Shard : Int) (t0At : (Nat → Int)) (t0Mode : Int) (t0Touched : (List Int)) (t0Votes : (List Int)) (t0Acks : (List Int)) (t0Got : (List (Nat → Int))) (r : Int) : Prop :=
  if t0State = 1 then
    if (t0Open) = true then
      r = (8)
    else
      r = (0)
  else
    r = (11)

def tfree_F (t0Tx : Int) (t0State : Int) (t0Reason : Int) (t0Seq : Int) (t0Open : Bool) (t0Shard : Int) (t0At : (Nat → Int)) (t0Mode : Int) (t0Touched : (List Int)) (t0Votes : (List Int)) (t0Acks : (List Int)) (t0Got : (List (Nat → Int))) : Int :=
  if t0State = 1 then
    if (t0Open) = true then
      8
    else
      0
  else
    11

theorem tfree_ok (t0Tx : Int) (t0State : Int) (t0Reason : Int) (t0Seq : Int) (t0Open : Bool) (t0Shard : Int) (t0At : (Nat → Int)) (t0Mode : Int) (t0Touched : (List Int)) (t0Votes : (List Int)) (t0Acks : (List Int)) (t0Got : (List (Nat → Int))) : tfree_S t0Tx t0State t0Reason t0Seq t0Open t0Shard t0At t0Mode t0Touched t0Votes t0Acks t0Got (tfree_F t0Tx t0State t0Reason t0Seq t0Open t0Shard t0At t0Mode t0Touched t0Votes t0Acks t0Got) := by
  obtain ⟨r, hr⟩ : ∃ r, r = tfree_F t0Tx t0State t0Reason t0Seq t0Open t0Shard t0At t0Mode t0Touched t0Votes t0Acks t0Got := ⟨_, rfl⟩
  rw [← hr]
  unfold tfree_F at hr
  unfold tfree_S
  by_cases hp13 : t0State = 1
  · rw [if_pos hp13] at hr ⊢
    by_cases hp14 : (t0Open) = true
    · rw [if_pos hp14] at hr ⊢
      exact hr
    · rw [if_neg hp14] at hr ⊢
      exact hr
  · rw [if_neg hp13] at hr ⊢
    exact hr

def tlock_S (t0Tx : Int) (t0State : Int) (t0Reason : Int) (t0Seq : Int) (t0Open : Bool) (t0Shard : Int) (t0At : (Nat → Int)) (t0Mode : Int) (t0Touched : (List Int)) (t0Votes : (List Int)) (t0Acks : (List Int)) (t0Got : (List (Nat → Int))) (r : (Nat → Int)) : Prop :=
  r = ((updI (updRI (updI (updI (updI (updI (fun _ => 0) 0 1) 2 t0Shard) 3 t0Tx) 4 t0Seq) 5 2 t0At) 7 t0Mode))

def tlock_F (t0Tx : Int) (t0State : Int) (t0Reason : Int) (t0Seq : Int) (t0Open : Bool) (t0Shard : Int) (t0At : (Nat → Int)) (t0Mode : Int) (t0Touched : (List Int)) (t0Votes : (List Int)) (t0Acks : (List Int)) (t0Got : (List (Nat → Int))) : (Nat → Int) :=
  (updI (updRI (updI (updI (updI (updI (fun _ => 0) 0 1) 2 t0Shard) 3 t0Tx) 4 t0Seq) 5 2 t0At) 7 t0Mode)

theorem tlock_ok (t0Tx : Int) (t0State : Int) (t0Reason : Int) (t0Seq : Int) (t0Open : Bool) (t0Shard : Int) (t0At : (Nat → Int)) (t0Mode : Int) (t0Touched : (List Int)) (t0Votes : (List Int)) (t0Acks : (List Int)) (t0Got : (List (Nat → Int))) : tlock_S t0Tx t0State t0Reason t0Seq t0Open t0Shard t0At t0Mode t0Touched t0Votes t0Acks t0Got (tlock_F t0Tx t0State t0Reason t0Seq t0Open t0Shard t0At t0Mode t0Touched t0Votes t0Acks t0Got) := by
  obtain ⟨r, hr⟩ : ∃ r, r = tlock_F t0Tx t0State t0Reason t0Seq t0Open t0Shard t0At t0Mode t0Touched t0Votes t0Acks t0Got := ⟨_, rfl⟩
  rw [← hr]
  unfold tlock_F at hr
  unfold tlock_S
  exact hr

def tto_l1 (t0Tx : Int) (kind1 : Int) (code2 : Int) (shards3 : (List Int)) (out9 : (List (Nat → Int))) (x14 : Int) (o : ((List (Nat → Int)) × Int) ⊕ ((List (Nat → Int)))) : Prop :=
  if x14 < (shards3.length : Int) then
    (0 ≤ x14 ∧ x14 < shards3.length) ∧ (
    ((out9.length + 1) * 224 ≤ 140737488355328) ∧ (
    (inI64 (x14 + 1)) ∧ (
    o = (.inl ((out9 ++ [(updI (updI (updI (updI (fun _ => 0) 0 kind1) 2 (shards3[x14.toNat]!)) 3 t0Tx) 8 code2)]), x14 + 1)))))
  else
    o = (.inr out9)

def tto_k1a (out9 : (List (Nat → Int))) (r : (List (Nat → Int))) : Prop :=
  r = (out9)

def tto_S (t0Tx : Int) (t0State : Int) (t0Reason : Int) (t0Seq : Int) (t0Open : Bool) (t0Shard : Int) (t0At : (Nat → Int)) (t0Mode : Int) (t0Touched : (List Int)) (t0Votes : (List Int)) (t0Acks : (List Int)) (t0Got : (List (Nat → Int))) (kind1 : Int) (code2 : Int) (shards3 : (List Int)) (r : (List (Nat → Int))) : Prop :=
  ∃ x : (List (Nat → Int)), Wh (fun (s : (List (Nat → Int)) × Int) (o : ((List (Nat → Int)) × Int) ⊕ ((List (Nat → Int)))) => tto_l1 t0Tx kind1 code2 shards3 s.1 s.2 o) (([], 0) : (List (Nat → Int)) × Int) x ∧ tto_k1a x r

def hasI_l1 (s0 : (List Int)) (v1 : Int) (x8 : Int) (o : (Int) ⊕ ((Unit) ⊕ (Int))) : Prop :=
  if x8 < (s0.length : Int) then
    (0 ≤ x8 ∧ x8 < s0.length) ∧ (
    if v1 = s0[x8.toNat]! then
      o = (.inr (.inr x8))
    else
      (inI64 (x8 + 1)) ∧ (
      o = (.inl (x8 + 1))))
  else
    o = (.inr (.inl ()))

def hasI_k1a (r : Bool) : Prop :=
  r = (false)

def hasI_k1b (x4 : Int) (r : Bool) : Prop :=
  r = (decide (0 ≤ x4))

def hasI_S (s0 : (List Int)) (v1 : Int) (r : Bool) : Prop :=
  ∃ x : (Unit) ⊕ (Int), Wh (fun (s : Int) (o : (Int) ⊕ ((Unit) ⊕ (Int))) => hasI_l1 s0 v1 s o) (0 : Int) x ∧ (match x with | .inl _ => hasI_k1a r | .inr x4 => hasI_k1b x4 r)

def hasR_l1 (l0 : (List Int)) (n1 : Int) (i5 : Int) (o : (Int) ⊕ ((Unit) ⊕ (Unit))) : Prop :=
  if i5 < (l0.length : Int) then
    (0 ≤ i5 ∧ i5 < l0.length) ∧ (
    if l0[i5.toNat]! = n1 then
      o = (.inr (.inr ()))
    else
      (inI64 (i5 + 1)) ∧ (
      o = (.inl (i5 + 1))))
  else
    o = (.inr (.inl ()))

def hasR_k1a (r : Bool) : Prop :=
  r = (false)

def hasR_k1b (r : Bool) : Prop :=
  r = (true)

def hasR_S (l0 : (List Int)) (n1 : Int) (r : Bool) : Prop :=
  ∃ x : (Unit) ⊕ (Unit), Wh (fun (s : Int) (o : (Int) ⊕ ((Unit) ⊕ (Unit))) => hasR_l1 l0 n1 s o) (0 : Int) x ∧ (match x with | .inl _ => hasR_k1a r | .inr _ => hasR_k1b r)

def risingR_l2 (l0 : (List Int)) (out3 : (List Int)) (i4 : Int) (at5 : Int) (o : (Int) ⊕ (Int)) : Prop :=
  (((decide (at5 < (out3.length : Int))) = true) → 0 ≤ at5 ∧ at5 < out3.length) ∧ (((decide (at5 < (out3.length : Int))) = true) → 0 ≤ i4 ∧ i4 < l0.length) ∧ (
  if ((decide (at5 < (out3.length : Int))) && (decide (out3[at5.toNat]! < l0[i4.toNat]!))) = true then
    (inI64 (at5 + 1)) ∧ (
    o = (.inl (at5 + 1)))
  else
    o = (.inr at5))

def risingR_k2a (l0 : (List Int)) (out3 : (List Int)) (i4 : Int) (at5 : Int) (o : ((List Int) × Int) ⊕ ((List Int))) : Prop :=
  (((decide (at5 < (out3.length : Int))) = true) → 0 ≤ at5 ∧ at5 < out3.length) ∧ (((decide (at5 < (out3.length : Int))) = true) → 0 ≤ i4 ∧ i4 < l0.length) ∧ (
  if ((decide (at5 < (out3.length : Int))) && (decide (out3[at5.toNat]! = l0[i4.toNat]!))) = true then
    (inI64 (i4 + 1)) ∧ (
    o = (.inl (out3, i4 + 1)))
  else
    (
      (0 ≤ at5 ∧ at5 ≤ out3.length) ∧ (
      (0 ≤ i4 ∧ i4 < l0.length) ∧ (
      (0 ≤ at5 ∧ at5 ≤ out3.length) ∧ (
      ((0 + ((out3.take at5.toNat).drop 0).length) * 8 ≤ 140737488355328) ∧ (
      ((([] ++ (out3.take at5.toNat).drop 0).length + 1) * 8 ≤ 140737488355328) ∧ (
      (((([] ++ (out3.take at5.toNat).drop 0) ++ [l0[i4.toNat]!]).length + ((out3.take out3.length).drop at5.toNat).length) * 8 ≤ 140737488355328) ∧ (
      True))))))) ∧ (
    (inI64 (i4 + 1)) ∧ (
    o = (.inl (((([] ++ (out3.take at5.toNat).drop 0) ++ [l0[i4.toNat]!]) ++ (out3.take out3.length).drop at5.toNat), i4 + 1)))))

def risingR_l1 (l0 : (List Int)) (out3 : (List Int)) (i4 : Int) (o : ((List Int) × Int) ⊕ ((List Int))) : Prop :=
  if i4 < (l0.length : Int) then
    ∃ x : Int, Wh (fun (s : Int) (o : (Int) ⊕ (Int)) => risingR_l2 l0 out3 i4 s o) (0 : Int) x ∧ risingR_k2a l0 out3 i4 x o
  else
    o = (.inr out3)

def risingR_k1a (out3 : (List Int)) (r : (List Int)) : Prop :=
  r = (out3)

def risingR_S (l0 : (List Int)) (r : (List Int)) : Prop :=
  ∃ x : (List Int), Wh (fun (s : (List Int) × Int) (o : ((List Int) × Int) ⊕ ((List Int))) => risingR_l1 l0 s.1 s.2 o) (([], 0) : (List Int) × Int) x ∧ risingR_k1a x r

def sNaN_S (x0 : Int) (r : Bool) : Prop :=
  r = (!(decide (x0 = x0)))

def sNaN_F (x0 : Int) : Bool :=
  !(decide (x0 = x0))

theorem sNaN_ok (x0 : Int) : sNaN_S x0 (sNaN_F x0) := by
  obtain ⟨r, hr⟩ : ∃ r, r = sNaN_F x0 := ⟨_, rfl⟩
  rw [← hr]
  unfold sNaN_F at hr
  unfold sNaN_S
  exact hr

def cNaN_S (x0 : Int) (r : Bool) : Prop :=
  r = (!(decide (x0 = x0)))

def cNaN_F (x0 : Int) : Bool :=
  !(decide (x0 = x0))

theorem cNaN_ok (x0 : Int) : cNaN_S x0 (cNaN_F x0) := by
  obtain ⟨r, hr⟩ : ∃ r, r = cNaN_F x0 := ⟨_, rfl⟩
  rw [← hr]
  unfold cNaN_F at hr
  unfold cNaN_S
  exact hr

def less_S (x0 : Int) (y1 : Int) (r : Bool) : Prop :=
  r = ((((cNaN_F x0)) && (!((cNaN_F y1)))) || (decide (x0 < y1)))

def less_F (x0 : Int) (y1 : Int) : Bool :=
  (((cNaN_F x0)) && (!((cNaN_F y1)))) || (decide (x0 < y1))

theorem less_ok (x0 : Int) (y1 : Int) : less_S x0 y1 (less_F x0 y1) := by
  obtain ⟨r, hr⟩ : ∃ r, r = less_F x0 y1 := ⟨_, rfl⟩
  rw [← hr]
  unfold less_F at hr
  unfold less_S
  exact hr

def search_l1 (x0 : (List Int)) (target1 : Int) (i7 : Int) (j8 : Int) (o : (Int × Int) ⊕ (Int)) : Prop :=
  if i7 < j8 then
    (inI64 (i7 + j8)) ∧ (
    (0 ≤ IntKind.i64.wrap ((IntKind.u64.wrap (i7 + j8)) / 2) ∧ IntKind.i64.wrap ((IntKind.u64.wrap (i7 + j8)) / 2) < x0.length) ∧ (
    (
      if ((less_F (x0[(IntKind.i64.wrap ((IntKind.u64.wrap (i7 + j8)) / 2)).toNat]!) target1)) = true then
        (inI64 ((IntKind.i64.wrap ((IntKind.u64.wrap (i7 + j8)) / 2)) + 1)) ∧ (
        True)
      else
        True) ∧ (
    o = (.inl ((if ((less_F (x0[(IntKind.i64.wrap ((IntKind.u64.wrap (i7 + j8)) / 2)).toNat]!) target1)) = true then (IntKind.i64.wrap ((IntKind.u64.wrap (i7 + j8)) / 2)) + 1 else i7), (if ((less_F (x0[(IntKind.i64.wrap ((IntKind.u64.wrap (i7 + j8)) / 2)).toNat]!) target1)) = true then j8 else IntKind.i64.wrap ((IntKind.u64.wrap (i7 + j8)) / 2)))))))
  else
    o = (.inr i7)

def search_k1a (x0 : (List Int)) (target1 : Int) (i7 : Int) (r : Int × Bool) : Prop :=
  (((decide (i7 < (x0.length : Int))) = true) → 0 ≤ i7 ∧ i7 < x0.length) ∧ (((decide (i7 < (x0.length : Int))) = true) → ((decide (x0[i7.toNat]! = target1)) = false) → 0 ≤ i7 ∧ i7 < x0.length) ∧ (
  r = ((i7, (decide (i7 < (x0.length : Int))) && ((decide (x0[i7.toNat]! = target1)) || (((sNaN_F (x0[i7.toNat]!))) && ((sNaN_F target1)))))))

def search_S (x0 : (List Int)) (target1 : Int) (r : Int × Bool) : Prop :=
  ∃ x : Int, Wh (fun (s : Int × Int) (o : (Int × Int) ⊕ (Int)) => search_l1 x0 target1 s.1 s.2 o) ((0, (x0.length : Int)) : Int × Int) x ∧ search_k1a x0 target1 x r

end Go.E
