/- What functions of the program say, as relations. -/
import Derived.Test.YtljklmlodfbdnaaGreatEB
import Derived.Test.YtljklmlodfbdnaaGreatMAS
import Derived.Test.YtljklmlodfbdnaaGreatPCd
import Derived.Test.YtljklmlodfbdnaaGreatE20
import Derived.Test.YtljklmlodfbdnaaGreatE24
import Derived.Test.YtljklmlodfbdnaaGreatL5
import Derived.Test.YtljklmlodfbdnaaGreatE23
set_option maxHeartbeats 1000000
set_option linter.unusedVariables false
set_option linter.unusedSimpArgs false
set_option maxRecDepth 100000
namespace Go.E
open Go

def cloneI_S (s0 : (List Int)) (r : (List Int)) : Prop :=
  (s0 = [] → (
    r = ([]))) ∧ (
    ((0 + s0.length) * 8 ≤ 140737488355328) ∧ (
    r = (([] ++ s0))))

def cloneG_S (s0 : (List (Nat → Int))) (r : (List (Nat → Int))) : Prop :=
  (s0 = [] → (
    r = ([]))) ∧ (
    ((0 + s0.length) * 40 ≤ 140737488355328) ∧ (
    r = (([] ++ s0))))

def tfree_S (t0Tx : Int) (t0State : Int) (t0Reason : Int) (t0Seq : Int) (t0Open : Bool) (t0Shard : Int) (t0At : (Nat → Int)) (t0Mode : Int) (t0Touched : (List Int)) (t0Votes : (List Int)) (t0Acks : (List Int)) (t0Got : (List (Nat → Int))) (r : Int) : Prop :=
  if t0State = 1 then
    if (t0Open) = true then
      r = (8)
    else
      r = (0)
  else
    r = (11)

def tfree_F (t0Tx : Int) (t0State : Int) (t0Reason : Int) (t0Seq : Int) (t0Open : Bool) (t0Shard : Int) (t0At : (Nat → Int)) (t0Mode : Int) (t0Touched : (List Int)) (t0Votes : (List Int)) (t0Acks : (List Int)) (t0Got : (List (Nat → Int))) : Int :=
  if t0State = 1 then
    if (t0Open) = true then
      8
    else
      0
  else
    11

theorem tfree_ok (t0Tx : Int) (t0State : Int) (t0Reason : Int) (t0Seq : Int) (t0Open : Bool) (t0Shard : Int) (t0At : (Nat → Int)) (t0Mode : Int) (t0Touched : (List Int)) (t0Votes : (List Int)) (t0Acks : (List Int)) (t0Got : (List (Nat → Int))) : tfree_S t0Tx t0State t0Reason t0Seq t0Open t0Shard t0At t0Mode t0Touched t0Votes t0Acks t0Got (tfree_F t0Tx t0State t0Reason t0Seq t0Open t0Shard t0At t0Mode t0Touched t0Votes t0Acks t0Got) := by
  obtain ⟨r, hr⟩ : ∃ r, r = tfree_F t0Tx t0State t0Reason t0Seq t0Open t0Shard t0At t0Mode t0Touched t0Votes t0Acks t0Got := ⟨_, rfl⟩
  rw [← hr]
  unfold tfree_F at hr
  unfold tfree_S
  by_cases hp13 : t0State = 1
  · rw [if_pos hp13] at hr ⊢
    by_cases hp14 : (t0Open) = true
    · rw [if_pos hp14] at hr ⊢
      exact hr
    · rw [if_neg hp14] at hr ⊢
      exact hr
  · rw [if_neg hp13] at hr ⊢
    exact hr

def tlock_S (t0Tx : Int) (t0State : Int) (t0Reason : Int) (t0Seq : Int) (t0Open : Bool) (t0Shard : Int) (t0At : (Nat → Int)) (t0Mode : Int) (t0Touched : (List Int)) (t0Votes : (List Int)) (t0Acks : (List Int)) (t0Got : (List (Nat → Int))) (r : (Nat → Int)) : Prop :=
  r = ((updI (updRI (updI (updI (updI (updI (fun _ => 0) 0 1) 2 t0Shard) 3 t0Tx) 4 t0Seq) 5 2 t0At) 7 t0Mode))

def tlock_F (t0Tx : Int) (t0State : Int) (t0Reason : Int) (t0Seq : Int) (t0Open : Bool) (t0Shard : Int) (t0At : (Nat → Int)) (t0Mode : Int) (t0Touched : (List Int)) (t0Votes : (List Int)) (t0Acks : (List Int)) (t0Got : (List (Nat → Int))) : (Nat → Int) :=
  (updI (updRI (updI (updI (updI (updI (fun _ => 0) 0 1) 2 t0Shard) 3 t0Tx) 4 t0Seq) 5 2 t0At) 7 t0Mode)

theorem tlock_ok (t0Tx : Int) (t0State : Int) (t0Reason : Int) (t0Seq : Int) (t0Open : Bool) (t0Shard : Int) (t0At : (Nat → Int)) (t0Mode : Int) (t0Touched : (List Int)) (t0Votes : (List Int)) (t0Acks : (List Int)) (t0Got : (List (Nat → Int))) : tlock_S t0Tx t0State t0Reason t0Seq t0Open t0Shard t0At t0Mode t0Touched t0Votes t0Acks t0Got (tlock_F t0Tx t0State t0Reason t0Seq t0Open t0Shard t0At t0Mode t0Touched t0Votes t0Acks t0Got) := by
  obtain ⟨r, hr⟩ : ∃ r, r = tlock_F t0Tx t0State t0Reason t0Seq t0Open t0Shard t0At t0Mode t0Touched t0Votes t0Acks t0Got := ⟨_, rfl⟩
  rw [← hr]
  unfold tlock_F at hr
  unfold tlock_S
  exact hr

def tto_l1 (t0Tx : Int) (kind1 : Int) (code2 : Int) (shards3 : (List Int)) (out9 : (List (Nat → Int))) (x14 : Int) (o : ((List (Nat → Int)) × Int) ⊕ ((List (Nat → Int)))) : Prop :=
  if x14 < (shards3.length : Int) then
    (0 ≤ x14 ∧ x14 < shards3.length) ∧ (
    ((out9.length + 1) * 224 ≤ 140737488355328) ∧ (
    (inI64 (x14 + 1)) ∧ (
    o = (.inl ((out9 ++ [(updI (updI (updI (updI (fun _ => 0) 0 kind1) 2 (shards3[x14.toNat]!)) 3 t0Tx) 8 code2)]), x14 + 1)))))
  else
    o = (.inr out9)

def tto_k1a (out9 : (List (Nat → Int))) (r : (List (Nat → Int))) : Prop :=
  r = (out9)

def tto_S (t0Tx : Int) (t0State : Int) (t0Reason : Int) (t0Seq : Int) (t0Open : Bool) (t0Shard : Int) (t0At : (Nat → Int)) (t0Mode : Int) (t0Touched : (List Int)) (t0Votes : (List Int)) (t0Acks : (List Int)) (t0Got : (List (Nat → Int))) (kind1 : Int) (code2 : Int) (shards3 : (List Int)) (r : (List (Nat → Int))) : Prop :=
  ∃ x : (List (Nat → Int)), Wh (fun (s : (List (Nat → Int)) × Int) (o : ((List (Nat → Int)) × Int) ⊕ ((List (Nat → Int)))) => tto_l1 t0Tx kind1 code2 shards3 s.1 s.2 o) (([], 0) : (List (Nat → Int)) × Int) x ∧ tto_k1a x r

def sNaN_S (x0 : Int) (r : Bool) : Prop :=
  r = (!(decide (x0 = x0)))

def sNaN_F (x0 : Int) : Bool :=
  !(decide (x0 = x0))

theorem sNaN_ok (x0 : Int) : sNaN_S x0 (sNaN_F x0) := by
  obtain ⟨r, hr⟩ : ∃ r, r = sNaN_F x0 := ⟨_, rfl⟩
  rw [← hr]
  unfold sNaN_F at hr
  unfold sNaN_S
  exact hr

def cNaN_S (x0 : Int) (r : Bool) : Prop :=
  r = (!(decide (x0 = x0)))

def cNaN_F (x0 : Int) : Bool :=
  !(decide (x0 = x0))

theorem cNaN_ok (x0 : Int) : cNaN_S x0 (cNaN_F x0) := by
  obtain ⟨r, hr⟩ : ∃ r, r = cNaN_F x0 := ⟨_, rfl⟩
  rw [← hr]
  unfold cNaN_F at hr
  unfold cNaN_S
  exact hr

def less_S (x0 : Int) (y1 : Int) (r : Bool) : Prop :=
  r = ((((cNaN_F x0)) && (!((cNaN_F y1)))) || (decide (x0 < y1)))

def less_F (x0 : Int) (y1 : Int) : Bool :=
  (((cNaN_F x0)) && (!((cNaN_F y1)))) || (decide (x0 < y1))

theorem less_ok (x0 : Int) (y1 : Int) : less_S x0 y1 (less_F x0 y1) := by
  obtain ⟨r, hr⟩ : ∃ r, r = less_F x0 y1 := ⟨_, rfl⟩
  rw [← hr]
  unfold less_F at hr
  unfold less_S
  exact hr

def search_l1 (x0 : (List Int)) (target1 : Int) (i7 : Int) (j8 : Int) (o : (Int × Int) ⊕ (Int)) : Prop :=
  if i7 < j8 then
    (inI64 (i7 + j8)) ∧ (
    (0 ≤ IntKind.i64.wrap ((IntKind.u64.wrap (i7 + j8)) / 2) ∧ IntKind.i64.wrap ((IntKind.u64.wrap (i7 + j8)) / 2) < x0.length) ∧ (
    (
      if ((less_F (x0[(IntKind.i64.wrap ((IntKind.u64.wrap (i7 + j8)) / 2)).toNat]!) target1)) = true then
        (inI64 ((IntKind.i64.wrap ((IntKind.u64.wrap (i7 + j8)) / 2)) + 1)) ∧ (
        True)
      else
        True) ∧ (
    o = (.inl ((if ((less_F (x0[(IntKind.i64.wrap ((IntKind.u64.wrap (i7 + j8)) / 2)).toNat]!) target1)) = true then (IntKind.i64.wrap ((IntKind.u64.wrap (i7 + j8)) / 2)) + 1 else i7), (if ((less_F (x0[(IntKind.i64.wrap ((IntKind.u64.wrap (i7 + j8)) / 2)).toNat]!) target1)) = true then j8 else IntKind.i64.wrap ((IntKind.u64.wrap (i7 + j8)) / 2)))))))
  else
    o = (.inr i7)

def search_k1a (x0 : (List Int)) (target1 : Int) (i7 : Int) (r : Int × Bool) : Prop :=
  (((decide (i7 < (x0.length : Int))) = true) → 0 ≤ i7 ∧ i7 < x0.length) ∧ (((decide (i7 < (x0.length : Int))) = true) → ((decide (x0[i7.toNat]! = target1)) = false) → 0 ≤ i7 ∧ i7 < x0.length) ∧ (
  r = ((i7, (decide (i7 < (x0.length : Int))) && ((decide (x0[i7.toNat]! = target1)) || (((sNaN_F (x0[i7.toNat]!))) && ((sNaN_F target1)))))))

def search_S (x0 : (List Int)) (target1 : Int) (r : Int × Bool) : Prop :=
  ∃ x : Int, Wh (fun (s : Int × Int) (o : (Int × Int) ⊕ (Int)) => search_l1 x0 target1 s.1 s.2 o) ((0, (x0.length : Int)) : Int × Int) x ∧ search_k1a x0 target1 x r

def cof_l1 (c0 : (Nat → Int)) (tx1 : Int) (whose6 : Int) (x16 : Int) (o : (Int × Int) ⊕ (Int)) : Prop :=
  if x16 < 9 then
    (0 ≤ x16 ∧ x16 < 9) ∧ (
    if ((decide (x16 = 0)) || (decide (tx1 < 1))) = true then
      (inI64 (x16 + 1)) ∧ (
      o = (.inl (whose6, x16 + 1)))
    else
      if c0 (1 + (x16.toNat * 3)) = tx1 then
        o = (.inr x16)
      else
        (inI64 (x16 + 1)) ∧ (
        o = (.inl (whose6, x16 + 1))))
  else
    o = (.inr whose6)

def cof_k1a (whose6 : Int) (r : Int × Int) : Prop :=
  if whose6 = 0 then
    r = ((0, 10))
  else
    r = ((whose6, 0))

def cof_S (c0 : (Nat → Int)) (tx1 : Int) (r : Int × Int) : Prop :=
  ∃ x : Int, Wh (fun (s : Int × Int) (o : (Int × Int) ⊕ (Int)) => cof_l1 c0 tx1 s.1 s.2 o) ((0, 0) : Int × Int) x ∧ cof_k1a x r

def resShard_S (r0 : (Nat → Int)) (n1 : Int) (r : Int × Int) : Prop :=
  if ((resOk_F r0)) = true then
    if ((decide (n1 < 1)) || (decide (64 < n1))) = true then
      r = ((0, 2))
    else
      (inI64 ((r0 0) - 1)) ∧ (
      (n1 ≠ 0) ∧ (
      (inI64 ((((r0 0) - 1).tmod n1) + 1)) ∧ (
      r = (((((r0 0) - 1).tmod n1) + 1, 0)))))
  else
    r = ((0, 1))

def resShard_F (r0 : (Nat → Int)) (n1 : Int) : Int × Int :=
  if ((resOk_F r0)) = true then
    if ((decide (n1 < 1)) || (decide (64 < n1))) = true then
      (0, 2)
    else
      ((((r0 0) - 1).tmod n1) + 1, 0)
  else
    (0, 1)

def resShard_P (r0 : (Nat → Int)) (n1 : Int) : Prop :=
  if ((resOk_F r0)) = true then
    if ((decide (n1 < 1)) || (decide (64 < n1))) = true then
      True
    else
      (inI64 ((r0 0) - 1)) ∧ (
      (n1 ≠ 0) ∧ (
      (inI64 ((((r0 0) - 1).tmod n1) + 1)) ∧ (
      True)))
  else
    True

theorem resShard_ok (r0 : (Nat → Int)) (n1 : Int) (hP : resShard_P r0 n1) : resShard_S r0 n1 (resShard_F r0 n1) := by
  obtain ⟨r, hr⟩ : ∃ r, r = resShard_F r0 n1 := ⟨_, rfl⟩
  rw [← hr]
  unfold resShard_F at hr
  unfold resShard_S
  unfold resShard_P at hP
  by_cases hp20 : ((resOk_F r0)) = true
  · rw [if_pos hp20] at hr hP ⊢
    by_cases hp21 : ((decide (n1 < 1)) || (decide (64 < n1))) = true
    · rw [if_pos hp21] at hr hP ⊢
      exact hr
    · rw [if_neg hp21] at hr hP ⊢
      obtain ⟨hq0, hP⟩ := hP
      refine ⟨hq0, ?_⟩
      obtain ⟨hq0, hP⟩ := hP
      refine ⟨hq0, ?_⟩
      obtain ⟨hq0, hP⟩ := hP
      refine ⟨hq0, ?_⟩
      exact hr
  · rw [if_neg hp20] at hr hP ⊢
    exact hr

end Go.E
