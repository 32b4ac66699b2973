/- What functions of the program say, as relations. -/
import Derived.Test.YtmfbefghdaiicaaEB
set_option maxHeartbeats 1000000
set_option linter.unusedVariables false
set_option linter.unusedSimpArgs false
set_option maxRecDepth 100000
namespace Go.E
open Go

def inn_S (n0 : Int) (low1 : Int) (high2 : Int) (r : Bool) : Prop :=
  r = ((decide (low1 ≤ n0)) && (decide (n0 ≤ high2)))

def inn_F (n0 : Int) (low1 : Int) (high2 : Int) : Bool :=
  (decide (low1 ≤ n0)) && (decide (n0 ≤ high2))

theorem inn_ok (n0 : Int) (low1 : Int) (high2 : Int) : inn_S n0 low1 high2 (inn_F n0 low1 high2) := by
  obtain ⟨r, hr⟩ : ∃ r, r = inn_F n0 low1 high2 := ⟨_, rfl⟩
  rw [← hr]
  unfold inn_F at hr
  unfold inn_S
  exact hr

def shard_S (n0 : Int) (r : Bool) : Prop :=
  r = ((inn_F n0 1 64))

def shard_F (n0 : Int) : Bool :=
  (inn_F n0 1 64)

theorem shard_ok (n0 : Int) : shard_S n0 (shard_F n0) := by
  obtain ⟨r, hr⟩ : ∃ r, r = shard_F n0 := ⟨_, rfl⟩
  rw [← hr]
  unfold shard_F at hr
  unfold shard_S
  exact hr

def tx_S (n0 : Int) (r : Bool) : Prop :=
  r = ((inn_F n0 1 1048576))

def tx_F (n0 : Int) : Bool :=
  (inn_F n0 1 1048576)

theorem tx_ok (n0 : Int) : tx_S n0 (tx_F n0) := by
  obtain ⟨r, hr⟩ : ∃ r, r = tx_F n0 := ⟨_, rfl⟩
  rw [← hr]
  unfold tx_F at hr
  unfold tx_S
  exact hr

def ends_S (m0 : (Nat → Int)) (r : Bool) : Prop :=
  if m0 0 = 11 then
    if m0 1 = 0 then
      r = ((decide (m0 1 = 0)) && ((shard_F (m0 2))))
    else
      r = (((shard_F (m0 1))) && (decide (m0 2 = 0)))
  else
    if ((decide (m0 0 = 1)) || ((decide (m0 0 = 4)) || ((decide (m0 0 = 6)) || (decide (m0 0 = 8))))) = true then
      r = ((decide (m0 1 = 0)) && ((shard_F (m0 2))))
    else
      r = (((shard_F (m0 1))) && (decide (m0 2 = 0)))

def ends_F (m0 : (Nat → Int)) : Bool :=
  if m0 0 = 11 then
    if m0 1 = 0 then
      (decide (m0 1 = 0)) && ((shard_F (m0 2)))
    else
      ((shard_F (m0 1))) && (decide (m0 2 = 0))
  else
    if ((decide (m0 0 = 1)) || ((decide (m0 0 = 4)) || ((decide (m0 0 = 6)) || (decide (m0 0 = 8))))) = true then
      (decide (m0 1 = 0)) && ((shard_F (m0 2)))
    else
      ((shard_F (m0 1))) && (decide (m0 2 = 0))

theorem ends_ok (m0 : (Nat → Int)) : ends_S m0 (ends_F m0) := by
  obtain ⟨r, hr⟩ : ∃ r, r = ends_F m0 := ⟨_, rfl⟩
  rw [← hr]
  unfold ends_F at hr
  unfold ends_S
  by_cases hp1 : m0 0 = 11
  · rw [if_pos hp1] at hr ⊢
    by_cases hp2 : m0 1 = 0
    · rw [if_pos hp2] at hr ⊢
      exact hr
    · rw [if_neg hp2] at hr ⊢
      exact hr
  · rw [if_neg hp1] at hr ⊢
    by_cases hp3 : ((decide (m0 0 = 1)) || ((decide (m0 0 = 4)) || ((decide (m0 0 = 6)) || (decide (m0 0 = 8))))) = true
    · rw [if_pos hp3] at hr ⊢
      exact hr
    · rw [if_neg hp3] at hr ⊢
      exact hr

def resOk_S (r0 : (Nat → Int)) (r : Bool) : Prop :=
  r = ((((decide (1 ≤ r0 0)) && (decide (r0 0 ≤ 250))) && (decide (0 ≤ r0 1))) && (decide (r0 1 ≤ 250)))

def resOk_F (r0 : (Nat → Int)) : Bool :=
  (((decide (1 ≤ r0 0)) && (decide (r0 0 ≤ 250))) && (decide (0 ≤ r0 1))) && (decide (r0 1 ≤ 250))

theorem resOk_ok (r0 : (Nat → Int)) : resOk_S r0 (resOk_F r0) := by
  obtain ⟨r, hr⟩ : ∃ r, r = resOk_F r0 := ⟨_, rfl⟩
  rw [← hr]
  unfold resOk_F at hr
  unfold resOk_S
  exact hr

def path_l2 (m0 : (Nat → Int)) (x25 : Int) (x50 : Int) (o : (Int) ⊕ ((Unit) ⊕ (Unit))) : Prop :=
  if x50 < (x25.toNat : Int) then
    (0 ≤ x50 ∧ x50 < (x25.toNat : Nat)) ∧ (
    if m0 (12 + (x50.toNat * 2)) = m0 (12 + (x25.toNat * 2)) then
      o = (.inr (.inr ()))
    else
      (inI64 (x50 + 1)) ∧ (
      o = (.inl (x50 + 1))))
  else
    o = (.inr (.inl ()))

def path_k2a (x25 : Int) (o : (Int) ⊕ ((Unit) ⊕ (Unit))) : Prop :=
  (inI64 (x25 + 1)) ∧ (
  o = (.inl (x25 + 1)))

def path_k2b (o : (Int) ⊕ ((Unit) ⊕ (Unit))) : Prop :=
  o = (.inr (.inr ()))

def path_l1 (m0 : (Nat → Int)) (x25 : Int) (o : (Int) ⊕ ((Unit) ⊕ (Unit))) : Prop :=
  if x25 < 8 then
    (0 ≤ x25 ∧ x25 < 8) ∧ (
    if m0 11 ≤ x25 then
      if ((eqN 2 (fun i => (fun i => m0 (12 + i)) ((x25.toNat * 2) + i)) (fun _ => 0))) = true then
        (inI64 (x25 + 1)) ∧ (
        o = (.inl (x25 + 1)))
      else
        o = (.inr (.inr ()))
    else
      if ((!((tx_F (m0 (12 + (x25.toNat * 2)))))) || (!((inn_F (m0 (12 + ((x25.toNat * 2) + 1))) 1 1048576)))) = true then
        o = (.inr (.inr ()))
      else
        (0 ≤ x25 ∧ x25 ≤ 8) ∧ (
        ∃ x : (Unit) ⊕ (Unit), Wh (fun (s : Int) (o : (Int) ⊕ ((Unit) ⊕ (Unit))) => path_l2 m0 x25 s o) (0 : Int) x ∧ (match x with | .inl _ => path_k2a x25 o | .inr _ => path_k2b o)))
  else
    o = (.inr (.inl ()))

def path_k1a (r : Bool) : Prop :=
  r = (true)

def path_k1b (r : Bool) : Prop :=
  r = (false)

def path_S (m0 : (Nat → Int)) (r : Bool) : Prop :=
  if (((!((inn_F (m0 11) 1 8))) || (!((tx_F (m0 9))))) || (!((inn_F (m0 10) 0 1048576)))) = true then
    r = (false)
  else
    ∃ x : (Unit) ⊕ (Unit), Wh (fun (s : Int) (o : (Int) ⊕ ((Unit) ⊕ (Unit))) => path_l1 m0 s o) (0 : Int) x ∧ (match x with | .inl _ => path_k1a r | .inr _ => path_k1b r)

end Go.E
