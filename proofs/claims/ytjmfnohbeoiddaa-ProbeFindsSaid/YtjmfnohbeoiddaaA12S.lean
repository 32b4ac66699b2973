/- What functions of the program say, as relations. -/
import Derived.Test.YtjmfnohbeoiddaaPM
import Derived.Test.YtjmfnohbeoiddaaPCd
set_option maxHeartbeats 1000000
set_option linter.unusedVariables false
set_option linter.unusedSimpArgs false
set_option maxRecDepth 100000
namespace Go.E
open Go

def isP_S (m0 : (Nat → Int)) (r : Bool) : Prop :=
  r = ((decide (m0 0 = 11)) && (decide ((msgOk_F m0) = 0)))

def isP_F (m0 : (Nat → Int)) : Bool :=
  (decide (m0 0 = 11)) && (decide ((msgOk_F m0) = 0))

theorem isP_ok (m0 : (Nat → Int)) : isP_S m0 (isP_F m0) := by
  obtain ⟨r, hr⟩ : ∃ r, r = isP_F m0 := ⟨_, rfl⟩
  rw [← hr]
  unfold isP_F at hr
  unfold isP_S
  exact hr

def onward_S (shard0 : Int) (m1 : (Nat → Int)) (r : (Nat → Int) × Int) : Prop :=
  if ((isP_F m1)) = true then
    if ((isP_F (updI (updI m1 1 0) 2 shard0))) = true then
      r = (((updI (updI m1 1 0) 2 shard0), 0))
    else
      r = (((fun _ => 0), 1))
  else
    r = (((fun _ => 0), 5))

def onward_F (shard0 : Int) (m1 : (Nat → Int)) : (Nat → Int) × Int :=
  if ((isP_F m1)) = true then
    if ((isP_F (updI (updI m1 1 0) 2 shard0))) = true then
      ((updI (updI m1 1 0) 2 shard0), 0)
    else
      ((fun _ => 0), 1)
  else
    ((fun _ => 0), 5)

theorem onward_ok (shard0 : Int) (m1 : (Nat → Int)) : onward_S shard0 m1 (onward_F shard0 m1) := by
  obtain ⟨r, hr⟩ : ∃ r, r = onward_F shard0 m1 := ⟨_, rfl⟩
  rw [← hr]
  unfold onward_F at hr
  unfold onward_S
  by_cases hp13 : ((isP_F m1)) = true
  · rw [if_pos hp13] at hr ⊢
    by_cases hp14 : ((isP_F (updI (updI m1 1 0) 2 shard0))) = true
    · rw [if_pos hp14] at hr ⊢
      exact hr
    · rw [if_neg hp14] at hr ⊢
      exact hr
  · rw [if_neg hp13] at hr ⊢
    exact hr

def victim_l1 (m0 : (Nat → Int)) (n4 : Int) (x14 : Int) (o : (Int × Int) ⊕ (Int)) : Prop :=
  if x14 < ((m0 11).toNat : Int) then
    (0 ≤ x14 ∧ x14 < ((m0 11).toNat : Nat)) ∧ (
    (inI64 (x14 + 1)) ∧ (
    o = (.inl ((if n4 < (m0 (12 + (x14.toNat * 2))) then (m0 (12 + (x14.toNat * 2))) else n4), x14 + 1))))
  else
    o = (.inr n4)

def victim_k1a (n4 : Int) (r : Int × Int) : Prop :=
  r = ((n4, 0))

def victim_S (m0 : (Nat → Int)) (r : Int × Int) : Prop :=
  if ((isP_F m0)) = true then
    (0 ≤ m0 11 ∧ m0 11 ≤ 8) ∧ (
    ∃ x : Int, Wh (fun (s : Int × Int) (o : (Int × Int) ⊕ (Int)) => victim_l1 m0 s.1 s.2 o) ((0, 0) : Int × Int) x ∧ victim_k1a x r)
  else
    r = ((0, 5))

def back_S (m0 : (Nat → Int)) (r : Bool) : Prop :=
  if ((!((isP_F m0))) || (!(decide (m0 9 = m0 12)))) = true then
    r = (false)
  else
    if m0 10 = 0 then
      r = (true)
    else
      if m0 10 = m0 13 then
        r = (true)
      else
        r = (false)

def back_F (m0 : (Nat → Int)) : Bool :=
  if ((!((isP_F m0))) || (!(decide (m0 9 = m0 12)))) = true then
    false
  else
    if m0 10 = 0 then
      true
    else
      if m0 10 = m0 13 then
        true
      else
        false

theorem back_ok (m0 : (Nat → Int)) : back_S m0 (back_F m0) := by
  obtain ⟨r, hr⟩ : ∃ r, r = back_F m0 := ⟨_, rfl⟩
  rw [← hr]
  unfold back_F at hr
  unfold back_S
  by_cases hp15 : ((!((isP_F m0))) || (!(decide (m0 9 = m0 12)))) = true
  · rw [if_pos hp15] at hr ⊢
    exact hr
  · rw [if_neg hp15] at hr ⊢
    by_cases hp16 : m0 10 = 0
    · rw [if_pos hp16] at hr ⊢
      exact hr
    · rw [if_neg hp16] at hr ⊢
      by_cases hp17 : m0 10 = m0 13
      · rw [if_pos hp17] at hr ⊢
        exact hr
      · rw [if_neg hp17] at hr ⊢
        exact hr

def live_l2 (m0 : (Nat → Int)) (open1 : (List (Nat → Int))) (x8 : Int) (x8a : Int) (o : (Int) ⊕ ((Unit) ⊕ (Int))) : Prop :=
  if x8a < (open1.length : Int) then
    (0 ≤ x8a ∧ x8a < open1.length) ∧ (
    if ((eqN 2 (fun i => m0 ((12 + (x8.toNat * 2)) + i)) (open1[x8a.toNat]!))) = true then
      o = (.inr (.inr x8a))
    else
      (inI64 (x8a + 1)) ∧ (
      o = (.inl (x8a + 1))))
  else
    o = (.inr (.inl ()))

def live_k2a (x8 : Int) (o : (Int) ⊕ ((Unit) ⊕ (Int))) : Prop :=
  o = (.inr (.inr x8))

def live_k2b (x8 : Int) (x4 : Int) (o : (Int) ⊕ ((Unit) ⊕ (Int))) : Prop :=
  if 0 ≤ x4 then
    (inI64 (x8 + 1)) ∧ (
    o = (.inl (x8 + 1)))
  else
    o = (.inr (.inr x8))

def live_l1 (m0 : (Nat → Int)) (open1 : (List (Nat → Int))) (x8 : Int) (o : (Int) ⊕ ((Unit) ⊕ (Int))) : Prop :=
  if x8 < ((m0 11).toNat : Int) then
    (0 ≤ x8 ∧ x8 < ((m0 11).toNat : Nat)) ∧ (
    ∃ x : (Unit) ⊕ (Int), Wh (fun (s : Int) (o : (Int) ⊕ ((Unit) ⊕ (Int))) => live_l2 m0 open1 x8 s o) (0 : Int) x ∧ (match x with | .inl _ => live_k2a x8 o | .inr x4 => live_k2b x8 x4 o))
  else
    o = (.inr (.inl ()))

def live_k1a (r : Bool) : Prop :=
  r = (true)

def live_k1b (x4 : Int) (r : Bool) : Prop :=
  r = (!(decide (0 ≤ x4)))

def live_S (m0 : (Nat → Int)) (open1 : (List (Nat → Int))) (r : Bool) : Prop :=
  if ((isP_F m0)) = true then
    (0 ≤ m0 11 ∧ m0 11 ≤ 8) ∧ (
    ∃ x : (Unit) ⊕ (Int), Wh (fun (s : Int) (o : (Int) ⊕ ((Unit) ⊕ (Int))) => live_l1 m0 open1 s o) (0 : Int) x ∧ (match x with | .inl _ => live_k1a r | .inr x4 => live_k1b x4 r))
  else
    r = (false)

def stops_l1 (m0 : (Nat → Int)) (x8 : Int) (o : (Int) ⊕ ((Unit) ⊕ (Int))) : Prop :=
  if x8 < ((m0 11).toNat : Int) then
    (0 ≤ x8 ∧ x8 < ((m0 11).toNat : Nat)) ∧ (
    if m0 (12 + (x8.toNat * 2)) = m0 9 then
      o = (.inr (.inr x8))
    else
      (inI64 (x8 + 1)) ∧ (
      o = (.inl (x8 + 1))))
  else
    o = (.inr (.inl ()))

def stops_k1a (m0 : (Nat → Int)) (r : Int) : Prop :=
  if m0 11 = 8 then
    r = (7)
  else
    r = (0)

def stops_k1b (m0 : (Nat → Int)) (x4 : Int) (r : Int) : Prop :=
  if 0 ≤ x4 then
    r = (11)
  else
    if m0 11 = 8 then
      r = (7)
    else
      r = (0)

def stops_S (m0 : (Nat → Int)) (seq1 : Int) (r : Int) : Prop :=
  if ((isP_F m0)) = true then
    if ((!(decide (m0 10 = 0))) && (!(decide (m0 10 = seq1)))) = true then
      r = (14)
    else
      (0 ≤ m0 11 ∧ m0 11 ≤ 8) ∧ (
      ∃ x : (Unit) ⊕ (Int), Wh (fun (s : Int) (o : (Int) ⊕ ((Unit) ⊕ (Int))) => stops_l1 m0 s o) (0 : Int) x ∧ (match x with | .inl _ => stops_k1a m0 r | .inr x4 => stops_k1b m0 x4 r))
  else
    r = (5)

def longer_l1 (shard0 : Int) (m1 : (Nat → Int)) (ww2 : (Nat → Int)) (l3 : (List (Nat → Int))) (out8 : (List (Nat → Int))) (x15 : Int) (o : ((List (Nat → Int)) × Int) ⊕ (((List (Nat → Int))) ⊕ (Unit))) : Prop :=
  if x15 < (l3.length : Int) then
    (0 ≤ x15 ∧ x15 < l3.length) ∧ (
    if ((!(decide ((l3[x15.toNat]!) 0 = ww2 0))) || (!(decide ((l3[x15.toNat]!) 1 = ww2 1)))) = true then
      (inI64 (x15 + 1)) ∧ (
      o = (.inl (out8, x15 + 1)))
    else
      if ((isP_F (updI (updI (updI (updRI (updI (updI (updI m1 0 11) 1 shard0) 2 0) (12 + ((m1 11).toNat * 2)) 2 ww2) 11 (((updRI (updI (updI (updI m1 0 11) 1 shard0) 2 0) (12 + ((m1 11).toNat * 2)) 2 ww2) 11) + 1)) 9 ((l3[x15.toNat]!) 2)) 10 ((l3[x15.toNat]!) 3)))) = true then
        ((out8.length + 1) * 224 ≤ 140737488355328) ∧ (
        (inI64 (x15 + 1)) ∧ (
        o = (.inl ((out8 ++ [(updI (updI (updI (updRI (updI (updI (updI m1 0 11) 1 shard0) 2 0) (12 + ((m1 11).toNat * 2)) 2 ww2) 11 (((updRI (updI (updI (updI m1 0 11) 1 shard0) 2 0) (12 + ((m1 11).toNat * 2)) 2 ww2) 11) + 1)) 9 ((l3[x15.toNat]!) 2)) 10 ((l3[x15.toNat]!) 3))]), x15 + 1))))
      else
        o = (.inr (.inr ())))
  else
    o = (.inr (.inl out8))

def longer_k1a (out8 : (List (Nat → Int))) (r : (List (Nat → Int)) × Int) : Prop :=
  r = ((out8, 0))

def longer_k1b (r : (List (Nat → Int)) × Int) : Prop :=
  r = (([], 1))

def longer_S (shard0 : Int) (m1 : (Nat → Int)) (ww2 : (Nat → Int)) (l3 : (List (Nat → Int))) (r : (List (Nat → Int)) × Int) : Prop :=
  (0 ≤ m1 11 ∧ m1 11 < 8) ∧ (
  (inI64 (((updRI (updI (updI (updI m1 0 11) 1 shard0) 2 0) (12 + ((m1 11).toNat * 2)) 2 ww2) 11) + 1)) ∧ (
  ∃ x : ((List (Nat → Int))) ⊕ (Unit), Wh (fun (s : (List (Nat → Int)) × Int) (o : ((List (Nat → Int)) × Int) ⊕ (((List (Nat → Int))) ⊕ (Unit))) => longer_l1 shard0 m1 ww2 l3 s.1 s.2 o) (([], 0) : (List (Nat → Int)) × Int) x ∧ (match x with | .inl out8 => longer_k1a out8 r | .inr _ => longer_k1b r)))

end Go.E
