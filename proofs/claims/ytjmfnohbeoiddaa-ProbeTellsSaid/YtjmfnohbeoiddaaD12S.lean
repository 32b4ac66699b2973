/- What functions of the program say, as relations. -/
import Derived.Test.YtjmfnohbeoiddaaPR
import Derived.Test.YtjmfnohbeoiddaaC12S
set_option maxHeartbeats 1000000
set_option linter.unusedVariables false
set_option linter.unusedSimpArgs false
set_option maxRecDepth 100000
namespace Go.E
open Go

def isR_S (m0 : (Nat → Int)) (r : Bool) : Prop :=
  r = ((decide (m0 0 = 11)) && ((okB m0)))

def isR_F (m0 : (Nat → Int)) : Bool :=
  (decide (m0 0 = 11)) && ((okB m0))

theorem isR_ok (m0 : (Nat → Int)) : isR_S m0 (isR_F m0) := by
  obtain ⟨r, hr⟩ : ∃ r, r = isR_F m0 := ⟨_, rfl⟩
  rw [← hr]
  unfold isR_F at hr
  unfold isR_S
  exact hr

def onR_l1 (shard0 : Int) (m1 : (Nat → Int)) (ww2 : (Nat → Int)) (l3 : (List (Nat → Int))) (out10 : (List (Nat → Int))) (i11 : Int) (o : ((List (Nat → Int)) × Int) ⊕ (((List (Nat → Int))) ⊕ (Unit))) : Prop :=
  if i11 < (l3.length : Int) then
    (0 ≤ i11 ∧ i11 < l3.length) ∧ (((decide (l3[i11.toNat]! 0 = ww2 0)) = true) → 0 ≤ i11 ∧ i11 < l3.length) ∧ (
    if ((decide (l3[i11.toNat]! 0 = ww2 0)) && (decide (l3[i11.toNat]! 1 = ww2 1))) = true then
      (inI64 ((m1 11) + 1)) ∧ (
      (0 ≤ i11 ∧ i11 < l3.length) ∧ (
      (0 ≤ i11 ∧ i11 < l3.length) ∧ (
      (0 ≤ m1 11 ∧ m1 11 < 8) ∧ (
      if ((isR_F (updRI (updRI (updI (updI (updI (updI (updI (fun _ => 0) 0 11) 1 shard0) 11 ((m1 11) + 1)) 9 (l3[i11.toNat]! 2)) 10 (l3[i11.toNat]! 3)) 12 16 (fun i => m1 (12 + i))) (12 + ((m1 11).toNat * 2)) 2 ww2))) = true then
        ((out10.length + 1) * 224 ≤ 140737488355328) ∧ (
        (inI64 (i11 + 1)) ∧ (
        o = (.inl ((out10 ++ [(updRI (updRI (updI (updI (updI (updI (updI (fun _ => 0) 0 11) 1 shard0) 11 ((m1 11) + 1)) 9 (l3[i11.toNat]! 2)) 10 (l3[i11.toNat]! 3)) 12 16 (fun i => m1 (12 + i))) (12 + ((m1 11).toNat * 2)) 2 ww2)]), i11 + 1))))
      else
        o = (.inr (.inr ()))))))
    else
      (inI64 (i11 + 1)) ∧ (
      o = (.inl (out10, i11 + 1))))
  else
    o = (.inr (.inl out10))

def onR_k1a (out10 : (List (Nat → Int))) (r : (List (Nat → Int)) × Bool) : Prop :=
  r = ((out10, true))

def onR_k1b (r : (List (Nat → Int)) × Bool) : Prop :=
  r = (([], false))

def onR_S (shard0 : Int) (m1 : (Nat → Int)) (ww2 : (Nat → Int)) (l3 : (List (Nat → Int))) (r : (List (Nat → Int)) × Bool) : Prop :=
  ∃ x : ((List (Nat → Int))) ⊕ (Unit), Wh (fun (s : (List (Nat → Int)) × Int) (o : ((List (Nat → Int)) × Int) ⊕ (((List (Nat → Int))) ⊕ (Unit))) => onR_l1 shard0 m1 ww2 l3 s.1 s.2 o) (([], 0) : (List (Nat → Int)) × Int) x ∧ (match x with | .inl out10 => onR_k1a out10 r | .inr _ => onR_k1b r)

def backR_S (m0 : (Nat → Int)) (r : Bool) : Prop :=
  r = ((((isR_F m0)) && (decide (m0 9 = m0 12))) && ((decide (m0 10 = 0)) || (decide (m0 10 = m0 13))))

def backR_F (m0 : (Nat → Int)) : Bool :=
  (((isR_F m0)) && (decide (m0 9 = m0 12))) && ((decide (m0 10 = 0)) || (decide (m0 10 = m0 13)))

theorem backR_ok (m0 : (Nat → Int)) : backR_S m0 (backR_F m0) := by
  obtain ⟨r, hr⟩ : ∃ r, r = backR_F m0 := ⟨_, rfl⟩
  rw [← hr]
  unfold backR_F at hr
  unfold backR_S
  exact hr

def liveR_l2 (m0 : (Nat → Int)) (open1 : (List (Nat → Int))) (i5 : Int) (there6 : Bool) (k7 : Int) (o : (Bool × Int) ⊕ (Bool)) : Prop :=
  if k7 < (open1.length : Int) then
    (((there6) = false) → 0 ≤ k7 ∧ k7 < open1.length) ∧ (((there6) = false) → 0 ≤ i5 ∧ i5 < 8) ∧ (
    (inI64 (k7 + 1)) ∧ (
    o = (.inl ((there6) || ((eqN 2 (open1[k7.toNat]!) (fun i => m0 ((12 + (i5.toNat * 2)) + i)))), k7 + 1))))
  else
    o = (.inr there6)

def liveR_k2a (i5 : Int) (there6 : Bool) (o : (Int) ⊕ ((Unit) ⊕ (Unit))) : Prop :=
  if (there6) = true then
    (inI64 (i5 + 1)) ∧ (
    o = (.inl (i5 + 1)))
  else
    o = (.inr (.inr ()))

def liveR_l1 (m0 : (Nat → Int)) (open1 : (List (Nat → Int))) (i5 : Int) (o : (Int) ⊕ ((Unit) ⊕ (Unit))) : Prop :=
  if i5 < m0 11 then
    ∃ x : Bool, Wh (fun (s : Bool × Int) (o : (Bool × Int) ⊕ (Bool)) => liveR_l2 m0 open1 i5 s.1 s.2 o) ((false, 0) : Bool × Int) x ∧ liveR_k2a i5 x o
  else
    o = (.inr (.inl ()))

def liveR_k1a (r : Bool) : Prop :=
  r = (true)

def liveR_k1b (r : Bool) : Prop :=
  r = (false)

def liveR_S (m0 : (Nat → Int)) (open1 : (List (Nat → Int))) (r : Bool) : Prop :=
  if ((isR_F m0)) = true then
    ∃ x : (Unit) ⊕ (Unit), Wh (fun (s : Int) (o : (Int) ⊕ ((Unit) ⊕ (Unit))) => liveR_l1 m0 open1 s o) (0 : Int) x ∧ (match x with | .inl _ => liveR_k1a r | .inr _ => liveR_k1b r)
  else
    r = (false)

def victimR_l1 (m0 : (Nat → Int)) (n3 : Int) (i4 : Int) (o : (Int × Int) ⊕ (Int)) : Prop :=
  if i4 < m0 11 then
    (0 ≤ i4 ∧ i4 < 8) ∧ (
    (
      if n3 < m0 (12 + (i4.toNat * 2)) then
        (0 ≤ i4 ∧ i4 < 8) ∧ (
        True)
      else
        True) ∧ (
    (inI64 (i4 + 1)) ∧ (
    o = (.inl ((if n3 < m0 (12 + (i4.toNat * 2)) then m0 (12 + (i4.toNat * 2)) else n3), i4 + 1)))))
  else
    o = (.inr n3)

def victimR_k1a (n3 : Int) (r : Int) : Prop :=
  r = (n3)

def victimR_S (m0 : (Nat → Int)) (r : Int) : Prop :=
  ∃ x : Int, Wh (fun (s : Int × Int) (o : (Int × Int) ⊕ (Int)) => victimR_l1 m0 s.1 s.2 o) ((m0 12, 0) : Int × Int) x ∧ victimR_k1a x r

def msgs_l1 (a0 : (List (Nat → Int))) (b1 : (List (Nat → Int))) (i5 : Int) (o : (Int) ⊕ ((Unit) ⊕ (Unit))) : Prop :=
  if i5 < (a0.length : Int) then
    (0 ≤ i5 ∧ i5 < a0.length) ∧ (
    (0 ≤ i5 ∧ i5 < b1.length) ∧ (
    if ((eqN 28 (a0[i5.toNat]!) (b1[i5.toNat]!))) = true then
      (inI64 (i5 + 1)) ∧ (
      o = (.inl (i5 + 1)))
    else
      o = (.inr (.inr ()))))
  else
    o = (.inr (.inl ()))

def msgs_k1a (r : Bool) : Prop :=
  r = (true)

def msgs_k1b (r : Bool) : Prop :=
  r = (false)

def msgs_S (a0 : (List (Nat → Int))) (b1 : (List (Nat → Int))) (r : Bool) : Prop :=
  if (a0.length : Int) = (b1.length : Int) then
    ∃ x : (Unit) ⊕ (Unit), Wh (fun (s : Int) (o : (Int) ⊕ ((Unit) ⊕ (Unit))) => msgs_l1 a0 b1 s o) (0 : Int) x ∧ (match x with | .inl _ => msgs_k1a r | .inr _ => msgs_k1b r)
  else
    r = (false)

end Go.E
