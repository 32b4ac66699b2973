/- What functions of the program say, as relations. -/
import Derived.Test.YtjmfnohbeoiddaaP12c
set_option maxHeartbeats 1000000
set_option linter.unusedVariables false
set_option linter.unusedSimpArgs false
set_option maxRecDepth 100000
namespace Go.E
open Go

def startR_S (shard0 : Int) (ww1 : (Nat → Int)) (l2 : (List (Nat → Int))) (r : (List (Nat → Int)) × Int) : Prop :=
  if ((((((decide (shard0 < 1)) || (decide (64 < shard0))) || (decide (ww1 0 < 1))) || (decide (1048576 < ww1 0))) || (decide (ww1 1 < 1))) || (decide (1048576 < ww1 1))) = true then
    r = (([], 1))
  else
    (onR_P shard0 (fun _ => 0) ww1 l2) ∧ (
    if ((onR_F shard0 (fun _ => 0) ww1 l2).2) = true then
      r = (((onR_F shard0 (fun _ => 0) ww1 l2).1, 0))
    else
      r = (([], 1)))

def startR_F (shard0 : Int) (ww1 : (Nat → Int)) (l2 : (List (Nat → Int))) : (List (Nat → Int)) × Int :=
  if ((((((decide (shard0 < 1)) || (decide (64 < shard0))) || (decide (ww1 0 < 1))) || (decide (1048576 < ww1 0))) || (decide (ww1 1 < 1))) || (decide (1048576 < ww1 1))) = true then
    ([], 1)
  else
    if ((onR_F shard0 (fun _ => 0) ww1 l2).2) = true then
      ((onR_F shard0 (fun _ => 0) ww1 l2).1, 0)
    else
      ([], 1)

def startR_P (shard0 : Int) (ww1 : (Nat → Int)) (l2 : (List (Nat → Int))) : Prop :=
  if ((((((decide (shard0 < 1)) || (decide (64 < shard0))) || (decide (ww1 0 < 1))) || (decide (1048576 < ww1 0))) || (decide (ww1 1 < 1))) || (decide (1048576 < ww1 1))) = true then
    True
  else
    (onR_P shard0 (fun _ => 0) ww1 l2) ∧ (
    if ((onR_F shard0 (fun _ => 0) ww1 l2).2) = true then
      True
    else
      True)

theorem startR_ok (shard0 : Int) (ww1 : (Nat → Int)) (l2 : (List (Nat → Int))) (hP : startR_P shard0 ww1 l2) : startR_S shard0 ww1 l2 (startR_F shard0 ww1 l2) := by
  obtain ⟨r, hr⟩ : ∃ r, r = startR_F shard0 ww1 l2 := ⟨_, rfl⟩
  rw [← hr]
  unfold startR_F at hr
  unfold startR_S
  unfold startR_P at hP
  by_cases hp22 : ((((((decide (shard0 < 1)) || (decide (64 < shard0))) || (decide (ww1 0 < 1))) || (decide (1048576 < ww1 0))) || (decide (ww1 1 < 1))) || (decide (1048576 < ww1 1))) = true
  · rw [if_pos hp22] at hr hP ⊢
    exact hr
  · rw [if_neg hp22] at hr hP ⊢
    obtain ⟨hq0, hP⟩ := hP
    refine ⟨hq0, ?_⟩
    by_cases hp23 : ((onR_F shard0 (fun _ => 0) ww1 l2).2) = true
    · rw [if_pos hp23] at hr hP ⊢
      exact hr
    · rw [if_neg hp23] at hr hP ⊢
      exact hr

def goR_l1 (m1 : (Nat → Int)) (i10 : Int) (o : (Int) ⊕ ((Unit) ⊕ (Unit))) : Prop :=
  if i10 < m1 11 then
    (0 ≤ i10 ∧ i10 < 8) ∧ (
    if m1 (12 + (i10.toNat * 2)) = m1 9 then
      o = (.inr (.inr ()))
    else
      (inI64 (i10 + 1)) ∧ (
      o = (.inl (i10 + 1))))
  else
    o = (.inr (.inl ()))

def goR_k1a (shard0 : Int) (m1 : (Nat → Int)) (seq2 : Int) (l3 : (List (Nat → Int))) (r : (List (Nat → Int)) × Int) : Prop :=
  if m1 11 = 8 then
    r = (([], 7))
  else
    (onR_P shard0 m1 (updI (updI (fun _ => 0) 0 (m1 9)) 1 seq2) l3) ∧ (
    if ((onR_F shard0 m1 (updI (updI (fun _ => 0) 0 (m1 9)) 1 seq2) l3).2) = true then
      r = (((onR_F shard0 m1 (updI (updI (fun _ => 0) 0 (m1 9)) 1 seq2) l3).1, 0))
    else
      r = (([], 1)))

def goR_k1b (r : (List (Nat → Int)) × Int) : Prop :=
  r = (([], 11))

def goR_S (shard0 : Int) (m1 : (Nat → Int)) (seq2 : Int) (l3 : (List (Nat → Int))) (r : (List (Nat → Int)) × Int) : Prop :=
  if ((isR_F m1)) = true then
    if ((!(decide (m1 10 = 0))) && (!(decide (m1 10 = seq2)))) = true then
      r = (([], 14))
    else
      ∃ x : (Unit) ⊕ (Unit), Wh (fun (s : Int) (o : (Int) ⊕ ((Unit) ⊕ (Unit))) => goR_l1 m1 s o) (0 : Int) x ∧ (match x with | .inl _ => goR_k1a shard0 m1 seq2 l3 r | .inr _ => goR_k1b r)
  else
    r = (([], 5))

end Go.E
