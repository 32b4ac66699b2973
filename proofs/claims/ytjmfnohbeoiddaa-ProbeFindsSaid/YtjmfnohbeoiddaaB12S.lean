/- What functions of the program say, as relations. -/
import Derived.Test.YtjmfnohbeoiddaaP12a
set_option maxHeartbeats 1000000
set_option linter.unusedVariables false
set_option linter.unusedSimpArgs false
set_option maxRecDepth 100000
namespace Go.E
open Go

def goP_S (shard0 : Int) (m1 : (Nat → Int)) (seq2 : Int) (l3 : (List (Nat → Int))) (r : (List (Nat → Int)) × Int) : Prop :=
  if (stops_F m1 seq2) = 0 then
    (longer_P shard0 m1 (updI (updI (fun _ => 0) 0 (m1 9)) 1 seq2) l3) ∧ (
    r = (((longer_F shard0 m1 (updI (updI (fun _ => 0) 0 (m1 9)) 1 seq2) l3).1, (longer_F shard0 m1 (updI (updI (fun _ => 0) 0 (m1 9)) 1 seq2) l3).2)))
  else
    r = (([], (stops_F m1 seq2)))

def goP_F (shard0 : Int) (m1 : (Nat → Int)) (seq2 : Int) (l3 : (List (Nat → Int))) : (List (Nat → Int)) × Int :=
  if (stops_F m1 seq2) = 0 then
    ((longer_F shard0 m1 (updI (updI (fun _ => 0) 0 (m1 9)) 1 seq2) l3).1, (longer_F shard0 m1 (updI (updI (fun _ => 0) 0 (m1 9)) 1 seq2) l3).2)
  else
    ([], (stops_F m1 seq2))

def goP_P (shard0 : Int) (m1 : (Nat → Int)) (seq2 : Int) (l3 : (List (Nat → Int))) : Prop :=
  if (stops_F m1 seq2) = 0 then
    (longer_P shard0 m1 (updI (updI (fun _ => 0) 0 (m1 9)) 1 seq2) l3) ∧ (
    True)
  else
    True

theorem goP_ok (shard0 : Int) (m1 : (Nat → Int)) (seq2 : Int) (l3 : (List (Nat → Int))) (hP : goP_P shard0 m1 seq2 l3) : goP_S shard0 m1 seq2 l3 (goP_F shard0 m1 seq2 l3) := by
  obtain ⟨r, hr⟩ : ∃ r, r = goP_F shard0 m1 seq2 l3 := ⟨_, rfl⟩
  rw [← hr]
  unfold goP_F at hr
  unfold goP_S
  unfold goP_P at hP
  by_cases hp18 : (stops_F m1 seq2) = 0
  · rw [if_pos hp18] at hr hP ⊢
    obtain ⟨hq0, hP⟩ := hP
    refine ⟨hq0, ?_⟩
    exact hr
  · rw [if_neg hp18] at hr hP ⊢
    exact hr

def startP_S (shard0 : Int) (ww1 : (Nat → Int)) (l2 : (List (Nat → Int))) (r : (List (Nat → Int)) × Int) : Prop :=
  if ((isP_F (updI (updRI (updI (updI (updI (fun _ => 0) 0 11) 1 shard0) 11 1) 12 16 (updRI (fun _ => 0) 0 2 ww1)) 9 1))) = true then
    (longer_P shard0 (fun _ => 0) ww1 l2) ∧ (
    r = (((longer_F shard0 (fun _ => 0) ww1 l2).1, (longer_F shard0 (fun _ => 0) ww1 l2).2)))
  else
    r = (([], 1))

def startP_F (shard0 : Int) (ww1 : (Nat → Int)) (l2 : (List (Nat → Int))) : (List (Nat → Int)) × Int :=
  if ((isP_F (updI (updRI (updI (updI (updI (fun _ => 0) 0 11) 1 shard0) 11 1) 12 16 (updRI (fun _ => 0) 0 2 ww1)) 9 1))) = true then
    ((longer_F shard0 (fun _ => 0) ww1 l2).1, (longer_F shard0 (fun _ => 0) ww1 l2).2)
  else
    ([], 1)

def startP_P (shard0 : Int) (ww1 : (Nat → Int)) (l2 : (List (Nat → Int))) : Prop :=
  if ((isP_F (updI (updRI (updI (updI (updI (fun _ => 0) 0 11) 1 shard0) 11 1) 12 16 (updRI (fun _ => 0) 0 2 ww1)) 9 1))) = true then
    (longer_P shard0 (fun _ => 0) ww1 l2) ∧ (
    True)
  else
    True

theorem startP_ok (shard0 : Int) (ww1 : (Nat → Int)) (l2 : (List (Nat → Int))) (hP : startP_P shard0 ww1 l2) : startP_S shard0 ww1 l2 (startP_F shard0 ww1 l2) := by
  obtain ⟨r, hr⟩ : ∃ r, r = startP_F shard0 ww1 l2 := ⟨_, rfl⟩
  rw [← hr]
  unfold startP_F at hr
  unfold startP_S
  unfold startP_P at hP
  by_cases hp19 : ((isP_F (updI (updRI (updI (updI (updI (fun _ => 0) 0 11) 1 shard0) 11 1) 12 16 (updRI (fun _ => 0) 0 2 ww1)) 9 1))) = true
  · rw [if_pos hp19] at hr hP ⊢
    obtain ⟨hq0, hP⟩ := hP
    refine ⟨hq0, ?_⟩
    exact hr
  · rw [if_neg hp19] at hr hP ⊢
    exact hr

def alive12_S (r : Bool) : Prop :=
  (startP_P 1 (updI (updI (fun _ => 0) 0 1) 1 4) ([(updI (updI (updI (fun _ => 0) 0 1) 1 4) 2 2), (updI (updI (updI (fun _ => 0) 0 2) 1 7) 2 1)])) ∧ (
  ((((!(decide ((startP_F 1 (updI (updI (fun _ => 0) 0 1) 1 4) ([(updI (updI (updI (fun _ => 0) 0 1) 1 4) 2 2), (updI (updI (updI (fun _ => 0) 0 2) 1 7) 2 1)])).2 = 0))) || (!(decide ((((startP_F 1 (updI (updI (fun _ => 0) 0 1) 1 4) ([(updI (updI (updI (fun _ => 0) 0 1) 1 4) 2 2), (updI (updI (updI (fun _ => 0) 0 2) 1 7) 2 1)])).1).length : Int) = 1)))) = false) → 0 ≤ (0 : Int) ∧ (0 : Int) < ((startP_F 1 (updI (updI (fun _ => 0) 0 1) 1 4) ([(updI (updI (updI (fun _ => 0) 0 1) 1 4) 2 2), (updI (updI (updI (fun _ => 0) 0 2) 1 7) 2 1)])).1).length) ∧ (
  if (((!(decide ((startP_F 1 (updI (updI (fun _ => 0) 0 1) 1 4) ([(updI (updI (updI (fun _ => 0) 0 1) 1 4) 2 2), (updI (updI (updI (fun _ => 0) 0 2) 1 7) 2 1)])).2 = 0))) || (!(decide ((((startP_F 1 (updI (updI (fun _ => 0) 0 1) 1 4) ([(updI (updI (updI (fun _ => 0) 0 1) 1 4) 2 2), (updI (updI (updI (fun _ => 0) 0 2) 1 7) 2 1)])).1).length : Int) = 1)))) || (!(decide (((startP_F 1 (updI (updI (fun _ => 0) 0 1) 1 4) ([(updI (updI (updI (fun _ => 0) 0 1) 1 4) 2 2), (updI (updI (updI (fun _ => 0) 0 2) 1 7) 2 1)])).1)[0]! 9 = 2)))) = true then
    r = (false)
  else
    (0 ≤ (0 : Int) ∧ (0 : Int) < ((startP_F 1 (updI (updI (fun _ => 0) 0 1) 1 4) ([(updI (updI (updI (fun _ => 0) 0 1) 1 4) 2 2), (updI (updI (updI (fun _ => 0) 0 2) 1 7) 2 1)])).1).length) ∧ (
    (goP_P 1 (((startP_F 1 (updI (updI (fun _ => 0) 0 1) 1 4) ([(updI (updI (updI (fun _ => 0) 0 1) 1 4) 2 2), (updI (updI (updI (fun _ => 0) 0 2) 1 7) 2 1)])).1)[0]!) 7 ([(updI (updI (updI (fun _ => 0) 0 1) 1 4) 2 2), (updI (updI (updI (fun _ => 0) 0 2) 1 7) 2 1)])) ∧ (
    ((((!(decide ((goP_F 1 (((startP_F 1 (updI (updI (fun _ => 0) 0 1) 1 4) ([(updI (updI (updI (fun _ => 0) 0 1) 1 4) 2 2), (updI (updI (updI (fun _ => 0) 0 2) 1 7) 2 1)])).1)[0]!) 7 ([(updI (updI (updI (fun _ => 0) 0 1) 1 4) 2 2), (updI (updI (updI (fun _ => 0) 0 2) 1 7) 2 1)])).2 = 0))) || (!(decide ((((goP_F 1 (((startP_F 1 (updI (updI (fun _ => 0) 0 1) 1 4) ([(updI (updI (updI (fun _ => 0) 0 1) 1 4) 2 2), (updI (updI (updI (fun _ => 0) 0 2) 1 7) 2 1)])).1)[0]!) 7 ([(updI (updI (updI (fun _ => 0) 0 1) 1 4) 2 2), (updI (updI (updI (fun _ => 0) 0 2) 1 7) 2 1)])).1).length : Int) = 1)))) = false) → 0 ≤ (0 : Int) ∧ (0 : Int) < ((goP_F 1 (((startP_F 1 (updI (updI (fun _ => 0) 0 1) 1 4) ([(updI (updI (updI (fun _ => 0) 0 1) 1 4) 2 2), (updI (updI (updI (fun _ => 0) 0 2) 1 7) 2 1)])).1)[0]!) 7 ([(updI (updI (updI (fun _ => 0) 0 1) 1 4) 2 2), (updI (updI (updI (fun _ => 0) 0 2) 1 7) 2 1)])).1).length) ∧ (((((!(decide ((goP_F 1 (((startP_F 1 (updI (updI (fun _ => 0) 0 1) 1 4) ([(updI (updI (updI (fun _ => 0) 0 1) 1 4) 2 2), (updI (updI (updI (fun _ => 0) 0 2) 1 7) 2 1)])).1)[0]!) 7 ([(updI (updI (updI (fun _ => 0) 0 1) 1 4) 2 2), (updI (updI (updI (fun _ => 0) 0 2) 1 7) 2 1)])).2 = 0))) || (!(decide ((((goP_F 1 (((startP_F 1 (updI (updI (fun _ => 0) 0 1) 1 4) ([(updI (updI (updI (fun _ => 0) 0 1) 1 4) 2 2), (updI (updI (updI (fun _ => 0) 0 2) 1 7) 2 1)])).1)[0]!) 7 ([(updI (updI (updI (fun _ => 0) 0 1) 1 4) 2 2), (updI (updI (updI (fun _ => 0) 0 2) 1 7) 2 1)])).1).length : Int) = 1)))) || (!(decide (((goP_F 1 (((startP_F 1 (updI (updI (fun _ => 0) 0 1) 1 4) ([(updI (updI (updI (fun _ => 0) 0 1) 1 4) 2 2), (updI (updI (updI (fun _ => 0) 0 2) 1 7) 2 1)])).1)[0]!) 7 ([(updI (updI (updI (fun _ => 0) 0 1) 1 4) 2 2), (updI (updI (updI (fun _ => 0) 0 2) 1 7) 2 1)])).1)[0]! 11 = 2)))) = false) → 0 ≤ (0 : Int) ∧ (0 : Int) < ((goP_F 1 (((startP_F 1 (updI (updI (fun _ => 0) 0 1) 1 4) ([(updI (updI (updI (fun _ => 0) 0 1) 1 4) 2 2), (updI (updI (updI (fun _ => 0) 0 2) 1 7) 2 1)])).1)[0]!) 7 ([(updI (updI (updI (fun _ => 0) 0 1) 1 4) 2 2), (updI (updI (updI (fun _ => 0) 0 2) 1 7) 2 1)])).1).length) ∧ ((((((!(decide ((goP_F 1 (((startP_F 1 (updI (updI (fun _ => 0) 0 1) 1 4) ([(updI (updI (updI (fun _ => 0) 0 1) 1 4) 2 2), (updI (updI (updI (fun _ => 0) 0 2) 1 7) 2 1)])).1)[0]!) 7 ([(updI (updI (updI (fun _ => 0) 0 1) 1 4) 2 2), (updI (updI (updI (fun _ => 0) 0 2) 1 7) 2 1)])).2 = 0))) || (!(decide ((((goP_F 1 (((startP_F 1 (updI (updI (fun _ => 0) 0 1) 1 4) ([(updI (updI (updI (fun _ => 0) 0 1) 1 4) 2 2), (updI (updI (updI (fun _ => 0) 0 2) 1 7) 2 1)])).1)[0]!) 7 ([(updI (updI (updI (fun _ => 0) 0 1) 1 4) 2 2), (updI (updI (updI (fun _ => 0) 0 2) 1 7) 2 1)])).1).length : Int) = 1)))) || (!(decide (((goP_F 1 (((startP_F 1 (updI (updI (fun _ => 0) 0 1) 1 4) ([(updI (updI (updI (fun _ => 0) 0 1) 1 4) 2 2), (updI (updI (updI (fun _ => 0) 0 2) 1 7) 2 1)])).1)[0]!) 7 ([(updI (updI (updI (fun _ => 0) 0 1) 1 4) 2 2), (updI (updI (updI (fun _ => 0) 0 2) 1 7) 2 1)])).1)[0]! 11 = 2)))) || (!(decide (((goP_F 1 (((startP_F 1 (updI (updI (fun _ => 0) 0 1) 1 4) ([(updI (updI (updI (fun _ => 0) 0 1) 1 4) 2 2), (updI (updI (updI (fun _ => 0) 0 2) 1 7) 2 1)])).1)[0]!) 7 ([(updI (updI (updI (fun _ => 0) 0 1) 1 4) 2 2), (updI (updI (updI (fun _ => 0) 0 2) 1 7) 2 1)])).1)[0]! 9 = 1)))) = false) → 0 ≤ (0 : Int) ∧ (0 : Int) < ((goP_F 1 (((startP_F 1 (updI (updI (fun _ => 0) 0 1) 1 4) ([(updI (updI (updI (fun _ => 0) 0 1) 1 4) 2 2), (updI (updI (updI (fun _ => 0) 0 2) 1 7) 2 1)])).1)[0]!) 7 ([(updI (updI (updI (fun _ => 0) 0 1) 1 4) 2 2), (updI (updI (updI (fun _ => 0) 0 2) 1 7) 2 1)])).1).length) ∧ (
    if (((((!(decide ((goP_F 1 (((startP_F 1 (updI (updI (fun _ => 0) 0 1) 1 4) ([(updI (updI (updI (fun _ => 0) 0 1) 1 4) 2 2), (updI (updI (updI (fun _ => 0) 0 2) 1 7) 2 1)])).1)[0]!) 7 ([(updI (updI (updI (fun _ => 0) 0 1) 1 4) 2 2), (updI (updI (updI (fun _ => 0) 0 2) 1 7) 2 1)])).2 = 0))) || (!(decide ((((goP_F 1 (((startP_F 1 (updI (updI (fun _ => 0) 0 1) 1 4) ([(updI (updI (updI (fun _ => 0) 0 1) 1 4) 2 2), (updI (updI (updI (fun _ => 0) 0 2) 1 7) 2 1)])).1)[0]!) 7 ([(updI (updI (updI (fun _ => 0) 0 1) 1 4) 2 2), (updI (updI (updI (fun _ => 0) 0 2) 1 7) 2 1)])).1).length : Int) = 1)))) || (!(decide (((goP_F 1 (((startP_F 1 (updI (updI (fun _ => 0) 0 1) 1 4) ([(updI (updI (updI (fun _ => 0) 0 1) 1 4) 2 2), (updI (updI (updI (fun _ => 0) 0 2) 1 7) 2 1)])).1)[0]!) 7 ([(updI (updI (updI (fun _ => 0) 0 1) 1 4) 2 2), (updI (updI (updI (fun _ => 0) 0 2) 1 7) 2 1)])).1)[0]! 11 = 2)))) || (!(decide (((goP_F 1 (((startP_F 1 (updI (updI (fun _ => 0) 0 1) 1 4) ([(updI (updI (updI (fun _ => 0) 0 1) 1 4) 2 2), (updI (updI (updI (fun _ => 0) 0 2) 1 7) 2 1)])).1)[0]!) 7 ([(updI (updI (updI (fun _ => 0) 0 1) 1 4) 2 2), (updI (updI (updI (fun _ => 0) 0 2) 1 7) 2 1)])).1)[0]! 9 = 1)))) || (!((back_F (((goP_F 1 (((startP_F 1 (updI (updI (fun _ => 0) 0 1) 1 4) ([(updI (updI (updI (fun _ => 0) 0 1) 1 4) 2 2), (updI (updI (updI (fun _ => 0) 0 2) 1 7) 2 1)])).1)[0]!) 7 ([(updI (updI (updI (fun _ => 0) 0 1) 1 4) 2 2), (updI (updI (updI (fun _ => 0) 0 2) 1 7) 2 1)])).1)[0]!))))) = true then
      r = (false)
    else
      (0 ≤ (0 : Int) ∧ (0 : Int) < ((goP_F 1 (((startP_F 1 (updI (updI (fun _ => 0) 0 1) 1 4) ([(updI (updI (updI (fun _ => 0) 0 1) 1 4) 2 2), (updI (updI (updI (fun _ => 0) 0 2) 1 7) 2 1)])).1)[0]!) 7 ([(updI (updI (updI (fun _ => 0) 0 1) 1 4) 2 2), (updI (updI (updI (fun _ => 0) 0 2) 1 7) 2 1)])).1).length) ∧ (
      r = ((decide ((victim_F (((goP_F 1 (((startP_F 1 (updI (updI (fun _ => 0) 0 1) 1 4) ([(updI (updI (updI (fun _ => 0) 0 1) 1 4) 2 2), (updI (updI (updI (fun _ => 0) 0 2) 1 7) 2 1)])).1)[0]!) 7 ([(updI (updI (updI (fun _ => 0) 0 1) 1 4) 2 2), (updI (updI (updI (fun _ => 0) 0 2) 1 7) 2 1)])).1)[0]!)).1 = 2)) && (decide ((victim_F (((goP_F 1 (((startP_F 1 (updI (updI (fun _ => 0) 0 1) 1 4) ([(updI (updI (updI (fun _ => 0) 0 1) 1 4) 2 2), (updI (updI (updI (fun _ => 0) 0 2) 1 7) 2 1)])).1)[0]!) 7 ([(updI (updI (updI (fun _ => 0) 0 1) 1 4) 2 2), (updI (updI (updI (fun _ => 0) 0 2) 1 7) 2 1)])).1)[0]!)).2 = 0)))))))))

def alive12_F : Bool :=
  if (((!(decide ((startP_F 1 (updI (updI (fun _ => 0) 0 1) 1 4) ([(updI (updI (updI (fun _ => 0) 0 1) 1 4) 2 2), (updI (updI (updI (fun _ => 0) 0 2) 1 7) 2 1)])).2 = 0))) || (!(decide ((((startP_F 1 (updI (updI (fun _ => 0) 0 1) 1 4) ([(updI (updI (updI (fun _ => 0) 0 1) 1 4) 2 2), (updI (updI (updI (fun _ => 0) 0 2) 1 7) 2 1)])).1).length : Int) = 1)))) || (!(decide (((startP_F 1 (updI (updI (fun _ => 0) 0 1) 1 4) ([(updI (updI (updI (fun _ => 0) 0 1) 1 4) 2 2), (updI (updI (updI (fun _ => 0) 0 2) 1 7) 2 1)])).1)[0]! 9 = 2)))) = true then
    false
  else
    if (((((!(decide ((goP_F 1 (((startP_F 1 (updI (updI (fun _ => 0) 0 1) 1 4) ([(updI (updI (updI (fun _ => 0) 0 1) 1 4) 2 2), (updI (updI (updI (fun _ => 0) 0 2) 1 7) 2 1)])).1)[0]!) 7 ([(updI (updI (updI (fun _ => 0) 0 1) 1 4) 2 2), (updI (updI (updI (fun _ => 0) 0 2) 1 7) 2 1)])).2 = 0))) || (!(decide ((((goP_F 1 (((startP_F 1 (updI (updI (fun _ => 0) 0 1) 1 4) ([(updI (updI (updI (fun _ => 0) 0 1) 1 4) 2 2), (updI (updI (updI (fun _ => 0) 0 2) 1 7) 2 1)])).1)[0]!) 7 ([(updI (updI (updI (fun _ => 0) 0 1) 1 4) 2 2), (updI (updI (updI (fun _ => 0) 0 2) 1 7) 2 1)])).1).length : Int) = 1)))) || (!(decide (((goP_F 1 (((startP_F 1 (updI (updI (fun _ => 0) 0 1) 1 4) ([(updI (updI (updI (fun _ => 0) 0 1) 1 4) 2 2), (updI (updI (updI (fun _ => 0) 0 2) 1 7) 2 1)])).1)[0]!) 7 ([(updI (updI (updI (fun _ => 0) 0 1) 1 4) 2 2), (updI (updI (updI (fun _ => 0) 0 2) 1 7) 2 1)])).1)[0]! 11 = 2)))) || (!(decide (((goP_F 1 (((startP_F 1 (updI (updI (fun _ => 0) 0 1) 1 4) ([(updI (updI (updI (fun _ => 0) 0 1) 1 4) 2 2), (updI (updI (updI (fun _ => 0) 0 2) 1 7) 2 1)])).1)[0]!) 7 ([(updI (updI (updI (fun _ => 0) 0 1) 1 4) 2 2), (updI (updI (updI (fun _ => 0) 0 2) 1 7) 2 1)])).1)[0]! 9 = 1)))) || (!((back_F (((goP_F 1 (((startP_F 1 (updI (updI (fun _ => 0) 0 1) 1 4) ([(updI (updI (updI (fun _ => 0) 0 1) 1 4) 2 2), (updI (updI (updI (fun _ => 0) 0 2) 1 7) 2 1)])).1)[0]!) 7 ([(updI (updI (updI (fun _ => 0) 0 1) 1 4) 2 2), (updI (updI (updI (fun _ => 0) 0 2) 1 7) 2 1)])).1)[0]!))))) = true then
      false
    else
      (decide ((victim_F (((goP_F 1 (((startP_F 1 (updI (updI (fun _ => 0) 0 1) 1 4) ([(updI (updI (updI (fun _ => 0) 0 1) 1 4) 2 2), (updI (updI (updI (fun _ => 0) 0 2) 1 7) 2 1)])).1)[0]!) 7 ([(updI (updI (updI (fun _ => 0) 0 1) 1 4) 2 2), (updI (updI (updI (fun _ => 0) 0 2) 1 7) 2 1)])).1)[0]!)).1 = 2)) && (decide ((victim_F (((goP_F 1 (((startP_F 1 (updI (updI (fun _ => 0) 0 1) 1 4) ([(updI (updI (updI (fun _ => 0) 0 1) 1 4) 2 2), (updI (updI (updI (fun _ => 0) 0 2) 1 7) 2 1)])).1)[0]!) 7 ([(updI (updI (updI (fun _ => 0) 0 1) 1 4) 2 2), (updI (updI (updI (fun _ => 0) 0 2) 1 7) 2 1)])).1)[0]!)).2 = 0))

def alive12_P : Prop :=
  (startP_P 1 (updI (updI (fun _ => 0) 0 1) 1 4) ([(updI (updI (updI (fun _ => 0) 0 1) 1 4) 2 2), (updI (updI (updI (fun _ => 0) 0 2) 1 7) 2 1)])) ∧ (
  ((((!(decide ((startP_F 1 (updI (updI (fun _ => 0) 0 1) 1 4) ([(updI (updI (updI (fun _ => 0) 0 1) 1 4) 2 2), (updI (updI (updI (fun _ => 0) 0 2) 1 7) 2 1)])).2 = 0))) || (!(decide ((((startP_F 1 (updI (updI (fun _ => 0) 0 1) 1 4) ([(updI (updI (updI (fun _ => 0) 0 1) 1 4) 2 2), (updI (updI (updI (fun _ => 0) 0 2) 1 7) 2 1)])).1).length : Int) = 1)))) = false) → 0 ≤ (0 : Int) ∧ (0 : Int) < ((startP_F 1 (updI (updI (fun _ => 0) 0 1) 1 4) ([(updI (updI (updI (fun _ => 0) 0 1) 1 4) 2 2), (updI (updI (updI (fun _ => 0) 0 2) 1 7) 2 1)])).1).length) ∧ (
  if (((!(decide ((startP_F 1 (updI (updI (fun _ => 0) 0 1) 1 4) ([(updI (updI (updI (fun _ => 0) 0 1) 1 4) 2 2), (updI (updI (updI (fun _ => 0) 0 2) 1 7) 2 1)])).2 = 0))) || (!(decide ((((startP_F 1 (updI (updI (fun _ => 0) 0 1) 1 4) ([(updI (updI (updI (fun _ => 0) 0 1) 1 4) 2 2), (updI (updI (updI (fun _ => 0) 0 2) 1 7) 2 1)])).1).length : Int) = 1)))) || (!(decide (((startP_F 1 (updI (updI (fun _ => 0) 0 1) 1 4) ([(updI (updI (updI (fun _ => 0) 0 1) 1 4) 2 2), (updI (updI (updI (fun _ => 0) 0 2) 1 7) 2 1)])).1)[0]! 9 = 2)))) = true then
    True
  else
    (0 ≤ (0 : Int) ∧ (0 : Int) < ((startP_F 1 (updI (updI (fun _ => 0) 0 1) 1 4) ([(updI (updI (updI (fun _ => 0) 0 1) 1 4) 2 2), (updI (updI (updI (fun _ => 0) 0 2) 1 7) 2 1)])).1).length) ∧ (
    (goP_P 1 (((startP_F 1 (updI (updI (fun _ => 0) 0 1) 1 4) ([(updI (updI (updI (fun _ => 0) 0 1) 1 4) 2 2), (updI (updI (updI (fun _ => 0) 0 2) 1 7) 2 1)])).1)[0]!) 7 ([(updI (updI (updI (fun _ => 0) 0 1) 1 4) 2 2), (updI (updI (updI (fun _ => 0) 0 2) 1 7) 2 1)])) ∧ (
    ((((!(decide ((goP_F 1 (((startP_F 1 (updI (updI (fun _ => 0) 0 1) 1 4) ([(updI (updI (updI (fun _ => 0) 0 1) 1 4) 2 2), (updI (updI (updI (fun _ => 0) 0 2) 1 7) 2 1)])).1)[0]!) 7 ([(updI (updI (updI (fun _ => 0) 0 1) 1 4) 2 2), (updI (updI (updI (fun _ => 0) 0 2) 1 7) 2 1)])).2 = 0))) || (!(decide ((((goP_F 1 (((startP_F 1 (updI (updI (fun _ => 0) 0 1) 1 4) ([(updI (updI (updI (fun _ => 0) 0 1) 1 4) 2 2), (updI (updI (updI (fun _ => 0) 0 2) 1 7) 2 1)])).1)[0]!) 7 ([(updI (updI (updI (fun _ => 0) 0 1) 1 4) 2 2), (updI (updI (updI (fun _ => 0) 0 2) 1 7) 2 1)])).1).length : Int) = 1)))) = false) → 0 ≤ (0 : Int) ∧ (0 : Int) < ((goP_F 1 (((startP_F 1 (updI (updI (fun _ => 0) 0 1) 1 4) ([(updI (updI (updI (fun _ => 0) 0 1) 1 4) 2 2), (updI (updI (updI (fun _ => 0) 0 2) 1 7) 2 1)])).1)[0]!) 7 ([(updI (updI (updI (fun _ => 0) 0 1) 1 4) 2 2), (updI (updI (updI (fun _ => 0) 0 2) 1 7) 2 1)])).1).length) ∧ (((((!(decide ((goP_F 1 (((startP_F 1 (updI (updI (fun _ => 0) 0 1) 1 4) ([(updI (updI (updI (fun _ => 0) 0 1) 1 4) 2 2), (updI (updI (updI (fun _ => 0) 0 2) 1 7) 2 1)])).1)[0]!) 7 ([(updI (updI (updI (fun _ => 0) 0 1) 1 4) 2 2), (updI (updI (updI (fun _ => 0) 0 2) 1 7) 2 1)])).2 = 0))) || (!(decide ((((goP_F 1 (((startP_F 1 (updI (updI (fun _ => 0) 0 1) 1 4) ([(updI (updI (updI (fun _ => 0) 0 1) 1 4) 2 2), (updI (updI (updI (fun _ => 0) 0 2) 1 7) 2 1)])).1)[0]!) 7 ([(updI (updI (updI (fun _ => 0) 0 1) 1 4) 2 2), (updI (updI (updI (fun _ => 0) 0 2) 1 7) 2 1)])).1).length : Int) = 1)))) || (!(decide (((goP_F 1 (((startP_F 1 (updI (updI (fun _ => 0) 0 1) 1 4) ([(updI (updI (updI (fun _ => 0) 0 1) 1 4) 2 2), (updI (updI (updI (fun _ => 0) 0 2) 1 7) 2 1)])).1)[0]!) 7 ([(updI (updI (updI (fun _ => 0) 0 1) 1 4) 2 2), (updI (updI (updI (fun _ => 0) 0 2) 1 7) 2 1)])).1)[0]! 11 = 2)))) = false) → 0 ≤ (0 : Int) ∧ (0 : Int) < ((goP_F 1 (((startP_F 1 (updI (updI (fun _ => 0) 0 1) 1 4) ([(updI (updI (updI (fun _ => 0) 0 1) 1 4) 2 2), (updI (updI (updI (fun _ => 0) 0 2) 1 7) 2 1)])).1)[0]!) 7 ([(updI (updI (updI (fun _ => 0) 0 1) 1 4) 2 2), (updI (updI (updI (fun _ => 0) 0 2) 1 7) 2 1)])).1).length) ∧ ((((((!(decide ((goP_F 1 (((startP_F 1 (updI (updI (fun _ => 0) 0 1) 1 4) ([(updI (updI (updI (fun _ => 0) 0 1) 1 4) 2 2), (updI (updI (updI (fun _ => 0) 0 2) 1 7) 2 1)])).1)[0]!) 7 ([(updI (updI (updI (fun _ => 0) 0 1) 1 4) 2 2), (updI (updI (updI (fun _ => 0) 0 2) 1 7) 2 1)])).2 = 0))) || (!(decide ((((goP_F 1 (((startP_F 1 (updI (updI (fun _ => 0) 0 1) 1 4) ([(updI (updI (updI (fun _ => 0) 0 1) 1 4) 2 2), (updI (updI (updI (fun _ => 0) 0 2) 1 7) 2 1)])).1)[0]!) 7 ([(updI (updI (updI (fun _ => 0) 0 1) 1 4) 2 2), (updI (updI (updI (fun _ => 0) 0 2) 1 7) 2 1)])).1).length : Int) = 1)))) || (!(decide (((goP_F 1 (((startP_F 1 (updI (updI (fun _ => 0) 0 1) 1 4) ([(updI (updI (updI (fun _ => 0) 0 1) 1 4) 2 2), (updI (updI (updI (fun _ => 0) 0 2) 1 7) 2 1)])).1)[0]!) 7 ([(updI (updI (updI (fun _ => 0) 0 1) 1 4) 2 2), (updI (updI (updI (fun _ => 0) 0 2) 1 7) 2 1)])).1)[0]! 11 = 2)))) || (!(decide (((goP_F 1 (((startP_F 1 (updI (updI (fun _ => 0) 0 1) 1 4) ([(updI (updI (updI (fun _ => 0) 0 1) 1 4) 2 2), (updI (updI (updI (fun _ => 0) 0 2) 1 7) 2 1)])).1)[0]!) 7 ([(updI (updI (updI (fun _ => 0) 0 1) 1 4) 2 2), (updI (updI (updI (fun _ => 0) 0 2) 1 7) 2 1)])).1)[0]! 9 = 1)))) = false) → 0 ≤ (0 : Int) ∧ (0 : Int) < ((goP_F 1 (((startP_F 1 (updI (updI (fun _ => 0) 0 1) 1 4) ([(updI (updI (updI (fun _ => 0) 0 1) 1 4) 2 2), (updI (updI (updI (fun _ => 0) 0 2) 1 7) 2 1)])).1)[0]!) 7 ([(updI (updI (updI (fun _ => 0) 0 1) 1 4) 2 2), (updI (updI (updI (fun _ => 0) 0 2) 1 7) 2 1)])).1).length) ∧ (
    if (((((!(decide ((goP_F 1 (((startP_F 1 (updI (updI (fun _ => 0) 0 1) 1 4) ([(updI (updI (updI (fun _ => 0) 0 1) 1 4) 2 2), (updI (updI (updI (fun _ => 0) 0 2) 1 7) 2 1)])).1)[0]!) 7 ([(updI (updI (updI (fun _ => 0) 0 1) 1 4) 2 2), (updI (updI (updI (fun _ => 0) 0 2) 1 7) 2 1)])).2 = 0))) || (!(decide ((((goP_F 1 (((startP_F 1 (updI (updI (fun _ => 0) 0 1) 1 4) ([(updI (updI (updI (fun _ => 0) 0 1) 1 4) 2 2), (updI (updI (updI (fun _ => 0) 0 2) 1 7) 2 1)])).1)[0]!) 7 ([(updI (updI (updI (fun _ => 0) 0 1) 1 4) 2 2), (updI (updI (updI (fun _ => 0) 0 2) 1 7) 2 1)])).1).length : Int) = 1)))) || (!(decide (((goP_F 1 (((startP_F 1 (updI (updI (fun _ => 0) 0 1) 1 4) ([(updI (updI (updI (fun _ => 0) 0 1) 1 4) 2 2), (updI (updI (updI (fun _ => 0) 0 2) 1 7) 2 1)])).1)[0]!) 7 ([(updI (updI (updI (fun _ => 0) 0 1) 1 4) 2 2), (updI (updI (updI (fun _ => 0) 0 2) 1 7) 2 1)])).1)[0]! 11 = 2)))) || (!(decide (((goP_F 1 (((startP_F 1 (updI (updI (fun _ => 0) 0 1) 1 4) ([(updI (updI (updI (fun _ => 0) 0 1) 1 4) 2 2), (updI (updI (updI (fun _ => 0) 0 2) 1 7) 2 1)])).1)[0]!) 7 ([(updI (updI (updI (fun _ => 0) 0 1) 1 4) 2 2), (updI (updI (updI (fun _ => 0) 0 2) 1 7) 2 1)])).1)[0]! 9 = 1)))) || (!((back_F (((goP_F 1 (((startP_F 1 (updI (updI (fun _ => 0) 0 1) 1 4) ([(updI (updI (updI (fun _ => 0) 0 1) 1 4) 2 2), (updI (updI (updI (fun _ => 0) 0 2) 1 7) 2 1)])).1)[0]!) 7 ([(updI (updI (updI (fun _ => 0) 0 1) 1 4) 2 2), (updI (updI (updI (fun _ => 0) 0 2) 1 7) 2 1)])).1)[0]!))))) = true then
      True
    else
      (0 ≤ (0 : Int) ∧ (0 : Int) < ((goP_F 1 (((startP_F 1 (updI (updI (fun _ => 0) 0 1) 1 4) ([(updI (updI (updI (fun _ => 0) 0 1) 1 4) 2 2), (updI (updI (updI (fun _ => 0) 0 2) 1 7) 2 1)])).1)[0]!) 7 ([(updI (updI (updI (fun _ => 0) 0 1) 1 4) 2 2), (updI (updI (updI (fun _ => 0) 0 2) 1 7) 2 1)])).1).length) ∧ (
      True))))))

theorem alive12_ok (hP : alive12_P) : alive12_S (alive12_F) := by
  obtain ⟨r, hr⟩ : ∃ r, r = alive12_F := ⟨_, rfl⟩
  rw [← hr]
  unfold alive12_F at hr
  unfold alive12_S
  unfold alive12_P at hP
  obtain ⟨hq0, hP⟩ := hP
  refine ⟨hq0, ?_⟩
  obtain ⟨hq0, hP⟩ := hP
  refine ⟨hq0, ?_⟩
  by_cases hp20 : (((!(decide ((startP_F 1 (updI (updI (fun _ => 0) 0 1) 1 4) ([(updI (updI (updI (fun _ => 0) 0 1) 1 4) 2 2), (updI (updI (updI (fun _ => 0) 0 2) 1 7) 2 1)])).2 = 0))) || (!(decide ((((startP_F 1 (updI (updI (fun _ => 0) 0 1) 1 4) ([(updI (updI (updI (fun _ => 0) 0 1) 1 4) 2 2), (updI (updI (updI (fun _ => 0) 0 2) 1 7) 2 1)])).1).length : Int) = 1)))) || (!(decide (((startP_F 1 (updI (updI (fun _ => 0) 0 1) 1 4) ([(updI (updI (updI (fun _ => 0) 0 1) 1 4) 2 2), (updI (updI (updI (fun _ => 0) 0 2) 1 7) 2 1)])).1)[0]! 9 = 2)))) = true
  · rw [if_pos hp20] at hr hP ⊢
    exact hr
  · rw [if_neg hp20] at hr hP ⊢
    obtain ⟨hq0, hP⟩ := hP
    refine ⟨hq0, ?_⟩
    obtain ⟨hq0, hP⟩ := hP
    refine ⟨hq0, ?_⟩
    obtain ⟨hq0, hq1, hq2, hP⟩ := hP
    refine ⟨hq0, hq1, hq2, ?_⟩
    by_cases hp21 : (((((!(decide ((goP_F 1 (((startP_F 1 (updI (updI (fun _ => 0) 0 1) 1 4) ([(updI (updI (updI (fun _ => 0) 0 1) 1 4) 2 2), (updI (updI (updI (fun _ => 0) 0 2) 1 7) 2 1)])).1)[0]!) 7 ([(updI (updI (updI (fun _ => 0) 0 1) 1 4) 2 2), (updI (updI (updI (fun _ => 0) 0 2) 1 7) 2 1)])).2 = 0))) || (!(decide ((((goP_F 1 (((startP_F 1 (updI (updI (fun _ => 0) 0 1) 1 4) ([(updI (updI (updI (fun _ => 0) 0 1) 1 4) 2 2), (updI (updI (updI (fun _ => 0) 0 2) 1 7) 2 1)])).1)[0]!) 7 ([(updI (updI (updI (fun _ => 0) 0 1) 1 4) 2 2), (updI (updI (updI (fun _ => 0) 0 2) 1 7) 2 1)])).1).length : Int) = 1)))) || (!(decide (((goP_F 1 (((startP_F 1 (updI (updI (fun _ => 0) 0 1) 1 4) ([(updI (updI (updI (fun _ => 0) 0 1) 1 4) 2 2), (updI (updI (updI (fun _ => 0) 0 2) 1 7) 2 1)])).1)[0]!) 7 ([(updI (updI (updI (fun _ => 0) 0 1) 1 4) 2 2), (updI (updI (updI (fun _ => 0) 0 2) 1 7) 2 1)])).1)[0]! 11 = 2)))) || (!(decide (((goP_F 1 (((startP_F 1 (updI (updI (fun _ => 0) 0 1) 1 4) ([(updI (updI (updI (fun _ => 0) 0 1) 1 4) 2 2), (updI (updI (updI (fun _ => 0) 0 2) 1 7) 2 1)])).1)[0]!) 7 ([(updI (updI (updI (fun _ => 0) 0 1) 1 4) 2 2), (updI (updI (updI (fun _ => 0) 0 2) 1 7) 2 1)])).1)[0]! 9 = 1)))) || (!((back_F (((goP_F 1 (((startP_F 1 (updI (updI (fun _ => 0) 0 1) 1 4) ([(updI (updI (updI (fun _ => 0) 0 1) 1 4) 2 2), (updI (updI (updI (fun _ => 0) 0 2) 1 7) 2 1)])).1)[0]!) 7 ([(updI (updI (updI (fun _ => 0) 0 1) 1 4) 2 2), (updI (updI (updI (fun _ => 0) 0 2) 1 7) 2 1)])).1)[0]!))))) = true
    · rw [if_pos hp21] at hr hP ⊢
      exact hr
    · rw [if_neg hp21] at hr hP ⊢
      obtain ⟨hq0, hP⟩ := hP
      refine ⟨hq0, ?_⟩
      exact hr

end Go.E
