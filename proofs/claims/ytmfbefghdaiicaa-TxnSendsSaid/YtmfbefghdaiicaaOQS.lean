/- What functions of the program say, as relations. -/
import Derived.Test.YtmfbefghdaiicaaPR
set_option maxHeartbeats 1000000
set_option linter.unusedVariables false
set_option linter.unusedSimpArgs false
set_option maxRecDepth 100000
namespace Go.E
open Go

def resQ_S (r0 : (Nat → Int)) (r : Bool) : Prop :=
  r = ((((decide (0 < r0 0)) && (decide (r0 0 < 251))) && (decide ((-1) < r0 1))) && (decide (r0 1 < 251)))

def resQ_F (r0 : (Nat → Int)) : Bool :=
  (((decide (0 < r0 0)) && (decide (r0 0 < 251))) && (decide ((-1) < r0 1))) && (decide (r0 1 < 251))

theorem resQ_ok (r0 : (Nat → Int)) : resQ_S r0 (resQ_F r0) := by
  obtain ⟨r, hr⟩ : ∃ r, r = resQ_F r0 := ⟨_, rfl⟩
  rw [← hr]
  unfold resQ_F at hr
  unfold resQ_S
  exact hr

def numQ_S (n0 : Int) (r : Bool) : Prop :=
  r = ((decide (0 < n0)) && (decide (n0 ≤ 1048576)))

def numQ_F (n0 : Int) : Bool :=
  (decide (0 < n0)) && (decide (n0 ≤ 1048576))

theorem numQ_ok (n0 : Int) : numQ_S n0 (numQ_F n0) := by
  obtain ⟨r, hr⟩ : ∃ r, r = numQ_F n0 := ⟨_, rfl⟩
  rw [← hr]
  unfold numQ_F at hr
  unfold numQ_S
  exact hr

def okQ_S (m0 : (Nat → Int)) (r : Bool) : Prop :=
  (¬ (((decide (m0 0 < 1)) || (decide (11 < m0 0))) = true)) ∧ (
  (inI64 ((m0 0) - 1)) ∧ (
  (0 ≤ (m0 0) - 1 ∧ (m0 0) - 1 < (⟨#[111, 98, 98, 111, 98, 111, 98, 111, 98, 98, 101]⟩ : ByteArray).size) ∧ (
  (¬ (((((decide (strAt (⟨#[111, 98, 98, 111, 98, 111, 98, 111, 98, 98, 101]⟩ : ByteArray) ((m0 0) - 1) = 111)) && (!(((decide (m0 1 = 0)) && (decide (1 ≤ m0 2))) && (decide (m0 2 ≤ 64))))) || ((decide (strAt (⟨#[111, 98, 98, 111, 98, 111, 98, 111, 98, 98, 101]⟩ : ByteArray) ((m0 0) - 1) = 98)) && (!(((decide (m0 2 = 0)) && (decide (1 ≤ m0 1))) && (decide (m0 1 ≤ 64)))))) || ((!(((decide (m0 1 = 0)) && (decide (1 ≤ m0 2))) && (decide (m0 2 ≤ 64)))) && (!(((decide (m0 2 = 0)) && (decide (1 ≤ m0 1))) && (decide (m0 1 ≤ 64)))))) = true)) ∧ (
  (¬ (m0 0 = 11)) ∧ (
  (((numQ_F (m0 3))) = true) ∧ (
  (
    if m0 0 ≤ 3 then
      (((numQ_F (m0 4))) = true) ∧ (
      True)
    else
      True) ∧ (
  (
    if m0 0 ≤ 2 then
      (¬ ((((!((resQ_F (fun i => m0 (5 + i))))) || (decide (m0 7 < 1))) || (decide (4 < m0 7))) = true)) ∧ (
      True)
    else
      True) ∧ (
  (¬ (m0 0 = 3)) ∧ (
  (
    if ((decide (m0 0 = 5)) || (decide (m0 0 = 6))) = true then
      (¬ (((!(decide (m0 8 = 0))) && (!(decide (m0 8 = 1)))) = true)) ∧ (
      True)
    else
      True) ∧ (
  (¬ (m0 0 = 10)) ∧ (
  r = ((eqN 28 m0 (if ((decide (m0 0 = 5)) || (decide (m0 0 = 6))) = true then (updI (if m0 0 ≤ 2 then (updI (updRI (if m0 0 ≤ 3 then (updI (updI (updI (updI (updI (fun _ => 0) 0 (m0 0)) 1 (m0 1)) 2 (m0 2)) 3 (m0 3)) 4 (m0 4)) else (updI (updI (updI (updI (fun _ => 0) 0 (m0 0)) 1 (m0 1)) 2 (m0 2)) 3 (m0 3))) 5 2 (fun i => m0 (5 + i))) 7 (m0 7)) else (if m0 0 ≤ 3 then (updI (updI (updI (updI (updI (fun _ => 0) 0 (m0 0)) 1 (m0 1)) 2 (m0 2)) 3 (m0 3)) 4 (m0 4)) else (updI (updI (updI (updI (fun _ => 0) 0 (m0 0)) 1 (m0 1)) 2 (m0 2)) 3 (m0 3)))) 8 (m0 8)) else (if m0 0 ≤ 2 then (updI (updRI (if m0 0 ≤ 3 then (updI (updI (updI (updI (updI (fun _ => 0) 0 (m0 0)) 1 (m0 1)) 2 (m0 2)) 3 (m0 3)) 4 (m0 4)) else (updI (updI (updI (updI (fun _ => 0) 0 (m0 0)) 1 (m0 1)) 2 (m0 2)) 3 (m0 3))) 5 2 (fun i => m0 (5 + i))) 7 (m0 7)) else (if m0 0 ≤ 3 then (updI (updI (updI (updI (updI (fun _ => 0) 0 (m0 0)) 1 (m0 1)) 2 (m0 2)) 3 (m0 3)) 4 (m0 4)) else (updI (updI (updI (updI (fun _ => 0) 0 (m0 0)) 1 (m0 1)) 2 (m0 2)) 3 (m0 3))))))))))))))))))

end Go.E
