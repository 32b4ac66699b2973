/- Messages: what may be, as plain functions of a message's 28 numbers. -/
import Derived.Test.YtjmfnohbeoiddaaE7
namespace Go.E
open Go

theorem eqN2 (f g : Nat → Int) : eqN 2 f g = (decide (f 0 = g 0) && decide (f 1 = g 1)) := by
  rw [Bool.eq_iff_iff, eqN_iff]
  simp only [Bool.and_eq_true, decide_eq_true_eq]
  exact ⟨fun h => ⟨h 0 (by omega), h 1 (by omega)⟩, fun h i hi => by
    rcases (show i = 0 ∨ i = 1 by omega) with rfl | rfl
    · exact h.1
    · exact h.2⟩

def inB (n a b : Int) : Bool := decide (a ≤ n) && decide (n ≤ b)
def txB (n : Int) : Bool := inB n 1 1048576
def shB (n : Int) : Bool := inB n 1 64
def endsB (m : Nat → Int) : Bool :=
  if m 0 = 11 then (if m 1 = 0 then shB (m 2) else shB (m 1) && decide (m 2 = 0))
  else if m 0 = 1 ∨ m 0 = 4 ∨ m 0 = 6 ∨ m 0 = 8 then decide (m 1 = 0) && shB (m 2)
  else shB (m 1) && decide (m 2 = 0)
def resB (t r : Int) : Bool := inB t 1 250 && inB r 0 250
/-- No step ahead of step i is of its transaction. -/
def newB (m : Nat → Int) (i j : Nat) : Bool := (List.range j).all fun k => !decide (m (12 + k * 2 + 0) = m (12 + (i * 2 + 0)))
/-- The step i of a message. -/
def stepB (m : Nat → Int) (i : Nat) : Bool :=
  if m 11 ≤ i then decide (m (12 + (i * 2 + 0)) = 0) && decide (m (12 + (i * 2 + 1)) = 0)
  else txB (m (12 + (i * 2 + 0))) && inB (m (12 + (i * 2 + 1))) 1 1048576 && newB m i i
def pathB (m : Nat → Int) : Bool := inB (m 11) 1 8 && txB (m 9) && inB (m 10) 0 1048576 && (List.range 8).all (stepB m)

theorem all_succ (p : Nat → Bool) (k : Nat) : (List.range (k + 1)).all p = ((List.range k).all p && p k) := by simp [List.range_succ]
theorem all_false {p : Nat → Bool} {k n : Nat} (hk : k < n) (h : p k = false) : (List.range n).all p = false := by
  rw [← Bool.not_eq_true]; intro ha
  rw [List.all_eq_true] at ha
  rw [ha k (List.mem_range.2 hk)] at h; cases h
theorem newB_succ (m : Nat → Int) (i j : Nat) : newB m i (j + 1) = (newB m i j && !decide (m (12 + j * 2 + 0) = m (12 + (i * 2 + 0)))) := all_succ _ _
theorem newB_false {m : Nat → Int} {i j n : Nat} (hj : j < n) (h : m (12 + j * 2 + 0) = m (12 + (i * 2 + 0))) : newB m i n = false := all_false hj (by simp only [h, decide_true, Bool.not_true])

def mayB (m : Nat → Int) : Bool :=
  if m 0 = 1 ∨ m 0 = 2 then resB (m 5) (m 6) && inB (m 7) 1 4 && inB (m 4) 1 1048576 && txB (m 3)
  else if m 0 = 3 then inB (m 4) 1 1048576 && inB (m 8) 1 15 && txB (m 3)
  else if m 0 = 5 ∨ m 0 = 6 then inB (m 8) 0 1 && txB (m 3)
  else if m 0 = 4 ∨ m 0 = 7 ∨ m 0 = 8 ∨ m 0 = 9 then txB (m 3)
  else if m 0 = 10 then txB (m 3) && txB (m 9) && decide (m 9 < m 3)
  else if m 0 = 11 then pathB m else false
/-- What a kind asks is taken out. -/
def mayZ (m : Nat → Int) : Nat → Int :=
  if m 0 = 1 ∨ m 0 = 2 then updI (updI (updI (updRI m 5 2 (fun _ => 0)) 7 0) 4 0) 3 0
  else if m 0 = 3 then updI (updI (updI (updI m 4 0) 8 0) 8 0) 3 0
  else if m 0 = 5 ∨ m 0 = 6 then updI (updI m 8 0) 3 0
  else if m 0 = 4 ∨ m 0 = 7 ∨ m 0 = 8 ∨ m 0 = 9 then updI m 3 0
  else if m 0 = 10 then updI (updI m 3 0) 9 0
  else if m 0 = 11 then updRI (updI (updI (updI m 11 0) 9 0) 10 0) 12 16 (fun _ => 0) else m
/-- The head of a message alone. -/
def headM (m : Nat → Int) : Nat → Int := updI (updI (updI (fun _ => 0) 0 (m 0)) 1 (m 1)) 2 (m 2)
def okB (m : Nat → Int) : Bool := endsB m && mayB m && eqN 28 (mayZ m) (headM m)
end Go.E
