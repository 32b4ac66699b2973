/- The reference's word on a message is the program's. -/
import Derived.Test.YtmfbefghdaiicaaMRS
import Derived.Test.YtmfbefghdaiicaaEB
namespace Go.E
open Go
/-- Where may a message of a kind go. -/
theorem ways_eq (m : Nat → Int) (h1 : 1 ≤ m 0) (h2 : m 0 ≤ 11) : (((((decide (strAt (⟨#[111, 98, 98, 111, 98, 111, 98, 111, 98, 98, 101]⟩ : ByteArray) ((m 0) - 1) = 111)) && (!(((decide (m 1 = 0)) && (decide (1 ≤ m 2))) && (decide (m 2 ≤ 64))))) || ((decide (strAt (⟨#[111, 98, 98, 111, 98, 111, 98, 111, 98, 98, 101]⟩ : ByteArray) ((m 0) - 1) = 98)) && (!(((decide (m 2 = 0)) && (decide (1 ≤ m 1))) && (decide (m 1 ≤ 64)))))) || ((!(((decide (m 1 = 0)) && (decide (1 ≤ m 2))) && (decide (m 2 ≤ 64)))) && (!(((decide (m 2 = 0)) && (decide (1 ≤ m 1))) && (decide (m 1 ≤ 64))))))) = !endsB m := by
  have hs : ∀ k : Nat, k < 11 → strAt (⟨#[111, 98, 98, 111, 98, 111, 98, 111, 98, 98, 101]⟩ : ByteArray) (((k : Int) + 1) - 1) = if k = 0 ∨ k = 3 ∨ k = 5 ∨ k = 7 then 111 else if k = 10 then 101 else 98 := by decide +kernel
  obtain ⟨k, hk, e⟩ : ∃ k : Nat, k < 11 ∧ m 0 = (k : Int) + 1 := ⟨(m 0 - 1).toNat, by omega, by omega⟩
  rw [e, hs k hk]
  unfold endsB shB inB
  rw [e]
  rcases (show k = 0 ∨ k = 1 ∨ k = 2 ∨ k = 3 ∨ k = 4 ∨ k = 5 ∨ k = 6 ∨ k = 7 ∨ k = 8 ∨ k = 9 ∨ k = 10 by omega) with rfl | rfl | rfl | rfl | rfl | rfl | rfl | rfl | rfl | rfl | rfl
  all_goals (rw [Bool.eq_iff_iff]; simp; try omega)
  by_cases h0 : m 1 = 0
  · simp [h0]; omega
  · simp [h0]; omega
end Go.E
namespace Go.E
open Go
set_option maxHeartbeats 4000000
set_option linter.unusedSimpArgs false
def oth (m : Nat → Int) : Prop :=
  ((m 0 = 1 ∨ m 0 = 2) ∧ (1 ≤ m 5 ∧ m 5 ≤ 250 ∧ 0 ≤ m 6 ∧ m 6 ≤ 250) ∧ (1 ≤ m 7 ∧ m 7 ≤ 4) ∧ (1 ≤ m 4 ∧ m 4 ≤ 1048576) ∧ (1 ≤ m 3 ∧ m 3 ≤ 1048576) ∧ (m 8 = 0 ∧ m 9 = 0)) ∨
  (m 0 = 3 ∧ (1 ≤ m 4 ∧ m 4 ≤ 1048576) ∧ (1 ≤ m 8 ∧ m 8 ≤ 15) ∧ (1 ≤ m 3 ∧ m 3 ≤ 1048576) ∧ (m 5 = 0 ∧ m 6 = 0 ∧ m 7 = 0 ∧ m 9 = 0)) ∨
  ((m 0 = 5 ∨ m 0 = 6) ∧ (0 ≤ m 8 ∧ m 8 ≤ 1) ∧ (1 ≤ m 3 ∧ m 3 ≤ 1048576) ∧ (m 4 = 0 ∧ m 5 = 0 ∧ m 6 = 0 ∧ m 7 = 0 ∧ m 9 = 0)) ∨
  ((m 0 = 4 ∨ m 0 = 7 ∨ m 0 = 8 ∨ m 0 = 9) ∧ (1 ≤ m 3 ∧ m 3 ≤ 1048576) ∧ (m 4 = 0 ∧ m 5 = 0 ∧ m 6 = 0 ∧ m 7 = 0 ∧ m 8 = 0 ∧ m 9 = 0)) ∨
  (m 0 = 10 ∧ (1 ≤ m 3 ∧ m 3 ≤ 1048576) ∧ (1 ≤ m 9 ∧ m 9 ≤ 1048576) ∧ m 9 < m 3 ∧ (m 4 = 0 ∧ m 5 = 0 ∧ m 6 = 0 ∧ m 7 = 0 ∧ m 8 = 0))
def zt (m : Nat → Int) : Prop := m 10 = 0 ∧ m 11 = 0 ∧ m 12 = 0 ∧ m 13 = 0 ∧ m 14 = 0 ∧ m 15 = 0 ∧ m 16 = 0 ∧ m 17 = 0 ∧ m 18 = 0 ∧ m 19 = 0 ∧ m 20 = 0 ∧ m 21 = 0 ∧ m 22 = 0 ∧ m 23 = 0 ∧ m 24 = 0 ∧ m 25 = 0 ∧ m 26 = 0 ∧ m 27 = 0
theorem okB_oth (m : Nat → Int) (h : m 0 ≠ 11) : okB m = true ↔ endsB m = true ∧ oth m ∧ zt m := by
  unfold okB mayB mayZ headM
  generalize endsB m = E
  cases E
  · simp
  simp only [Bool.true_and, true_and]
  by_cases h1 : m 0 = 1 ∨ m 0 = 2
  · simp only [if_pos h1, Bool.and_eq_true, eqN_iff, all28, updI, updRI, resB, inB, txB, decide_eq_true_eq]
    simp [oth, zt]
    omega
  by_cases h2 : m 0 = 3
  · simp only [if_neg h1, if_pos h2, Bool.and_eq_true, eqN_iff, all28, updI, updRI, resB, inB, txB, decide_eq_true_eq]
    simp [oth, zt]
    omega
  by_cases h3 : m 0 = 5 ∨ m 0 = 6
  · simp only [if_neg h1, if_neg h2, if_pos h3, Bool.and_eq_true, eqN_iff, all28, updI, updRI, resB, inB, txB, decide_eq_true_eq]
    simp [oth, zt]
    omega
  by_cases h4 : m 0 = 4 ∨ m 0 = 7 ∨ m 0 = 8 ∨ m 0 = 9
  · simp only [if_neg h1, if_neg h2, if_neg h3, if_pos h4, Bool.and_eq_true, eqN_iff, all28, updI, updRI, resB, inB, txB, decide_eq_true_eq]
    simp [oth, zt]
    omega
  by_cases h5 : m 0 = 10
  · simp only [if_neg h1, if_neg h2, if_neg h3, if_neg h4, if_pos h5, Bool.and_eq_true, eqN_iff, all28, updI, updRI, resB, inB, txB, decide_eq_true_eq]
    simp [oth, zt]
    omega
  · simp only [if_neg h1, if_neg h2, if_neg h3, if_neg h4, if_neg h5, if_neg h]
    simp [oth]
    omega
end Go.E
