/- The reference's word on a message that may be, of one of four kinds. -/
import Derived.Test.YtmfbefghdaiicaaOQS
namespace Go.E
open Go
set_option linter.unusedVariables false
set_option linter.unusedSimpArgs false
def okV_F (_ : Nat → Int) : Bool := true
def okV_P (m : Nat → Int) : Prop := okB m = true ∧ (m 0 = 1 ∨ m 0 = 4 ∨ m 0 = 6 ∨ m 0 = 8)
theorem numQ_eq (n : Int) : numQ_F n = txB n := by
  simp only [numQ_F, txB, inB]
  rw [show decide (0 < n) = decide (1 ≤ n) from decide_eq_decide.2 (by omega)]
theorem okV_ok (m : Nat → Int) (h : okV_P m) : okQ_S m (okV_F m) := by
  obtain ⟨hok, hk⟩ := h
  obtain ⟨he, ho, hz⟩ := (okB_oth m (by omega)).1 hok
  have hw := ways_eq m (by omega) (by omega)
  unfold oth at ho
  unfold okQ_S okV_F
  rw [hw, he]
  refine ⟨by simp; omega, ⟨by omega, by omega⟩, ⟨by omega, by show m 0 - 1 < 11; omega⟩, by decide, by omega, by rw [numQ_eq]; simp [txB, inB]; omega, ?_, ?_, by omega, ?_, by omega, ?_⟩
  · by_cases h3 : m 0 ≤ 3
    · rw [if_pos h3, numQ_eq]
      refine ⟨?_, trivial⟩
      simp [txB, inB]; omega
    · rw [if_neg h3]; trivial
  · by_cases h3 : m 0 ≤ 2
    · rw [if_pos h3]
      refine ⟨?_, trivial⟩
      have e : resQ_F (fun i => m (5 + i)) = true := by simp [resQ_F]; omega
      rw [e]; simp; omega
    · rw [if_neg h3]; trivial
  · by_cases h3 : m 0 = 6
    · rw [if_pos (by simp [h3])]
      refine ⟨?_, trivial⟩
      simp; omega
    · rw [if_neg (by simp; omega)]; trivial
  · symm
    rw [eqN_iff]
    obtain ⟨z10, z11, z12, z13, z14, z15, z16, z17, z18, z19, z20, z21, z22, z23, z24, z25, z26, z27⟩ := hz
    rcases hk with k | k | k | k
    · rw [if_neg (by simp; omega), if_pos (by omega), if_pos (by omega), all28]
      simp only [updI, updRI]
      simp
      omega
    · rw [if_neg (by simp; omega), if_neg (by omega), if_neg (by omega), all28]
      simp only [updI, updRI]
      simp
      omega
    · rw [if_pos (by simp; omega), if_neg (by omega), if_neg (by omega), all28]
      simp only [updI, updRI]
      simp
      omega
    · rw [if_neg (by simp; omega), if_neg (by omega), if_neg (by omega), all28]
      simp only [updI, updRI]
      simp
      omega
end Go.E
