/- The reference's word on a message is the program's. -/
import Derived.Test.YtmcohikcgdfhcaaP4c
import Derived.Test.YtmcohikcgdfhcaaA4bS
namespace Go.E
open Go
set_option maxHeartbeats 4000000
set_option linter.unusedSimpArgs false
theorem okB_kind {m : Nat → Int} (h : okB m = true) : 1 ≤ m 0 ∧ m 0 ≤ 11 := by
  have := (okB_rng h).1
  unfold okB mayB at h
  simp only [Bool.and_eq_true] at h
  obtain ⟨⟨_, hm⟩, _⟩ := h
  repeat' split at hm
  all_goals first | omega | cases hm
def oth (m : Nat → Int) : Prop :=
  ((m 0 = 1 ∨ m 0 = 2) ∧ (1 ≤ m 5 ∧ m 5 ≤ 250 ∧ 0 ≤ m 6 ∧ m 6 ≤ 250) ∧ (1 ≤ m 7 ∧ m 7 ≤ 4) ∧ (1 ≤ m 4 ∧ m 4 ≤ 1048576) ∧ (1 ≤ m 3 ∧ m 3 ≤ 1048576) ∧ (m 8 = 0 ∧ m 9 = 0)) ∨
  (m 0 = 3 ∧ (1 ≤ m 4 ∧ m 4 ≤ 1048576) ∧ (1 ≤ m 8 ∧ m 8 ≤ 15) ∧ (1 ≤ m 3 ∧ m 3 ≤ 1048576) ∧ (m 5 = 0 ∧ m 6 = 0 ∧ m 7 = 0 ∧ m 9 = 0)) ∨
  ((m 0 = 5 ∨ m 0 = 6) ∧ (0 ≤ m 8 ∧ m 8 ≤ 1) ∧ (1 ≤ m 3 ∧ m 3 ≤ 1048576) ∧ (m 4 = 0 ∧ m 5 = 0 ∧ m 6 = 0 ∧ m 7 = 0 ∧ m 9 = 0)) ∨
  ((m 0 = 4 ∨ m 0 = 7 ∨ m 0 = 8 ∨ m 0 = 9) ∧ (1 ≤ m 3 ∧ m 3 ≤ 1048576) ∧ (m 4 = 0 ∧ m 5 = 0 ∧ m 6 = 0 ∧ m 7 = 0 ∧ m 8 = 0 ∧ m 9 = 0)) ∨
  (m 0 = 10 ∧ (1 ≤ m 3 ∧ m 3 ≤ 1048576) ∧ (1 ≤ m 9 ∧ m 9 ≤ 1048576) ∧ m 9 < m 3 ∧ (m 4 = 0 ∧ m 5 = 0 ∧ m 6 = 0 ∧ m 7 = 0 ∧ m 8 = 0))
def zt (m : Nat → Int) : Prop := m 10 = 0 ∧ m 11 = 0 ∧ m 12 = 0 ∧ m 13 = 0 ∧ m 14 = 0 ∧ m 15 = 0 ∧ m 16 = 0 ∧ m 17 = 0 ∧ m 18 = 0 ∧ m 19 = 0 ∧ m 20 = 0 ∧ m 21 = 0 ∧ m 22 = 0 ∧ m 23 = 0 ∧ m 24 = 0 ∧ m 25 = 0 ∧ m 26 = 0 ∧ m 27 = 0
theorem okB_oth (m : Nat → Int) (h : m 0 ≠ 11) : okB m = true ↔ endsB m = true ∧ oth m ∧ zt m := by
  unfold okB mayB mayZ headM
  generalize endsB m = E
  cases E
  · simp
  simp only [Bool.true_and, true_and]
  by_cases h1 : m 0 = 1 ∨ m 0 = 2
  · simp only [if_pos h1, Bool.and_eq_true, eqN_iff, all28, updI, updRI, resB, inB, txB, decide_eq_true_eq]
    simp [oth, zt]
    omega
  by_cases h2 : m 0 = 3
  · simp only [if_neg h1, if_pos h2, Bool.and_eq_true, eqN_iff, all28, updI, updRI, resB, inB, txB, decide_eq_true_eq]
    simp [oth, zt]
    omega
  by_cases h3 : m 0 = 5 ∨ m 0 = 6
  · simp only [if_neg h1, if_neg h2, if_pos h3, Bool.and_eq_true, eqN_iff, all28, updI, updRI, resB, inB, txB, decide_eq_true_eq]
    simp [oth, zt]
    omega
  by_cases h4 : m 0 = 4 ∨ m 0 = 7 ∨ m 0 = 8 ∨ m 0 = 9
  · simp only [if_neg h1, if_neg h2, if_neg h3, if_pos h4, Bool.and_eq_true, eqN_iff, all28, updI, updRI, resB, inB, txB, decide_eq_true_eq]
    simp [oth, zt]
    omega
  by_cases h5 : m 0 = 10
  · simp only [if_neg h1, if_neg h2, if_neg h3, if_neg h4, if_pos h5, Bool.and_eq_true, eqN_iff, all28, updI, updRI, resB, inB, txB, decide_eq_true_eq]
    simp [oth, zt]
    omega
  · simp only [if_neg h1, if_neg h2, if_neg h3, if_neg h4, if_neg h5, if_neg h]
    simp [oth]
    omega
theorem boolEq {a b : Bool} (h : a = true ↔ b = true) : a = b := Bool.eq_iff_iff.2 h
theorem notB {a : Bool} (h : ¬ a = true) : a = false := by simpa using h
theorem ref04Ok_ok (m : Nat → Int) : ref04Ok_S m (okB m) := by
  unfold ref04Ok_S
  by_cases h0 : (decide (m 0 < 1) || decide (11 < m 0)) = true
  · rw [if_pos h0]
    refine notB fun h => ?_
    have := okB_kind h
    simp at h0; omega
  · rw [if_neg h0]
    have h1 : 1 ≤ m 0 ∧ m 0 ≤ 11 := by simp at h0; omega
    refine ⟨⟨by omega, by omega⟩, ⟨by omega, by show m 0 - 1 < 11; omega⟩, ?_⟩
    rw [ways_eq m h1.1 h1.2]
    by_cases he : endsB m = true
    · rw [if_neg (by simp [he])]
      by_cases h11 : m 0 = 11
      · rw [if_pos h11]
        have hm : okB m = (pathB m && eqN 28 (mayZ m) (headM m)) := by
          unfold okB mayB
          rw [he, Bool.true_and]
          rw [if_neg (by omega), if_neg (by omega), if_neg (by omega), if_neg (by omega), if_neg (by omega), if_pos h11]
        rw [hm]
        have hz : mayZ m = updRI (updI (updI (updI m 11 0) 9 0) 10 0) 12 16 (fun _ => 0) := by
          unfold mayZ
          rw [if_neg (by omega), if_neg (by omega), if_neg (by omega), if_neg (by omega), if_neg (by omega), if_pos h11]
        by_cases hg : (decide (m 11 < 1) || decide (8 < m 11) || (!number_F (m 9)) || decide (m 10 < 0) || decide (1048576 < m 10)) = true
        · rw [if_pos hg]
          refine notB fun h => ?_
          simp only [Bool.and_eq_true, pathB, inB, txB, decide_eq_true_eq] at h
          rw [num_eq] at hg
          simp [txB, inB] at hg
          omega
        · rw [if_neg hg]
          refine ⟨_, ref_l1_wh m, ?_⟩
          have hp : pathB m = (List.range 8).all (stepF m) := by
            unfold pathB
            rw [show stepF m = stepB m from funext (step_eq m)]
            have : (inB (m 11) 1 8 && txB (m 9) && inB (m 10) 0 1048576) = true := by
              rw [num_eq] at hg
              simp [txB, inB] at hg ⊢
              omega
            rw [this, Bool.true_and]
          rw [hp]
          by_cases ha : (List.range 8).all (stepF m) = true
          · rw [if_pos ha, ha, Bool.true_and, hz]
            refine boolEq ?_
            simp only [eqN_iff, all28, updI, updRI, headM]
            simp
          · rw [if_neg ha, notB ha]; rfl
      · rw [if_neg h11]
        have hk := okB_oth m h11
        rw [he] at hk
        simp only [true_and] at hk
        clear h0
        simp only [num_eq, ref02Ok_F, Nat.add_zero]
        have hkind : m 0 = 1 ∨ m 0 = 2 ∨ m 0 = 3 ∨ m 0 = 4 ∨ m 0 = 5 ∨ m 0 = 6 ∨ m 0 = 7 ∨ m 0 = 8 ∨ m 0 = 9 ∨ m 0 = 10 := by omega
        have hf : ∀ {A : Prop}, (¬ A) → (okB m = true ↔ A ∧ zt m) → okB m = false := fun ha h => notB fun hh => ha (h.1 hh).1
        have hg : ∀ {A Z : Prop} {g : Nat → Int}, (okB m = true ↔ A ∧ zt m) → (eqN 28 m g = true ↔ Z ∧ zt m) → (A ↔ Z) → okB m = eqN 28 m g := fun h1 h2 h3 => boolEq (by rw [h1, h2, h3])
        clear h1 h11 he
        rcases hkind with e | e | e | e | e | e | e | e | e | e
        all_goals
          simp only [oth, e] at hk
          simp only [e]
          simp only [Int.reduceLE, Int.reduceEq, decide_true, decide_false, Bool.or_false, Bool.or_true, Bool.false_eq_true, if_true, if_false, reduceIte, or_false, or_true, false_or, true_or, false_and, true_and] at hk ⊢
          repeat' (refine ite_intro (fun _ => ?_) (fun _ => ?_))
          all_goals first
            | (refine hf ?_ hk; simp [txB, inB] at *; omega)
            | (refine hg (Z := m 4 = 0 ∧ m 5 = 0 ∧ m 6 = 0 ∧ m 7 = 0 ∧ m 8 = 0 ∧ m 9 = 0) hk ?_ ?_
               · simp only [eqN_iff, all28, updI, updRI, zt]; simp [e]; try omega
               · simp [txB, inB] at *; omega)
            | (refine hg (Z := m 5 = 0 ∧ m 6 = 0 ∧ m 7 = 0 ∧ m 9 = 0) hk ?_ ?_
               · simp only [eqN_iff, all28, updI, updRI, zt]; simp [e]; try omega
               · simp [txB, inB] at *; omega)
            | (refine hg (Z := m 4 = 0 ∧ m 5 = 0 ∧ m 6 = 0 ∧ m 7 = 0 ∧ m 9 = 0) hk ?_ ?_
               · simp only [eqN_iff, all28, updI, updRI, zt]; simp [e]; try omega
               · simp [txB, inB] at *; omega)
            | (refine hg (Z := m 4 = 0 ∧ m 5 = 0 ∧ m 6 = 0 ∧ m 7 = 0 ∧ m 8 = 0) hk ?_ ?_
               · simp only [eqN_iff, all28, updI, updRI, zt]; simp [e]; try omega
               · simp [txB, inB] at *; omega)
            | (refine hg (Z := m 8 = 0 ∧ m 9 = 0) hk ?_ ?_
               · simp only [eqN_iff, all28, updI, updRI, zt]; simp [e]; try omega
               · simp [txB, inB] at *; omega)
    · rw [if_pos (by simp [he])]
      unfold okB
      rw [notB he]; rfl
end Go.E
