/- A message's bytes; of one that may be all numbers are in range. -/
import Derived.Test.YtjmfnohbeoiddaaSpec4
import Derived.Test.YtjmfnohbeoiddaaSpec3
namespace Go.E
open Go

def encH (m : Nat → Int) : List Int :=
  [m 0, m 1, m 2].flatMap be1 ++ [m 3, m 4].flatMap be4 ++ [m 5, m 6, m 7, m 8].flatMap be1 ++ [m 9, m 10].flatMap be4 ++ [m 11].flatMap be1
def encP (m : Nat → Int) (k : Nat) : List Int := (List.range k).flatMap fun i => [m (12 + (i * 2 + 0)), m (12 + (i * 2 + 1))].flatMap be4
def encM (m : Nat → Int) : List Int := encH m ++ encP m 8
theorem encH_len (m : Nat → Int) : (encH m).length = 24 := rfl
theorem encP_succ (m : Nat → Int) (k : Nat) : encP m (k + 1) = encP m k ++ [m (12 + (k * 2 + 0)), m (12 + (k * 2 + 1))].flatMap be4 := by
  unfold encP; rw [List.range_succ, List.flatMap_append]; simp
theorem encP_len (m : Nat → Int) (k : Nat) : (encP m k).length = 8 * k := by
  induction k with
  | zero => rfl
  | succ k ih => rw [encP_succ, List.length_append, ih]; simp [be4]; omega

theorem stepB_rng {m : Nat → Int} {i : Nat} (h : stepB m i = true) : (0 ≤ m (12 + (i * 2 + 0)) ∧ m (12 + (i * 2 + 0)) ≤ 1048576) ∧ 0 ≤ m (12 + (i * 2 + 1)) ∧ m (12 + (i * 2 + 1)) ≤ 1048576 := by
  unfold stepB at h
  split at h
  · simp only [Bool.and_eq_true, decide_eq_true_eq] at h; omega
  · simp only [Bool.and_eq_true, decide_eq_true_eq, txB, inB] at h; omega

theorem okB_rng {m : Nat → Int} (h : okB m = true) : (∀ k, (k = 0 ∨ k = 1 ∨ k = 2 ∨ k = 5 ∨ k = 6 ∨ k = 7 ∨ k = 8 ∨ k = 11) → 0 ≤ m k ∧ m k < 256) ∧ (∀ k, (k = 3 ∨ k = 4 ∨ k = 9 ∨ k = 10 ∨ 12 ≤ k) → k < 28 → 0 ≤ m k ∧ m k < 4294967296) := by
  unfold okB at h
  simp only [Bool.and_eq_true] at h
  obtain ⟨⟨he, hm⟩, hq⟩ := h
  rw [eqN_iff] at hq
  have h012 : (0 ≤ m 0 ∧ m 0 < 12) ∧ (0 ≤ m 1 ∧ m 1 ≤ 64) ∧ 0 ≤ m 2 ∧ m 2 ≤ 64 := by
    refine ⟨?_, ?_⟩
    · unfold mayB at hm
      repeat' split at hm
      all_goals first | omega | cases hm
    · unfold endsB at he
      repeat' split at he
      all_goals (simp only [Bool.and_eq_true, decide_eq_true_eq, shB, inB] at he; omega)
  have key : ∀ k, 3 ≤ k → k < 28 → 0 ≤ m k ∧ m k ≤ 1048576 ∧ (k = 5 ∨ k = 6 ∨ k = 7 ∨ k = 8 ∨ k = 11 → m k < 256) := by
    intro k h3 h28
    have hk := hq k h28
    have hh : headM m k = 0 := by simp only [headM, updI]; rw [if_neg (by omega), if_neg (by omega), if_neg (by omega)]
    rw [hh] at hk
    unfold mayZ at hk
    unfold mayB at hm
    repeat' split at hm
    · rename_i h0
      rw [if_pos h0] at hk
      simp only [updI, updRI] at hk
      simp only [Bool.and_eq_true, resB, txB, inB, decide_eq_true_eq] at hm
      by_cases e3 : k = 3
      · subst e3; omega
      by_cases e4 : k = 4
      · subst e4; omega
      by_cases e5 : k = 5
      · subst e5; omega
      by_cases e6 : k = 6
      · subst e6; omega
      by_cases e7 : k = 7
      · subst e7; omega
      rw [if_neg e3, if_neg e4, if_neg e7, if_neg (by omega)] at hk
      omega
    · rename_i h0 h1
      rw [if_neg h0, if_pos h1] at hk
      simp only [updI] at hk
      simp only [Bool.and_eq_true, txB, inB, decide_eq_true_eq] at hm
      by_cases e3 : k = 3
      · subst e3; omega
      by_cases e4 : k = 4
      · subst e4; omega
      by_cases e8 : k = 8
      · subst e8; omega
      rw [if_neg e3, if_neg e8, if_neg e8, if_neg e4] at hk
      omega
    · rename_i h0 h1 h2
      rw [if_neg h0, if_neg h1, if_pos h2] at hk
      simp only [updI] at hk
      simp only [Bool.and_eq_true, txB, inB, decide_eq_true_eq] at hm
      by_cases e3 : k = 3
      · subst e3; omega
      by_cases e8 : k = 8
      · subst e8; omega
      rw [if_neg e3, if_neg e8] at hk
      omega
    · rename_i h0 h1 h2 h4
      rw [if_neg h0, if_neg h1, if_neg h2, if_pos h4] at hk
      simp only [updI] at hk
      simp only [Bool.and_eq_true, txB, inB, decide_eq_true_eq] at hm
      by_cases e3 : k = 3
      · subst e3; omega
      rw [if_neg e3] at hk
      omega
    · rename_i h0 h1 h2 h4 h5
      rw [if_neg h0, if_neg h1, if_neg h2, if_neg h4, if_pos h5] at hk
      simp only [updI] at hk
      simp only [Bool.and_eq_true, txB, inB, decide_eq_true_eq] at hm
      by_cases e3 : k = 3
      · subst e3; omega
      by_cases e9 : k = 9
      · subst e9; omega
      rw [if_neg e9, if_neg e3] at hk
      omega
    · rename_i h0 h1 h2 h4 h5 h6
      rw [if_neg h0, if_neg h1, if_neg h2, if_neg h4, if_neg h5, if_pos h6] at hk
      simp only [updI, updRI] at hk
      unfold pathB at hm
      simp only [Bool.and_eq_true, txB, inB, decide_eq_true_eq, List.all_eq_true] at hm
      by_cases e9 : k = 9
      · subst e9; omega
      by_cases e10 : k = 10
      · subst e10; omega
      by_cases e11 : k = 11
      · subst e11; omega
      by_cases e12 : 12 ≤ k
      · have hst := stepB_rng (hm.2 ((k - 12) / 2) (List.mem_range.2 (by omega)))
        rcases (show k = 12 + ((k - 12) / 2 * 2 + 0) ∨ k = 12 + ((k - 12) / 2 * 2 + 1) by omega) with e | e
        · rw [← e] at hst; omega
        · rw [← e] at hst; omega
      rw [if_neg (by omega), if_neg e10, if_neg e9, if_neg e11] at hk
      omega
    · cases hm
  refine ⟨fun k hk => ?_, fun k hk h28 => ?_⟩
  · rcases hk with rfl | rfl | rfl | hk
    · omega
    · omega
    · omega
    · have := key k (by omega) (by omega)
      have := this.2.2 (by omega)
      omega
  · have := key k (by omega) h28
    omega
end Go.E
