/- The steps of a probe that may be, in plain words. -/
import Derived.Test.YtmfbefghdaiicaaEB
import Derived.Test.YtmfbefghdaiicaaMAS
namespace Go.E
open Go
theorem imin {k : Nat} (h : k < 9000000000) : inI64 ((k : Int) + 1) := ⟨by omega, by omega⟩
def newF (m : Nat → Int) (i : Nat) (k : Nat) : Bool := !decide (m (12 + k * 2) = m (12 + i * 2))
def stepF (m : Nat → Int) (i : Nat) : Bool :=
  if m 11 ≤ i then eqN 2 (fun j => m (12 + (i * 2 + j))) (fun _ => 0)
  else tx_F (m (12 + i * 2)) && inn_F (m (12 + (i * 2 + 1))) 1 1048576 && (List.range i).all (newF m i)
def path_F (m : Nat → Int) : Bool := inn_F (m 11) 1 8 && tx_F (m 9) && inn_F (m 10) 0 1048576 && (List.range 8).all (stepF m)
theorem path_l2_wh (m : Nat → Int) (i : Nat) (hi : i < 8) : Wh (fun (s : Int) (o : Int ⊕ (Unit ⊕ Unit)) => path_l2 m (i : Int) s o) 0 (if (List.range i).all (newF m i) = true then .inl () else .inr ()) := by
  refine Wh.all i (newF m i) _ _ (fun k hk hp => ?_) (fun k hk hp => ?_) ?_
  · unfold path_l2
    rw [if_pos (by simp; exact hk)]
    refine ⟨by simp; exact hk, ?_⟩
    simp only [newF, Bool.not_eq_true', decide_eq_false_iff_not] at hp
    rw [if_neg (by simpa using hp)]
    exact ⟨imin (by omega), rfl⟩
  · unfold path_l2
    rw [if_pos (by simp; exact hk)]
    refine ⟨by simp; exact hk, ?_⟩
    simp only [newF, Bool.not_eq_false', decide_eq_true_eq] at hp
    rw [if_pos (by simpa using hp)]
  · unfold path_l2
    rw [if_neg (by simp)]
theorem path_l1_wh (m : Nat → Int) : Wh (fun (s : Int) (o : Int ⊕ (Unit ⊕ Unit)) => path_l1 m s o) 0 (if (List.range 8).all (stepF m) = true then .inl () else .inr ()) := by
  have key : ∀ k : Nat, k < 8 → path_l1 m k (if stepF m k = true then .inl ((k : Int) + 1) else .inr (.inr ())) := by
    intro k hk
    unfold path_l1
    rw [if_pos (by omega)]
    refine ⟨by omega, ?_⟩
    unfold stepF
    by_cases h1 : m 11 ≤ k
    · rw [if_pos h1, if_pos h1]
      simp only [Int.toNat_natCast]
      by_cases h2 : eqN 2 (fun j => m (12 + (k * 2 + j))) (fun _ => 0) = true
      · rw [if_pos h2, if_pos h2]; exact ⟨imin (by omega), rfl⟩
      · rw [if_neg h2, if_neg h2]
    · rw [if_neg h1, if_neg h1]
      simp only [Int.toNat_natCast]
      by_cases h2 : tx_F (m (12 + k * 2)) = true
      · by_cases h3 : inn_F (m (12 + (k * 2 + 1))) 1 1048576 = true
        · rw [if_neg (by simp [h2, h3])]
          refine ⟨by omega, _, path_l2_wh m k hk, ?_⟩
          by_cases h4 : (List.range k).all (newF m k) = true
          · rw [if_pos h4, h2, h3, h4]
            exact ⟨imin (by omega), rfl⟩
          · rw [if_neg h4, if_neg (by simp only [h2, h3, Bool.true_and]; exact h4)]
            rfl
        · rw [if_pos (by simp [h3]), if_neg (by simp [h3])]
      · rw [if_pos (by simp [h2]), if_neg (by simp [h2])]
  refine Wh.all 8 (stepF m) _ _ (fun k hk hp => ?_) (fun k hk hp => ?_) ?_
  · have := key k hk; rwa [if_pos hp] at this
  · have := key k hk; rwa [if_neg (by simp [hp])] at this
  · unfold path_l1
    rw [if_neg (by omega)]
theorem path_ok (m : Nat → Int) : path_S m (path_F m) := by
  unfold path_S path_F
  by_cases h : ((!inn_F (m 11) 1 8) || (!tx_F (m 9)) || (!inn_F (m 10) 0 1048576)) = true
  · rw [if_pos h]
    have : (inn_F (m 11) 1 8 && tx_F (m 9) && inn_F (m 10) 0 1048576) = false := by
      revert h; cases inn_F (m 11) 1 8 <;> cases tx_F (m 9) <;> cases inn_F (m 10) 0 1048576 <;> simp
    rw [this]; rfl
  · rw [if_neg h]
    have : (inn_F (m 11) 1 8 && tx_F (m 9) && inn_F (m 10) 0 1048576) = true := by
      revert h; cases inn_F (m 11) 1 8 <;> cases tx_F (m 9) <;> cases inn_F (m 10) 0 1048576 <;> simp
    rw [this, Bool.true_and]
    refine ⟨_, path_l1_wh m, ?_⟩
    by_cases h1 : (List.range 8).all (stepF m) = true
    · rw [if_pos h1, h1]; rfl
    · rw [if_neg h1]; simp only [Bool.not_eq_true] at h1; rw [h1]; rfl
end Go.E
