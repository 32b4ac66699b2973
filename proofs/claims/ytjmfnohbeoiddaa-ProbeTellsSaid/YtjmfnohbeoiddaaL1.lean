/- Loops in plain words: what relations of loops come to. -/
import Derived.Test.YtjmfnohbeoiddaaE14
namespace Go.E
open Go

/-- A loop that counts up to n and leaves early where p fails. -/
theorem Wh.all {ρ : Type} {f : Int → Int ⊕ ρ → Prop} (n : Nat) (p : Nat → Bool) (rt rf : ρ) (hgo : ∀ k : Nat, k < n → p k = true → f k (.inl ((k : Int) + 1))) (hbad : ∀ k : Nat, k < n → p k = false → f k (.inr rf)) (hend : f n (.inr rt)) :
    Wh f 0 (if (List.range n).all p = true then rt else rf) := by
  have key : ∀ j k : Nat, k + j = n → Wh f (k : Int) (if (List.range' k j).all p = true then rt else rf) := by
    intro j
    induction j with
    | zero =>
      intro k hk
      obtain rfl : k = n := by omega
      simp only [List.range'_zero, List.all_nil, if_true]
      exact .out hend
    | succ j ih =>
      intro k hk
      simp only [List.range'_succ, List.all_cons, Bool.and_eq_true]
      by_cases hp : p k = true
      · have := ih (k + 1) (by omega)
        simp only [hp, true_and]
        exact .again (hgo k (by omega) hp) this
      · rw [if_neg (fun h => hp h.1)]
        exact .out (hbad k (by omega) (by simpa using hp))
  have := key n 0 (by omega)
  rwa [← List.range_eq_range'] at this

theorem ite_intro {c p q : Prop} [Decidable c] (h1 : c → p) (h2 : ¬ c → q) : if c then p else q := by
  by_cases h : c
  · rw [if_pos h]; exact h1 h
  · rw [if_neg h]; exact h2 h
/-- A loop over a state, with a count. -/
theorem Wh.fold {σ ρ : Type} {f : σ → σ ⊕ ρ → Prop} (n : Nat) (st : Nat → σ) (r : ρ) (h : ∀ k, k < n → f (st k) (.inl (st (k + 1)))) (hn : f (st n) (.inr r)) : Wh f (st 0) r := Wh.upto st n h hn
theorem range_all {n : Nat} {p : Nat → Bool} : (List.range n).all p = true ↔ ∀ k, k < n → p k = true := by simp
end Go.E
