/- Loops in plain words: searches. -/
import Derived.Test.YtjmfnohbeoiddaaL2
namespace Go.E
open Go
set_option linter.unusedVariables false

/-- A loop that counts up to n and leaves at the first k where p holds. -/
theorem Wh.find {ρ : Type} {f : Int → Int ⊕ ρ → Prop} (n : Nat) (p : Nat → Bool) (rt : ρ) (rf : Nat → ρ) (hgo : ∀ k : Nat, k < n → p k = false → f k (.inl ((k : Int) + 1))) (hbad : ∀ k : Nat, k < n → p k = true → f k (.inr (rf k))) (hend : f n (.inr rt)) :
    ∃ r, Wh f 0 r ∧ ((r = rt ∧ (List.range n).any p = false) ∨ ∃ k, k < n ∧ r = rf k ∧ (List.range n).any p = true) := by
  have key : ∀ j k : Nat, k + j = n → ∃ r, Wh f (k : Int) r ∧ ((r = rt ∧ ∀ i, k ≤ i → i < n → p i = false) ∨ ∃ i, i < n ∧ r = rf i ∧ p i = true) := by
    intro j
    induction j with
    | zero =>
      intro k hk
      obtain rfl : k = n := by omega
      exact ⟨rt, .out hend, .inl ⟨rfl, fun i h1 h2 => by omega⟩⟩
    | succ j ih =>
      intro k hk
      by_cases hp : p k = true
      · exact ⟨rf k, .out (hbad k (by omega) hp), .inr ⟨k, by omega, rfl, hp⟩⟩
      · obtain ⟨r, h1, h2⟩ := ih (k + 1) (by omega)
        refine ⟨r, .again (hgo k (by omega) (by simpa using hp)) h1, ?_⟩
        rcases h2 with ⟨h2, h3⟩ | h2
        · refine .inl ⟨h2, fun i h4 h5 => ?_⟩
          by_cases hik : i = k
          · subst hik; simpa using hp
          · exact h3 i (by omega) h5
        · exact .inr h2
  obtain ⟨r, h1, h2⟩ := key n 0 (by omega)
  refine ⟨r, h1, ?_⟩
  rcases h2 with ⟨h2, h3⟩ | ⟨i, h2, h3, h4⟩
  · refine .inl ⟨h2, ?_⟩
    rw [← Bool.not_eq_true]
    intro h
    obtain ⟨i, hi, hp⟩ := List.any_eq_true.1 h
    rw [h3 i (by omega) (List.mem_range.1 hi)] at hp
    cases hp
  · exact .inr ⟨i, h2, h3, List.any_eq_true.2 ⟨i, List.mem_range.2 h2, h4⟩⟩

/-- A search through a list. -/
theorem any_range {α : Type} [Inhabited α] (l : List α) (q : α → Bool) : (List.range l.length).any (fun k => q (l[k]!)) = l.any q := by
  rw [Bool.eq_iff_iff, List.any_eq_true, List.any_eq_true]
  constructor
  · rintro ⟨k, hk, hq⟩
    have hk := List.mem_range.1 hk
    rw [getElem!_pos l k hk] at hq
    exact ⟨l[k], List.getElem_mem hk, hq⟩
  · rintro ⟨x, hx, hq⟩
    obtain ⟨k, hk, rfl⟩ := List.getElem_of_mem hx
    exact ⟨k, List.mem_range.2 hk, by rw [getElem!_pos l k hk]; exact hq⟩
theorem all_range {α : Type} [Inhabited α] (l : List α) (q : α → Bool) : (List.range l.length).all (fun k => q (l[k]!)) = l.all q := by
  have := any_range l fun x => !q x
  rw [List.any_eq_not_all_not, List.any_eq_not_all_not] at this
  simpa using this
theorem step1 {k : Nat} (h : k < 9000000000000000000) : inI64 ((k : Int) + 1) := ⟨by omega, by omega⟩
end Go.E
