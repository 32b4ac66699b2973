/- Clients: what holds all along, what is done in plain words. -/
import Derived.Test.YtljklmlodfbdnaaGreatB18S
import Derived.Test.YtljklmlodfbdnaaGreatL6
namespace Go.E
open Go
set_option linter.unusedVariables false
set_option maxRecDepth 100000

/-! ### What holds all along -/
structure Inv16 (n : Int) (c : Nat → Int) : Prop where
  n1 : 1 ≤ n ∧ n ≤ 8
  c0 : c 0 = n
  tx : ∀ j, j < 9 → 0 ≤ c (1 + j * 3) ∧ c (1 + j * 3) ≤ 1048576
  si : ∀ j, j < 9 → 0 ≤ c (1 + (j * 3 + 1)) ∧ c (1 + (j * 3 + 1)) ≤ 1099511627776
  out : ∀ j : Nat, j < 9 → (j = 0 ∨ n < j) → c (1 + j * 3) = 0 ∧ nz (c (1 + (j * 3 + 2))) = false
  one : ∀ i j : Nat, i < 9 → j < 9 → c (1 + i * 3) = c (1 + j * 3) → c (1 + i * 3) ≠ 0 → i = j
theorem Inv16.start {n : Int} (h : 1 ≤ n ∧ n ≤ 8) : Inv16 n (updI (fun _ => 0) 0 n) := by
  have e : ∀ k, (updI (fun _ => 0) 0 n) (1 + k) = 0 := fun k => if_neg (by omega)
  exact ⟨h, rfl, fun j _ => by rw [e]; omega, fun j _ => by rw [e]; omega, fun j _ _ => by rw [e, e]; exact ⟨rfl, rfl⟩, fun i j _ _ _ h => absurd (e _) h⟩
theorem up_tx {c : Nat → Int} {k j : Nat} {x : Int} : updI c (1 + k * 3) x (1 + j * 3) = if j = k then x else c (1 + j * 3) := by
  by_cases h : j = k
  · subst h; rw [if_pos rfl]; exact if_pos rfl
  · rw [if_neg h]; exact if_neg (by omega)
theorem up_1 {c : Nat → Int} {k j : Nat} {x : Int} : updI c (1 + k * 3) x (1 + (j * 3 + 1)) = c (1 + (j * 3 + 1)) := if_neg (by omega)
theorem up_2 {c : Nat → Int} {k j : Nat} {x : Int} : updI c (1 + k * 3) x (1 + (j * 3 + 2)) = c (1 + (j * 3 + 2)) := if_neg (by omega)
theorem up_0 {c : Nat → Int} {k : Nat} {x : Int} : updI c (1 + k) x 0 = c 0 := if_neg (by omega)
/-- A client gets a transaction, or has none any more. -/
theorem Inv16.put {n : Int} {c : Nat → Int} (h : Inv16 n c) {k : Nat} {x : Int} (hk : 1 ≤ k ∧ (k : Int) ≤ n) (hx : 0 ≤ x ∧ x ≤ 1048576) (hno : x ≠ 0 → ∀ j : Nat, 1 ≤ j → j < 9 → c (1 + j * 3) ≠ x) : Inv16 n (updI c (1 + k * 3) x) := by
  have hn1 := h.n1
  refine ⟨h.n1, by rw [up_0, h.c0], fun j hj => ?_, fun j hj => by rw [up_1]; exact h.si j hj, fun j hj ho => ?_, fun i j hi hj he hne => ?_⟩
  · rw [up_tx]; split
    · exact hx
    · exact h.tx j hj
  · rw [up_tx, up_2, if_neg (by omega)]; exact h.out j hj ho
  · rw [up_tx, up_tx] at he
    rw [up_tx] at hne
    have h0 := (h.out 0 (by omega) (.inl rfl)).1
    by_cases hik : i = k
    · by_cases hjk : j = k
      · omega
      · rw [if_pos hik, if_neg hjk] at he
        rw [if_pos hik] at hne
        by_cases hj0 : j = 0
        · subst hj0; rw [h0] at he; exact absurd he hne
        · exact absurd he.symm (hno hne j (by omega) hj)
    · rw [if_neg hik] at he hne
      by_cases hjk : j = k
      · rw [if_pos hjk] at he
        rw [he] at hne
        by_cases hi0 : i = 0
        · subst hi0; rw [h0] at he; exact absurd he.symm hne
        · exact absurd he (hno hne i (by omega) hi)
      · rw [if_neg hjk] at he
        exact h.one i j hi hj he hne
theorem Inv16.of {n : Int} {c : Nat → Int} (h : Inv16 n c) (tx : Int) : (cofI c tx = 0 ∧ ∀ j : Nat, j < 9 → 1 ≤ tx → c (1 + j * 3) ≠ tx) ∨ ∃ j : Nat, cofI c tx = j ∧ (1 ≤ j ∧ (j : Int) ≤ n) ∧ 1 ≤ tx ∧ c (1 + j * 3) = tx := by
  rcases cofI_spec c tx with ⟨h1, h2⟩ | ⟨j, h1, h2, h3, h4, h5⟩
  · refine .inl ⟨h1, fun j hj h4 => ?_⟩
    by_cases h0 : j = 0
    · subst h0; rw [(h.out 0 (by omega) (.inl rfl)).1]; omega
    · exact h2 j (by omega) (by omega) h4
  · refine .inr ⟨j, h1, ⟨h2, ?_⟩, h4, h5⟩
    rcases Int.lt_or_le n j with h6 | h6
    · rw [(h.out j (by omega) (.inr h6)).1] at h5; omega
    · exact h6
theorem cof_eq (c : Nat → Int) (tx : Int) : (cof_F c tx).1 = cofI c tx ∧ (cof_F c tx).2 = if cofI c tx = 0 then 10 else 0 := by
  unfold cof_F
  split
  · rename_i h; exact ⟨h.symm, rfl⟩
  · exact ⟨rfl, rfl⟩

/-! ### What is done, in plain words -/
theorem begin_eq {n : Int} {c : Nat → Int} (h : Inv16 n c) (id tx : Int) : cbegin_P c id tx ∧ cbegin_F c id tx = if id < 1 ∨ n < id then (10, c) else if tx < 1 ∨ 1048576 < tx then (1, c) else if nz (c (1 + (id.toNat * 3 + 2))) = true then (11, c) else if c (1 + id.toNat * 3) = 0 then (if cofI c tx = 0 then (0, updI c (1 + id.toNat * 3) tx) else (15, c)) else (8, c) := by
  have hn := h.n1
  unfold cbegin_P cbegin_F
  rw [h.c0, (cof_eq c tx).2]
  simp only [Bool.or_eq_true, decide_eq_true_eq, Nat.add_assoc]
  by_cases h1 : id < 1 ∨ n < id
  · rw [if_pos h1, if_pos h1, if_pos h1]; exact ⟨trivial, rfl⟩
  · rw [if_neg h1, if_neg h1, if_neg h1]
    refine ⟨⟨⟨by omega, by omega⟩, ?_⟩, ?_⟩
    · split
      · trivial
      · split
        · trivial
        · split
          · refine ⟨by unfold errIs_P; decide, ?_⟩
            split <;> trivial
          · trivial
    · split
      · rfl
      · split
        · rfl
        · split
          · unfold errIs_F
            by_cases hc : cofI c tx = 0
            · rw [if_pos hc, if_pos hc, if_pos (by decide)]
            · rw [if_neg hc, if_neg hc, if_neg (by decide)]
          · rfl
theorem end_eq {n : Int} {c : Nat → Int} (h : Inv16 n c) (tx : Int) : cend_P c tx ∧ cend_F c tx = if cofI c tx = 0 then (10, c) else (0, updI c (1 + (cofI c tx).toNat * 3) 0) := by
  obtain ⟨e1, e2⟩ := cof_eq c tx
  have hn := h.n1
  unfold cend_P cend_F
  rw [e1, e2]
  rcases h.of tx with ⟨h1, _⟩ | ⟨j, h1, h2, _⟩
  · rw [if_pos h1, if_pos h1, if_neg (by decide), if_neg (by decide)]; exact ⟨trivial, rfl⟩
  · have : ¬ cofI c tx = 0 := by omega
    rw [if_neg this, if_neg this, if_pos rfl, if_pos rfl]
    exact ⟨⟨⟨by omega, by omega⟩, trivial⟩, rfl⟩
theorem Inv16.toN {n : Int} {c : Nat → Int} (h : Inv16 n c) {id : Int} (hi : ¬ (id < 1 ∨ n < id)) : (1 ≤ id.toNat ∧ (id.toNat : Int) ≤ n) ∧ (id.toNat : Int) = id := by omega
end Go.E
