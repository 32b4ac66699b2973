/- Clients: what holds all along; whatever is done, all is the document's. -/
import Derived.Test.YteomcjiiiilhmaaC16S
namespace Go.E
open Go
set_option linter.unusedVariables false
set_option maxRecDepth 100000

theorem ints_dec (a b : List Int) : ints_F a b = decide (a = b) := rfl
theorem alive16_t : alive16_F = true := by decide +kernel
theorem all9 {p : Nat → Prop} (h0 : p 0) (h1 : p 1) (h2 : p 2) (h3 : p 3) (h4 : p 4) (h5 : p 5) (h6 : p 6) (h7 : p 7) (h8 : p 8) : ∀ j, j < 9 → p j := fun j hj => match j, hj with
  | 0, _ => h0 | 1, _ => h1 | 2, _ => h2 | 3, _ => h3 | 4, _ => h4 | 5, _ => h5 | 6, _ => h6 | 7, _ => h7 | 8, _ => h8 | q + 9, h => absurd h (by omega)

/-! ### What holds all along -/
structure Inv16 (n : Int) (c : Nat → Int) : Prop where
  n1 : 1 ≤ n ∧ n ≤ 8
  c0 : c 0 = n
  tx : ∀ j, j < 9 → 0 ≤ c (1 + j * 3) ∧ c (1 + j * 3) ≤ 1048576
  si : ∀ j, j < 9 → 0 ≤ c (1 + (j * 3 + 1)) ∧ c (1 + (j * 3 + 1)) ≤ 1099511627776
  out : ∀ j : Nat, j < 9 → (j = 0 ∨ n < j) → c (1 + j * 3) = 0 ∧ nz (c (1 + (j * 3 + 2))) = false
  one : ∀ i j : Nat, i < 9 → j < 9 → c (1 + i * 3) = c (1 + j * 3) → c (1 + i * 3) ≠ 0 → i = j
theorem Inv16.start {n : Int} (h : 1 ≤ n ∧ n ≤ 8) : Inv16 n (updI (fun _ => 0) 0 n) := by
  have e : ∀ k, (updI (fun _ => 0) 0 n) (1 + k) = 0 := fun k => if_neg (by omega)
  exact ⟨h, rfl, fun j _ => by rw [e]; omega, fun j _ => by rw [e]; omega, fun j _ _ => by rw [e, e]; exact ⟨rfl, rfl⟩, fun i j _ _ _ h => absurd (e _) h⟩
theorem up_tx {c : Nat → Int} {k j : Nat} {x : Int} : updI c (1 + k * 3) x (1 + j * 3) = if j = k then x else c (1 + j * 3) := by
  by_cases h : j = k
  · subst h; rw [if_pos rfl]; exact if_pos rfl
  · rw [if_neg h]; exact if_neg (by omega)
theorem up_1 {c : Nat → Int} {k j : Nat} {x : Int} : updI c (1 + k * 3) x (1 + (j * 3 + 1)) = c (1 + (j * 3 + 1)) := if_neg (by omega)
theorem up_2 {c : Nat → Int} {k j : Nat} {x : Int} : updI c (1 + k * 3) x (1 + (j * 3 + 2)) = c (1 + (j * 3 + 2)) := if_neg (by omega)
theorem up_0 {c : Nat → Int} {k : Nat} {x : Int} : updI c (1 + k) x 0 = c 0 := if_neg (by omega)
/-- A client gets a transaction, or has none any more. -/
theorem Inv16.put {n : Int} {c : Nat → Int} (h : Inv16 n c) {k : Nat} {x : Int} (hk : 1 ≤ k ∧ (k : Int) ≤ n) (hx : 0 ≤ x ∧ x ≤ 1048576) (hno : x ≠ 0 → ∀ j : Nat, 1 ≤ j → j < 9 → c (1 + j * 3) ≠ x) : Inv16 n (updI c (1 + k * 3) x) := by
  have hn1 := h.n1
  refine ⟨h.n1, by rw [up_0, h.c0], fun j hj => ?_, fun j hj => by rw [up_1]; exact h.si j hj, fun j hj ho => ?_, fun i j hi hj he hne => ?_⟩
  · rw [up_tx]; split
    · exact hx
    · exact h.tx j hj
  · rw [up_tx, up_2, if_neg (by omega)]; exact h.out j hj ho
  · rw [up_tx, up_tx] at he
    rw [up_tx] at hne
    have h0 := (h.out 0 (by omega) (.inl rfl)).1
    by_cases hik : i = k
    · by_cases hjk : j = k
      · omega
      · rw [if_pos hik, if_neg hjk] at he
        rw [if_pos hik] at hne
        by_cases hj0 : j = 0
        · subst hj0; rw [h0] at he; exact absurd he hne
        · exact absurd he.symm (hno hne j (by omega) hj)
    · rw [if_neg hik] at he hne
      by_cases hjk : j = k
      · rw [if_pos hjk] at he
        rw [he] at hne
        by_cases hi0 : i = 0
        · subst hi0; rw [h0] at he; exact absurd he.symm hne
        · exact absurd he (hno hne i (by omega) hi)
      · rw [if_neg hjk] at he
        exact h.one i j hi hj he hne
/-- A client is dead. -/
def deadC (c : Nat → Int) (k : Nat) (now : Int) : Nat → Int := updI (updI c ((1 + k * 3) + 2) (bI true)) ((1 + k * 3) + 1) now
theorem dead_tx {c : Nat → Int} {k j : Nat} {now : Int} : deadC c k now (1 + j * 3) = c (1 + j * 3) := (if_neg (by omega)).trans (if_neg (by omega))
theorem dead_1 {c : Nat → Int} {k j : Nat} {now : Int} : deadC c k now (1 + (j * 3 + 1)) = if j = k then now else c (1 + (j * 3 + 1)) := by
  by_cases h : j = k
  · subst h; rw [if_pos rfl]; exact if_pos (by omega)
  · rw [if_neg h]; exact (if_neg (by omega)).trans (if_neg (by omega))
theorem dead_2 {c : Nat → Int} {k j : Nat} {now : Int} : deadC c k now (1 + (j * 3 + 2)) = if j = k then 1 else c (1 + (j * 3 + 2)) := by
  by_cases h : j = k
  · subst h; rw [if_pos rfl]; exact (if_neg (by omega)).trans (if_pos (by omega))
  · rw [if_neg h]; exact (if_neg (by omega)).trans (if_neg (by omega))
theorem dead_0 {c : Nat → Int} {k : Nat} {now : Int} : deadC c k now 0 = c 0 := by
  show (if 0 = (1 + k * 3) + 1 then now else if 0 = (1 + k * 3) + 2 then bI true else c 0) = c 0
  rw [if_neg (by omega), if_neg (by omega)]
theorem Inv16.dead {n : Int} {c : Nat → Int} (h : Inv16 n c) {k : Nat} {now : Int} (hk : 1 ≤ k ∧ (k : Int) ≤ n) (hx : 0 ≤ now ∧ now ≤ 1099511627776) : Inv16 n (deadC c k now) := by
  refine ⟨h.n1, ?_, fun j hj => by rw [dead_tx]; exact h.tx j hj, fun j hj => ?_, fun j hj ho => ?_, fun i j hi hj he hne => ?_⟩
  · rw [dead_0, h.c0]
  · rw [dead_1]; split
    · exact hx
    · exact h.si j hj
  · rw [dead_tx, dead_2, if_neg (by omega)]; exact h.out j hj ho
  · rw [dead_tx, dead_tx] at he
    rw [dead_tx] at hne
    exact h.one i j hi hj he hne
theorem Inv16.of {n : Int} {c : Nat → Int} (h : Inv16 n c) (tx : Int) : (cofI c tx = 0 ∧ ∀ j : Nat, j < 9 → 1 ≤ tx → c (1 + j * 3) ≠ tx) ∨ ∃ j : Nat, cofI c tx = j ∧ (1 ≤ j ∧ (j : Int) ≤ n) ∧ 1 ≤ tx ∧ c (1 + j * 3) = tx := by
  rcases cofI_spec c tx with ⟨h1, h2⟩ | ⟨j, h1, h2, h3, h4, h5⟩
  · refine .inl ⟨h1, fun j hj h4 => ?_⟩
    by_cases h0 : j = 0
    · subst h0; rw [(h.out 0 (by omega) (.inl rfl)).1]; omega
    · exact h2 j (by omega) (by omega) h4
  · refine .inr ⟨j, h1, ⟨h2, ?_⟩, h4, h5⟩
    rcases Int.lt_or_le n j with h6 | h6
    · rw [(h.out j (by omega) (.inr h6)).1] at h5; omega
    · exact h6
theorem cof_eq (c : Nat → Int) (tx : Int) : (cof_F c tx).1 = cofI c tx ∧ (cof_F c tx).2 = if cofI c tx = 0 then 10 else 0 := by
  unfold cof_F
  split
  · rename_i h; exact ⟨h.symm, rfl⟩
  · exact ⟨rfl, rfl⟩

/-! ### What is done, in plain words -/
theorem begin_eq {n : Int} {c : Nat → Int} (h : Inv16 n c) (id tx : Int) : cbegin_P c id tx ∧ cbegin_F c id tx = if id < 1 ∨ n < id then (10, c) else if tx < 1 ∨ 1048576 < tx then (1, c) else if nz (c (1 + (id.toNat * 3 + 2))) = true then (11, c) else if c (1 + id.toNat * 3) = 0 then (if cofI c tx = 0 then (0, updI c (1 + id.toNat * 3) tx) else (15, c)) else (8, c) := by
  have hn := h.n1
  unfold cbegin_P cbegin_F
  rw [h.c0, (cof_eq c tx).2]
  simp only [Bool.or_eq_true, decide_eq_true_eq, Nat.add_assoc]
  by_cases h1 : id < 1 ∨ n < id
  · rw [if_pos h1, if_pos h1, if_pos h1]; exact ⟨trivial, rfl⟩
  · rw [if_neg h1, if_neg h1, if_neg h1]
    refine ⟨⟨⟨by omega, by omega⟩, ?_⟩, ?_⟩
    · split
      · trivial
      · split
        · trivial
        · split
          · refine ⟨by unfold errIs_P; decide, ?_⟩
            split <;> trivial
          · trivial
    · split
      · rfl
      · split
        · rfl
        · split
          · unfold errIs_F
            by_cases hc : cofI c tx = 0
            · rw [if_pos hc, if_pos hc, if_pos (by decide)]
            · rw [if_neg hc, if_neg hc, if_neg (by decide)]
          · rfl
theorem end_eq {n : Int} {c : Nat → Int} (h : Inv16 n c) (tx : Int) : cend_P c tx ∧ cend_F c tx = if cofI c tx = 0 then (10, c) else (0, updI c (1 + (cofI c tx).toNat * 3) 0) := by
  obtain ⟨e1, e2⟩ := cof_eq c tx
  have hn := h.n1
  unfold cend_P cend_F
  rw [e1, e2]
  rcases h.of tx with ⟨h1, _⟩ | ⟨j, h1, h2, _⟩
  · rw [if_pos h1, if_pos h1, if_neg (by decide), if_neg (by decide)]; exact ⟨trivial, rfl⟩
  · have : ¬ cofI c tx = 0 := by omega
    rw [if_neg this, if_neg this, if_pos rfl, if_pos rfl]
    exact ⟨⟨⟨by omega, by omega⟩, trivial⟩, rfl⟩
theorem crash_eq {n : Int} {c : Nat → Int} (h : Inv16 n c) (id now : Int) : ccrash_P c id now ∧ ccrash_F c id now = if id < 1 ∨ n < id then (10, c) else if now < 0 ∨ 1099511627776 < now then (1, c) else if nz (c (1 + (id.toNat * 3 + 2))) = true then (11, c) else (0, deadC c id.toNat now) := by
  have hn := h.n1
  unfold ccrash_P ccrash_F
  rw [h.c0]
  simp only [Bool.or_eq_true, decide_eq_true_eq, Nat.add_assoc]
  by_cases h1 : id < 1 ∨ n < id
  · rw [if_pos h1, if_pos h1, if_pos h1]; exact ⟨trivial, rfl⟩
  · rw [if_neg h1, if_neg h1, if_neg h1]
    refine ⟨⟨⟨by omega, by omega⟩, ?_⟩, ?_⟩
    · split
      · trivial
      · split <;> trivial
    · split
      · rfl
      · split
        · rfl
        · unfold deadC
          simp only [Nat.add_assoc]
theorem Inv16.toN {n : Int} {c : Nat → Int} (h : Inv16 n c) {id : Int} (hi : ¬ (id < 1 ∨ n < id)) : (1 ≤ id.toNat ∧ (id.toNat : Int) ≤ n) ∧ (id.toNat : Int) = id := by omega
theorem Inv16.act {n : Int} {c : Nat → Int} (h : Inv16 n c) (a : Nat → Int) : act16_P c a ∧ Inv16 n (act16_F c a).2 := by
  unfold act16_P act16_F
  have hn := h.n1
  by_cases h0 : a 0 = 0
  · rw [if_pos h0, if_pos h0]
    obtain ⟨hP, hF⟩ := begin_eq h (a 1) (a 2)
    refine ⟨⟨hP, trivial⟩, ?_⟩
    simp only [hF]
    by_cases h1 : a 1 < 1 ∨ n < a 1
    · rw [if_pos h1]; exact h
    · rw [if_neg h1]
      by_cases h2 : a 2 < 1 ∨ 1048576 < a 2
      · rw [if_pos h2]; exact h
      · rw [if_neg h2]
        by_cases h3 : nz (c (1 + ((a 1).toNat * 3 + 2))) = true
        · rw [if_pos h3]; exact h
        · rw [if_neg h3]
          by_cases h4 : c (1 + (a 1).toNat * 3) = 0
          · rw [if_pos h4]
            by_cases h5 : cofI c (a 2) = 0
            · rw [if_pos h5]
              refine h.put (h.toN h1).1 (by omega) fun _ j hj1 hj => ?_
              rcases h.of (a 2) with ⟨_, h6⟩ | ⟨j', h6, h7, _⟩
              · exact h6 j hj (by omega)
              · omega
            · rw [if_neg h5]; exact h
          · rw [if_neg h4]; exact h
  · rw [if_neg h0, if_neg h0]
    by_cases h1 : a 0 = 1
    · rw [if_pos h1, if_pos h1]
      obtain ⟨hP, hF⟩ := end_eq h (a 2)
      refine ⟨⟨hP, trivial⟩, ?_⟩
      simp only [hF]
      rcases h.of (a 2) with ⟨h2, _⟩ | ⟨j, h2, h3, _⟩
      · rw [if_pos h2]; exact h
      · rw [if_neg (by omega), h2, Int.toNat_natCast]
        exact h.put h3 (by omega) fun h => absurd rfl h
    · rw [if_neg h1, if_neg h1]
      obtain ⟨hP, hF⟩ := crash_eq h (a 1) (a 3)
      refine ⟨⟨hP, trivial⟩, ?_⟩
      simp only [hF]
      by_cases h2 : a 1 < 1 ∨ n < a 1
      · rw [if_pos h2]; exact h
      · rw [if_neg h2]
        by_cases h3 : a 3 < 0 ∨ 1099511627776 < a 3
        · rw [if_pos h3]; exact h
        · rw [if_neg h3]
          by_cases h4 : nz (c (1 + ((a 1).toNat * 3 + 2))) = true
          · rw [if_pos h4]; exact h
          · rw [if_neg h4]
            exact h.dead (h.toN h2).1 (by omega)

theorem alive16_p : alive16_P := by
  have i0 : Inv16 2 (updI (fun _ => 0) 0 2) := Inv16.start (by omega)
  have b0 := begin_eq i0 1 7
  unfold alive16_P
  refine ⟨b0.1, ite_intro (fun _ => ?_) fun _ => trivial⟩
  have i1 : Inv16 2 (cbegin_F (updI (fun _ => 0) 0 2) 1 7).2 := by
    have := (i0.act (fun i => if i = 0 then 0 else if i = 1 then 1 else 7)).2
    exact this
  have i2 : Inv16 2 (cbegin_F (cbegin_F (updI (fun _ => 0) 0 2) 1 7).2 1 8).2 := (i1.act (fun i => if i = 0 then 0 else if i = 1 then 1 else 8)).2
  have i3 : Inv16 2 (ccrash_F (cbegin_F (cbegin_F (updI (fun _ => 0) 0 2) 1 7).2 1 8).2 1 10).2 := (i2.act (fun i => if i = 0 then 2 else if i = 1 then 1 else 10)).2
  refine ⟨(begin_eq i1 1 8).1, (crash_eq i2 1 10).1, ite_intro (fun _ => ite_intro (fun _ => ⟨i3.si, ite_intro (fun _ => ⟨i3.si, ?_, trivial⟩) fun _ => trivial⟩) fun _ => trivial) fun _ => trivial⟩
  unfold ints_P clost_F
  have := lostL_len (ccrash_F (cbegin_F (cbegin_F (updI (fun _ => 0) 0 2) 1 7).2 1 8).2 1 10).2 15 5 9
  split
  · simp
  · rw [len_isort]; omega
end Go.E
