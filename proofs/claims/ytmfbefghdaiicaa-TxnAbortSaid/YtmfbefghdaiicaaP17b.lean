/- Transactions: which shards are left. -/
import Derived.Test.YtmfbefghdaiicaaB17S
namespace Go.E
open Go
set_option linter.unusedVariables false
set_option maxRecDepth 100000

/-- What stands in but is dropped. -/
def leftL (l but : List Int) : List Int := l.filter fun x => !hasI_F but x
def tleft_F (_tx _st _re _sq : Int) (_op : Bool) (_sh : Int) (_at : Nat → Int) (_mo : Int) (to_ _vo _ac : List Int) (_go : List (Nat → Int)) (but : List Int) : List Int := leftL to_ but
def tleft_P (_tx _st _re _sq : Int) (_op : Bool) (_sh : Int) (_at : Nat → Int) (_mo : Int) (to_ _vo _ac : List Int) (_go : List (Nat → Int)) (but : List Int) : Prop := to_.length ≤ 1000000000 ∧ but.length ≤ 1000000000
theorem take_succ! (l : List Int) {k : Nat} (h : k < l.length) : l.take (k + 1) = l.take k ++ [l[k]!] := by
  rw [List.take_add_one, List.getElem?_eq_getElem h, getk h]; rfl
theorem leftL_take (l but : List Int) {k : Nat} (h : k < l.length) : leftL (l.take (k + 1)) but = leftL (l.take k) but ++ if hasI_F but (l[k]!) = true then [] else [l[k]!] := by
  unfold leftL
  rw [take_succ! l h, List.filter_append]
  generalize l[k]! = x
  congr 1
  by_cases hc : hasI_F but x = true
  · rw [if_pos hc, List.filter_cons_of_neg (by rw [hc]; decide)]; rfl
  · rw [if_neg hc, List.filter_cons_of_pos (by simpa using hc)]; rfl
theorem tleft_ok (tx st re sq : Int) (op : Bool) (sh : Int) (at_ : Nat → Int) (mo : Int) (to_ vo ac : List Int) (go : List (Nat → Int)) (but : List Int) (h : tleft_P tx st re sq op sh at_ mo to_ vo ac go but) :
    tleft_S tx st re sq op sh at_ mo to_ vo ac go but (tleft_F tx st re sq op sh at_ mo to_ vo ac go but) := by
  obtain ⟨hl, hb⟩ := h
  unfold tleft_S tleft_F
  refine ⟨hl, ?_⟩
  have hcl : cloneI_F to_ = to_ := rfl
  obtain ⟨r, hr, h2⟩ := Wh.by (f := fun (s : Int) (o : (Int) ⊕ ((Unit) ⊕ (Int))) => tleft_l1 to_ but s o) (fun s => ∃ k : Nat, s = (k : Int) ∧ k ≤ to_.length ∧ leftL (to_.take k) but = to_.take k) (fun s => to_.length - s.toNat)
      (fun r => (r = .inl () ∧ leftL to_ but = to_) ∨ ∃ k : Nat, r = .inr (k : Int) ∧ k < to_.length ∧ leftL (to_.take k) but = to_.take k ∧ hasI_F but (to_[k]!) = true) (s := (0 : Int)) ⟨0, rfl, by simp, by simp [leftL]⟩ (by
    rintro s ⟨k, rfl, hk, hL⟩
    by_cases hlt : k < to_.length
    · by_cases hc : hasI_F but (to_[k]!) = true
      · right
        refine ⟨.inr (k : Int), ?_, .inr ⟨k, rfl, hlt, hL, hc⟩⟩
        unfold tleft_l1
        rw [hcl, Int.toNat_natCast, if_pos (by omega), if_pos hc]
        exact ⟨⟨by omega, by omega⟩, hb, rfl⟩
      · left
        refine ⟨((k : Int) + 1), ?_, ⟨k + 1, by simp, hlt, by rw [leftL_take _ _ hlt, hL, if_neg hc, take_succ! _ hlt]⟩, by omega⟩
        unfold tleft_l1
        rw [hcl, Int.toNat_natCast, if_pos (by omega), if_neg hc]
        exact ⟨⟨by omega, by omega⟩, hb, step1 (by omega), rfl⟩
    · right
      refine ⟨.inl (), ?_, .inl ⟨rfl, by rw [List.take_of_length_le (by omega)] at hL; exact hL⟩⟩
      unfold tleft_l1
      rw [hcl, if_neg (by omega)])
  refine ⟨r, hr, ?_⟩
  rcases h2 with ⟨rfl, h2⟩ | ⟨k, rfl, hk, hL, hc⟩
  · show tleft_k1a to_ (leftL to_ but)
    unfold tleft_k1a
    rw [h2, hcl]
  · show tleft_k1b to_ but (k : Int) (leftL to_ but)
    unfold tleft_k1b
    rw [if_neg (by omega), hcl]
    refine ⟨step1 (by omega), ?_⟩
    obtain ⟨x, hx, h3⟩ := Wh.by (f := fun (s : (List Int) × Int × Int) (o : ((List Int) × Int × Int) ⊕ ((List Int) × Int)) => tleft_l2 but s.1 s.2.1 s.2.2 o) (fun s => ∃ i j : Nat, s.2.1 = (i : Int) ∧ s.2.2 = (j : Int) ∧ i < j ∧ j ≤ to_.length ∧ s.1.length = to_.length ∧ s.1.take i = leftL (to_.take j) but ∧ ∀ q, j ≤ q → q < to_.length → s.1[q]! = to_[q]!) (fun s => to_.length - s.2.2.toNat)
        (fun x => ∃ i : Nat, x.2 = (i : Int) ∧ i ≤ x.1.length ∧ x.1.take i = leftL to_ but) (s := ((to_, (k : Int), (k : Int) + 1) : (List Int) × Int × Int)) ⟨k, k + 1, rfl, by simp, by omega, hk, rfl, by rw [leftL_take _ _ hk, hL, if_pos hc]; simp, fun _ _ _ => rfl⟩ (by
      rintro ⟨s, i', j'⟩ ⟨i, j, h1, h2, hij, hj, hsl, ht, hq⟩
      dsimp only at h1 h2 hsl ht hq
      subst h1
      subst h2
      by_cases hlt : j < to_.length
      · left
        have e := hq j (Nat.le_refl _) hlt
        by_cases hcj : hasI_F but (to_[j]!) = true
        · refine ⟨(s, (i : Int), (j : Int) + 1), ?_, ⟨i, j + 1, rfl, by simp, by omega, hlt, hsl, by rw [leftL_take _ _ hlt, if_pos hcj, List.append_nil]; exact ht, fun q h1 h2 => hq q (by omega) h2⟩, by dsimp only; omega⟩
          dsimp only
          unfold tleft_l2
          rw [Int.toNat_natCast, Int.toNat_natCast, if_pos (by omega), e, if_pos hcj]
          exact ⟨⟨by omega, by omega⟩, hb, step1 (by omega), rfl⟩
        · refine ⟨(s.set i (to_[j]!), (i : Int) + 1, (j : Int) + 1), ?_, ⟨i + 1, j + 1, by simp, by simp, by omega, hlt, by simpa using hsl, ?_, fun q h1 h2 => ?_⟩, by dsimp only; omega⟩
          · dsimp only
            unfold tleft_l2
            rw [Int.toNat_natCast, Int.toNat_natCast, if_pos (by omega), e, if_neg hcj]
            exact ⟨⟨by omega, by omega⟩, hb, ⟨by omega, by omega⟩, step1 (by omega), step1 (by omega), rfl⟩
          · dsimp only
            rw [leftL_take _ _ hlt, if_neg hcj, ← ht, take_succ! _ (by simp; omega), List.take_set_of_le (Nat.le_refl _), getk (by simp; omega), List.getElem_set_self]
          · dsimp only
            rw [getk (by simp; omega), List.getElem_set_ne (by omega), ← getk (by omega), hq q (by omega) h2]
      · right
        refine ⟨(s, (i : Int)), ?_, i, rfl, by dsimp only; omega, ?_⟩
        · dsimp only
          unfold tleft_l2
          rw [if_neg (by omega)]
        · dsimp only
          rw [ht, List.take_of_length_le (by omega)])
    refine ⟨x, hx, ?_⟩
    obtain ⟨s, i'⟩ := x
    obtain ⟨i, h1, h2, h3⟩ := h3
    dsimp only at h1 h2 h3
    subst h1
    dsimp only
    unfold tleft_k2a
    rw [Int.toNat_natCast]
    refine ⟨⟨by omega, by omega⟩, ⟨by omega, by simp; omega⟩, ?_⟩
    rw [← h3, List.drop_zero, List.take_append_of_le_length (by simp; omega), List.take_take, Nat.min_self]
end Go.E
