/- Transactions: each step keeps what is known of one. -/
import Derived.Test.YtmfbefghdaiicaaP17d
namespace Go.E
open Go
set_option linter.unusedVariables false
set_option linter.unusedSimpArgs false
set_option maxRecDepth 100000
section
variable {n : Nat} {tx st re sq : Int} {op : Bool} {sh : Int} {at_ : Nat → Int} {mo : Int} {to_ vo ac : List Int} {go : List (Nat → Int)}
theorem askC_TI (h : TI n tx st re sq op sh at_ mo to_ vo ac go) (s : Int) (a : Nat → Int) (m : Int) : TIT (n + 1) (askC tx st re sq op sh at_ mo to_ vo ac go s a m).1 := by
  have h' := h.mono (Nat.le_succ n)
  unfold askC
  by_cases hb : (1 ≤ s ∧ s ≤ 64) ∧ resOk_F a = true ∧ (1 ≤ m ∧ m ≤ 4)
  · rw [if_pos hb]
    by_cases hs : st = 1
    · rw [if_pos hs]
      cases op with
      | true => rw [if_pos rfl]; exact h'
      | false =>
        rw [if_neg Bool.false_ne_true]
        by_cases h6 : sq = 1048576
        · rw [if_pos h6]; exact h'
        · rw [if_neg h6]
          subst hs
          exact h'.ask h6 hb.1 hb.2.1 hb.2.2
    · rw [if_neg hs]; exact h'
  · rw [if_neg hb]; exact h'
theorem ansC_TI (h : TI n tx st re sq op sh at_ mo to_ vo ac go) (m : Nat → Int) : TIT (n + 1) (ansC tx st re sq op sh at_ mo to_ vo ac go m).1 := by
  have h' := h.mono (Nat.le_succ n)
  unfold ansC
  by_cases hf : Form tx 2 m ∨ Form tx 3 m
  · rw [if_pos hf]
    by_cases hs : st = 1
    · rw [if_pos hs]
      by_cases hc : op = true ∧ m 4 = sq ∧ m 1 = sh ∧ (m 0 = 2 → eqN 2 (fun i => m (5 + i)) at_ = true)
      · rw [if_pos hc]
        by_cases h2 : m 0 = 2
        · rw [if_pos h2]; exact (h.got _).shut
        · rw [if_neg h2]; exact h'.shut
      · rw [if_neg hc]; exact h'
    · rw [if_neg hs]; exact h'
  · rw [if_neg hf]; exact h'
theorem finC_TI (h : TI n tx st re sq op sh at_ mo to_ vo ac go) : TIT (n + 1) (finC tx st re sq op sh at_ mo to_ vo ac go).1 := by
  have h' := h.mono (Nat.le_succ n)
  unfold finC
  by_cases hs : st = 1
  · rw [if_pos hs]
    cases op with
    | true => rw [if_pos rfl]; exact h'
    | false =>
      rw [if_neg Bool.false_ne_true]
      by_cases ht : to_ = []
      · rw [if_pos ht]
        exact h'.commit (by rw [h.vo5 hs, ht])
      · rw [if_neg ht]
        subst hs
        exact h'.prep (fun e => ht (len0.1 e))
  · rw [if_neg hs]; exact h'
theorem voteC_TI (h : TI n tx st re sq op sh at_ mo to_ vo ac go) (m : Nat → Int) : TIT (n + 1) (voteC tx st re sq op sh at_ mo to_ vo ac go m).1 := by
  have h' := h.mono (Nat.le_succ n)
  unfold voteC
  by_cases hf : Form tx 5 m
  · rw [if_pos hf]
    by_cases hs : st = 2
    · rw [if_pos hs]
      by_cases hm : m 1 ∈ to_
      · rw [if_pos hm]
        by_cases h8 : m 8 = 0
        · rw [if_pos h8]; exact h'.abort (r := 2) (by omega)
        · rw [if_neg h8]
          subst hs
          by_cases hl : (insI (m 1) vo).length < to_.length
          · rw [if_pos hl]; exact h'.vote hm hl
          · rw [if_neg hl]; exact h'.votes hm hl
      · rw [if_neg hm]; exact h'
    · rw [if_neg hs]; exact h'
  · rw [if_neg hf]; exact h'
theorem abortC_TI (h : TI n tx st re sq op sh at_ mo to_ vo ac go) (r : Int) : TIT (n + 1) (abortC tx st re sq op sh at_ mo to_ vo ac go r).1 := by
  have h' := h.mono (Nat.le_succ n)
  unfold abortC
  by_cases hr : 1 ≤ r ∧ r ≤ 5
  · rw [if_pos hr]
    by_cases hd : st = 3 ∨ st = 4
    · rw [if_pos hd]; exact h'
    · rw [if_neg hd]; exact h'.abort hr
  · rw [if_neg hr]; exact h'
theorem ackC_TI (h : TI n tx st re sq op sh at_ mo to_ vo ac go) (m : Nat → Int) : TIT (n + 1) (ackC tx st re sq op sh at_ mo to_ vo ac go m).1 := by
  have h' := h.mono (Nat.le_succ n)
  unfold ackC
  by_cases hf : Form tx 7 m
  · rw [if_pos hf]
    by_cases hd : st = 3 ∨ st = 4
    · rw [if_pos hd]
      by_cases hm : m 1 ∈ to_
      · rw [if_pos hm]; exact h'.ack hd hm
      · rw [if_neg hm]; exact h'
    · rw [if_neg hd]; exact h'
  · rw [if_neg hf]; exact h'
theorem new_TI {t : Int} (h : 1 ≤ t ∧ t ≤ 1048576) : TI 0 t 1 0 0 false 0 (fun _ => 0) 0 [] [] [] [] where
  htx := h
  hst := by omega
  hre := by omega
  hre4 := by omega
  hsq := by omega
  to1 := .nil
  to2 := fun s hs => by simp at hs
  vo1 := .nil
  vo2 := fun s hs => by simp at hs
  ac1 := .nil
  ac2 := fun s hs => by simp at hs
  hgo := Nat.le_refl 0
  hop := fun e => by cases e
  vo3 := fun e => by omega
  vo4 := fun e => by omega
  vo5 := fun _ => rfl
  ac3 := fun _ => rfl
theorem tnew_is {t : Int} : tnew_F t = if 1 ≤ t ∧ t ≤ 1048576 then ((t, 1, 0, 0, false, 0, (fun _ => 0), 0, [], [], [], []), 0) else ((0, 0, 0, 0, false, 0, (fun _ => 0), 0, [], [], [], []), 1) := by
  unfold tnew_F
  by_cases h : 1 ≤ t ∧ t ≤ 1048576
  · rw [if_neg (by simp; omega), if_pos h]
  · rw [if_pos (by simp; omega), if_neg h]
end
end Go.E
