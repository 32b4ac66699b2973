/- What the program asks of a message, in plain words. -/
import Derived.Test.YtmfbefghdaiicaaMBS
import Derived.Test.YtmfbefghdaiicaaPA
import Derived.Test.YtmfbefghdaiicaaEB
namespace Go.E
open Go
theorem all28 {p : Nat → Prop} : (∀ i, i < 28 → p i) ↔ (p 0 ∧ p 1 ∧ p 2 ∧ p 3 ∧ p 4 ∧ p 5 ∧ p 6 ∧ p 7 ∧ p 8 ∧ p 9 ∧ p 10 ∧ p 11 ∧ p 12 ∧ p 13 ∧ p 14 ∧ p 15 ∧ p 16 ∧ p 17 ∧ p 18 ∧ p 19 ∧ p 20 ∧ p 21 ∧ p 22 ∧ p 23 ∧ p 24 ∧ p 25 ∧ p 26 ∧ p 27) :=
  ⟨fun h => ⟨h 0 (by omega), h 1 (by omega), h 2 (by omega), h 3 (by omega), h 4 (by omega), h 5 (by omega), h 6 (by omega), h 7 (by omega), h 8 (by omega), h 9 (by omega), h 10 (by omega), h 11 (by omega), h 12 (by omega), h 13 (by omega), h 14 (by omega), h 15 (by omega), h 16 (by omega), h 17 (by omega), h 18 (by omega), h 19 (by omega), h 20 (by omega), h 21 (by omega), h 22 (by omega), h 23 (by omega), h 24 (by omega), h 25 (by omega), h 26 (by omega), h 27 (by omega)⟩, fun ⟨h0, h1, h2, h3, h4, h5, h6, h7, h8, h9, h10, h11, h12, h13, h14, h15, h16, h17, h18, h19, h20, h21, h22, h23, h24, h25, h26, h27⟩ i hi => match i, hi with | 0, _ => h0 | 1, _ => h1 | 2, _ => h2 | 3, _ => h3 | 4, _ => h4 | 5, _ => h5 | 6, _ => h6 | 7, _ => h7 | 8, _ => h8 | 9, _ => h9 | 10, _ => h10 | 11, _ => h11 | 12, _ => h12 | 13, _ => h13 | 14, _ => h14 | 15, _ => h15 | 16, _ => h16 | 17, _ => h17 | 18, _ => h18 | 19, _ => h19 | 20, _ => h20 | 21, _ => h21 | 22, _ => h22 | 23, _ => h23 | 24, _ => h24 | 25, _ => h25 | 26, _ => h26 | 27, _ => h27 | q + 28, h => absurd h (by omega)⟩
theorem ends_eq (m : Nat → Int) : ends_F m = endsB m := by
  unfold ends_F endsB shB shard_F
  have hin : ∀ a b c, inn_F a b c = inB a b c := fun a b c => rfl
  simp only [hin]
  by_cases h1 : m 0 = 11
  · rw [if_pos h1, if_pos h1]
    by_cases h2 : m 1 = 0
    · rw [if_pos h2, if_pos h2]; simp [h2]
    · rw [if_neg h2, if_neg h2]
  · rw [if_neg h1, if_neg h1]
    by_cases h2 : m 0 = 1 ∨ m 0 = 4 ∨ m 0 = 6 ∨ m 0 = 8
    · rw [if_pos h2, if_pos (by simpa using h2)]
    · rw [if_neg h2, if_neg (by simpa using h2)]
theorem newF_eq (m : Nat → Int) (i : Nat) : newF m i = fun k => !decide (m (12 + k * 2 + 0) = m (12 + (i * 2 + 0))) := by
  funext k; simp [newF]
theorem step_eq (m : Nat → Int) (i : Nat) : stepF m i = stepB m i := by
  unfold stepF stepB newB txB tx_F
  rw [eqN2, newF_eq]
  rfl
theorem path_eq (m : Nat → Int) : path_F m = pathB m := by
  unfold path_F pathB
  rw [show stepF m = stepB m from funext (step_eq m)]
  rfl
theorem res_eq (m : Nat → Int) : resOk_F (fun i => m (5 + i)) = resB (m 5) (m 6) := by
  simp [resOk_F, resB, inB, Bool.and_assoc]
theorem may_eq (m : Nat → Int) : may_F m = (mayB m, mayZ m) := by
  unfold may_F mayB mayZ
  have hin : ∀ a b c, inn_F a b c = inB a b c := fun a b c => rfl
  have htx : ∀ a, tx_F a = txB a := fun a => rfl
  have h01 : inB 0 0 1 = true := rfl
  simp only [hin, htx, path_eq, res_eq]
  by_cases h1 : m 0 = 1 ∨ m 0 = 2
  · rw [if_pos (by simpa using h1), if_pos h1, if_pos h1]
  · rw [if_neg (by simpa using h1), if_neg h1, if_neg h1]
    by_cases h2 : m 0 = 3
    · rw [if_pos h2, if_pos h2, if_pos h2, h01, Bool.and_true]
    · rw [if_neg h2, if_neg h2, if_neg h2]
      by_cases h3 : m 0 = 5 ∨ m 0 = 6
      · rw [if_pos (by simpa using h3), if_pos h3, if_pos h3]
      · rw [if_neg (by simpa using h3), if_neg h3, if_neg h3]
        by_cases h4 : m 0 = 4 ∨ m 0 = 7 ∨ m 0 = 8 ∨ m 0 = 9
        · rw [if_pos (by simpa using h4), if_pos h4, if_pos h4]
        · rw [if_neg (by simpa using h4), if_neg h4, if_neg h4]
          by_cases h5 : m 0 = 10
          · rw [if_pos h5, if_pos h5, if_pos h5]
          · rw [if_neg h5, if_neg h5, if_neg h5]
            by_cases h6 : m 0 = 11
            · rw [if_pos h6, if_pos h6, if_pos h6]
            · rw [if_neg h6, if_neg h6, if_neg h6]
theorem msgOk_eq (m : Nat → Int) : msgOk_F m = if okB m = true then 0 else 5 := by
  unfold msgOk_F okB
  rw [may_eq, ends_eq]
  simp only
  show (if endsB m = true then if mayB m = true then if eqN 28 (mayZ m) (headM m) = true then 0 else 5 else 5 else 5) = _
  cases endsB m <;> cases mayB m <;> cases eqN 28 (mayZ m) (headM m) <;> rfl
theorem msgOk_0 (m : Nat → Int) : msgOk_F m = 0 ↔ okB m = true := by
  rw [msgOk_eq]; cases okB m <;> simp
end Go.E
namespace Go.E
open Go
end Go.E
