/- Rising lists of numbers, in plain words; folds. -/
import Derived.Test.YtljklmlodfbdnaaGreatL4
namespace Go.E
open Go
set_option linter.unusedVariables false

/-! ### Rising lists -/
def insI (x : Int) : List Int → List Int
  | [] => [x]
  | y :: r => if y < x then y :: insI x r else if y = x then y :: r else x :: y :: r
def rising_F (l : List Int) : List Int := l.foldl (fun out x => insI x out) []
theorem mem_insI {x y : Int} {l : List Int} : y ∈ insI x l ↔ y = x ∨ y ∈ l := by
  induction l with
  | nil => simp [insI]
  | cons z l ih =>
    unfold insI
    split
    · simp only [List.mem_cons, ih]
      constructor
      · rintro (h | h | h)
        · exact .inr (.inl h)
        · exact .inl h
        · exact .inr (.inr h)
      · rintro (h | h | h)
        · exact .inr (.inl h)
        · exact .inl h
        · exact .inr (.inr h)
    · split
      · rename_i h1 h2
        simp only [List.mem_cons]
        constructor
        · exact .inr
        · rintro (h | h)
          · exact .inl (by omega)
          · exact h
      · simp only [List.mem_cons]
theorem rising_insI {x : Int} {l : List Int} (h : l.Pairwise fun a b => a < b) : (insI x l).Pairwise fun a b => a < b := by
  induction l with
  | nil => simp [insI]
  | cons z l ih =>
    have hz := List.pairwise_cons.1 h
    unfold insI
    split
    · rename_i h1
      refine List.pairwise_cons.2 ⟨fun y hy => ?_, ih hz.2⟩
      rcases mem_insI.1 hy with rfl | hy
      · exact h1
      · exact hz.1 y hy
    · split
      · exact h
      · rename_i h1 h2
        refine List.pairwise_cons.2 ⟨fun y hy => ?_, h⟩
        rcases List.mem_cons.1 hy with rfl | hy
        · omega
        · have := hz.1 y hy; omega
theorem mem_rising {x : Int} {l : List Int} : x ∈ rising_F l ↔ x ∈ l := by
  have key : ∀ (l out : List Int), x ∈ l.foldl (fun out x => insI x out) out ↔ x ∈ out ∨ x ∈ l := by
    intro l
    induction l with
    | nil => intro out; simp
    | cons y l ih =>
      intro out
      rw [List.foldl_cons, ih, mem_insI, List.mem_cons]
      constructor
      · rintro ((h | h) | h)
        · exact .inr (.inl h)
        · exact .inl h
        · exact .inr (.inr h)
      · rintro (h | h | h)
        · exact .inl (.inr h)
        · exact .inl (.inl h)
        · exact .inr h
  unfold rising_F
  rw [key]
  simp
/-- Where a number goes. -/
def spot (x : Int) : List Int → Nat
  | [] => 0
  | y :: r => if y < x then spot x r + 1 else 0
theorem spot_le (x : Int) (l : List Int) : spot x l ≤ l.length := by
  induction l with
  | nil => simp [spot]
  | cons y r ih => unfold spot; split <;> simp; omega
theorem spot_lt {x : Int} {l : List Int} {k : Nat} (h : k < spot x l) : l[k]! < x := by
  induction l generalizing k with
  | nil => simp [spot] at h
  | cons y r ih =>
    unfold spot at h
    split at h
    · cases k with
      | zero => simpa
      | succ k => simpa using ih (by omega)
    · omega
theorem spot_at {x : Int} {l : List Int} (h : spot x l < l.length) : ¬ l[spot x l]! < x := by
  induction l with
  | nil => simp at h
  | cons y r ih =>
    unfold spot at h ⊢
    split
    · rename_i hy
      rw [if_pos hy] at h
      simp only [List.length_cons] at h
      simpa using ih (by omega)
    · rename_i hy
      simpa using hy
theorem insI_spot (x : Int) (l : List Int) : insI x l = if spot x l < l.length ∧ l[spot x l]! = x then l else l.take (spot x l) ++ [x] ++ l.drop (spot x l) := by
  induction l with
  | nil => simp [insI, spot]
  | cons y r ih =>
    unfold insI spot
    by_cases h : y < x
    · rw [if_pos h, if_pos h, ih]
      simp only [List.length_cons, Nat.add_lt_add_iff_right, List.take_succ_cons, List.drop_succ_cons]
      have : (y :: r)[spot x r + 1]! = r[spot x r]! := by simp
      rw [this]
      split <;> simp
    · rw [if_neg h, if_neg h]
      by_cases h2 : y = x
      · rw [if_pos h2, if_pos ⟨by simp, by simpa using h2⟩]
      · rw [if_neg h2, if_neg (fun h => h2 (by simpa using h.2))]
        simp

/-! ### The same numbers; numbers in a list -/
def ends2 (l : List (Nat → Int)) : List Int := l.flatMap fun e => [e 0, e 2]
end Go.E
