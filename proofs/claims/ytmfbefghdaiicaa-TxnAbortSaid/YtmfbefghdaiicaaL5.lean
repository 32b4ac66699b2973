/- Rising lists of numbers, in plain words; folds. -/
import Derived.Test.YtmfbefghdaiicaaL4
namespace Go.E
open Go
set_option linter.unusedVariables false

theorem foldl_take {α σ : Type} [Inhabited α] (f : σ → α → σ) (z : σ) (l : List α) (k : Nat) (hk : k < l.length) : (l.take (k + 1)).foldl f z = f ((l.take k).foldl f z) (l[k]!) := by
  rw [List.take_add_one, List.getElem?_eq_getElem hk, List.foldl_append, getElem!_pos l k hk]
  rfl

theorem any_take {α : Type} [Inhabited α] (l : List α) (q : α → Bool) (k : Nat) (hk : k < l.length) : (l.take (k + 1)).any q = ((l.take k).any q || q (l[k]!)) := by
  rw [List.take_add_one, List.getElem?_eq_getElem hk, List.any_append, getElem!_pos l k hk]
  simp
/-! ### Rising lists -/
def insI (x : Int) : List Int → List Int
  | [] => [x]
  | y :: r => if y < x then y :: insI x r else if y = x then y :: r else x :: y :: r
def rising_F (l : List Int) : List Int := l.foldl (fun out x => insI x out) []
def rising_P (l : List Int) : Prop := l.length ≤ 1000000000
theorem mem_insI {x y : Int} {l : List Int} : y ∈ insI x l ↔ y = x ∨ y ∈ l := by
  induction l with
  | nil => simp [insI]
  | cons z l ih =>
    unfold insI
    split
    · simp only [List.mem_cons, ih]
      constructor
      · rintro (h | h | h)
        · exact .inr (.inl h)
        · exact .inl h
        · exact .inr (.inr h)
      · rintro (h | h | h)
        · exact .inr (.inl h)
        · exact .inl h
        · exact .inr (.inr h)
    · split
      · rename_i h1 h2
        simp only [List.mem_cons]
        constructor
        · exact .inr
        · rintro (h | h)
          · exact .inl (by omega)
          · exact h
      · simp only [List.mem_cons]
theorem rising_insI {x : Int} {l : List Int} (h : l.Pairwise fun a b => a < b) : (insI x l).Pairwise fun a b => a < b := by
  induction l with
  | nil => simp [insI]
  | cons z l ih =>
    have hz := List.pairwise_cons.1 h
    unfold insI
    split
    · rename_i h1
      refine List.pairwise_cons.2 ⟨fun y hy => ?_, ih hz.2⟩
      rcases mem_insI.1 hy with rfl | hy
      · exact h1
      · exact hz.1 y hy
    · split
      · exact h
      · rename_i h1 h2
        refine List.pairwise_cons.2 ⟨fun y hy => ?_, h⟩
        rcases List.mem_cons.1 hy with rfl | hy
        · omega
        · have := hz.1 y hy; omega
theorem len_insI (x : Int) (l : List Int) : (insI x l).length ≤ l.length + 1 := by
  induction l with
  | nil => simp [insI]
  | cons z l ih =>
    unfold insI
    split
    · simp only [List.length_cons]; omega
    · split <;> simp
theorem mem_rising {x : Int} {l : List Int} : x ∈ rising_F l ↔ x ∈ l := by
  have key : ∀ (l out : List Int), x ∈ l.foldl (fun out x => insI x out) out ↔ x ∈ out ∨ x ∈ l := by
    intro l
    induction l with
    | nil => intro out; simp
    | cons y l ih =>
      intro out
      rw [List.foldl_cons, ih, mem_insI, List.mem_cons]
      constructor
      · rintro ((h | h) | h)
        · exact .inr (.inl h)
        · exact .inl h
        · exact .inr (.inr h)
      · rintro (h | h | h)
        · exact .inl (.inr h)
        · exact .inl (.inl h)
        · exact .inr h
  unfold rising_F
  rw [key]
  simp
theorem len_rising (l : List Int) : (rising_F l).length ≤ l.length := by
  have key : ∀ (l out : List Int), (l.foldl (fun out x => insI x out) out).length ≤ out.length + l.length := by
    intro l
    induction l with
    | nil => intro out; simp
    | cons y l ih =>
      intro out
      rw [List.foldl_cons, List.length_cons]
      have := ih (insI y out)
      have := len_insI y out
      omega
  have := key l []
  simpa [rising_F] using this
/-- Where a number goes. -/
def spot (x : Int) : List Int → Nat
  | [] => 0
  | y :: r => if y < x then spot x r + 1 else 0
theorem spot_le (x : Int) (l : List Int) : spot x l ≤ l.length := by
  induction l with
  | nil => simp [spot]
  | cons y r ih => unfold spot; split <;> simp; omega
theorem spot_lt {x : Int} {l : List Int} {k : Nat} (h : k < spot x l) : l[k]! < x := by
  induction l generalizing k with
  | nil => simp [spot] at h
  | cons y r ih =>
    unfold spot at h
    split at h
    · cases k with
      | zero => simpa
      | succ k => simpa using ih (by omega)
    · omega
theorem spot_at {x : Int} {l : List Int} (h : spot x l < l.length) : ¬ l[spot x l]! < x := by
  induction l with
  | nil => simp at h
  | cons y r ih =>
    unfold spot at h ⊢
    split
    · rename_i hy
      rw [if_pos hy] at h
      simp only [List.length_cons] at h
      simpa using ih (by omega)
    · rename_i hy
      simpa using hy
theorem insI_spot (x : Int) (l : List Int) : insI x l = if spot x l < l.length ∧ l[spot x l]! = x then l else l.take (spot x l) ++ [x] ++ l.drop (spot x l) := by
  induction l with
  | nil => simp [insI, spot]
  | cons y r ih =>
    unfold insI spot
    by_cases h : y < x
    · rw [if_pos h, if_pos h, ih]
      simp only [List.length_cons, Nat.add_lt_add_iff_right, List.take_succ_cons, List.drop_succ_cons]
      have : (y :: r)[spot x r + 1]! = r[spot x r]! := by simp
      rw [this]
      split <;> simp
    · rw [if_neg h, if_neg h]
      by_cases h2 : y = x
      · rw [if_pos h2, if_pos ⟨by simp, by simpa using h2⟩]
      · rw [if_neg h2, if_neg (fun h => h2 (by simpa using h.2))]
        simp

/-! ### The same numbers; numbers in a list -/
def ints_F (a b : List Int) : Bool := decide (a = b)
def ints_P (a _ : List Int) : Prop := a.length < 9000000000000000000
theorem ints_self (a : List Int) : ints_F a a = true := by simp [ints_F]
theorem all_eq {a b : List Int} (hl : a.length = b.length) : (List.range a.length).all (fun k => decide (a[k]! = b[k]!)) = decide (a = b) := by
  rw [Bool.eq_iff_iff, List.all_eq_true, decide_eq_true_eq]
  constructor
  · intro h
    refine List.ext_getElem hl fun i h1 h2 => ?_
    have := h i (List.mem_range.2 h1)
    rwa [decide_eq_true_eq, getElem!_pos a i h1, getElem!_pos b i h2] at this
  · rintro rfl
    exact fun i _ => by simp
def hasI_F (s : List Int) (v : Int) : Bool := decide (v ∈ s)
def hasI_P (s : List Int) (_ : Int) : Prop := s.length ≤ 1000000000
theorem any_has (s : List Int) (v : Int) : s.any (fun x => decide (v = x)) = hasI_F s v := by
  unfold hasI_F
  rw [Bool.eq_iff_iff, List.any_eq_true, decide_eq_true_eq]
  constructor
  · rintro ⟨x, hx, h⟩
    rw [decide_eq_true_eq] at h
    rw [h]; exact hx
  · exact fun h => ⟨v, h, by simp⟩
def ends2 (l : List (Nat → Int)) : List Int := l.flatMap fun e => [e 0, e 2]
end Go.E
