/- Bytes that are the same; the ranges of a message that may be. -/
import Derived.Test.YtmcohikcgdfhcaaP4d
import Derived.Test.YtmcohikcgdfhcaaD4S
namespace Go.E
open Go
def same_F (a b : List Int) : Bool := decide (a = b)
theorem same_ok (a b : List Int) (h : a.length < 9000000000000000000) : same_S a b (same_F a b) := by
  unfold same_S same_F
  by_cases hl : a.length = b.length
  · rw [if_pos (by omega)]
    have hw := Wh.all (f := fun (s : Int) (o : Int ⊕ (Unit ⊕ Unit)) => same_l1 a b s o) a.length (fun k => decide (a[k]! = b[k]!)) (.inl ()) (.inr ()) (fun k hk hp => ?_) (fun k hk hp => ?_) ?_
    · refine ⟨_, hw, ?_⟩
      by_cases hall : (List.range a.length).all (fun k => decide (a[k]! = b[k]!)) = true
      · rw [if_pos hall]
        show _ = true
        rw [decide_eq_true_eq]
        apply List.ext_getElem hl
        intro i h1 h2
        have := List.all_eq_true.1 hall i (List.mem_range.2 h1)
        rw [decide_eq_true_eq, getElem!_pos a i h1, getElem!_pos b i h2] at this
        exact this
      · rw [if_neg hall]
        show _ = false
        rw [decide_eq_false_iff_not]
        intro e
        subst e
        exact hall (List.all_eq_true.2 fun _ _ => by simp)
    · unfold same_l1
      rw [if_pos (by omega)]
      simp only [decide_eq_true_eq] at hp
      refine ⟨by omega, by omega, ?_⟩
      rw [if_pos (by simpa using hp)]
      exact ⟨⟨by omega, by omega⟩, rfl⟩
    · unfold same_l1
      rw [if_pos (by omega)]
      simp only [decide_eq_false_iff_not] at hp
      refine ⟨by omega, by omega, ?_⟩
      rw [if_neg (by simpa using hp)]
    · unfold same_l1
      rw [if_neg (by omega)]
  · rw [if_neg (by omega)]
    show _ = false
    rw [decide_eq_false_iff_not]
    intro e; exact hl (by rw [e])
def same_P (a _ : List Int) : Prop := a.length < 9000000000000000000
def ref04Ok_F (m : Nat → Int) : Bool := okB m
theorem msg_rng {m : Nat → Int} (h : msgOk_F m = 0) : (∀ k, (k = 0 ∨ k = 1 ∨ k = 2 ∨ k = 5 ∨ k = 6 ∨ k = 7 ∨ k = 8 ∨ k = 11) → 0 ≤ m k ∧ m k < 256) ∧ (∀ k, (k = 3 ∨ k = 4 ∨ k = 9 ∨ k = 10 ∨ 12 ≤ k) → k < 28 → 0 ≤ m k ∧ m k < 4294967296) := okB_rng ((msgOk_0 m).1 h)
theorem put_P_of {b l : List Int} {w : Int} (hw : w = 1 ∨ w = 4) (hl : b.length + 4 * l.length ≤ 1099511627776) (h : ∀ x ∈ l, 0 ≤ x ∧ (w = 1 → x < 256) ∧ (w = 4 → x < 4294967296)) : put_P b w l := by
  refine ⟨by omega, by omega, hl, fun x hx => ⟨(h x hx).1, ?_⟩⟩
  rcases hw with rfl | rfl
  · exact (h x hx).2.1 rfl
  · exact (h x hx).2.2 rfl
theorem putAnd {b l : List Int} {w : Int} {R : Prop} (hw : w = 1 ∨ w = 4) (hl : b.length + 4 * l.length ≤ 1099511627776) (h : ∀ x ∈ l, 0 ≤ x ∧ (w = 1 → x < 256) ∧ (w = 4 → x < 4294967296)) (k : R) : put_P b w l ∧ R := ⟨put_P_of hw hl h, k⟩
theorem enc_P_all (m : Nat → Int) : enc_P m := by
  unfold enc_P
  refine ite_intro (fun h => ?_) (fun _ => trivial)
  obtain ⟨h1, h4⟩ := msg_rng h
  have one : ∀ k, (k = 0 ∨ k = 1 ∨ k = 2 ∨ k = 5 ∨ k = 6 ∨ k = 7 ∨ k = 8 ∨ k = 11) → 0 ≤ m k ∧ ((1 : Int) = 1 → m k < 256) ∧ ((1 : Int) = 4 → m k < 4294967296) := fun k hk => ⟨(h1 k hk).1, fun _ => (h1 k hk).2, fun h => by omega⟩
  have four : ∀ k, (k = 3 ∨ k = 4 ∨ k = 9 ∨ k = 10 ∨ 12 ≤ k) → k < 28 → 0 ≤ m k ∧ ((4 : Int) = 1 → m k < 256) ∧ ((4 : Int) = 4 → m k < 4294967296) := fun k hk hk' => ⟨(h4 k hk hk').1, fun h => by omega, fun _ => (h4 k hk hk').2⟩
  repeat' (first | exact trivial | refine putAnd (by first | exact .inl rfl | exact .inr rfl) ?_ ?_ ?_)
  all_goals first
    | (simp only [List.length_append, flat_len, List.length_cons, List.length_nil, List.nil_append]; omega)
    | (intro x hx; simp only [List.mem_cons, List.not_mem_nil, or_false] at hx; rcases hx with rfl | rfl | rfl | rfl <;> first | exact one _ (by omega) | exact four _ (by omega) (by omega))
    | (intro x hx; simp only [List.mem_cons, List.not_mem_nil, or_false] at hx; rcases hx with rfl | rfl | rfl <;> first | exact one _ (by omega) | exact four _ (by omega) (by omega))
    | (intro x hx; simp only [List.mem_cons, List.not_mem_nil, or_false] at hx; rcases hx with rfl | rfl <;> first | exact one _ (by omega) | exact four _ (by omega) (by omega))
    | (intro x hx; simp only [List.mem_cons, List.not_mem_nil, or_false] at hx; subst hx; first | exact one _ (by omega) | exact four _ (by omega) (by omega))
theorem enc_okA (m : Nat → Int) : enc_S m (enc_F m) := enc_ok m (enc_P_all m)
end Go.E
