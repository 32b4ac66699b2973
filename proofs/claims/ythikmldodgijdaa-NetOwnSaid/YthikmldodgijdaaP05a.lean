/- What the net's functions ask, and do. -/
import Derived.Test.YthikmldodgijdaaA05S
import Derived.Test.YthikmldodgijdaaEB
namespace Go.E
open Go
set_option linter.unusedVariables false

theorem cloneM_ok (l : List (Nat → Int)) (h : cloneM_P l) : cloneM_S l (cloneM_F l) := by
  unfold cloneM_P at h
  unfold cloneM_S cloneM_F
  exact ⟨fun e => e, by omega, rfl⟩
/-- The place that a number picks. -/
def placeF (n k : Int) : Int := (k.tmod n + n).tmod n
theorem placeF_rng {n k : Int} (h : 0 < n) : 0 ≤ placeF n k ∧ placeF n k < n := by
  unfold placeF
  have h1 := Int.lt_tmod_of_pos k h
  exact ⟨Int.tmod_nonneg _ (by omega), Int.tmod_lt_of_pos _ h⟩
theorem placeF_eq {n k : Int} (h : 0 < n) : placeF n k = k % n := by
  unfold placeF
  have h1 := Int.lt_tmod_of_pos k h
  rw [Int.tmod_eq_emod_of_nonneg (by omega), Int.add_emod_right]
  rw [Int.tmod_def, Int.sub_eq_add_neg, ← Int.mul_neg, Int.add_mul_emod_self_left]
theorem pick_pre {lim k : Int} {l : List (Nat → Int)} (hl : l.length ≤ 600000000000) : pick_P lim l k := by
  unfold pick_P
  refine ite_intro (fun _ => trivial) fun h => ?_
  have hp : 0 < (l.length : Int) := by omega
  have h1 := Int.lt_tmod_of_pos k hp
  have h2 := Int.tmod_lt_of_pos k hp
  exact ⟨h, ⟨by omega, by omega⟩, h, trivial⟩
theorem pick_eq (lim k : Int) (l : List (Nat → Int)) : pick_F lim l k = if l = [] then (0, 10) else (placeF l.length k, 0) := by
  unfold pick_F placeF
  by_cases h : l = []
  · rw [if_pos h, if_pos (by rw [h]; rfl)]
  · rw [if_neg h, if_neg (by
      have := List.length_pos_iff.2 h
      omega)]
/-- What is left when the one at a place is taken. -/
def without (l : List (Nat → Int)) (i : Nat) : List (Nat → Int) := l.take i ++ l.drop (i + 1)
theorem deliver_eq (lim k : Int) (l : List (Nat → Int)) : deliver_F lim l k = if l = [] then ((fun _ => 0), 10, l) else (l[(placeF l.length k).toNat]!, 0, without l (placeF l.length k).toNat) := by
  unfold deliver_F
  rw [pick_eq]
  by_cases h : l = []
  · rw [if_pos h, if_neg (by decide), if_pos h]
  · have hp : 0 < (l.length : Int) := by have := List.length_pos_iff.2 h; omega
    have hr := placeF_rng (k := k) hp
    rw [if_neg h, if_pos rfl, if_neg (by simp only; omega), if_neg h]
    simp only [List.drop_zero]
    rw [List.take_of_length_le (Nat.le_refl l.length), show (placeF (l.length : Int) k + 1).toNat = (placeF (l.length : Int) k).toNat + 1 by omega]
    rfl
theorem deliver_pre {lim k : Int} {l : List (Nat → Int)} (hl : l.length ≤ 600000000000) : deliver_P lim l k := by
  unfold deliver_P
  refine ⟨pick_pre hl, ?_⟩
  rw [pick_eq]
  by_cases h : l = []
  · rw [if_pos h]
    exact ite_intro (fun h => by simp at h) fun _ => trivial
  · have hp : 0 < (l.length : Int) := by have := List.length_pos_iff.2 h; omega
    have hr := placeF_rng (k := k) hp
    rw [if_neg h, if_pos rfl]
    simp only
    refine ⟨hr, ⟨by omega, by omega⟩, ⟨by omega, by omega, by omega⟩, ?_⟩
    rw [if_neg (by omega)]
    refine ⟨⟨by omega, by omega⟩, ⟨by omega, by omega⟩, ?_, trivial⟩
    simp only [List.length_append, List.length_drop, List.length_take]
    omega
end Go.E
