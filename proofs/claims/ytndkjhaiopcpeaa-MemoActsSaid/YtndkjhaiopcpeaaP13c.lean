/- Books: where a transaction stands in the document's list. -/
import Derived.Test.YtndkjhaiopcpeaaD13S
namespace Go.E
open Go
set_option linter.unusedVariables false
set_option maxRecDepth 100000

theorem ints_ok (a b : List Int) (h : ints_P a b) : ints_S a b (ints_F a b) := by
  unfold ints_P at h
  unfold ints_S ints_F
  by_cases hl : a.length = b.length
  · rw [if_pos (by omega)]
    have := Wh.all (f := fun (s : Int) (o : Int ⊕ (Unit ⊕ Unit)) => ints_l1 a b s o) a.length (fun k => decide (a[k]! = b[k]!)) (.inl ()) (.inr ()) (fun k hk hp => by
        unfold ints_l1
        rw [if_pos (by omega)]
        refine ⟨⟨by omega, by omega⟩, ⟨by omega, by omega⟩, ?_⟩
        rw [Int.toNat_natCast, if_pos (by simpa using hp)]
        exact ⟨step1 (by omega), rfl⟩) (fun k hk hp => by
        unfold ints_l1
        rw [if_pos (by omega)]
        refine ⟨⟨by omega, by omega⟩, ⟨by omega, by omega⟩, ?_⟩
        rw [Int.toNat_natCast, if_neg (by simpa using hp)]) (by
        unfold ints_l1
        rw [if_neg (by omega)])
    refine ⟨_, this, ?_⟩
    rw [all_eq hl]
    by_cases hab : a = b
    · rw [decide_eq_true hab, if_pos rfl]; rfl
    · rw [decide_eq_false hab, if_neg (by decide)]; rfl
  · rw [if_neg (by omega), decide_eq_false (fun e => hl (by rw [e]))]

def fidx (v : List (Nat → Int)) (tx : Int) : Nat := v.findIdx fun x => decide (x 0 = tx)
def findR_F (v : List (Nat → Int)) (tx : Int) : Int := if fidx v tx < v.length then (fidx v tx : Int) else -1
def findR_P (v : List (Nat → Int)) (_ : Int) : Prop := v.length ≤ 1000000000
theorem fidx_at {v : List (Nat → Int)} {tx : Int} (h : fidx v tx < v.length) : v[fidx v tx]! 0 = tx := by
  rw [getElem!_pos v _ h]
  exact of_decide_eq_true (@List.findIdx_getElem _ (fun x : Nat → Int => decide (x 0 = tx)) v h)
theorem fidx_lt {v : List (Nat → Int)} {tx : Int} {k : Nat} (h : k < fidx v tx) (hk : k < v.length) : v[k]! 0 ≠ tx := by
  rw [getElem!_pos v _ hk]
  have := @List.not_of_lt_findIdx _ (fun x : Nat → Int => decide (x 0 = tx)) v k h
  simpa using this
theorem fidx_le (v : List (Nat → Int)) (tx : Int) : fidx v tx ≤ v.length := List.findIdx_le_length
theorem findR_ok (v : List (Nat → Int)) (tx : Int) (h : findR_P v tx) : findR_S v tx (findR_F v tx) := by
  unfold findR_P at h
  unfold findR_S
  have hle := fidx_le v tx
  refine Wh.by (f := fun (s : Int) (o : (Int) ⊕ ((Unit) ⊕ (Int))) => findR_l1 v tx s o) (fun s => 0 ≤ s ∧ s ≤ fidx v tx) (fun s => ((fidx v tx : Int) - s).toNat) (fun (x : (Unit) ⊕ (Int)) => match x with | .inl _ => findR_k1a (findR_F v tx) | .inr x4 => findR_k1b x4 (findR_F v tx)) ⟨by omega, by omega⟩ ?_
  rintro k ⟨i0, i1⟩
  by_cases hk : k < fidx v tx
  · refine .inl ⟨k + 1, ?_, ⟨by omega, by omega⟩, by omega⟩
    unfold findR_l1
    rw [if_pos (by omega), if_neg (fidx_lt (by omega) (by omega))]
    exact ⟨⟨i0, by omega⟩, ⟨by omega, by omega⟩, rfl⟩
  · obtain rfl : k = fidx v tx := by omega
    by_cases hl : fidx v tx < v.length
    · refine .inr ⟨.inr (fidx v tx : Int), ?_, ?_⟩
      · unfold findR_l1
        rw [if_pos (by omega), Int.toNat_natCast, if_pos (fidx_at hl)]
        exact ⟨⟨i0, by omega⟩, rfl⟩
      · show findR_k1b _ _
        unfold findR_k1b findR_F
        rw [if_pos hl]
    · refine .inr ⟨.inl (), ?_, ?_⟩
      · unfold findR_l1
        rw [if_neg (by omega)]
      · show findR_k1a _
        unfold findR_k1a findR_F
        rw [if_neg hl]
theorem find_neg {v : List (Nat → Int)} {tx : Int} (h : findR_F v tx < 0) : ∀ x ∈ v, x 0 ≠ tx := by
  unfold findR_F at h
  split at h
  · omega
  · intro x hx
    obtain ⟨j, hj, rfl⟩ := List.getElem_of_mem hx
    have := fidx_le v tx
    have := fidx_lt (v := v) (tx := tx) (k := j) (by omega) hj
    rwa [getElem!_pos v j hj] at this
theorem find_pos {v : List (Nat → Int)} {tx : Int} (h : ¬ findR_F v tx < 0) : (0 ≤ findR_F v tx ∧ findR_F v tx < v.length) ∧ v[(findR_F v tx).toNat]! 0 = tx := by
  unfold findR_F at h ⊢
  split at h
  · rename_i hl
    rw [if_pos hl, Int.toNat_natCast]
    exact ⟨⟨by omega, by omega⟩, fidx_at hl⟩
  · omega
end Go.E
