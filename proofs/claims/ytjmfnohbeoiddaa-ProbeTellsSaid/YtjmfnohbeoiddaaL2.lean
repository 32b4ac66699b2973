/- Maps in plain words. -/
import Derived.Test.YtjmfnohbeoiddaaE17
import Derived.Test.YtjmfnohbeoiddaaL1
namespace Go.E
open Go
set_option linter.unusedVariables false

structure Eqk {κ : Type} (ke : κ → κ → Bool) : Prop where
  refl : ∀ a, ke a a = true
  symm : ∀ a b, ke a b = true → ke b a = true
  trans : ∀ a b c, ke a b = true → ke b c = true → ke a c = true
theorem eqk_int : Eqk ieq := ⟨fun a => by simp [ieq], fun a b h => by simp [ieq] at h ⊢; omega, fun a b c h k => by simp [ieq] at h k ⊢; omega⟩
theorem eqk_flat (n : Nat) : Eqk (eqN n) := ⟨eqN_refl n, fun a b h => eqN_iff.2 fun i hi => (eqN_iff.1 h i hi).symm, fun a b c h k => eqN_iff.2 fun i hi => (eqN_iff.1 h i hi).trans (eqN_iff.1 k i hi)⟩

section
variable {κ α : Type} {ke : κ → κ → Bool}
theorem mfind_congr (E : Eqk ke) (d : List (κ × α)) {k k' : κ} (h : ke k k' = true) : mfind ke d k = mfind ke d k' := by
  induction d with
  | nil => rfl
  | cons p d ih =>
    simp only [mfind]
    have : ke k p.1 = ke k' p.1 := by
      rw [Bool.eq_iff_iff]
      exact ⟨fun h1 => E.trans _ _ _ (E.symm _ _ h) h1, fun h1 => E.trans _ _ _ h h1⟩
    rw [this, ih]
theorem mfind_mset (E : Eqk ke) (d : List (κ × α)) (k : κ) (v : α) (k' : κ) : mfind ke (mset ke d k v) k' = if ke k' k = true then some v else mfind ke d k' := by
  induction d with
  | nil => simp [mset, mfind]
  | cons p d ih =>
    simp only [mset]
    by_cases h : ke k p.1 = true
    · rw [if_pos h]
      simp only [mfind]
      have : ke k' p.1 = ke k' k := by
        rw [Bool.eq_iff_iff]
        exact ⟨fun h1 => E.trans _ _ _ h1 (E.symm _ _ h), fun h1 => E.trans _ _ _ h1 h⟩
      rw [this]
      by_cases h2 : ke k' k = true <;> simp [h2]
    · rw [if_neg h]
      simp only [mfind, ih]
      by_cases h2 : ke k' p.1 = true
      · have h3 : ¬ ke k' k = true := fun h3 => h (E.trans _ _ _ (E.symm _ _ h3) h2)
        simp [h2, h3]
      · simp [h2]
theorem mfind_mdel (E : Eqk ke) (d : List (κ × α)) (k : κ) (k' : κ) : mfind ke (mdel ke d k) k' = if ke k' k = true then none else mfind ke d k' := by
  induction d with
  | nil => simp [mdel, mfind]
  | cons p d ih =>
    unfold mdel at ih ⊢
    rw [List.filter_cons]
    by_cases h : ke k p.1 = true
    · simp only [h, Bool.not_true, Bool.false_eq_true, if_false, ih, mfind]
      by_cases h2 : ke k' k = true
      · simp [h2]
      · have h3 : ¬ ke k' p.1 = true := fun h3 => h2 (E.trans _ _ _ h3 (E.symm _ _ h))
        simp [h2, h3]
    · have h' : ke k p.1 = false := by simpa using h
      simp only [h', Bool.not_false, if_true, mfind, ih]
      by_cases h2 : ke k' p.1 = true
      · have h3 : ¬ ke k' k = true := fun h3 => h (E.trans _ _ _ (E.symm _ _ h3) h2)
        simp [h2, h3]
      · simp [h2]
theorem mget_mset (E : Eqk ke) (d : List (κ × α)) (k : κ) (v : α) (k' : κ) (z : α) : mget ke (mset ke d k v) k' z = if ke k' k = true then v else mget ke d k' z := by
  unfold mget
  rw [mfind_mset E]
  split <;> rfl
theorem mhas_mset (E : Eqk ke) (d : List (κ × α)) (k : κ) (v : α) (k' : κ) : mhas ke (mset ke d k v) k' = (ke k' k || mhas ke d k') := by
  unfold mhas
  rw [mfind_mset E]
  by_cases h : ke k' k = true
  · simp [h]
  · have h' : ke k' k = false := by simpa using h
    simp [h']
theorem mget_mdel (E : Eqk ke) (d : List (κ × α)) (k : κ) (k' : κ) (z : α) : mget ke (mdel ke d k) k' z = if ke k' k = true then z else mget ke d k' z := by
  unfold mget
  rw [mfind_mdel E]
  split <;> rfl
theorem mhas_mdel (E : Eqk ke) (d : List (κ × α)) (k : κ) (k' : κ) : mhas ke (mdel ke d k) k' = (!ke k' k && mhas ke d k') := by
  unfold mhas
  rw [mfind_mdel E]
  by_cases h : ke k' k = true
  · simp [h]
  · have h' : ke k' k = false := by simpa using h
    simp [h']
theorem mget_none {d : List (κ × α)} {k : κ} {z : α} (h : mhas ke d k = false) : mget ke d k z = z := by
  unfold mhas at h
  unfold mget
  cases hf : mfind ke d k <;> simp_all
end
theorem ieq_iff {a b : Int} : ieq a b = true ↔ a = b := by simp [ieq]
end Go.E
