/- The kinds' names. -/
import Derived.Test.YtmcohikcgdfhcaaEnc4
namespace Go.E
open Go
def nameL : List (List UInt8) := [[108, 111, 99, 107], [103, 114, 97, 110, 116, 101, 100], [114, 101, 102, 117, 115, 101, 100], [112, 114, 101, 112, 97, 114, 101], [118, 111, 116, 101], [100, 101, 99, 105, 100, 101], [97, 99, 107], [114, 101, 110, 101, 119], [101, 120, 112, 105, 114, 101, 100], [119, 111, 117, 110, 100], [112, 114, 111, 98, 101]]
def nameS (n : Int) : ByteArray := if 1 ≤ n ∧ n ≤ 11 then ⟨((nameL[(n - 1).toNat]?).getD []).toArray⟩ else ⟨#[]⟩
theorem nameS_in {a : Int} (h : 1 ≤ a ∧ a ≤ 11) : ∃ i : Nat, i < 11 ∧ a = (i : Int) + 1 := ⟨(a - 1).toNat, by omega, by omega⟩
theorem nameS_ne {a : Int} (h : 1 ≤ a ∧ a ≤ 11) : (nameS a == ⟨#[]⟩) = false := by
  obtain ⟨i, hi, rfl⟩ := nameS_in h
  have : ∀ i : Nat, i < 11 → (nameS ((i : Int) + 1) == ⟨#[]⟩) = false := by decide +kernel
  exact this i hi
theorem nameS_no {a : Int} (h : ¬ (1 ≤ a ∧ a ≤ 11)) : (nameS a == ⟨#[]⟩) = true := by
  unfold nameS; rw [if_neg h]; rfl
theorem nameS_eq {a b : Int} (h : 1 ≤ a ∧ a ≤ 11) (k : 1 ≤ b ∧ b ≤ 11) : (nameS a == nameS b) = decide (a = b) := by
  obtain ⟨i, hi, rfl⟩ := nameS_in h
  obtain ⟨j, hj, rfl⟩ := nameS_in k
  have : ∀ i : Nat, i < 11 → ∀ j : Nat, j < 11 → (nameS ((i : Int) + 1) == nameS ((j : Int) + 1)) = decide ((i : Int) + 1 = (j : Int) + 1) := by decide +kernel
  exact this i hi j hj
theorem inB_iff {n a b : Int} : inB n a b = true ↔ a ≤ n ∧ n ≤ b := by simp [inB]
theorem inB_not {n a b : Int} : inB n a b = false ↔ ¬ (a ≤ n ∧ n ≤ b) := by rw [← inB_iff]; simp
def m4 : Nat → Int := updI (updI (updI (fun _ => 0) 0 4) 2 2) 3 7
theorem m4_ok : okB m4 = true := by decide +kernel
theorem m4_zero : ∀ i, 7 ≤ i → i < 88 → (encM m4).getD i 0 = 0 := by
  have : ∀ i, i < 88 → 7 ≤ i → (encM m4).getD i 0 = 0 := by decide +kernel
  exact fun i h1 h2 => this i h2 h1
end Go.E
