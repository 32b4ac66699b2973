/- Maps whose keys are integers, in plain words; the keys, rising; lists that are rising. -/
import Derived.Test.YtmfbefghdaiicaaE19
namespace Go.E
open Go
set_option linter.unusedVariables false

section
variable {α : Type}
/-! ### The keys, rising -/
theorem rising_ext {l l' : List Int} (h : l.Pairwise (fun a b => a < b)) (h' : l'.Pairwise (fun a b => a < b)) (hm : ∀ x, x ∈ l ↔ x ∈ l') : l = l' := by
  have n : ∀ {l : List Int}, l.Pairwise (fun a b => a < b) → l.Nodup := fun h => h.imp fun h => by omega
  refine List.Perm.eq_of_pairwise (le := fun a b => a < b) (fun a b _ _ h1 h2 => by omega) h h' ?_
  exact (List.perm_ext_iff_of_nodup (n h) (n h')).2 hm
end

/-! ### Lists that grow round by round -/
theorem map_take {α β : Type} [Inhabited α] (l : List α) (f : α → β) (k : Nat) (hk : k < l.length) : (l.take (k + 1)).map f = (l.take k).map f ++ [f (l[k]!)] := by
  rw [List.take_add_one, List.getElem?_eq_getElem hk, List.map_append, getElem!_pos l k hk]
  rfl
theorem take_len {α : Type} (l : List α) : l.take l.length = l := List.take_of_length_le (Nat.le_refl _)
theorem mem_at {α : Type} [Inhabited α] {l : List α} {k : Nat} (hk : k < l.length) : l[k]! ∈ l := by
  rw [getElem!_pos l k hk]; exact List.getElem_mem hk
end Go.E
