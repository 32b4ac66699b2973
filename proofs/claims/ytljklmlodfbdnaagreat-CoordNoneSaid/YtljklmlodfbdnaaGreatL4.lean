/- Maps whose keys are integers, in plain words; the keys, rising; lists that are rising. -/
import Derived.Test.YtljklmlodfbdnaaGreatE19
namespace Go.E
open Go
set_option linter.unusedVariables false

section
variable {α : Type}
def Uniq (d : List (Int × α)) : Prop := (d.map (·.1)).Nodup

theorem keys_mset (d : List (Int × α)) (k : Int) (v : α) : (mset ieq d k v).map (·.1) = if k ∈ d.map (·.1) then d.map (·.1) else d.map (·.1) ++ [k] := by
  induction d with
  | nil => simp [mset]
  | cons p d ih =>
    simp only [mset]
    by_cases h : k = p.1
    · simp [ieq, h]
    · have h' : ieq k p.1 = false := by simp [ieq, h]
      rw [h']
      simp only [Bool.false_eq_true, if_false, List.map_cons, ih, List.mem_cons, h, false_or]
      split <;> simp
theorem uniq_mset {d : List (Int × α)} (h : Uniq d) (k : Int) (v : α) : Uniq (mset ieq d k v) := by
  unfold Uniq at h ⊢
  rw [keys_mset]
  split
  · exact h
  · rename_i hk
    exact List.nodup_append.2 ⟨h, by simp, fun a ha b hb => by simp only [List.mem_singleton] at hb; subst hb; exact fun e => hk (e ▸ ha)⟩
/-! ### The keys, rising -/
end

/-! ### Lists that grow round by round -/
theorem map_take {α β : Type} [Inhabited α] (l : List α) (f : α → β) (k : Nat) (hk : k < l.length) : (l.take (k + 1)).map f = (l.take k).map f ++ [f (l[k]!)] := by
  rw [List.take_add_one, List.getElem?_eq_getElem hk, List.map_append, getElem!_pos l k hk]
  rfl
theorem take_len {α : Type} (l : List α) : l.take l.length = l := List.take_of_length_le (Nat.le_refl _)
end Go.E
