/- Maps whose keys are integers, in plain words; the keys, rising; lists that are rising. -/
import Derived.Test.YteomcjiiiilhmaaE19
namespace Go.E
open Go
set_option linter.unusedVariables false

section
variable {α : Type}
def Uniq (d : List (Int × α)) : Prop := (d.map (·.1)).Nodup

theorem mhas_mem {d : List (Int × α)} {k : Int} : mhas ieq d k = true ↔ k ∈ d.map (·.1) := by
  induction d with
  | nil => simp [mhas, mfind]
  | cons p d ih =>
    unfold mhas at ih ⊢
    simp only [mfind, List.map_cons, List.mem_cons]
    by_cases h : k = p.1
    · simp [ieq, h]
    · have : ieq k p.1 = false := by simp [ieq, h]
      rw [this]
      simp [h, ih]
theorem mhas_false {d : List (Int × α)} {k : Int} : mhas ieq d k = false ↔ k ∉ d.map (·.1) := by
  rw [← mhas_mem]; simp
theorem keys_mset (d : List (Int × α)) (k : Int) (v : α) : (mset ieq d k v).map (·.1) = if k ∈ d.map (·.1) then d.map (·.1) else d.map (·.1) ++ [k] := by
  induction d with
  | nil => simp [mset]
  | cons p d ih =>
    simp only [mset]
    by_cases h : k = p.1
    · simp [ieq, h]
    · have h' : ieq k p.1 = false := by simp [ieq, h]
      rw [h']
      simp only [Bool.false_eq_true, if_false, List.map_cons, ih, List.mem_cons, h, false_or]
      split <;> simp
theorem uniq_mset {d : List (Int × α)} (h : Uniq d) (k : Int) (v : α) : Uniq (mset ieq d k v) := by
  unfold Uniq at h ⊢
  rw [keys_mset]
  split
  · exact h
  · rename_i hk
    exact List.nodup_append.2 ⟨h, by simp, fun a ha b hb => by simp only [List.mem_singleton] at hb; subst hb; exact fun e => hk (e ▸ ha)⟩
theorem uniq_mdel {d : List (Int × α)} (h : Uniq d) (k : Int) : Uniq (mdel ieq d k) := by
  unfold Uniq mdel at *
  exact (List.Sublist.map _ List.filter_sublist).nodup h
theorem len_mset (d : List (Int × α)) (k : Int) (v : α) : (mset ieq d k v).length ≤ d.length + 1 := by
  have := congrArg List.length (keys_mset d k v)
  rw [List.length_map] at this
  rw [this]
  split <;> simp
theorem len_mdel (d : List (Int × α)) (k : Int) : (mdel ieq d k).length ≤ d.length := List.length_filter_le _ _
theorem mem_mset {d : List (Int × α)} {k : Int} {v : α} {p : Int × α} (h : p ∈ mset ieq d k v) : p = (k, v) ∨ p ∈ d := by
  induction d with
  | nil => simp [mset] at h; exact .inl h
  | cons q d ih =>
    simp only [mset] at h
    by_cases hk : k = q.1
    · have : ieq k q.1 = true := by simp [ieq, hk]
      rw [this] at h
      simp only [if_true, List.mem_cons] at h
      rcases h with h | h
      · exact .inl (by rw [h, hk])
      · exact .inr (List.mem_cons_of_mem _ h)
    · have : ieq k q.1 = false := by simp [ieq, hk]
      rw [this] at h
      simp only [Bool.false_eq_true, if_false, List.mem_cons] at h
      rcases h with h | h
      · exact .inr (by rw [h]; exact List.mem_cons_self)
      · exact (ih h).imp id (List.mem_cons_of_mem _)
theorem mem_mdel {d : List (Int × α)} {k : Int} {p : Int × α} (h : p ∈ mdel ieq d k) : p ∈ d := (List.mem_filter.1 h).1
theorem mfind_of_mem {d : List (Int × α)} (h : Uniq d) {k : Int} {v : α} (hm : (k, v) ∈ d) : mfind ieq d k = some v := by
  induction d with
  | nil => simp at hm
  | cons p d ih =>
    unfold Uniq at h
    rw [List.map_cons, List.nodup_cons] at h
    simp only [mfind]
    rcases List.mem_cons.1 hm with hm | hm
    · rw [← hm]; simp [ieq]
    · have : k ≠ p.1 := fun e => h.1 (List.mem_map.2 ⟨_, hm, e⟩)
      have : ieq k p.1 = false := by simp [ieq, this]
      rw [this]
      exact ih h.2 hm
theorem mem_of_mfind {d : List (Int × α)} {k : Int} {v : α} (h : mfind ieq d k = some v) : (k, v) ∈ d := by
  induction d with
  | nil => simp [mfind] at h
  | cons p d ih =>
    simp only [mfind] at h
    by_cases hk : k = p.1
    · have : ieq k p.1 = true := by simp [ieq, hk]
      rw [this] at h
      simp only [if_true, Option.some.injEq] at h
      rw [hk, ← h]; exact List.mem_cons_self
    · have : ieq k p.1 = false := by simp [ieq, hk]
      rw [this] at h
      exact List.mem_cons_of_mem _ (ih (by simpa using h))
theorem mhas_mfind {d : List (Int × α)} {k : Int} : mhas ieq d k = (mfind ieq d k).isSome := rfl
theorem mget_mfind {d : List (Int × α)} {k : Int} {z : α} : mget ieq d k z = (mfind ieq d k).getD z := rfl
theorem mfind_mset' (d : List (Int × α)) (k : Int) (v : α) (k' : Int) : mfind ieq (mset ieq d k v) k' = if k' = k then some v else mfind ieq d k' := by
  rw [mfind_mset eqk_int]
  simp [ieq]
theorem mfind_mdel' (d : List (Int × α)) (k : Int) (k' : Int) : mfind ieq (mdel ieq d k) k' = if k' = k then none else mfind ieq d k' := by
  rw [mfind_mdel eqk_int]
  simp [ieq]

/-! ### The keys, rising -/
theorem mem_skeys {d : List (Int × α)} {k : Int} : k ∈ skeys d ↔ mhas ieq d k = true := by
  unfold skeys
  rw [List.mem_mergeSort, mhas_mem]
theorem len_skeys (d : List (Int × α)) : (skeys d).length = d.length := by
  unfold skeys
  rw [List.length_mergeSort, List.length_map]
theorem sorted_lt {l : List Int} (h : l.Pairwise (fun a b => a ≤ b)) (hn : l.Nodup) : l.Pairwise (fun a b => a < b) := by
  refine (List.Pairwise.and h hn).imp ?_
  rintro a b ⟨h1, h2⟩
  omega
theorem rising_skeys {d : List (Int × α)} (h : Uniq d) : (skeys d).Pairwise (fun a b => a < b) := by
  refine sorted_lt ?_ ?_
  · have := List.pairwise_mergeSort (le := leI) (fun a b c h1 h2 => by simp only [leI, decide_eq_true_eq] at *; omega) (fun a b => by simp only [leI, Bool.or_eq_true, decide_eq_true_eq]; omega) (d.map (·.1))
    exact this.imp fun h => by simpa [leI] using h
  · exact (List.mergeSort_perm _ _).nodup_iff.2 h
theorem rising_ext {l l' : List Int} (h : l.Pairwise (fun a b => a < b)) (h' : l'.Pairwise (fun a b => a < b)) (hm : ∀ x, x ∈ l ↔ x ∈ l') : l = l' := by
  have n : ∀ {l : List Int}, l.Pairwise (fun a b => a < b) → l.Nodup := fun h => h.imp fun h => by omega
  refine List.Perm.eq_of_pairwise (le := fun a b => a < b) (fun a b _ _ h1 h2 => by omega) h h' ?_
  exact (List.perm_ext_iff_of_nodup (n h) (n h')).2 hm
theorem skeys_eq {d : List (Int × α)} (hu : Uniq d) {l : List Int} (hl : l.Pairwise (fun a b => a < b)) (h : ∀ x, x ∈ l ↔ mhas ieq d x = true) : skeys d = l :=
  rising_ext (rising_skeys hu) hl fun x => by rw [mem_skeys, h]
theorem skeys_nil : skeys ([] : List (Int × α)) = [] := by simp [skeys]
theorem skeys_one (k : Int) (v : α) : skeys [(k, v)] = [k] := by simp [skeys]
theorem skeysP_nil : skeysP ([] : List (Int × α)) := ⟨fun p hp => by simp at hp, by simp⟩
theorem skeysP_one {k : Int} {v : α} (h : inI64 k) : skeysP [(k, v)] := ⟨fun p hp => by rw [List.mem_singleton.1 hp]; exact h, by simp⟩
end

/-! ### Lists that grow round by round -/
theorem filter_take {α : Type} [Inhabited α] (l : List α) (p : α → Bool) (k : Nat) (hk : k < l.length) : (l.take (k + 1)).filter p = (l.take k).filter p ++ (if p (l[k]!) = true then [l[k]!] else []) := by
  rw [List.take_add_one, List.getElem?_eq_getElem hk, List.filter_append, getElem!_pos l k hk]
  by_cases h : p l[k] = true <;> simp [h]
theorem map_take {α β : Type} [Inhabited α] (l : List α) (f : α → β) (k : Nat) (hk : k < l.length) : (l.take (k + 1)).map f = (l.take k).map f ++ [f (l[k]!)] := by
  rw [List.take_add_one, List.getElem?_eq_getElem hk, List.map_append, getElem!_pos l k hk]
  rfl
theorem flatMap_take {α β : Type} [Inhabited α] (l : List α) (f : α → List β) (k : Nat) (hk : k < l.length) : (l.take (k + 1)).flatMap f = (l.take k).flatMap f ++ f (l[k]!) := by
  rw [List.take_add_one, List.getElem?_eq_getElem hk, List.flatMap_append, getElem!_pos l k hk]
  simp
theorem take_len {α : Type} (l : List α) : l.take l.length = l := List.take_of_length_le (Nat.le_refl _)
theorem mem_at {α : Type} [Inhabited α] {l : List α} {k : Nat} (hk : k < l.length) : l[k]! ∈ l := by
  rw [getElem!_pos l k hk]; exact List.getElem_mem hk
theorem at_mem' {α : Type} [Inhabited α] {l : List α} {i : Int} (h : 0 ≤ i ∧ i < l.length) : l[i.toNat]! ∈ l := mem_at (by omega)
end Go.E
