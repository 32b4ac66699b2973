/- Edges and what is reached by them, in plain words. -/
import Derived.Test.YtljklmlodfbdnaaGreatL5
namespace Go.E
open Go
set_option linter.unusedVariables false

/-- An edge goes. -/
def Adj (l : List (Nat → Int)) (a b : Int) : Prop := ∃ e ∈ l, e 0 = a ∧ e 2 = b
/-- One is reached. -/
inductive Rt (l : List (Nat → Int)) : Int → Int → Prop
  | one {a b : Int} : Adj l a b → Rt l a b
  | more {a b c : Int} : Rt l a b → Adj l b c → Rt l a c
theorem Rt.trans {l : List (Nat → Int)} {a b c : Int} (h : Rt l a b) (k : Rt l b c) : Rt l a c := by
  induction k with
  | one e => exact .more h e
  | more _ e ih => exact .more ih e
theorem Rt.first {l : List (Nat → Int)} {a b : Int} (h : Rt l a b) : ∃ c, Adj l a c ∧ (c = b ∨ Rt l c b) := by
  induction h with
  | one e => exact ⟨_, e, .inl rfl⟩
  | more h e ih =>
    obtain ⟨c, h1, h2⟩ := ih
    refine ⟨c, h1, .inr ?_⟩
    rcases h2 with rfl | h2
    · exact .one e
    · exact .more h2 e
theorem Rt.mono {l m : List (Nat → Int)} (hs : ∀ e ∈ l, e ∈ m) {a b : Int} (h : Rt l a b) : Rt m a b := by
  induction h with
  | one e => obtain ⟨e, h1, h2⟩ := e; exact .one ⟨e, hs e h1, h2⟩
  | more _ e ih => obtain ⟨e, h1, h2⟩ := e; exact .more ih ⟨e, hs e h1, h2⟩
def nodesL (l : List (Nat → Int)) : List Int := rising_F (ends2 l)
theorem mem_nodesL {l : List (Nat → Int)} {x : Int} : x ∈ nodesL l ↔ ∃ e ∈ l, x = e 0 ∨ x = e 2 := by
  unfold nodesL ends2
  rw [mem_rising, List.mem_flatMap]
  simp
theorem Adj.left {l : List (Nat → Int)} {a b : Int} (h : Adj l a b) : a ∈ nodesL l := by
  obtain ⟨e, h1, h2, _⟩ := h
  exact mem_nodesL.2 ⟨e, h1, .inl h2.symm⟩
theorem Adj.right {l : List (Nat → Int)} {a b : Int} (h : Adj l a b) : b ∈ nodesL l := by
  obtain ⟨e, h1, _, h2⟩ := h
  exact mem_nodesL.2 ⟨e, h1, .inr h2.symm⟩
theorem Rt.right {l : List (Nat → Int)} {a b : Int} (h : Rt l a b) : b ∈ nodesL l := by
  cases h with
  | one e => exact e.right
  | more _ e => exact e.right
theorem Rt.left {l : List (Nat → Int)} {a b : Int} (h : Rt l a b) : a ∈ nodesL l := by
  obtain ⟨c, h1, _⟩ := h.first
  exact h1.left
theorem nodup_len : ∀ {l m : List Int}, l.Nodup → (∀ x ∈ l, x ∈ m) → l.length ≤ m.length
  | [], m, _, _ => Nat.zero_le _
  | x :: r, m, h, hs => by
    rw [List.nodup_cons] at h
    have hx := hs x List.mem_cons_self
    have : r.length ≤ (m.erase x).length := nodup_len h.2 fun y hy => by
      have hne : y ≠ x := fun e => h.1 (e ▸ hy)
      exact (List.mem_erase_of_ne hne).2 (hs y (List.mem_cons_of_mem _ hy))
    rw [List.length_erase_of_mem hx] at this
    have := List.length_pos_of_mem hx
    simp only [List.length_cons]
    omega
theorem rising_nodup {l : List Int} (h : l.Pairwise fun a b => a < b) : l.Nodup := h.imp fun h => by omega
end Go.E
