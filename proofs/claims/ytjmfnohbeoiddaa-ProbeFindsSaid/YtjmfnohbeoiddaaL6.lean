/- Edges and what is reached by them, in plain words. -/
import Derived.Test.YtjmfnohbeoiddaaL5
namespace Go.E
open Go
set_option linter.unusedVariables false

/-- An edge goes. -/
def Adj (l : List (Nat → Int)) (a b : Int) : Prop := ∃ e ∈ l, e 0 = a ∧ e 2 = b
/-- One is reached. -/
inductive Rt (l : List (Nat → Int)) : Int → Int → Prop
  | one {a b : Int} : Adj l a b → Rt l a b
  | more {a b c : Int} : Rt l a b → Adj l b c → Rt l a c
theorem Rt.trans {l : List (Nat → Int)} {a b c : Int} (h : Rt l a b) (k : Rt l b c) : Rt l a c := by
  induction k with
  | one e => exact .more h e
  | more _ e ih => exact .more ih e
theorem Rt.first {l : List (Nat → Int)} {a b : Int} (h : Rt l a b) : ∃ c, Adj l a c ∧ (c = b ∨ Rt l c b) := by
  induction h with
  | one e => exact ⟨_, e, .inl rfl⟩
  | more h e ih =>
    obtain ⟨c, h1, h2⟩ := ih
    refine ⟨c, h1, .inr ?_⟩
    rcases h2 with rfl | h2
    · exact .one e
    · exact .more h2 e
theorem Rt.mono {l m : List (Nat → Int)} (hs : ∀ e ∈ l, e ∈ m) {a b : Int} (h : Rt l a b) : Rt m a b := by
  induction h with
  | one e => obtain ⟨e, h1, h2⟩ := e; exact .one ⟨e, hs e h1, h2⟩
  | more _ e ih => obtain ⟨e, h1, h2⟩ := e; exact .more ih ⟨e, hs e h1, h2⟩
def nodesL (l : List (Nat → Int)) : List Int := rising_F (ends2 l)
theorem mem_nodesL {l : List (Nat → Int)} {x : Int} : x ∈ nodesL l ↔ ∃ e ∈ l, x = e 0 ∨ x = e 2 := by
  unfold nodesL ends2
  rw [mem_rising, List.mem_flatMap]
  simp
theorem len_nodesL (l : List (Nat → Int)) : (nodesL l).length ≤ 2 * l.length := by
  unfold nodesL
  have := len_rising (ends2 l)
  rw [len_ends2] at this
  exact this
theorem Adj.left {l : List (Nat → Int)} {a b : Int} (h : Adj l a b) : a ∈ nodesL l := by
  obtain ⟨e, h1, h2, _⟩ := h
  exact mem_nodesL.2 ⟨e, h1, .inl h2.symm⟩
theorem Adj.right {l : List (Nat → Int)} {a b : Int} (h : Adj l a b) : b ∈ nodesL l := by
  obtain ⟨e, h1, _, h2⟩ := h
  exact mem_nodesL.2 ⟨e, h1, .inr h2.symm⟩
theorem Rt.right {l : List (Nat → Int)} {a b : Int} (h : Rt l a b) : b ∈ nodesL l := by
  cases h with
  | one e => exact e.right
  | more _ e => exact e.right
theorem Rt.left {l : List (Nat → Int)} {a b : Int} (h : Rt l a b) : a ∈ nodesL l := by
  obtain ⟨c, h1, _⟩ := h.first
  exact h1.left
theorem nodup_len : ∀ {l m : List Int}, l.Nodup → (∀ x ∈ l, x ∈ m) → l.length ≤ m.length
  | [], m, _, _ => Nat.zero_le _
  | x :: r, m, h, hs => by
    rw [List.nodup_cons] at h
    have hx := hs x List.mem_cons_self
    have : r.length ≤ (m.erase x).length := nodup_len h.2 fun y hy => by
      have hne : y ≠ x := fun e => h.1 (e ▸ hy)
      exact (List.mem_erase_of_ne hne).2 (hs y (List.mem_cons_of_mem _ hy))
    rw [List.length_erase_of_mem hx] at this
    have := List.length_pos_of_mem hx
    simp only [List.length_cons]
    omega
theorem nodup_lt {l m : List Int} {y : Int} (h : l.Nodup) (hs : ∀ x ∈ l, x ∈ m) (hy : y ∈ m) (hn : y ∉ l) : l.length < m.length := by
  have := nodup_len (l := y :: l) (m := m) (List.nodup_cons.2 ⟨hn, h⟩) fun x hx => by
    rcases List.mem_cons.1 hx with rfl | hx
    · exact hy
    · exact hs x hx
  simp only [List.length_cons] at this
  omega
theorem rising_nodup {l : List Int} (h : l.Pairwise fun a b => a < b) : l.Nodup := h.imp fun h => by omega
theorem countP_lt {α : Type} {p q : α → Bool} : ∀ {s : List α}, (∀ x ∈ s, p x = true → q x = true) → (∃ y ∈ s, q y = true ∧ p y = false) → s.countP p < s.countP q
  | [], _, h => by obtain ⟨y, h, _⟩ := h; simp at h
  | x :: s, h1, h2 => by
    have hle : s.countP p ≤ s.countP q := List.countP_mono_left fun y hy => h1 y (List.mem_cons_of_mem _ hy)
    rw [List.countP_cons, List.countP_cons]
    obtain ⟨y, hy, h3, h4⟩ := h2
    rcases List.mem_cons.1 hy with rfl | hy
    · rw [h3, h4]
      simp
      omega
    · have := countP_lt (s := s) (fun z hz => h1 z (List.mem_cons_of_mem _ hz)) ⟨y, hy, h3, h4⟩
      have h5 := h1 x List.mem_cons_self
      by_cases hp : p x = true
      · rw [if_pos hp, if_pos (h5 hp)]; omega
      · rw [if_neg hp]
        omega
/-- Where each has one that leads to it, there is a circle. -/
theorem circ_of_stuck {l : List (Nat → Int)} {S : List Int} (h : ∀ x ∈ S, ∃ y ∈ S, Adj l y x) {x : Int} (hx : x ∈ S) : ∃ y ∈ S, Rt l y y := by
  classical
  suffices key : ∀ n x, x ∈ S → (S.countP fun z => decide (Rt l z x)) = n → ∃ y ∈ S, Rt l y y from key _ x hx rfl
  intro n
  induction n using Nat.strongRecOn with
  | _ n ih =>
    intro x hx hn
    obtain ⟨y, hy, ha⟩ := h x hx
    by_cases hc : Rt l y y
    · exact ⟨y, hy, hc⟩
    · have hlt : (S.countP fun z => decide (Rt l z y)) < n := by
        rw [← hn]
        refine countP_lt (fun z _ hz => ?_) ⟨y, hy, ?_, ?_⟩
        · rw [decide_eq_true_eq] at hz ⊢
          exact .more hz ha
        · rw [decide_eq_true_eq]; exact .one ha
        · exact decide_eq_false hc
      exact ih _ hlt y hy rfl

/-- All that are reached from a number. -/
noncomputable def greach_F (l : List (Nat → Int)) (a : Int) : List Int := (nodesL l).filter fun x => @decide (Rt l a x) (Classical.propDecidable _)
theorem mem_greach {l : List (Nat → Int)} {a x : Int} : x ∈ greach_F l a ↔ Rt l a x := by
  unfold greach_F
  rw [List.mem_filter]
  exact ⟨fun h => @of_decide_eq_true _ (Classical.propDecidable _) h.2, fun h => ⟨h.right, @decide_eq_true _ (Classical.propDecidable _) h⟩⟩
theorem rising_greach (l : List (Nat → Int)) (a : Int) : (greach_F l a).Pairwise fun a b => a < b := by
  unfold greach_F
  exact List.Pairwise.sublist List.filter_sublist (rising_rising _)
theorem len_greach (l : List (Nat → Int)) (a : Int) : (greach_F l a).length ≤ 2 * l.length := by
  unfold greach_F
  exact Nat.le_trans (List.length_filter_le _ _) (len_nodesL l)
/-- A list with the same members, once each, sorted. -/
theorem greach_eq {l : List (Nat → Int)} {a : Int} {r : List Int} (hr : r.Pairwise fun a b => a < b) (h : ∀ x, x ∈ r ↔ Rt l a x) : r = greach_F l a :=
  rising_ext hr (rising_greach l a) fun x => by rw [h, mem_greach]
end Go.E
