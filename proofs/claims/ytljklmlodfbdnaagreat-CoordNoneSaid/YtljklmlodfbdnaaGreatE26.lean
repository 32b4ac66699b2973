/- The engine, part 26: slices whose elements hold slices. -/
import Derived.Test.YtljklmlodfbdnaaGreatE25
namespace Go.E
open Go
set_option linter.unusedVariables false
set_option linter.unusedSimpArgs false
set_option linter.unusedSectionVars false
/-- An element's cells, as they are. -/
def rawc (x : Nat → Value) (i : Nat) : Value := x i
/-- What is said of an element, of the blocks in which its own slices lie. -/
def MonoR {α : Type} (R : GH → α → (Nat → Value) → Prop) : Prop := ∀ A A' x f, (∀ y ∈ A, y ∈ A') → R A x f → R A' x f
def NJ {α : Type} [Inhabited α] (T : TypeId) (s : Nat) (R : GH → α → (Nat → Value) → Prop) (B : GH) (v : Value) (l : List α) : Prop :=
  ∃ (raws : List (Nat → Value)) (B1 A : GH), B.Perm (B1 ++ A) ∧ OJ T s rawc B1 v raws ∧ raws.length = l.length ∧ ∀ i, i < l.length → R A (l[i]!) (raws[i]!)
section
variable {α : Type} [Inhabited α] {w0 w : World} {T : TypeId} {s : Nat} {R : GH → α → (Nat → Value) → Prop} {B H : GH} {v : Value} {l : List α}
noncomputable def NJ.raw (h : NJ T s R B v l) : List (Nat → Value) := Classical.choose h
theorem NJ.rawS (h : NJ T s R B v l) : ∃ (B1 A : GH), B.Perm (B1 ++ A) ∧ OJ T s rawc B1 v h.raw ∧ h.raw.length = l.length ∧ ∀ i, i < l.length → R A (l[i]!) (h.raw[i]!) := Classical.choose_spec h
theorem NJ.nil : NJ T s R B (.slice none 0 0) ([] : List α) := ⟨[], [], B, List.Perm.refl _, OJ.nil, rfl, fun i h => by simp at h⟩
theorem NJ.len (h : NJ T s R B v l) : h.raw.length = l.length := let ⟨_, _, _, _, h3, _⟩ := h.rawS; h3
theorem NJ.val (h : NJ T s R B v l) : ∃ p cap, v = .slice p l.length cap := by
  obtain ⟨raws, B1, A, hp, hO, hl, hA⟩ := h
  rw [← hl]; exact hO.val
theorem NJ.oj (h : NJ T s R B v l) : OJ T s rawc B v h.raw := by
  obtain ⟨B1, A, hp, hO, hl, hA⟩ := h.rawS
  exact hO.mono fun x hx => hp.mem_iff.2 (List.mem_append_left _ hx)
theorem NJ.sl (h : NJ T s R B v l) (hs : St w0 H w) (hB : ∀ x ∈ B, x ∈ H) : SL w s rawc v h.raw := h.oj.sl hs hB
theorem NJ.at (h : NJ T s R B v l) (hm : MonoR R) {i : Nat} (hi : i < l.length) : R B (l[i]!) (h.raw[i]!) := by
  obtain ⟨B1, A, hp, hO, hl, hA⟩ := h.rawS
  exact hm A B _ _ (fun y hy => hp.mem_iff.2 (List.mem_append_right _ hy)) (hA i hi)
theorem NJ.nilOr (h : NJ T s R B v l) : ((isNilV v = some true ∧ ∀ e, sameKind (.slice e) v = true) ∧ l = []) ∨ (isNilV v = some false ∧ ∀ e, sameKind (.slice e) v = true) := by
  rcases h.oj.nilOr with ⟨h1, h2⟩ | h1
  · refine .inl ⟨h1, ?_⟩
    have := h.len
    rw [h2] at this
    exact List.length_eq_zero_iff.1 this.symm
  · exact .inr h1
/-- A literal of one element. -/
theorem NJ.one {b N : Nat} {F f : Nat → Value} {S : GH} {x : α} {o : Obj} (ho : o = BK N F T) (hs : 1 * s ≤ N) (hF : ∀ i, i < 1 * s → F i = eG s rawc [f] i) (hR : R S x f) : NJ T s R ([(b, o)] ++ S) (.slice (some ⟨b, 0, none⟩) 1 1) [x] := by
  subst ho
  refine ⟨[f], [(b, BK N F T)], S, List.Perm.refl _, OJ.lit (List.mem_singleton.2 rfl) rfl hs (by simp [maxLen]) hF, rfl, fun i hi => ?_⟩
  simp only [List.length_singleton] at hi
  obtain rfl : i = 0 := by omega
  exact hR
end
/-- Slices, as elements. -/
def rL {β : Type} (T : TypeId) (s : Nat) (c : β → Nat → Value) (A : GH) (l : List β) (f : Nat → Value) : Prop := OJ T s c A (f 0) l
theorem rL.oj {β : Type} {T : TypeId} {s : Nat} {c : β → Nat → Value} {A : GH} {l : List β} {f : Nat → Value} (h : rL T s c A l f) : OJ T s c A (f 0) l := h
theorem rL.mono {β : Type} {T : TypeId} {s : Nat} {c : β → Nat → Value} : MonoR (rL T s c) := fun _ _ _ _ hs h => OJ.mono h hs
section
variable {P : Program} {w0 : World} {env : Env} {H : GH}
variable {d : Option Nat} {ty : TypeId} {pos : String} {af : Array Edge} {g : Option (Nat × Bool)} {t : TypeId} {s : Nat}
end
section
variable {α : Type} [Inhabited α] {P : Program} {w0 : World} {env : Env}
variable {d : Option Nat} {ty : TypeId} {pos : String} {af : Array Edge} {g : Option (Nat × Bool)} {t : TypeId} {s : Nat} {R : GH → α → (Nat → Value) → Prop}
end
end Go.E
