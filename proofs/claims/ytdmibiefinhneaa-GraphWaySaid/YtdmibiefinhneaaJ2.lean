/- Part 2 of the proof. -/
import Derived.Test.YtdmibiefinhneaaJ1
import Derived.LoopN
import Derived.MapKept
import Derived.WalkKit
import Derived.ProofKit
import Derived.OpenShut
import Derived.SizedLaws
import Derived.Test.YtdmibiefinhneaaRows
import Derived.Shelf.SlIterI.Nil
import Derived.Shelf.SortM.Plain
import Derived.Shelf.SortM.SortNone
import Derived.Scope
set_option maxHeartbeats 1000000
set_option maxRecDepth 100000
set_option linter.unusedVariables false
set_option linter.unusedSimpArgs false
set_option linter.unusedSectionVars false
set_option linter.unnecessarySimpa false
/- The engine: how operations, loops and calls of the model are walked (EB). -/
/- The engine, part 8: slices as lists; segments of the list of blocks. -/
namespace Go.E
open Go
/-- The cells of a list's elements, s to each. -/
def eG {α : Type} (s : Nat) (c : α → Nat → Value) (l : List α) : Nat → Value := fun i => (l[i / s]?).elim undef (fun a => c a (i % s))
def ic (x : Int) : Nat → Value := fun _ => .int .i64 x
theorem eG_at {α : Type} {s j k : Nat} {c : α → Nat → Value} {l : List α} (hj : j < l.length) (hk : k < s) : eG s c l (j * s + k) = c l[j] k := by
  have h1 : (j * s + k) / s = j := by rw [Nat.mul_comm, Nat.mul_add_div (by omega), Nat.div_eq_of_lt hk, Nat.add_zero]
  have h2 : (j * s + k) % s = k := by rw [Nat.mul_comm, Nat.mul_add_mod, Nat.mod_eq_of_lt hk]
  simp only [eG, h1, h2, List.getElem?_eq_getElem hj, Option.elim_some]
theorem eG_one {α : Type} {j : Nat} {c : α → Nat → Value} {l : List α} (hj : j < l.length) : eG 1 c l j = c l[j] 0 := by
  have := eG_at (c := c) (s := 1) (k := 0) hj (by omega)
  simpa using this
theorem eG_app {α : Type} {s : Nat} (hs : 0 < s) (c : α → Nat → Value) (l l' : List α) : ∀ i, i < (l.length + l'.length) * s → app (eG s c l) (l.length * s) (eG s c l') i = eG s c (l ++ l') i := by
  intro i _
  simp only [app, eG]
  by_cases h : i < l.length * s
  · rw [if_pos h, List.getElem?_append_left (by rw [Nat.div_lt_iff_lt_mul hs]; exact h)]
  · rw [if_neg h]
    have hle : l.length * s ≤ i := Nat.le_of_not_lt h
    have h1 : (i - l.length * s) / s = i / s - l.length := by
      rw [Nat.mul_comm, Nat.sub_mul_div]
    have h2 : (i - l.length * s) % s = i % s := by
      rw [Nat.mul_comm, Nat.sub_mul_mod]; rw [Nat.mul_comm]; exact hle
    rw [h1, h2, List.getElem?_append_right (by rw [Nat.le_div_iff_mul_le hs]; exact hle)]
def OL {α : Type} (w0 : World) (T : TypeId) (s : Nat) (c : α → Nat → Value) (B : GH) (v : Value) (l : List α) : Prop := Own w0 T s B v l.length (eG s c l)
def SL {α : Type} (w : World) (s : Nat) (c : α → Nat → Value) (v : Value) (l : List α) : Prop := Sl w s v l.length (eG s c l)
section
variable {α : Type} {w0 w : World} {T : TypeId} {s : Nat} {c : α → Nat → Value} {B H A C : GH} {v : Value} {l : List α}
theorem OL.nil : OL w0 T s c [] (.slice none 0 0) ([] : List α) := Own.nil _
theorem SL.nil : SL w s c (.slice none 0 0) ([] : List α) := Sl.nil _
theorem OL.fresh (h : OL w0 T s c B v l) : ∀ b, b ∈ keys B → w0.heap.size ≤ b := Own.fresh h
theorem OL.val (h : OL w0 T s c B v l) : ∃ p cap, v = .slice p l.length cap := (Own.val h).imp fun _ h => h.imp fun _ h => h.1
theorem SL.keep (h : SL w0 s c v l) (hs : St w0 H w) (hn : ∀ b, b ∈ keys H → w0.heap.size ≤ b) : SL w s c v l := Sl.keep h hs hn
theorem SL.val (h : SL w s c v l) : ∃ p cap, v = .slice p l.length cap := let ⟨p, cap, h, _⟩ := h; ⟨p, cap, h⟩
theorem OL.base {w1 : World} (h : OL w1 T s c B v l) (hw : w0.heap.size ≤ w1.heap.size) : OL w0 T s c B v l := by
  rcases h with h | ⟨b, o, cp, N, F, h1, h2, h3⟩
  · exact .inl h
  · exact .inr ⟨b, o, cp, N, F, h1, Nat.le_trans hw h2, h3⟩
theorem OL.new {b n : Nat} {F : Nat → Value} (hb : w0.heap.size ≤ b) (hl : n = l.length) (hm : Nat.ble n 4611686018427387904 = true) (hF : ∀ i, i < n * s → F i = eG s c l i) : OL w0 T s c [(b, BK (n * s) F T)] (.slice (some ⟨b, 0, none⟩) n n) l := by
  subst hl
  exact Own.mk hb (Nat.le_refl _) (by omega) (by have := Nat.le_of_ble_eq_true hm; unfold maxLen; omega) (fun i hi => by rw [Nat.zero_add]; exact hF i hi)
/-- A literal, or whatever lies whole in one block of the list. -/
theorem SL.lit {w' : World} {b n N : Nat} {F : Nat → Value} (hs : St w0 H w') (hm : (b, BK N F T) ∈ H) (hl : n = l.length) (hN : n * s ≤ N) (hmx : n ≤ maxLen) (hF : ∀ i, i < n * s → F i = eG s c l i) : SL w' s c (.slice (some ⟨b, 0, none⟩) n n) l := by
  subst hl
  exact ⟨_, _, rfl, Nat.le_refl _, hmx, (fun h => by cases h), SrcAt.own hs hm (by omega) fun i hi => by rw [Nat.zero_add]; exact hF i hi⟩
theorem SL.sub {w' : World} {b o n cap N : Nat} {F : Nat → Value} (hs : St w0 H w') (hm : (b, BK N F T) ∈ H) (hl : n = l.length) (hcap : n ≤ cap) (hmx : cap ≤ maxLen) (hN : o + n * s ≤ N) (hF : ∀ i, i < n * s → F (o + i) = eG s c l i) : SL w' s c (.slice (some ⟨b, o, none⟩) n cap) l := by
  subst hl
  exact ⟨_, _, rfl, hcap, hmx, (fun h => by cases h), SrcAt.own hs hm hN hF⟩
/-! ### Segments -/
@[simp] theorem keys_append (A B : GH) : keys (A ++ B) = keys A ++ keys B := List.map_append
theorem St.perm {H' : GH} (h : St w0 H w) (hp : H.Perm H') : St w0 H' w :=
  ⟨h.os, h.tape, h.out, h.size, fun b o hm => h.own b o (hp.mem_iff.2 hm), (hp.map _).nodup_iff.1 h.nd, fun k hk hkn => h.keep k hk fun hh => hkn ((hp.map (·.1)).mem_iff.1 hh)⟩
theorem Mg.news {w1 : World} {F H' : GH} (hB : ∀ k, k ∈ keys B → w1.heap.size ≤ k) (h : Mg w0 w1 H F H') : Mg w0 w1 H (B ++ F) (B ++ H') := by
  induction B with
  | nil => exact h
  | cons x B ih =>
    obtain ⟨b, o⟩ := x
    exact .new (hB b (by simp)) (ih fun k hk => hB k (by simp [hk]))
theorem Upd.seg {b : Nat} {o : Obj} {H' : GH} (h : Upd H b o H') : Upd (A ++ H) b o (A ++ H') := by
  induction A with
  | nil => exact h
  | cons x A ih => exact .there x _ _ b o ih
theorem Swp.seg {b : Nat} {x : Nat × Obj} {H' : GH} (h : Swp H b x H') : Swp (A ++ H) b x (A ++ H') := by
  induction A with
  | nil => exact h
  | cons y A ih => exact .there y _ _ b x ih
theorem Kp.segNew {F : GH} (hB : ∀ b, b ∈ keys B → w0.heap.size ≤ b) (h : Kp w0 H F) : Kp w0 (B ++ H) F := by
  induction B with
  | nil => exact h
  | cons x B ih =>
    obtain ⟨b, o⟩ := x
    exact .new (hB b (by simp)) (ih fun k hk => hB k (by simp [hk]))
theorem Kp.segKeep {F : GH} (h : Kp w0 H F) : Kp w0 (B ++ H) (B ++ F) := by
  induction B with
  | nil => exact h
  | cons x B ih => exact .keep ih
end
section
variable {α : Type} {P : Program} {w0 : World} {env : Env} {H : GH}
variable {d : Option Nat} {ty : TypeId} {pos : String} {af : Array Edge} {g : Option (Nat × Bool)} {t : TypeId} {s : Nat} {c : α → Nat → Value}
end
end Go.E
/- The engine, part 9: loops as relations; slices whose segment may hold more than they need; places of elements; errors as numbers. -/
namespace Go.E
open Go
/-! ### Loops as relations -/
inductive Wh {σ ρ : Type} (f : σ → σ ⊕ ρ → Prop) : σ → ρ → Prop
  | out {s : σ} {r : ρ} (h : f s (.inr r)) : Wh f s r
  | again {s s' : σ} {r : ρ} (h : f s (.inl s')) (k : Wh f s' r) : Wh f s r
/-- A loop that goes through the states st 0, st 1, .., and leaves at the n-th. -/
theorem Wh.upto {σ ρ : Type} {f : σ → σ ⊕ ρ → Prop} (st : Nat → σ) (n : Nat) {r : ρ} (h : ∀ k, k < n → f (st k) (.inl (st (k + 1)))) (hn : f (st n) (.inr r)) : Wh f (st 0) r := by
  have key : ∀ j k, k + j = n → Wh f (st k) r := by
    intro j
    induction j with
    | zero => intro k hk; obtain rfl : k = n := (by omega); exact .out hn
    | succ j ih => intro k hk; exact .again (h k (by omega)) (ih (k + 1) (by omega))
  exact key n 0 (by omega)
/-- A loop, by an invariant and a measure. -/
theorem Wh.by {σ ρ : Type} {f : σ → σ ⊕ ρ → Prop} (I : σ → Prop) (m : σ → Nat) (R : ρ → Prop) {s : σ} (h0 : I s) (h : ∀ s, I s → (∃ s', f s (.inl s') ∧ I s' ∧ m s' < m s) ∨ ∃ r, f s (.inr r) ∧ R r) : ∃ r, Wh f s r ∧ R r := by
  have key : ∀ k s, m s = k → I s → ∃ r, Wh f s r ∧ R r := by
    intro k
    induction k using Nat.strongRecOn with
    | _ k ih =>
      intro s hk hi
      rcases h s hi with ⟨s', h1, h2, h3⟩ | ⟨r, h1, h2⟩
      · obtain ⟨r, h4, h5⟩ := ih (m s') (by omega) s' rfl h2
        exact ⟨r, .again h1 h4, h5⟩
      · exact ⟨r, .out h1, h2⟩
  exact key _ s rfl h0
def RQ {σ ρ : Type} (n : Nat) (w0 : World) (I : σ → Env → GH → Prop) (O : ρ → Exit → Env → GH → Prop) (o : σ ⊕ ρ) : Exit → Act → World → Prop :=
  fun ex a w => ∃ e' H', Ag n e' a ∧ St w0 H' w ∧ ((∃ s', o = .inl s' ∧ ex = .normal ∧ I s' e' H') ∨ ∃ r, o = .inr r ∧ ex ≠ .normal ∧ O r ex e' H')
section
variable {P : Program} {n : Nat} {w0 : World} {env : Env} {H : GH} {Q : Exit → Act → World → Prop} {ops : Array Oper} {rest : List Oper}
theorem xw_wh {σ ρ : Type} {f : σ → σ ⊕ ρ → Prop} {c : Code} (I : σ → Env → GH → Prop) (O : ρ → Exit → Env → GH → Prop) {s0 : σ} {x : ρ} (hw : Wh f s0 x)
    (h0 : ∃ e1 H1, Live env e1 ∧ (∀ w, St w0 H w → St w0 H1 w) ∧ I s0 e1 H1)
    (round : ∀ s o e H, I s e H → f s o → XW P n w0 e H c (RQ n w0 I O o))
    (out : ∀ ex e' H', O x ex e' H' → XQ n w0 e' H' ex Q) : XW P n w0 env H (.loop c) Q := by
  intro a w ha hs
  obtain ⟨e1, H1, hl, hst, hi⟩ := h0
  intro b k cs
  have key : ∀ s, Wh f s x → ∀ e H a w, I s e H → Ag n e a → St w0 H w → ∃ ex a' w', Q ex a' w' ∧ Arrives P (lone (b.at a (.code c :: .inLoop c :: k)) cs w) b k cs ex a' w' := by
    intro s hw
    induction hw with
    | @out s r h =>
      intro e H a w hI ha hs
      obtain ⟨ex, a₁, w₁, hq, harr⟩ := round s _ e H hI h a w ha hs b (.inLoop c :: k) cs
      obtain ⟨e', H', ha', hs', hq | hq⟩ := hq
      · obtain ⟨s', h1, _⟩ := hq; cases h1
      · obtain ⟨r', h1, hne, hO⟩ := hq
        cases h1
        have hQ := out ex e' H' hO a₁ w₁ ha' hs'
        cases ex with
        | normal => exact absurd rfl hne
        | exit id => exact ⟨_, a₁, w₁, hQ, .pass (x := .inLoop c) rfl (fun _ _ => .inl (by simp)) harr⟩
        | goto l => exact ⟨_, a₁, w₁, hQ, .pass (x := .inLoop c) rfl (fun _ _ => .inl (by simp)) harr⟩
        | ret => exact ⟨_, a₁, w₁, hQ, .pass (x := .inLoop c) rfl (fun _ _ => .inl (by simp)) harr⟩
        | panic ch => exact ⟨_, a₁, w₁, hQ, .pass (x := .inLoop c) rfl (fun _ _ => .inl (by simp)) harr⟩
        | outgrown => exact ⟨_, a₁, w₁, hQ, .pass (x := .inLoop c) rfl (fun _ _ => .inl (by simp)) harr⟩
    | @again s s' r h _ ih =>
      intro e H a w hI ha hs
      obtain ⟨ex, a₁, w₁, hq, harr⟩ := round s _ e H hI h a w ha hs b (.inLoop c :: k) cs
      obtain ⟨e', H', ha', hs', hq | hq⟩ := hq
      · obtain ⟨s'', h1, hex, hI'⟩ := hq
        cases h1
        subst hex
        obtain ⟨ex₂, a₂, w₂, hq₂, harr₂⟩ := ih (by assumption) out e' H' a₁ w₁ hI' ha' hs'
        exact ⟨ex₂, a₂, w₂, hq₂, .of_steps (Steps.trans harr (.one step_inLoop)) harr₂⟩
      · obtain ⟨r', h1, _⟩ := hq; cases h1
  obtain ⟨ex, a', w', hq, harr⟩ := key s0 hw e1 H1 a w hi (ha.live hl) (hst w hs)
  exact ⟨ex, a', w', hq, .of_steps (.one step_loop) harr⟩
theorem xq_next {σ ρ : Type} {I : σ → Env → GH → Prop} {O : ρ → Exit → Env → GH → Prop} {o : σ ⊕ ρ} {s' : σ} {e' : Env} (H' : GH) (hl : Live env e') (hst : ∀ w, St w0 H w → St w0 H' w) (ho : o = .inl s') (hI : I s' e' H') :
    XQ n w0 env H .normal (RQ n w0 I O o) := fun a w ha hs => ⟨e', H', ha.live hl, hst w hs, .inl ⟨s', ho, rfl, hI⟩⟩
theorem xq_out {σ ρ : Type} {I : σ → Env → GH → Prop} {O : ρ → Exit → Env → GH → Prop} {o : σ ⊕ ρ} {r : ρ} {ex : Exit} {e' : Env} (H' : GH) (hl : Live env e') (hst : ∀ w, St w0 H w → St w0 H' w) (ho : o = .inr r) (hne : ex ≠ .normal) (hO : O r ex e' H') :
    XQ n w0 env H ex (RQ n w0 I O o) := fun a w ha hs => ⟨e', H', ha.live hl, hst w hs, .inr ⟨r, ho, hne, hO⟩⟩
end
/-! ### Segments -/
/-- B' is what has become of B: its blocks are there still, and new ones may be. -/
def Cov (w0 : World) (B B' : GH) : Prop := (∀ k, k ∈ keys B' → k ∈ keys B ∨ w0.heap.size ≤ k) ∧ ∀ k, k ∈ keys B → k ∈ keys B'
theorem Cov.refl {w0 : World} (B : GH) : Cov w0 B B := ⟨fun _ h => .inl h, fun _ h => h⟩
theorem Cov.trans {w0 : World} {A B C : GH} (h : Cov w0 A B) (k : Cov w0 B C) : Cov w0 A C :=
  ⟨fun x hx => (k.1 x hx).elim (fun h' => h.1 x h') .inr, fun x hx => k.2 x (h.2 x hx)⟩
theorem Cov.fresh {w0 : World} {B : GH} (h : Cov w0 [] B) : ∀ k, k ∈ keys B → w0.heap.size ≤ k := fun k hk => (h.1 k hk).elim (fun h => by simp at h) id
theorem Cov.of_fresh {w0 : World} {B : GH} (h : ∀ k, k ∈ keys B → w0.heap.size ≤ k) : Cov w0 [] B := ⟨fun k hk => .inr (h k hk), fun _ h => by simp at h⟩
theorem Cov.base {w0 w1 : World} {A B : GH} (h : Cov w1 A B) (hw : w0.heap.size ≤ w1.heap.size) : Cov w0 A B := ⟨fun k hk => (h.1 k hk).imp id fun h => Nat.le_trans hw h, h.2⟩
theorem Cov.cons {w0 : World} {b : Nat} {o o' : Obj} {A B : GH} (h : Cov w0 A B) : Cov w0 ((b, o) :: A) ((b, o') :: B) :=
  ⟨fun k hk => by
    simp only [keys_cons, List.mem_cons] at hk ⊢
    rcases hk with hk | hk
    · exact .inl (.inl hk)
    · exact (h.1 k hk).imp .inr id, fun k hk => by
    simp only [keys_cons, List.mem_cons] at hk ⊢
    exact hk.imp id (h.2 k)⟩
theorem Cov.app {w0 : World} {A A' B B' : GH} (h : Cov w0 A A') (k : Cov w0 B B') : Cov w0 (A ++ B) (A' ++ B') :=
  ⟨fun x hx => by
    simp only [keys_append, List.mem_append] at hx ⊢
    rcases hx with hx | hx
    · exact (h.1 x hx).imp .inl id
    · exact (k.1 x hx).imp .inr id, fun x hx => by
    simp only [keys_append, List.mem_append] at hx ⊢
    exact hx.imp (h.2 x) (k.2 x)⟩
theorem Cov.new {w0 : World} {b : Nat} {o : Obj} {B : GH} (hb : w0.heap.size ≤ b) : Cov w0 B ((b, o) :: B) :=
  ⟨fun k hk => by
    simp only [keys_cons, List.mem_cons] at hk
    rcases hk with hk | hk
    · exact .inr (hk ▸ hb)
    · exact .inl hk, fun k hk => by simp only [keys_cons, List.mem_cons]; exact .inr hk⟩
theorem Cov.upd {w0 : World} {b : Nat} {o : Obj} {B B' : GH} (h : Upd B b o B') : Cov w0 B B' := ⟨fun k hk => .inl (by rw [← h.keys]; exact hk), fun k hk => by rw [h.keys]; exact hk⟩
theorem Upd.ex {b : Nat} {o : Obj} (o' : Obj) : ∀ {B : GH}, (b, o) ∈ B → ∃ B', Upd B b o' B'
  | x :: B, h => by
    rcases List.mem_cons.1 h with h | h
    · subst h; exact ⟨_, .here b o o' B⟩
    · obtain ⟨B', hB'⟩ := Upd.ex o' h
      exact ⟨x :: B', .there x _ _ _ _ hB'⟩
theorem Upd.left {b : Nat} {o : Obj} {B B' H : GH} (h : Upd B b o B') : Upd (B ++ H) b o (B' ++ H) := by
  induction h with
  | here b o o' t => exact .here b o o' _
  | there x t t' b o' h ih => exact .there x _ _ b o' ih
theorem Upd.isin {b : Nat} {o : Obj} {B B' : GH} (h : Upd B b o B') : (b, o) ∈ B' := by
  induction h with
  | here => exact List.mem_cons_self ..
  | there x t t' b o' h ih => exact List.mem_cons_of_mem _ ih
/-- Where a segment, or a block, stands. -/
inductive Pull : GH → GH → GH → Prop
  | here (S R : GH) : Pull (S ++ R) S R
  | hereC (x : Nat × Obj) (R : GH) : Pull (x :: R) [x] R
  | there (A : GH) {H S R : GH} (h : Pull H S R) : Pull (A ++ H) S (A ++ R)
  | thereC (x : Nat × Obj) {H S R : GH} (h : Pull H S R) : Pull (x :: H) S (x :: R)
theorem Pull.perm {H S R : GH} (h : Pull H S R) : H.Perm (S ++ R) := by
  induction h with
  | here => exact List.Perm.refl _
  | hereC => exact List.Perm.refl _
  | @there A H S R h ih =>
    refine (List.Perm.append_left A ih).trans ?_
    rw [← List.append_assoc, ← List.append_assoc]
    exact List.Perm.append_right R List.perm_append_comm
  | @thereC x H S R h ih => exact (List.Perm.cons x ih).trans List.perm_middle.symm
theorem Pull.st {w0 w : World} {H S R : GH} (h : Pull H S R) (hs : St w0 H w) : St w0 (S ++ R) w := hs.perm h.perm
theorem Pull.push {w0 w : World} {H S R : GH} (h : Pull H S R) (hs : St w0 (S ++ R) w) : St w0 H w := hs.perm h.perm.symm
theorem Pull.sub {H S R : GH} (h : Pull H S R) : ∀ x ∈ S, x ∈ H := fun _ hx => h.perm.mem_iff.2 (List.mem_append_left _ hx)
theorem Pull.mem {H R : GH} {x : Nat × Obj} (h : Pull H [x] R) : x ∈ H := h.sub x (List.mem_singleton.2 rfl)
/-- All blocks are new. -/
def Fr (w0 : World) (H : GH) : Prop := ∀ k, k ∈ keys H → w0.heap.size ≤ k
theorem Fr.nil {w0 : World} : Fr w0 [] := fun _ h => by simp at h
theorem Fr.cons {w0 : World} {b : Nat} {o : Obj} {H : GH} (hb : w0.heap.size ≤ b) (h : Fr w0 H) : Fr w0 ((b, o) :: H) := fun k hk => by
  simp only [keys_cons, List.mem_cons] at hk
  exact hk.elim (fun e => e ▸ hb) (h k)
theorem Fr.seg {w0 : World} {B H : GH} (hb : Cov w0 [] B) (h : Fr w0 H) : Fr w0 (B ++ H) := fun k hk => by
  simp only [keys_append, List.mem_append] at hk
  exact hk.elim (hb.fresh k) (h k)
/-! ### Slices -/
def OJ {α : Type} (T : TypeId) (s : Nat) (c : α → Nat → Value) (B : GH) (v : Value) (l : List α) : Prop :=
  (v = .slice none 0 0 ∧ l = []) ∨ ∃ b o cap N F, (b, BK N F T) ∈ B ∧ v = .slice (some ⟨b, o, none⟩) l.length cap ∧ l.length ≤ cap ∧ o + cap * s ≤ N ∧ cap ≤ maxLen ∧ ∀ i, i < l.length * s → F (o + i) = eG s c l i
section
variable {α : Type} {w0 w : World} {T : TypeId} {s : Nat} {c : α → Nat → Value} {B H R : GH} {v : Value} {l : List α}
theorem OJ.nil : OJ T s c B (.slice none 0 0) ([] : List α) := .inl ⟨rfl, rfl⟩
theorem OJ.mono {B' : GH} (h : OJ T s c B v l) (hB : ∀ x ∈ B, x ∈ B') : OJ T s c B' v l := by
  rcases h with h | ⟨b, o, cp, N, F, h1, h2⟩
  · exact .inl h
  · exact .inr ⟨b, o, cp, N, F, hB _ h1, h2⟩
theorem OJ.val (h : OJ T s c B v l) : ∃ p cap, v = .slice p l.length cap := by
  rcases h with ⟨rfl, rfl⟩ | ⟨b, o, cp, N, F, h1, h2, h3⟩
  · exact ⟨none, 0, rfl⟩
  · exact ⟨_, _, h2⟩
theorem OJ.sl (h : OJ T s c B v l) (hs : St w0 H w) (hB : ∀ x ∈ B, x ∈ H) : SL w s c v l := by
  rcases h with ⟨rfl, rfl⟩ | ⟨b, o, cp, N, F, h1, h2, h3, h4, h5, h6⟩
  · exact SL.nil
  · refine ⟨_, _, h2, h3, h5, fun h => (by cases h), SrcAt.own hs (hB _ h1) ?_ h6⟩
    have := Nat.mul_le_mul_right s h3
    omega
theorem OJ.lit {b n N : Nat} {F : Nat → Value} (hm : (b, BK N F T) ∈ B) (hl : n = l.length) (hN : n * s ≤ N) (hmx : n ≤ maxLen) (hF : ∀ i, i < n * s → F i = eG s c l i) : OJ T s c B (.slice (some ⟨b, 0, none⟩) n n) l := by
  subst hl
  exact .inr ⟨b, 0, _, N, F, hm, rfl, Nat.le_refl _, by omega, hmx, fun i hi => by rw [Nat.zero_add]; exact hF i hi⟩
theorem eG_drop {lo : Nat} (hlo : lo ≤ l.length) (hs : 0 < s) (i : Nat) : eG s c (l.drop lo) i = eG s c l (lo * s + i) := by
  simp only [eG, List.getElem?_drop]
  rw [Nat.mul_comm lo s, Nat.mul_add_div hs, Nat.mul_add_mod]
theorem eG_take {hi i : Nat} (h : i < (l.take hi).length * s) (hs : 0 < s) : eG s c (l.take hi) i = eG s c l i := by
  have h1 : i / s < (l.take hi).length := by rw [Nat.div_lt_iff_lt_mul hs]; exact h
  simp only [eG]
  rw [List.getElem?_take_of_lt (by simp at h1; omega)]
/-- What a slice of a slice is. -/
def cutV (v : Value) (s lo hi : Nat) : Value := match v with
  | .slice p _ cap => .slice (if cap = lo then p else p.map (·.add (lo * s))) (hi - lo) (cap - lo)
  | v => v
theorem OJ.cut {lo hi : Nat} (h : OJ T s c B v l) (hlo : lo ≤ hi) (hhi : hi ≤ l.length) (hs : 0 < s) : OJ T s c B (cutV v s lo hi) ((l.take hi).drop lo) := by
  rcases h with ⟨rfl, rfl⟩ | ⟨b, o, cp, N, F, h1, rfl, h3, h4, h5, h6⟩
  · simp at hhi
    subst hhi
    obtain rfl : lo = 0 := by omega
    exact .inl ⟨rfl, rfl⟩
  · have hlen : ((l.take hi).drop lo).length = hi - lo := by simp; omega
    have key : ∀ i, i < (hi - lo) * s → eG s c ((l.take hi).drop lo) i = eG s c l (lo * s + i) := by
      intro i hi'
      rw [eG_drop (by simp; omega) hs]
      refine eG_take ?_ hs
      rw [List.length_take, Nat.min_eq_left hhi]
      have : (hi - lo) * s + lo * s = hi * s := by rw [← Nat.add_mul]; congr 1; omega
      omega
    have hhs := Nat.mul_le_mul_right s hhi
    have hcs := Nat.mul_le_mul_right s h3
    have hls := Nat.mul_le_mul_right s hlo
    by_cases hcl : cp = lo
    · refine .inr ⟨b, o, cp - lo, N, F, h1, by simp [cutV, hcl, hlen], by rw [hlen]; omega, ?_, by omega, ?_⟩
      · subst hcl; simp; omega
      · intro i hi'
        rw [hlen] at hi'
        have : hi - lo = 0 := by omega
        rw [this] at hi'
        omega
    · refine .inr ⟨b, o + lo * s, cp - lo, N, F, h1, by simp [cutV, hcl, hlen, Addr.add_lit], by rw [hlen]; omega, ?_, by omega, ?_⟩
      · rw [Nat.sub_mul]
        have := Nat.mul_le_mul_right s (show lo ≤ cp by omega)
        omega
      · intro i hi'
        rw [hlen] at hi'
        rw [key i hi', Nat.add_assoc]
        refine h6 _ ?_
        have : (hi - lo) * s + lo * s = hi * s := by rw [← Nat.add_mul]; congr 1; omega
        omega
theorem SL.cut {lo hi : Nat} (h : SL w s c v l) (hlo : lo ≤ hi) (hhi : hi ≤ l.length) (hs : 0 < s) : SL w s c (cutV v s lo hi) ((l.take hi).drop lo) := by
  obtain ⟨p, cp, rfl, h3, h5, h6, h7⟩ := h
  have hlen : ((l.take hi).drop lo).length = hi - lo := by simp; omega
  have key : ∀ i, i < (hi - lo) * s → eG s c ((l.take hi).drop lo) i = eG s c l (lo * s + i) := by
    intro i hi'
    rw [eG_drop (by simp; omega) hs]
    refine eG_take ?_ hs
    rw [List.length_take, Nat.min_eq_left hhi]
    have : (hi - lo) * s + lo * s = hi * s := by rw [← Nat.add_mul]; congr 1; omega
    omega
  have hsum : (hi - lo) * s + lo * s = hi * s := by rw [← Nat.add_mul]; congr 1; omega
  have hhs := Nat.mul_le_mul_right s hhi
  refine ⟨if cp = lo then p else p.map (·.add (lo * s)), cp - lo, by rw [hlen]; rfl, by rw [hlen]; omega, by omega, ?_, ?_⟩
  · intro hp
    split at hp
    · omega
    · cases p with
      | none => have := h6 rfl; omega
      | some a => simp at hp
  · rw [hlen]
    rcases Nat.eq_zero_or_pos ((hi - lo) * s) with h0 | h0
    · exact .inl h0
    · rcases h7 with h7 | ⟨b, o, rfl, hc⟩
      · omega
      · have hpos : 0 < hi - lo := Nat.pos_of_mul_pos_right h0
        rw [if_neg (by omega)]
        refine .inr ⟨b, o + lo * s, by simp [Addr.add_lit], fun i hi' => ?_⟩
        rw [Nat.add_assoc, hc _ (by omega), key i hi']
/-- Where element k of a slice's cells lies. -/
def sadr (v : Value) (k : Nat) : Addr := match v with
  | .slice (some a) _ _ => a.add k
  | _ => ⟨0, k, none⟩
theorem SL.place {j : Nat} (h : SL w s c v l) (hj : j < l.length) (hs : 0 < s) : ∃ b o cap, v = .slice (some ⟨b, o, none⟩) l.length cap ∧ ∀ k, k < s → w.cell? ⟨b, o + (j * s + k), none⟩ = some (c l[j] k) := by
  obtain ⟨b, o, cp, hv, _, _, _, hc⟩ := Sl.at h hj hs
  refine ⟨b, o, cp, hv, fun k hk => ?_⟩
  have : j * s + k < l.length * s := by
    have := Nat.mul_le_mul_right s (show j + 1 ≤ l.length by omega)
    rw [Nat.add_mul, Nat.one_mul] at this
    omega
  rw [hc _ this, eG_at hj hk]
end
section
variable {α : Type} {P : Program} {n : Nat} {w0 : World} {env : Env} {H R : GH} {Q : Exit → Act → World → Prop} {ops : Array Oper} {rest : List Oper}
variable {ty : TypeId} {pos : String} {af : Array Edge} {g : Option (Nat × Bool)}
variable {t yt : TypeId} {x y : Operand} {b o N s : Nat} {T : TypeId} {c : α → Nat → Value} {v : Value} {l : List α} {B : GH}
/-- len, of a list -/
theorem o_lenL {d : Option Nat} {e : TypeId} {ts : Array TypeId} (ht : ts = #[t]) (he : P.underlying t = some (.slice e)) {args : Array Operand} (hargs : evL env args.toList = some [v]) (hv : ∃ p cap, v = .slice p l.length cap) :
    OT P w0 env H ⟨d, .call ⟨.builtin .len, args, ts⟩, ty, pos, af, g⟩ (Is (.int .i64 (l.length : Int)) H) := o_lenS ht he hargs hv
theorem o_ixL {d : Option Nat} {e : TypeId} {ag : Bool} {k : IntKind} {i : Int} (he : Elm P t e s ag) (hx : ev env x = some v) (hs0 : Nat.blt 0 s = true) (hv : ∀ w, St w0 H w → SL w s c v l) (hy : ev env y = some (.int k i)) (h0 : 0 ≤ i ∧ i < l.length) :
    OT P w0 env H ⟨d, .indexAddr t x y, ty, pos, af, g⟩ (Is (.pointer (some (sadr v (i.toNat * s)))) H) := by
  intro a w ha hst
  have hspos : 0 < s := by simpa [Nat.blt_eq] using hs0
  obtain ⟨b, o, cp, rfl, _⟩ := (hv w hst).place (j := i.toNat) (by omega) hspos
  simp only [sadr, Addr.add_lit]
  exact o_ixs (w0 := w0) (H := H) he hx hy h0 rfl a w ha hst
theorem o_faL {d : Option Nat} {f off k j : Nat} {s' : Nat} {ag : Bool} (hf : Fld P t f off s' ag) (hx : ev env x = some (.pointer (some (sadr v k)))) (hs0 : Nat.blt 0 s = true) (hv : ∀ w, St w0 H w → SL w s c v l) (hj : j < l.length) :
    OT P w0 env H ⟨d, .fieldAddr t x f, ty, pos, af, g⟩ (Is (.pointer (some (sadr v (k + off)))) H) := by
  intro a w ha hst
  obtain ⟨b, o, cp, rfl, _⟩ := (hv w hst).place hj (by simpa [Nat.blt_eq] using hs0)
  simp only [sadr, Addr.add_lit, ← Nat.add_assoc] at hx ⊢
  exact o_fa (w0 := w0) (H := H) hf hx a w ha hst
theorem o_ldL1 [Inhabited α] {d : Option Nat} {k j off q : Nat} {u : Value} (hx : ev env x = some (.pointer (some (sadr v k)))) (ht : TyS P t q false) (hs0 : Nat.blt off s = true) (hv : ∀ w, St w0 H w → SL w s c v l) (hj : j < l.length) (hk : k = j * s + off) (hu : c l[j]! off = u) :
    OT P w0 env H ⟨d, .load t x, ty, pos, af, g⟩ (Is u H) := by
  subst hk hu
  refine OT.val fun a w ha hs => ?_
  have hso : off < s := by simpa [Nat.blt_eq] using hs0
  obtain ⟨b, o, cp, rfl, hc⟩ := (hv w hs).place hj (by omega)
  rw [getElem!_pos l j hj]
  refine ⟨_, w, H, run_load1 (b := b) (o := o + (j * s + off)) ?_ ht (hc off hso), hs, rfl, rfl⟩
  rw [ha.ev hx]; simp [sadr, Addr.add_lit]
theorem o_ldLA [Inhabited α] {d : Option Nat} {k j off q : Nat} {f : Nat → Value} (hx : ev env x = some (.pointer (some (sadr v k)))) (ht : TyS P t q true) (hq : Nat.ble (off + q) s = true) (hq0 : Nat.blt 0 q = true) (hv : ∀ w, St w0 H w → SL w s c v l) (hj : j < l.length) (hk : k = j * s + off) (hu : ∀ i, i < q → c l[j]! (off + i) = f i) :
    OT P w0 env H ⟨d, .load t x, ty, pos, af, g⟩ (Is (AG q f) H) := by
  subst hk
  have hle := Nat.le_of_ble_eq_true hq
  have hq0' : 0 < q := by simpa [Nat.blt_eq] using hq0
  refine OT.val fun a w ha hs => ?_
  obtain ⟨b, o, cp, rfl, hc⟩ := (hv w hs).place hj (by omega)
  refine ⟨_, w, H, run_loadA (b := b) (o := o + (j * s + off)) (f := f) ?_ ht (fun i hi => ?_), hs, rfl, rfl⟩
  · rw [ha.ev hx]; simp [sadr, Addr.add_lit]
  · have := hc (off + i) (by omega)
    rw [show o + (j * s + off) + i = o + (j * s + (off + i)) by omega, this, ← hu i hi, getElem!_pos l j hj]
/-- A whole element that is a flat struct. -/
theorem o_ldLI {d : Option Nat} {l : List (Nat → Int)} {k j : Nat} (hx : ev env x = some (.pointer (some (sadr v k)))) (ht : TyS P t s true) (hs0 : Nat.blt 0 s = true) (hv : ∀ w, St w0 H w → SL w s iv v l) (hj : j < l.length) (hk : k = j * s) :
    OT P w0 env H ⟨d, .load t x, ty, pos, af, g⟩ (Is (AI s l[j]!) H) :=
  o_ldLA (off := 0) hx ht (by simp) hs0 hv hj hk (fun i _ => by rw [Nat.zero_add])
/-- Cut, of lists: [:h], [l:], [l:h]. -/
theorem run_cut {d : Option Nat} {a : Act} {w : World} {e : TypeId} {ag : Bool} {lo hi : Option Operand} {m h : Nat} (he : Elm P t e s ag) (hx : a.eval x = v) (hv : ∃ p cap, v = .slice p l.length cap ∧ l.length ≤ cap)
    (hlo : ∀ o, lo = some o → ∃ k, a.eval o = .int k (m : Int)) (hlo' : lo = none → m = 0) (hhi : ∀ o, hi = some o → ∃ k, a.eval o = .int k (h : Int)) (hhi' : hi = none → h = l.length) (hlh : m ≤ h) (hhc : h ≤ l.length) :
    (execOp a.eval ⟨d, .slice t x lo hi none, ty, pos, af, g⟩).run P w = .ok (.value (cutV v s m h)) w := by
  obtain ⟨p, cap, rfl, hc⟩ := hv
  exact run_slice he hx hlo hlo' hhi hhi' hlh (Nat.le_trans hhc hc)
theorem o_cutH {d : Option Nat} {e : TypeId} {ag : Bool} {o2 : Operand} {k : IntKind} {j : Int} (he : Elm P t e s ag) (hx : ev env x = some v) (hv : ∀ w, St w0 H w → SL w s c v l) (h2 : ev env o2 = some (.int k j)) (hj : 0 ≤ j ∧ j ≤ l.length) :
    OT P w0 env H ⟨d, .slice t x none (some o2) none, ty, pos, af, g⟩ (Is (cutV v s 0 j.toNat) H) :=
  OT.val fun a w ha hs => ⟨_, w, H, run_cut (l := l) he (ha.ev hx) (let ⟨p, cp, h, h', _⟩ := hv w hs; ⟨p, cp, h, h'⟩) (fun o ho => by cases ho) (fun _ => rfl) (fun o ho => by cases ho; exact ⟨k, by rw [ha.ev h2, Int.toNat_of_nonneg hj.1]⟩) (fun h => by cases h) (Nat.zero_le _) (by omega), hs, rfl, rfl⟩
theorem o_cutL {d : Option Nat} {e : TypeId} {ag : Bool} {o1 : Operand} {k : IntKind} {i : Int} (he : Elm P t e s ag) (hx : ev env x = some v) (hv : ∀ w, St w0 H w → SL w s c v l) (h1 : ev env o1 = some (.int k i)) (hi : 0 ≤ i ∧ i ≤ l.length) :
    OT P w0 env H ⟨d, .slice t x (some o1) none none, ty, pos, af, g⟩ (Is (cutV v s i.toNat l.length) H) :=
  OT.val fun a w ha hs => ⟨_, w, H, run_cut (l := l) he (ha.ev hx) (let ⟨p, cp, h, h', _⟩ := hv w hs; ⟨p, cp, h, h'⟩) (fun o ho => by cases ho; exact ⟨k, by rw [ha.ev h1, Int.toNat_of_nonneg hi.1]⟩) (fun h => by cases h) (fun o ho => by cases ho) (fun _ => rfl) (by omega) (by omega), hs, rfl, rfl⟩
/-! Errors -/
end
end Go.E
/- The engine, part 10: append to a slice whose segment may hold more; stores through places of elements. -/
namespace Go.E
open Go
/-- A slice in a segment: nil, or of n elements with cells G. -/
def Oj (T : TypeId) (s : Nat) (B : GH) (v : Value) (n : Nat) (G : Nat → Value) : Prop :=
  (v = .slice none 0 0 ∧ n = 0) ∨ ∃ b o c N F, (b, BK N F T) ∈ B ∧ v = .slice (some ⟨b, o, none⟩) n c ∧ n ≤ c ∧ o + c * s ≤ N ∧ c ≤ maxLen ∧ ∀ i, i < n * s → F (o + i) = G i
theorem Oj.val {T : TypeId} {s n : Nat} {B : GH} {v : Value} {G : Nat → Value} (h : Oj T s B v n G) : ∃ p c, v = .slice p n c ∧ n ≤ c ∧ c ≤ maxLen ∧ (p = none → c = 0) := by
  rcases h with ⟨h2, h3⟩ | ⟨b, o, c, N, F, h1, h3, h4, h5, h6, h7⟩
  · subst h3; exact ⟨none, 0, h2, Nat.le_refl _, Nat.zero_le _, fun _ => rfl⟩
  · exact ⟨_, c, h3, h4, h6, fun h => by cases h⟩
theorem Oj.ext {T : TypeId} {s n : Nat} {B : GH} {v : Value} {G G' : Nat → Value} (h : Oj T s B v n G) (hG : ∀ i, i < n * s → G i = G' i) : Oj T s B v n G' := by
  rcases h with h | ⟨b, o, c, N, F, h1, h3, h4, h5, h6, h7⟩
  · exact .inl h
  · exact .inr ⟨b, o, c, N, F, h1, h3, h4, h5, h6, fun i hi => (h7 i hi).trans (hG i hi)⟩
section
variable {P : Program} {n : Nat} {w0 : World} {env : Env} {H : GH} {Q : Exit → Act → World → Prop} {ops : Array Oper} {rest : List Oper}
variable {d : Option Nat} {op : Op} {ty : TypeId} {pos : String} {af : Array Edge} {g : Option (Nat × Bool)}
variable {t yt : TypeId} {x y : Operand} {b o N s : Nat} {F : Nat → Value} {m k : Nat → Int} {T : TypeId}
theorem o_appj {e : TypeId} {by_ : Nat} {z : Value} {B : GH} {v : Value} {n m c2 : Nat} {G S : Nat → Value} {q : Option Addr} {ts : Array TypeId} {args : Array Operand} (ht : App P t e s by_ z) (hts : ts = #[t, t])
    (hargs : evL env args.toList = some [v, .slice q m c2]) (hown : Oj e s B v n G) (hsrc : ∀ w, St w0 (B ++ H) w → SrcAt w q (m * s) S) (h1 : ∀ i, i < m * s → (S i).oneCell' = true) (hmax : n + m ≤ maxLen) (hby : (n + m) * by_ ≤ 140737488355328) :
    OT P w0 env (B ++ H) ⟨d, .call ⟨.builtin .append, args, ts⟩, ty, pos, af, g⟩ (fun v' H' => ∃ B', H' = B' ++ H ∧ Cov w0 B B' ∧ Oj e s B' v' (n + m) (app G (n * s) S)) :=
  OT.val fun a w ha hs => by
    subst hts
    have e1 : args.map a.eval = #[v, .slice q m c2] := Array.toList_inj.1 (by simpa using evL_spec ha _ _ hargs)
    have hexec : (execOp a.eval ⟨d, .call ⟨.builtin .append, args, #[t, t]⟩, ty, pos, af, g⟩).run P w = ((Builtin.append_ #[t, t] ty #[v, .slice q m c2]).run P w).andThen fun u w' => .ok (.value u) w' := by
      simp [execOp, resolve, invoke, builtin, e1]
    obtain ⟨i, hi, hi'⟩ := Option.map_eq_some_iff.1 ht.i
    simp only [Prod.mk.injEq] at hi'
    obtain ⟨hi1, hi2, hi3⟩ := hi'
    have hspos : 0 < s := by simpa [Nat.blt_eq] using ht.pos
    have hmx : maxLen = 9223372036854775807 := by decide
    have hsrc' := hsrc w hs
    -- the case of nothing to put
    rcases Nat.eq_zero_or_pos m with hm0 | hmpos
    · subst hm0
      obtain ⟨p, c, hv, hnc, hcm, hpn⟩ := hown.val
      have hr : (Builtin.append_ #[t, t] ty #[v, .slice q 0 c2]).run P w = .ok v w := by
        rw [hv]
        cases q <;> cases p <;> simp [Builtin.append_, run_underlying ht.u, Go.sizeOf, typeInfo, hi, Builtin.lenOf, hnc, Builtin.firstCells, loadCells, loadCellsFrom, storeCells]
      refine ⟨v, w, B ++ H, by rw [hexec, hr]; rfl, hs, B, rfl, Cov.refl B, ?_⟩
      rw [Nat.add_zero]
      exact hown.ext fun i hi => by simp [app, hi]
    · have hms : m * s ≠ 0 := Nat.mul_ne_zero (by omega) (by omega)
      rcases hsrc' with h0 | ⟨b2, o2, hq, hcells⟩
      · exact absurd h0 hms
      · subst hq
        have hl : ((List.range (m * s)).map S).length = m * i.size := by rw [hi1]; simp
        have hnews := list_src hcells
        have hoc : ∀ u ∈ (List.range (m * s)).map S, u.oneCell' = true := by
          intro u hu
          obtain ⟨j, hj, rfl⟩ := List.mem_map.1 hu
          exact h1 j (List.mem_range.1 hj)
        rcases hown with ⟨hv, hn0⟩ | ⟨b, o, c, N, F, hB, hv, hnc, hoN, hcm, hF⟩
        · subst hv hn0
          simp only [Nat.zero_add] at hmax hby
          have hr := run_append_nil (P := P) w t ty e i z ht.u hi hi3 ⟨b2, o2, none⟩ m c2 _ hl hnews hmpos (by omega) (by rw [hi2]; omega)
          have hgc := grownCap_ge w m 0 e
          have hgm := grownCap_le_maxLen w m 0 e (by omega)
          have hobj : Obj.cells (((List.range (m * s)).map S).toArray ++ Builtin.zeroCells z.cells (grownCap w m 0 e - m)) e = BK (grownCap w m 0 e * s) (fun j => (((List.range (m * s)).map S).toArray ++ Builtin.zeroCells z.cells (grownCap w m 0 e - m)).getD j undef) e := by
            unfold BK
            congr 1
            refine CV_eq ?_ fun j hj => ?_
            · simp only [Array.size_append, List.size_toArray, List.length_map, List.length_range, size_zeroCells, ht.z, ← Nat.add_mul]
              congr 1; omega
            · have hsz : (((List.range (m * s)).map S).toArray ++ Builtin.zeroCells z.cells (grownCap w m 0 e - m)).size = grownCap w m 0 e * s := by
                simp only [Array.size_append, List.size_toArray, List.length_map, List.length_range, size_zeroCells, ht.z, ← Nat.add_mul]
                congr 1; omega
              simp only [Array.getD_eq_getD_getElem?]
              rw [Array.getElem?_eq_getElem (by rw [hsz]; exact hj)]
              rfl
          have hst := (hs.drew).alloc (Obj.cells (((List.range (m * s)).map S).toArray ++ Builtin.zeroCells z.cells (grownCap w m 0 e - m)) e)
          refine ⟨_, _, _, by rw [hexec, hr]; rfl, hst, (w.heap.size, BK (grownCap w m 0 e * s) (fun j => (((List.range (m * s)).map S).toArray ++ Builtin.zeroCells z.cells (grownCap w m 0 e - m)).getD j undef) e) :: B, by rw [hobj]; rfl, Cov.new hs.size, ?_⟩
          refine .inr ⟨w.heap.size, 0, grownCap w m 0 e, _, _, List.mem_cons_self .., by rw [Nat.zero_add], by omega, by omega, hgm, fun j hj => ?_⟩
          simp only [Nat.zero_add] at hj ⊢
          simp only [app, Nat.zero_mul, Nat.not_lt_zero, if_false, Nat.sub_zero]
          rw [Array.getD_eq_getD_getElem?, Array.getElem?_append_left (by simpa using hj)]
          simp [hj]
        · subst hv
          by_cases hroom : n + m ≤ c
          · -- there is room
            have hbk : w.heap[b]? = some (BK N F e) := hs.own _ _ (List.mem_append_left _ hB)
            have hcs : (n + m) * s ≤ c * s := Nat.mul_le_mul_right _ hroom
            rw [Nat.add_mul] at hcs
            have hfc := run_firstCells_some (P := P) w i.size m ⟨b2, o2, none⟩ m c2 _ hl hnews
            have hst := run_storeCells_at P b (o + n * s) e ((List.range (m * s)).map S) 0 (CV N F) w hbk (by simp; omega) hoc
            simp only [Nat.add_zero] at hst
            have hr : (Builtin.append_ #[t, t] ty #[.slice (some ⟨b, o, none⟩) n c, .slice (some ⟨b2, o2, none⟩) m c2]).run P w = .ok (.slice (some ⟨b, o, none⟩) (n + m) c) (w.setRow b ((CV N F).toList.take (o + n * s) ++ (List.range (m * s)).map S ++ (CV N F).toList.drop (o + n * s + ((List.range (m * s)).map S).length)).toArray) := by
              subst hi1
              simp [Builtin.append_, run_underlying ht.u, Go.sizeOf, typeInfo, hi, Builtin.lenOf, hroom, hfc, Addr.add_lit]
              simp at hst
              rw [hst]
              rfl
            have hsp : ((CV N F).toList.take (o + n * s) ++ (List.range (m * s)).map S ++ (CV N F).toList.drop (o + n * s + ((List.range (m * s)).map S).length)).toArray = CV N (updR F (o + n * s) (m * s) S) :=
              splice_CV (by simp; omega) (fun j hj => by
                have hj' : j < m * s := by simpa using hj
                simp only [updR]
                rw [if_pos (by omega)]
                simp [hj']) (fun j _ hh => by
                simp only [List.length_map, List.length_range] at hh
                simp only [updR]; rw [if_neg (by omega)])
            obtain ⟨B', hB'⟩ := Upd.ex (BK N (updR F (o + n * s) (m * s) S) e) hB
            refine ⟨_, _, _, by rw [hexec, hr]; rfl, hs.setRow (N := N) (F := F) (T := e) (b := b) (f' := updR F (o + n * s) (m * s) S) (List.mem_append_left _ hB) hsp hB'.left, B', rfl, Cov.upd hB', ?_⟩
            refine .inr ⟨b, o, c, N, _, hB'.isin, rfl, hroom, hoN, hcm, fun j hj => ?_⟩
            rw [Nat.add_mul] at hj
            simp only [updR, app]
            by_cases hjn : j < n * s
            · rw [if_neg (by omega), if_pos hjn, hF j hjn]
            · rw [if_pos (by omega), if_neg hjn]; congr 1; omega
          · -- it grows
            have hns : n * s ≤ c * s := Nat.mul_le_mul_right _ hnc
            have hbk : w.heap[b]? = some (BK N F e) := hs.own _ _ (List.mem_append_left _ hB)
            have holds : ∀ j u, ((List.range (n * s)).map G)[j]? = some u → w.cell? ((⟨b, o, none⟩ : Addr).add j) = some u :=
              list_src fun j hj => by rw [cell_BK hbk (by omega), hF j hj]
            have hr := run_append_grow (P := P) w t ty e i z ht.u hi hi3 ⟨b, o, none⟩ n c ((List.range (n * s)).map G) (by rw [hi1]; simp) holds ⟨b2, o2, none⟩ m c2 _ hl hnews (by omega) (by omega) (growslice_fits (by omega) (by rw [hi2]; exact hby))
            have hgc := grownCap_ge w (n + m) c e
            have hgm := grownCap_le_maxLen w (n + m) c e hmax
            have hsz : (((List.range (n * s)).map G).toArray ++ ((List.range (m * s)).map S).toArray ++ Builtin.zeroCells z.cells (grownCap w (n + m) c e - (n + m))).size = grownCap w (n + m) c e * s := by
              simp only [Array.size_append, List.size_toArray, List.length_map, List.length_range, size_zeroCells, ht.z, ← Nat.add_mul]
              congr 1; omega
            have hobj : Obj.cells (((List.range (n * s)).map G).toArray ++ ((List.range (m * s)).map S).toArray ++ Builtin.zeroCells z.cells (grownCap w (n + m) c e - (n + m))) e =
                BK (grownCap w (n + m) c e * s) (fun j => (((List.range (n * s)).map G).toArray ++ ((List.range (m * s)).map S).toArray ++ Builtin.zeroCells z.cells (grownCap w (n + m) c e - (n + m))).getD j undef) e := by
              unfold BK
              congr 1
              refine CV_eq hsz fun j hj => ?_
              simp only [Array.getD_eq_getD_getElem?]
              rw [Array.getElem?_eq_getElem (by rw [hsz]; exact hj)]
              rfl
            have hst := (hs.drew).alloc (Obj.cells (((List.range (n * s)).map G).toArray ++ ((List.range (m * s)).map S).toArray ++ Builtin.zeroCells z.cells (grownCap w (n + m) c e - (n + m))) e)
            refine ⟨_, _, _, by rw [hexec, hr]; rfl, hst, (w.heap.size, BK (grownCap w (n + m) c e * s) (fun j => (((List.range (n * s)).map G).toArray ++ ((List.range (m * s)).map S).toArray ++ Builtin.zeroCells z.cells (grownCap w (n + m) c e - (n + m))).getD j undef) e) :: B, by rw [hobj]; rfl, Cov.new hs.size, ?_⟩
            refine .inr ⟨w.heap.size, 0, grownCap w (n + m) c e, _, _, List.mem_cons_self .., rfl, hgc, by omega, hgm, fun j hj => ?_⟩
            rw [Nat.add_mul] at hj
            simp only [Nat.zero_add, app]
            rw [Array.getD_eq_getD_getElem?, Array.getElem?_append_left (by simp; omega)]
            by_cases hjn : j < n * s
            · rw [if_pos hjn, Array.getElem?_append_left (by simpa using hjn)]
              simp [hjn]
            · rw [if_neg hjn, Array.getElem?_append_right (by simp; omega)]
              simp [show j - n * s < m * s by omega]
end
section
variable {α : Type} {P : Program} {w0 : World} {env : Env} {H : GH}
variable {d : Option Nat} {ty : TypeId} {pos : String} {af : Array Edge} {g : Option (Nat × Bool)} {t : TypeId} {s : Nat} {c : α → Nat → Value}
/-- append, of lists. -/
theorem o_appJ {e : TypeId} {by_ : Nat} {z : Value} {B : GH} {v u : Value} {l l' : List α} {ts : Array TypeId} {args : Array Operand} (ht : App P t e s by_ z) (hts : ts = #[t, t])
    (hargs : evL env args.toList = some [v, u]) (hown : OJ e s c B v l) (hsrc : ∀ w, St w0 (B ++ H) w → SL w s c u l') (h1 : ∀ (a : α) (i : Nat), (c a i).oneCell' = true) (hby : (l.length + l'.length) * by_ ≤ 140737488355328) (hmax : l.length + l'.length ≤ maxLen) :
    OT P w0 env (B ++ H) ⟨d, .call ⟨.builtin .append, args, ts⟩, ty, pos, af, g⟩ (fun v' H' => ∃ B', H' = B' ++ H ∧ Cov w0 B B' ∧ OJ e s c B' v' (l ++ l')) := by
  intro a w ha hs
  obtain ⟨p, cap, hu, _, _, hpn, hsrc0⟩ := hsrc w hs
  subst hu
  have hspos : 0 < s := by simpa [Nat.blt_eq] using ht.pos
  have hsrc2 : ∀ w', St w0 (B ++ H) w' → SrcAt w' p (l'.length * s) (eG s c l') := by
    intro w' hs'
    obtain ⟨p', cap', hu', _, _, _, h⟩ := hsrc w' hs'
    cases hu'
    exact h
  have h1' : ∀ i, i < l'.length * s → (eG s c l' i).oneCell' = true := by
    intro i hi
    have : i / s < l'.length := by rw [Nat.div_lt_iff_lt_mul hspos]; exact hi
    simp only [eG, List.getElem?_eq_getElem this, Option.elim_some, h1]
  have hj : Oj e s B v l.length (eG s c l) := by
    rcases hown with ⟨h1, h2⟩ | h
    · exact .inl ⟨h1, by rw [h2]; rfl⟩
    · exact .inr h
  have := o_appj (d := d) (ty := ty) (pos := pos) (af := af) (g := g) (B := B) (H := H) (n := l.length) (m := l'.length) ht hts hargs hj hsrc2 h1' hmax hby a w ha hs
  refine wp_mono2 ?_ (fun _ _ _ h => h.elim) this
  rintro a' w' ⟨v', H', rfl, hs', B', rfl, hcov, hown'⟩
  refine ⟨v', _, rfl, hs', B', rfl, hcov, ?_⟩
  have hx := hown'.ext (eG_app hspos c l l')
  rcases hx with ⟨h1, h2⟩ | ⟨b, o, cp, N, F, h1, h2⟩
  · exact .inl ⟨h1, by rw [← List.length_append] at h2; exact List.length_eq_zero_iff.1 h2⟩
  · exact .inr ⟨b, o, cp, N, F, h1, by rw [List.length_append]; exact h2⟩
/-- A store into an element. -/
theorem eG_set {l : List α} {j : Nat} (e : α) (hj : j < l.length) (hs : 0 < s) (i : Nat) : eG s c (l.set j e) i = if j * s ≤ i ∧ i < j * s + s then c e (i - j * s) else eG s c l i := by
  simp only [eG, List.getElem?_set]
  have hdm := Nat.div_add_mod i s
  have hml := Nat.mod_lt i hs
  by_cases h : j = i / s
  · subst h
    rw [Nat.mul_comm] at hdm
    rw [if_pos rfl, if_pos hj, if_pos (by omega)]
    simp only [Option.elim_some]
    congr 1; omega
  · rw [if_neg h, if_neg]
    intro hh
    apply h
    have h1 : j ≤ i / s := (Nat.le_div_iff_mul_le hs).2 hh.1
    have h2 : i / s < j + 1 := by rw [Nat.div_lt_iff_lt_mul hs, Nat.add_mul, Nat.one_mul]; exact hh.2
    omega
theorem OJ.set {T : TypeId} {B : GH} {v : Value} {l : List α} {j : Nat} (h : OJ T s c B v l) (hj : j < l.length) (hs : 0 < s) (e : α) : ∃ b o cap N F, v = .slice (some ⟨b, o, none⟩) l.length cap ∧ (b, BK N F T) ∈ B ∧ o + (j * s + s) ≤ N ∧
    ∀ B', Upd B b (BK N (updR F (o + j * s) s (c e)) T) B' → OJ T s c B' v (l.set j e) := by
  rcases h with ⟨_, rfl⟩ | ⟨b, o, cap, N, F, h1, h2, h3, h4, h5, h6⟩
  · simp at hj
  · have hle := Nat.mul_le_mul_right s (show j + 1 ≤ l.length by omega)
    have hle2 := Nat.mul_le_mul_right s h3
    rw [Nat.add_mul, Nat.one_mul] at hle
    refine ⟨b, o, cap, N, F, h2, h1, by omega, fun B' hu => .inr ⟨b, o, cap, N, _, hu.isin, by rw [List.length_set]; exact h2, by rw [List.length_set]; exact h3, h4, h5, fun i hi => ?_⟩⟩
    rw [List.length_set] at hi
    rw [eG_set e hj hs]
    simp only [updR]
    by_cases hh : j * s ≤ i ∧ i < j * s + s
    · rw [if_pos (by omega), if_pos hh]; congr 1; omega
    · rw [if_neg (by omega), if_neg hh, h6 i hi]
end
end Go.E
namespace Go.E
open Go
section
variable {P : Program} {n : Nat} {w0 : World} {env : Env} {H : GH} {o : Oper}
theorem OT.st {H1 : GH} {R : Value → GH → Prop} (hh : ∀ w, St w0 H w → St w0 H1 w) (h : OT P w0 env H1 o R) : OT P w0 env H o R := fun a w ha hs => h a w ha (hh w hs)
end
end Go.E
namespace Go.E
open Go
section
variable {P : Program} {n : Nat} {w0 : World} {ops : Array Oper} {KS : List Nat} {env0 env : Env} {dn : List Nat} {H RS : GH} {Q : Exit → Act → World → Prop}
end
end Go.E
/- The engine, part 11: small things that the printed walks use. -/
namespace Go.E
open Go
theorem toNat_lt {i : Int} {n : Nat} (h : 0 ≤ i ∧ i < n) : i.toNat < n := by omega
theorem toNat_le {i : Int} {n : Nat} (h : 0 ≤ i ∧ i ≤ n) : i.toNat ≤ n := by omega
theorem oneOf {v : Value} {n : Nat} (h : ∃ p c, v = .slice p n c) : v.oneCell' = true := by obtain ⟨p, c, rfl⟩ := h; rfl
theorem len_max {k b : Nat} (h : k * b ≤ 140737488355328) (hb : 0 < b) : k ≤ maxLen := by
  have : k * 1 ≤ k * b := Nat.mul_le_mul_left k hb
  have e : maxLen = 9223372036854775807 := by decide
  omega
theorem bnT {b : Bool} (h : (!b) = true) : b = false := by simpa using h
theorem bnF {b : Bool} (h : (!b) = false) : b = true := by simpa using h
section
variable {P : Program} {n : Nat} {w0 : World} {env : Env} {H : GH} {Q : Exit → Act → World → Prop} {ops : Array Oper} {rest : List Oper}
variable {ty : TypeId} {pos : String} {af : Array Edge} {g : Option (Nat × Bool)} {t : TypeId} {x y : Operand}
end
end Go.E
/- The engine, part 12: calls entered in place; loops taken apart round by round; results that lie in memory; blocks that are given; permuted lists of blocks. -/
namespace Go.E
open Go
section
variable {P : Program} {n : Nat} {w0 : World} {env : Env} {H : GH} {Q : Exit → Act → World → Prop} {ops : Array Oper} {rest : List Oper}
variable {ty : TypeId} {pos : String} {af : Array Edge} {g : Option (Nat × Bool)}
/-! ### A loop, one round at a time -/
/-! ### A call entered in place -/
theorem calls_in {f : FuncId} {fn : Func} {c : Code} {vs : List Value} {l : Env} {m : Nat} {w : World} {R : Value → GH → Prop} (hf : P.funcs[f]? = some fn) (hb : fn.body = some c) (hm : fn.ntmps = m) (hsz : Nat.ble vs.length m = true) (hl : LiveA vs l)
    (h : XW P m w0 l H c (bodyPost P fn (GoodEnd w0 R))) (hs : St w0 H w) : Calls P f vs.toArray w (GoodEnd w0 R) := by
  refine calls_of_wp hf hb (h _ w ⟨?_, rfl, ?_⟩ hs)
  · have := Nat.le_of_ble_eq_true hsz
    simp only [Array.size_append, Array.size_replicate, hm, List.size_toArray]
    omega
  · intro t v ht
    have h1 : vs.toArray[t]? = some v := by rw [List.getElem?_toArray]; exact hl.get t v ht
    have hlt := (Array.getElem?_eq_some_iff.1 h1).1
    simp only [Array.getD_eq_getD_getElem?]
    rw [Array.getElem?_append_left hlt, h1]
    rfl
theorem ot_enter {o : Oper} {f : FuncId} {fn : Func} {c : Code} {vs : List Value} {l : Env} {m : Nat} {R : Value → GH → Prop}
    (hrun : ∀ a w, AgV env a → (execOp a.eval o).run P w = .ok (.enter f vs.toArray) w)
    (hf : P.funcs[f]? = some fn) (hb : fn.body = some c) (hm : fn.ntmps = m) (hsz : Nat.ble vs.length m = true) (hl : LiveA vs l)
    (h : XW P m w0 l H c (bodyPost P fn (GoodEnd w0 R))) : OT P w0 env H o R := by
  intro a w ha hs
  unfold Oper.wp
  rw [hrun a w ha, Oper.upon_enter]
  refine Calls.mono (calls_in hf hb hm hsz hl h hs) ?_
  rintro e w' ⟨v, F, rfl, hst, hR⟩
  exact ⟨v, F, rfl, hst, hR⟩
/-- A function by its name. -/
theorem ot_in {d : Option Nat} {f : FuncId} {fn : Func} {c : Code} {vs : List Value} {l : Env} {m : Nat} {R : Value → GH → Prop} {args : Array Operand} {ts : Array TypeId} (hk : IsFn P f) (hargs : evL env args.toList = some vs)
    (hf : P.funcs[f]? = some fn) (hb : fn.body = some c) (hm : fn.ntmps = m) (hsz : Nat.ble vs.length m = true) (hl : LiveA vs l)
    (h : XW P m w0 l H c (bodyPost P fn (GoodEnd w0 R))) : OT P w0 env H ⟨d, .call ⟨.value (.func f), args, ts⟩, ty, pos, af, g⟩ R := by
  refine ot_enter (fun a w ha => ?_) hf hb hm hsz hl h
  cases d with
  | some d => exact run_call hk hargs a w ha
  | none =>
    have hm : args.map a.eval = vs.toArray := Array.toList_inj.1 (by simpa using evL_spec ha _ _ hargs)
    simp only [execOp, resolve, Sem.run_bind, Act.eval, Deferred.ofValue, Sem.run_pure, Result.andThen_ok, invoke, hm]
    simpa using run_callFunc hk vs.toArray w
/-- One operation, whatever it may answer: what comes behind it stands in R. -/
theorem xoR {d : Nat} {op : Op} (hd : Nat.blt d n = true) (hw : Wt ops env g) (h : OT P w0 env H ⟨some d, op, ty, pos, af, g⟩ (fun v H' => XO P n w0 ((d, v) :: env) H' ops rest Q)) : XO P n w0 env H ops (⟨some d, op, ty, pos, af, g⟩ :: rest) Q :=
  xo hd hw h fun _ _ hr => hr
/-! ### Results -/
inductive ResV (P : Program) (env : Env) (H : GH) : List ResultVar → List Value → Prop
  | nil : ResV P env H [] []
  | tmp {t : Nat} {v : Value} {l : List ResultVar} {vs : List Value} (h : lk t env = some v) (k : ResV P env H l vs) : ResV P env H (.tmp t :: l) (v :: vs)
  | cell {t b s : Nat} {ty T : TypeId} {F : Nat → Value} {l : List ResultVar} {vs : List Value} (h : lk t env = some (.pointer (some ⟨b, 0, none⟩))) (ht : TyS P ty s true) (hm : (b, BK s F T) ∈ H) (k : ResV P env H l vs) : ResV P env H (.cell t ty :: l) (AG s F :: vs)
  | cell1 {t b q : Nat} {ty T : TypeId} {v : Value} {l : List ResultVar} {vs : List Value} (h : lk t env = some (.pointer (some ⟨b, 0, none⟩))) (ht : TyS P ty q false) (hm : (b, BK 1 (fun _ => v) T) ∈ H) (k : ResV P env H l vs) : ResV P env H (.cell t ty :: l) (v :: vs)
theorem ResV.run {l : List ResultVar} {vs : List Value} (h : ResV P env H l vs) {a : Act} (ha : AgV env a) {w : World} (hs : St w0 H w) :
    (l.mapM (m := Sem) fun | .tmp t => pure (a.tmps.getD t undef) | .cell b t => do loadVar t (← asAddr (a.tmps.getD b undef))).run P w = .ok vs w := by
  induction h with
  | nil => simp
  | @tmp t v l vs h k ih =>
    simp [ha t v h, ih, -Array.getD_eq_getD_getElem?]
  | @cell t b s ty T F l vs h ht hm k ih =>
    have hlo := run_loadCells (P := P) w ⟨b, 0, none⟩ s F (fun j hj => by rw [Addr.add_lit, Nat.zero_add]; exact cell_BK (hs.own _ _ hm) hj)
    have hv : (loadVar ty ⟨b, 0, none⟩).run P w = .ok (AG s F) w := by
      simp [loadVar, ht.isAgg, ht.sizeOf, hlo, AG, CV]
    have hA : (asAddr (a.tmps.getD t undef)).run P w = .ok ⟨b, 0, none⟩ w := by rw [ha t _ h]; rfl
    simp [hA, hv, ih, -Array.getD_eq_getD_getElem?]
  | @cell1 t b q ty T v l vs h ht hm k ih =>
    have hc := cell_BK (hs.own _ _ hm) (show 0 < 1 by omega)
    have hv : (loadVar ty ⟨b, 0, none⟩).run P w = .ok v w := by
      simp [loadVar, ht.isAgg, hc]
    have hA : (asAddr (a.tmps.getD t undef)).run P w = .ok ⟨b, 0, none⟩ w := by rw [ha t _ h]; rfl
    simp [hA, hv, ih, -Array.getD_eq_getD_getElem?]
end
end Go.E
/- The engine, part 13: blocks that are given, calls that change them, blocks of several kinds of cells. -/
namespace Go.E
open Go
/-! ### Lists of segments -/
def cat : List GH → GH
  | [] => []
  | S :: L => S ++ cat L
theorem cat_perm {L L' : List GH} (h : L.Perm L') : (cat L).Perm (cat L') := by
  induction h with
  | nil => exact List.Perm.refl _
  | cons x h ih => exact List.Perm.append_left x ih
  | swap x y l =>
    show (y ++ (x ++ cat l)).Perm (x ++ (y ++ cat l))
    rw [← List.append_assoc, ← List.append_assoc]
    exact List.Perm.append_right _ List.perm_append_comm
  | trans h1 h2 ih1 ih2 => exact ih1.trans ih2
theorem cat_append (L L' : List GH) : cat (L ++ L') = cat L ++ cat L' := by
  induction L with
  | nil => rfl
  | cons x L ih => show x ++ cat (L ++ L') = (x ++ cat L) ++ cat L'; rw [ih, List.append_assoc]
theorem map_getD_range (L : List GH) : (List.range L.length).map (fun i => L.getD i []) = L := by
  apply List.ext_getElem?
  intro i
  by_cases h : i < L.length
  · simp [h]
  · simp [h]
theorem St.permI {w0 w : World} (σ : List Nat) (L : List GH) (h : List.isPerm σ (List.range L.length) = true) (hs : St w0 (cat L) w) : St w0 (cat (σ.map fun i => L.getD i [])) w := by
  refine hs.perm ?_
  have h1 := (List.isPerm_iff.1 h).map (fun i => L.getD i [])
  rw [map_getD_range] at h1
  exact cat_perm h1.symm
theorem St.permJ {w0 w : World} (σ : List Nat) (L : List GH) (hs : St w0 (cat L) w) (h : List.isPerm σ (List.range L.length) = true := by kernel_rfl) : St w0 (cat (σ.map fun i => L.getD i [])) w := St.permI σ L h hs
/-! ### What is given -/
def Has (w : World) (C : GH) : Prop := (∀ b o, (b, o) ∈ C → w.heap[b]? = some o) ∧ (keys C).Nodup
theorem St.has {w0 w : World} {C R : GH} (h : St w0 (C ++ R) w) : Has w C := by
  refine ⟨fun b o hm => h.own b o (List.mem_append_left _ hm), ?_⟩
  have := h.nd
  rw [keys_append] at this
  exact (List.nodup_append.1 this).1
theorem Has.st {w w' : World} {C : GH} (h : Has w C) (hs : St w [] w') : St w C w' := by
  have hk : ∀ k, k < w.heap.size → w'.heap[k]? = w.heap[k]? := fun k hk => hs.keep k hk (by simp)
  refine ⟨hs.os, hs.tape, hs.out, hs.size, fun b o hm => ?_, h.2, fun k hlt _ => hk k hlt⟩
  have := h.1 b o hm
  rw [hk b (Array.getElem?_eq_some_iff.1 this).1]; exact this
section
variable {P : Program} {n : Nat} {w0 : World} {env : Env} {H : GH} {Q : Exit → Act → World → Prop} {ops : Array Oper} {rest : List Oper}
variable {ty : TypeId} {pos : String} {af : Array Edge} {g : Option (Nat × Bool)}
/-! ### Cells of several kinds -/
def cl (l : List Value) : Nat → Value := fun i => l.getD i undef
variable {d : Option Nat} {t yt : TypeId} {x y : Operand} {b o N s : Nat} {T : TypeId} {l l' : List Value}
end
end Go.E
namespace Go.E
open Go
section
variable {P : Program} {n : Nat} {w0 : World} {env : Env} {H : GH} {Q : Exit → Act → World → Prop} {ops : Array Oper} {rest : List Oper}
theorem St.join {w0 w : World} (L1 L2 : List GH) (S N : GH) (h : St w0 (cat (L1 ++ (S :: N :: L2))) w) : St w0 (cat (L1 ++ ((S ++ N) :: L2))) w := by
  rw [cat_append] at h ⊢
  show St w0 (cat L1 ++ ((S ++ N) ++ cat L2)) w
  rw [List.append_assoc]; exact h
theorem Cov.more {w0 : World} {A B N : GH} (h : Cov w0 A B) (k : Cov w0 [] N) : Cov w0 A (B ++ N) := by
  have := h.app k
  rwa [List.append_nil] at this
theorem Cov.app0 {w0 : World} {N M : GH} (h : Cov w0 [] N) (k : Cov w0 [] M) : Cov w0 [] (N ++ M) := h.app k
theorem Cov.nil {w0 : World} : Cov w0 [] [] := Cov.refl _
/-- What is not given may be forgotten: a list of blocks that covers what was given. -/
theorem OJ.left {α : Type} {T : TypeId} {s : Nat} {c : α → Nat → Value} {B N : GH} {v : Value} {l : List α} (h : OJ T s c B v l) : OJ T s c (B ++ N) v l := h.mono fun _ hx => List.mem_append_left _ hx
theorem OJ.right {α : Type} {T : TypeId} {s : Nat} {c : α → Nat → Value} {B N : GH} {v : Value} {l : List α} (h : OJ T s c N v l) : OJ T s c (B ++ N) v l := h.mono fun _ hx => List.mem_append_right _ hx
variable {ty : TypeId} {pos : String} {af : Array Edge} {g : Option (Nat × Bool)} {d : Option Nat} {x : Operand}
end
end Go.E
namespace Go.E
open Go
section
variable {P : Program} {w0 : World} {env : Env} {H : GH} {ty : TypeId} {pos : String} {af : Array Edge} {g : Option (Nat × Bool)} {d : Option Nat} {t : TypeId} {N : Nat}
end
end Go.E
namespace Go.E
open Go
end Go.E
/- The engine, part 14: shifts, bits, max and min, cut to its length. -/
namespace Go.E
open Go
section
variable {P : Program} {n : Nat} {w0 : World} {env : Env} {H : GH} {Q : Exit → Act → World → Prop} {ops : Array Oper} {rest : List Oper}
variable {ty : TypeId} {pos : String} {af : Array Edge} {g : Option (Nat × Bool)} {d : Option Nat} {t yt : TypeId} {x y : Operand} {i j : Int} {k' : IntKind}
end
end Go.E
namespace Go.E
open Go
def reach (ops : Array Oper) : Nat → Nat → List Nat
  | 0, i => aft ops i
  | f + 1, i => aft ops i ++ (aft ops i).flatMap (reach ops f)
section
variable {P : Program} {n : Nat} {w0 : World} {ops : Array Oper} {KS : List Nat} {env0 env : Env} {dn : List Nat} {H RS : GH} {Q : Exit → Act → World → Prop}
theorem reach_listed {listed : Array Bool} (hd : ∀ j, listed.getD j false = true → ∀ k ∈ aft ops j, listed.getD k false = true) : ∀ f i, (∀ k ∈ aft ops i, listed.getD k false = true) → ∀ k ∈ reach ops f i, listed.getD k false = true
  | 0, _, h, k, hk => h k hk
  | f + 1, i, h, k, hk => by
    rcases List.mem_append.1 hk with hk | hk
    · exact h k hk
    · obtain ⟨j, hj, hk⟩ := List.mem_flatMap.1 hk
      exact reach_listed hd f j (fun q hq => hd j (h j hj) q hq) k hk
def noRs (p : Rec) : Rec := ⟨p.i, p.l, [], p.v⟩
theorem map_noRs (dl : List Rec) : (dl.map noRs).map (·.i) = dl.map (·.i) := by simp [noRs]
theorem envOK_noRs {dl : List Rec} (h : EnvOK ops env0 dl env) : EnvOK ops env0 (dl.map noRs) env := by
  intro s v hs
  rcases h s v hs with ⟨p, hp, h1, h2⟩ | ⟨h1, h2⟩
  · exact .inl ⟨noRs p, List.mem_map_of_mem hp, h1, h2⟩
  · refine .inr ⟨fun p hp => ?_, h2⟩
    obtain ⟨q, hq, rfl⟩ := List.mem_map.1 hp
    exact h1 q hq
/-- One step of one that may write, when all else that was taken is done by then. -/
theorem xd_flush (hok : RegOK n ops = true) (f : Nat) (i : Nat) {o : Oper} (l : Env) (ho : ops[i]? = some o) (hf : front ops dn = [i]) (hcl : dn.all (reach ops f i).contains = true) (hl : Live env l) (hs : slotsOK ops dn i (l.map (·.1)) = true) (hw : Wt ops l o.guard) {R : Value → GH → Prop} (ht : OT P w0 l H o R)
    (k : ∀ v H', R v H' → (∀ k ∈ keys H', k ∈ KS ∨ w0.heap.size ≤ k) ∧ XD P n w0 ops KS env0 (i :: dn) (match o.dst with | some d => (d, v) :: env | none => env) H' [] Q) : XD P n w0 ops KS env0 dn env H RS Q := by
  intro a0 dl ha0 hdn hnd he hrs
  refine xd_rounds hok (by rw [hdn]; exact hnd) ?_ ?_
  · intro a w listed hr hinv
    exfalso
    have hi : i ∈ front ops dn := by rw [hf]; exact List.mem_singleton.2 rfl
    obtain ⟨h1, h2⟩ := List.mem_filter.1 hi
    have := all_listed hok hinv.lsize hr i (List.mem_range.1 h1)
    obtain ⟨p, hp, e⟩ := hinv.inn i this
    simp only [Bool.and_eq_true, Bool.not_eq_true', List.contains_eq_mem, decide_eq_false_iff_not] at h2
    exact h2.1 (by rw [← hdn]; exact List.mem_map.2 ⟨p, hp, e⟩)
  · intro fuel listed a w j hinv hr hni
    have hj := front_spec hinv.lsize hdn hinv.inn hr hni
    rw [hf] at hj
    obtain rfl := List.mem_singleton.1 hj
    obtain ⟨hlt, hl0, haft⟩ := (mem_ready' hinv.lsize).1 hr
    have hagv := hinv.agv hl0 haft (slots_spec ha0 he hdn hl hs)
    have hdst : dstOf ops j = o.dst := by simp [dstOf, ho]
    have hall : ∀ p ∈ dl, listed.getD p.i false = true := by
      intro p hp
      have h1 := List.all_eq_true.1 hcl p.i (by rw [← hdn]; exact List.mem_map.2 ⟨p, hp, rfl⟩)
      simp only [List.contains_eq_mem, decide_eq_true_eq] at h1
      exact reach_listed hinv.down f j haft _ h1
    unfold wpOp
    simp only [ho]
    rw [if_pos (hw.wanted hagv)]
    refine .inl (wp_mono2 ?_ (fun _ _ _ h => h.elim) (ht a w hagv hinv.st))
    rintro a' w' ⟨v, H', rfl, hst, hR⟩
    obtain ⟨k3, k2⟩ := k v H' hR
    have hlt' : j < listed.size := by rw [hinv.lsize]; exact hlt
    have hni2 : ∀ p ∈ dl.map noRs, p.i ≠ j := by
      intro p hp
      obtain ⟨q, hq, rfl⟩ := List.mem_map.1 hp
      exact hni q hq
    have hni' : j ∉ (dl.map noRs).map (·.i) := by
      simp only [List.mem_map, not_exists, not_and]
      rintro p ⟨q, hq, rfl⟩
      exact hni q hq
    have hinv2 : Inv P n ops w0 KS a0 (⟨j, l, [], v⟩ :: dl.map noRs) H' fuel (listed.setIfInBounds j true) (a.put o.dst v) w' := by
      rw [← hdst]
      refine ⟨by simpa using hinv.lsize, ?_, ?_, ?_, ?_, by rw [put_size]; exact hinv.size, by rw [put_defers]; exact hinv.defers, hst, k3, ?_, ?_⟩
      · intro q hq
        rw [getD_set hlt'] at hq
        by_cases e : q = j
        · exact ⟨⟨j, l, [], v⟩, List.mem_cons_self .., e.symm⟩
        · rw [if_neg e] at hq
          obtain ⟨p, hp, e⟩ := hinv.inn q hq
          exact ⟨noRs p, List.mem_cons_of_mem _ (List.mem_map.2 ⟨p, hp, rfl⟩), e⟩
      · intro q hq hq0
        exfalso
        rw [getD_set hlt'] at hq0
        rcases List.mem_cons.1 hq with rfl | hq
        · simp at hq0
        · obtain ⟨p, hp, rfl⟩ := List.mem_map.1 hq
          have hq1 : (if p.i = j then true else listed.getD p.i false) = false := hq0
          rw [if_neg (hni p hp), hall p hp] at hq1; cases hq1
      · intro q hq hq1 s hs'
        rcases List.mem_cons.1 hq with rfl | hq
        · have hs'' : dstOf ops j = some s := hs'
          rw [hs'', put_getD_self (by rw [hinv.size]; exact regOK_lt hok hs'')]
        · obtain ⟨p, hp, rfl⟩ := List.mem_map.1 hq
          have hne := hni p hp
          rw [put_getD (fun hh => hne (regOK_uniq hok hs' hh))]
          exact hinv.done p hp (hall p hp) s hs'
      · intro s hs'
        have hne : dstOf ops j ≠ some s := fun hh => by
          have := hs' j hh
          rw [getD_set hlt', if_pos rfl] at this
          cases this
        rw [put_getD hne]
        refine hinv.rest s fun q hq => ?_
        have := hs' q hq
        rw [getD_set hlt'] at this
        split at this
        · cases this
        · exact this
      · intro q hq k' hk
        rw [getD_set hlt'] at hq ⊢
        by_cases e : k' = j
        · rw [if_pos e]
        · rw [if_neg e]
          by_cases e2 : q = j
          · subst e2; exact haft k' hk
          · rw [if_neg e2] at hq; exact hinv.down q hq k' hk
      · rw [countP_set hlt' hl0 _ hlt]
        have := hinv.fuel
        omega
    have henv := envOK_cons (p := ⟨j, l, [], v⟩) hok (envOK_noRs he) hni'
    refine k2 a0 (⟨j, l, [], v⟩ :: dl.map noRs) ha0 (by simp only [List.map_cons, map_noRs, hdn]) (List.nodup_cons.2 ⟨by rw [← hdn, ← map_noRs]; exact hni', hnd⟩) ?_ ?_ _ _ _ _ hinv2
    · cases hd : o.dst with
      | none => exact henv.2 (by show dstOf ops j = none; rw [hdst, hd])
      | some d => exact henv.1 d (by show dstOf ops j = some d; rw [hdst, hd])
    · intro p hp x hx
      rcases List.mem_cons.1 hp with rfl | hp
      · cases hx
      · obtain ⟨q, hq, rfl⟩ := List.mem_map.1 hp
        cases hx
end
end Go.E
namespace Go.E
open Go
section
variable {P : Program} {n : Nat} {w0 : World} {ops : Array Oper} {KS : List Nat} {env0 env : Env} {dn : List Nat} {H RS : GH} {Q : Exit → Act → World → Prop}
theorem xd_fl (hok : RegOK n ops = true) (f : Nat) (i : Nat) {o : Oper} {d : Nat} (l : Env) (ho : ops[i]? = some o) (hd : o.dst = some d) (hf : front ops dn = [i]) (hcl : dn.all (reach ops f i).contains = true) (hl : Live env l) (hs : slotsOK ops dn i (l.map (·.1)) = true) (hw : Wt ops l o.guard) {R : Value → GH → Prop} (ht : OT P w0 l H o R)
    (k : ∀ v H', R v H' → (∀ k ∈ keys H', k ∈ KS ∨ w0.heap.size ≤ k) ∧ XD P n w0 ops KS env0 (i :: dn) ((d, v) :: env) H' [] Q) : XD P n w0 ops KS env0 dn env H RS Q :=
  xd_flush hok f i l ho hf hcl hl hs hw ht (fun v H' h => by rw [hd]; exact k v H' h)
/-- The keys of what is given and of what is new. -/
def Ks (w0 : World) (KS : List Nat) (H : GH) : Prop := ∀ k ∈ keys H, k ∈ KS ∨ w0.heap.size ≤ k
theorem Ks.nil : Ks w0 KS [] := fun _ h => by simp at h
theorem Ks.consN {b : Nat} {o : Obj} (hb : w0.heap.size ≤ b) (h : Ks w0 KS H) : Ks w0 KS ((b, o) :: H) := fun k hk => by
  simp only [keys_cons, List.mem_cons] at hk
  exact hk.elim (fun e => .inr (e ▸ hb)) (h k)
theorem Ks.segN {B : GH} (hc : Cov w0 [] B) (h : Ks w0 KS H) : Ks w0 KS (B ++ H) := fun k hk => by
  simp only [keys_append, List.mem_append] at hk
  exact hk.elim (fun e => .inr (hc.fresh k e)) (h k)
theorem Ks.segK {B : GH} (hc : ∀ k ∈ keys B, k ∈ KS) (h : Ks w0 KS H) : Ks w0 KS (B ++ H) := fun k hk => by
  simp only [keys_append, List.mem_append] at hk
  exact hk.elim (fun e => .inl (hc k e)) (h k)
theorem xd_show {H' : GH} (e : H = H') (h : XD P n w0 ops KS env0 dn env H' RS Q) : XD P n w0 ops KS env0 dn env H RS Q := e ▸ h
end
end Go.E
namespace Go.E
open Go
section
variable {P : Program} {n : Nat} {w0 : World} {ops : Array Oper} {KS : List Nat} {env0 env : Env} {dn : List Nat} {H RS : GH} {Q : Exit → Act → World → Prop}
theorem XD.more {RS' : GH} (h : XD P n w0 ops KS env0 dn env H RS' Q) (hs : ∀ x ∈ RS, x ∈ RS') : XD P n w0 ops KS env0 dn env H RS Q :=
  fun a0 dl h1 h2 h3 h4 h5 => h a0 dl h1 h2 h3 h4 fun p hp x hx => hs x (h5 p hp x hx)
end
/-- The laws of the two truth values, for a rewriting. -/
theorem bS : (∀ b : Bool, (true && b) = b) ∧ (∀ b : Bool, (b && true) = b) ∧ (∀ b : Bool, (false && b) = false) ∧ (∀ b : Bool, (b && false) = false) ∧ (∀ b : Bool, (b || true) = true) ∧ (∀ b : Bool, (true || b) = true) ∧ (∀ b : Bool, (b || false) = b) ∧
    (∀ b : Bool, (false || b) = b) ∧ ((!true) = false) ∧ ((!false) = true) ∧ (∀ (b c : Bool), cond true b c = b) ∧ (∀ (b c : Bool), cond false b c = c) := by simp
end Go.E
/- The engine, part 15: maps. -/
namespace Go.E
open Go
/-! ### Maps as lists of keys and values -/
section
variable {κ α : Type} (ke : κ → κ → Bool)
def mfind : List (κ × α) → κ → Option α
  | [], _ => none
  | p :: d, k => if ke k p.1 then some p.2 else mfind d k
def mget (d : List (κ × α)) (k : κ) (z : α) : α := (mfind ke d k).getD z
def mhas (d : List (κ × α)) (k : κ) : Bool := (mfind ke d k).isSome
def mset : List (κ × α) → κ → α → List (κ × α)
  | [], k, v => [(k, v)]
  | p :: d, k, v => if ke k p.1 then (p.1, v) :: d else p :: mset d k v
def mdel (d : List (κ × α)) (k : κ) : List (κ × α) := d.filter fun p => !ke k p.1
end
def ieq (a b : Int) : Bool := a == b
abbrev kI : Int → Value := fun x => .int .i64 x
abbrev kB : Bool → Value := fun b => .bool b
/-- What the model asks of a map's keys, answered. -/
structure KeyT {κ : Type} (P : Program) (kt : TypeId) (ck : κ → Value) (ke : κ → κ → Bool) : Prop where
  check : ∀ (b : Bool) k w, (Instr.checkKey b 10000 kt (ck k)).run P w = .ok () w
  find : ∀ k (es : List MapEntry) (ks : List κ) w, es.map (·.key) = ks.map ck → (Instr.findKey kt (ck k) es).run P w = .ok ((ks.findIdx? (ke k)).bind fun i => (es[i]?).map fun e => (i, e.val)) w
  stays : ∀ a b w, ke a b = true → (Instr.keyThatStays (ck b) (ck a)).run P w = .ok (ck a) w
  same : ∀ a b, ke a b = true → ck a = ck b
  eqv : ∀ a b c, ke a b = true → ke a c = true → ke c b = true
  self : ∀ a, ke a a = true
/-- A map's block. -/
def MO {κ α : Type} (ck : κ → Value) (cv : α → Value) (ke : κ → κ → Bool) (d : List (κ × α)) (o : Obj) : Prop :=
  ∃ es clock, o = .map es clock ∧ es.toList.map (fun e => (e.key, e.val)) = d.map (fun p => (ck p.1, cv p.2)) ∧ (∀ e ∈ es.toList, e.born < clock) ∧ (es.toList.map (·.born)).Nodup ∧ d.Pairwise fun p q => ke q.1 p.1 = false
/-- A map in a segment. -/
def MJ {κ α : Type} (ck : κ → Value) (cv : α → Value) (ke : κ → κ → Bool) (B : GH) (v : Value) (d : List (κ × α)) : Prop := ∃ b o, B = [(b, o)] ∧ v = .map (some b) ∧ MO ck cv ke d o
section
variable {κ α : Type} {ke : κ → κ → Bool}
theorem find_none {d : List (κ × α)} {k : κ} (h : (d.map (·.1)).findIdx? (ke k) = none) : mfind ke d k = none ∧ (∀ v, mset ke d k v = d ++ [(k, v)]) ∧ mdel ke d k = d ∧ ∀ p ∈ d, ke k p.1 = false := by
  induction d with
  | nil => exact ⟨rfl, fun v => rfl, rfl, by simp⟩
  | cons p d ih =>
    simp only [List.map_cons, List.findIdx?_cons] at h
    split at h
    · cases h
    · rename_i hk
      have hk' : ke k p.1 = false := by simpa using hk
      obtain ⟨h1, h2, h3, h4⟩ := ih (by simpa using h)
      refine ⟨by simp [mfind, hk', h1], fun v => by simp [mset, hk', h2 v], ?_, ?_⟩
      · unfold mdel at h3 ⊢
        rw [List.filter_cons, hk', h3]; rfl
      · intro q hq
        rcases List.mem_cons.1 hq with rfl | hq
        · exact hk'
        · exact h4 q hq
theorem find_some {d : List (κ × α)} {k : κ} {i : Nat} (h : (d.map (·.1)).findIdx? (ke k) = some i) : ∃ hi : i < d.length, ke k d[i].1 = true ∧ mfind ke d k = some d[i].2 ∧ (∀ v, mset ke d k v = d.set i (d[i].1, v)) ∧
    ((∀ p q : κ × α, ke k p.1 = true → ke q.1 p.1 = false → ke k q.1 = false) → d.Pairwise (fun p q => ke q.1 p.1 = false) → mdel ke d k = d.eraseIdx i) := by
  induction d generalizing i with
  | nil => simp at h
  | cons p d ih =>
    simp only [List.map_cons, List.findIdx?_cons] at h
    split at h
    · rename_i hk
      cases h
      refine ⟨by simp, hk, by simp [mfind, hk], fun v => by simp [mset, hk], fun he hp => ?_⟩
      simp only [List.eraseIdx_zero, List.tail_cons, mdel]
      rw [List.filter_cons, hk]
      simp only [Bool.not_true, Bool.false_eq_true, if_false]
      rw [List.filter_eq_self]
      intro q hq
      have := he p q hk ((List.pairwise_cons.1 hp).1 q hq)
      simp [this]
    · rename_i hk
      have hk' : ke k p.1 = false := by simpa using hk
      obtain ⟨j, hj, rfl⟩ := Option.map_eq_some_iff.1 h
      obtain ⟨h1, h2, h3, h4, h5⟩ := ih hj
      refine ⟨by simp; omega, by simpa using h2, by simp [mfind, hk', h3], fun v => by simp [mset, hk', h4 v], fun he hp => ?_⟩
      have := h5 he (List.pairwise_cons.1 hp).2
      unfold mdel at this ⊢
      rw [List.filter_cons, hk', this]; rfl
end
section
variable {κ α : Type} {P : Program} {kt et : TypeId} {ck : κ → Value} {cv : α → Value} {ke : κ → κ → Bool}
/-- The search in a map's block. -/
theorem KeyT.look (hk : KeyT P kt ck ke) {d : List (κ × α)} {es : Array MapEntry} (he : es.toList.map (fun e => (e.key, e.val)) = d.map (fun p => (ck p.1, cv p.2))) (k : κ) (w : World) :
    (∃ i, (d.map (·.1)).findIdx? (ke k) = some i ∧ ∃ (hi : i < d.length) (hj : i < es.size), es[i].key = ck d[i].1 ∧ es[i].val = cv d[i].2 ∧ (Instr.findKey kt (ck k) es.toList).run P w = .ok (some (i, es[i].val)) w) ∨
    ((d.map (·.1)).findIdx? (ke k) = none ∧ (Instr.findKey kt (ck k) es.toList).run P w = .ok none w) := by
  have hkeys : es.toList.map (·.key) = (d.map (·.1)).map ck := by
    have := congrArg (List.map Prod.fst) he
    simpa [List.map_map, Function.comp_def] using this
  have hl : es.size = d.length := by simpa using congrArg List.length he
  have hf := hk.find k es.toList (d.map (·.1)) w hkeys
  cases hi : (d.map (·.1)).findIdx? (ke k) with
  | none => rw [hi] at hf; exact .inr ⟨rfl, hf⟩
  | some i =>
    obtain ⟨h1, _⟩ := find_some hi
    have h2 : i < es.size := by omega
    have h3 : es.toList[i]? = some es[i] := by simp [h2]
    have h4 := congrArg (fun l => l[i]?) he
    simp only [List.getElem?_map, h3, List.getElem?_eq_getElem h1, Option.map_some, Option.some.injEq, Prod.mk.injEq] at h4
    refine .inl ⟨i, rfl, h1, h2, h4.1, h4.2, ?_⟩
    rw [hf, hi]
    simp [h2]
theorem MO.upd {d : List (κ × α)} {es : Array MapEntry} {clock i : Nat} {f : MapEntry → MapEntry} {v : α} (he : es.toList.map (fun e => (e.key, e.val)) = d.map (fun p => (ck p.1, cv p.2))) (hb : ∀ e ∈ es.toList, e.born < clock) (hn : (es.toList.map (·.born)).Nodup)
    (hp : d.Pairwise fun p q => ke q.1 p.1 = false) (hi : i < d.length) (hf : ∀ e, (f e).born = e.born) (hj : i < es.size) (h1 : (f es[i]).key = ck d[i].1) (h2 : (f es[i]).val = cv v) : MO ck cv ke (d.set i (d[i].1, v)) (.map (es.modify i f) clock) := by
  have hl : es.size = d.length := by simpa using congrArg List.length he
  have hborn : (es.modify i f).toList.map (·.born) = es.toList.map (·.born) := by
    apply List.ext_getElem (by simp)
    intro n h3 h4
    simp only [Array.toList_modify, List.getElem_map, List.getElem_modify]
    split
    · rw [hf]
    · rfl
  refine ⟨_, _, rfl, ?_, ?_, by rw [hborn]; exact hn, ?_⟩
  · apply List.ext_getElem (by simp [hl])
    intro n h3 h4
    have hn1 : n < es.size := by simpa using h3
    have hn2 : n < d.length := by omega
    simp only [Array.toList_modify, List.getElem_map, List.getElem_modify, List.getElem_set, Array.getElem_toList]
    by_cases hin : i = n
    · subst hin
      simp only [if_pos]
      rw [h1, h2]
    · rw [if_neg hin, if_neg hin]
      have := congrArg (fun l => l[n]?) he
      simp only [List.getElem?_map, Array.getElem?_toList, Array.getElem?_eq_getElem hn1, List.getElem?_eq_getElem hn2, Option.map_some, Option.some.injEq] at this
      exact this
  · intro e hm
    have : e.born ∈ (es.modify i f).toList.map (·.born) := List.mem_map_of_mem hm
    rw [hborn] at this
    obtain ⟨e', h3, h4⟩ := List.mem_map.1 this
    rw [← h4]; exact hb e' h3
  · rw [List.pairwise_iff_getElem] at hp ⊢
    intro a b ha hb' hab
    simp only [List.length_set] at ha hb'
    have := hp a b ha hb' hab
    simp only [List.getElem_set]
    by_cases h3 : i = a <;> by_cases h4 : i = b <;> simp only [h3, h4, if_true, if_false] <;> first | (subst h3; subst h4; omega) | (subst h3; simp [h4]; exact this) | (subst h4; simp [h3]; exact this) | (simp [h3, h4]; exact this) | skip
    all_goals (try (subst h3)); (try (subst h4)); simp_all
theorem MO.push {d : List (κ × α)} {es : Array MapEntry} {clock : Nat} {k : κ} {v : α} (he : es.toList.map (fun e => (e.key, e.val)) = d.map (fun p => (ck p.1, cv p.2))) (hb : ∀ e ∈ es.toList, e.born < clock) (hn : (es.toList.map (·.born)).Nodup)
    (hp : d.Pairwise fun p q => ke q.1 p.1 = false) (hk : ∀ p ∈ d, ke k p.1 = false) : MO ck cv ke (d ++ [(k, v)]) (.map (es.push { key := ck k, val := cv v, born := clock }) (clock + 1)) := by
  refine ⟨_, _, rfl, by simp [he], ?_, ?_, ?_⟩
  · intro e hm
    simp only [Array.toList_push, List.mem_append, List.mem_singleton] at hm
    rcases hm with hm | rfl
    · have := hb e hm; omega
    · exact Nat.lt_succ_self _
  · simp only [Array.toList_push, List.map_append, List.map_cons, List.map_nil]
    rw [List.nodup_append]
    refine ⟨hn, by simp, fun a ha b hb' => ?_⟩
    obtain ⟨e, h1, rfl⟩ := List.mem_map.1 ha
    simp only [List.mem_singleton] at hb'
    have := hb e h1
    omega
  · rw [List.pairwise_append]
    refine ⟨hp, by simp, fun p hp' q hq => ?_⟩
    simp only [List.mem_singleton] at hq
    subst hq
    exact hk p hp'
theorem erase_map {α β : Type} (f : α → β) : ∀ (l : List α) (i : Nat), (l.eraseIdx i).map f = (l.map f).eraseIdx i
  | [], _ => rfl
  | _ :: _, 0 => rfl
  | a :: l, i + 1 => by simp [List.eraseIdx_cons_succ, erase_map f l i]
theorem MO.erase {d : List (κ × α)} {es : Array MapEntry} {clock i : Nat} (he : es.toList.map (fun e => (e.key, e.val)) = d.map (fun p => (ck p.1, cv p.2))) (hb : ∀ e ∈ es.toList, e.born < clock) (hn : (es.toList.map (·.born)).Nodup)
    (hp : d.Pairwise fun p q => ke q.1 p.1 = false) : MO ck cv ke (d.eraseIdx i) (.map (es.eraseIdxIfInBounds i) clock) := by
  have e1 : (es.eraseIdxIfInBounds i).toList = es.toList.eraseIdx i := by simp
  refine ⟨_, _, rfl, ?_, ?_, ?_, ?_⟩
  · rw [e1, erase_map, he, erase_map]
  · intro e hm
    rw [e1] at hm
    exact hb e (List.mem_of_mem_eraseIdx hm)
  · rw [e1, erase_map]
    exact hn.sublist (List.eraseIdx_sublist _ _)
  · exact hp.sublist (List.eraseIdx_sublist _ _)
end
section
variable {κ α : Type} {P : Program} {n : Nat} {w0 : World} {env : Env} {H R B : GH} {Q : Exit → Act → World → Prop} {ops : Array Oper} {rest : List Oper}
variable {d : Option Nat} {op : Op} {ty : TypeId} {pos : String} {af : Array Edge} {g : Option (Nat × Bool)}
variable {t kt et : TypeId} {x y u : Operand} {v : Value} {ck : κ → Value} {cv : α → Value} {ke : κ → κ → Bool} {m : List (κ × α)} {k : κ} {z e : α}
theorem gO_map {w : World} {b : Nat} {es : Array MapEntry} {clock : Nat} (hb : w.heap[b]? = some (.map es clock)) : (getObj b).run P w = .ok (.map es clock) w := by
  simp [getObj, Sem.run, hb]
theorem sO_map {w : World} {b : Nat} {es : Array MapEntry} {clock : Nat} (o' : Obj) (hb : w.heap[b]? = some (.map es clock)) : (setObj b o').run P w = .ok () { w with heap := w.heap.setIfInBounds b o' } := by
  simp [setObj, Sem.run, hb]
theorem MJ.val (h : MJ ck cv ke B v m) : ∃ b, v = .map (some b) := let ⟨b, _, _, h, _⟩ := h; ⟨b, h⟩
theorem MJ.one (h : MJ ck cv ke B v m) : v.oneCell' = true := by obtain ⟨b, rfl⟩ := h.val; rfl
theorem o_mkmap (_hk : KeyT P kt ck ke) (_hu : P.underlying t = some (.map kt et)) :
    OT P w0 env H ⟨d, .makeMap t none, ty, pos, af, g⟩ (fun v' H' => ∃ B', H' = B' ++ H ∧ Cov w0 [] B' ∧ MJ ck cv ke B' v' ([] : List (κ × α))) :=
  OT.val fun a w ha hs => by
    refine ⟨.map (some w.heap.size), w.alloc (.map #[] 0), (w.heap.size, .map #[] 0) :: H, by simp [execOp, Instr.makeMap, newObj, Sem.run], hs.alloc _, [(w.heap.size, .map #[] 0)], rfl, Cov.new hs.size, ?_⟩
    exact ⟨_, _, rfl, rfl, #[], 0, rfl, rfl, by simp, by simp, List.Pairwise.nil⟩
theorem run_look (hk : KeyT P kt ck ke) (hu : P.underlying t = some (.map kt et)) (hz : ZeroT P et (cv z)) {b : Nat} {es : Array MapEntry} {clock : Nat} {w : World} (hb : w.heap[b]? = some (.map es clock))
    (he : es.toList.map (fun e => (e.key, e.val)) = m.map (fun p => (ck p.1, cv p.2))) (ok : Bool) :
    (Instr.lookup t (.map (some b)) (ck k) ok).run P w = .ok (if ok then .tuple #[cv (mget ke m k z), .bool (mhas ke m k)] else cv (mget ke m k z)) w := by
  simp only [Instr.lookup, Sem.run_bind, run_underlying hu, Result.andThen_ok, gO_map hb, hk.check]
  rcases hk.look he k w with ⟨i, hi, h1, h2, h3, h4, h5⟩ | ⟨hi, h5⟩
  · obtain ⟨_, _, hf, _⟩ := find_some hi
    simp only [h5, Sem.run_bind, Result.andThen_ok, Sem.run_pure, mget, mhas, hf, Option.getD_some, Option.isSome_some, h4]
  · obtain ⟨hf, _⟩ := find_none hi
    simp only [h5, Sem.run_bind, Result.andThen_ok, Sem.run_pure, mget, mhas, hf, Option.getD_none, Option.isSome_none, hz.run]
theorem o_lk (hk : KeyT P kt ck ke) (hu : P.underlying t = some (.map kt et)) (hz : ZeroT P et (cv z)) (hx : ev env x = some v) (hy : ev env y = some (ck k)) (hJ : MJ ck cv ke B v m) (hB : ∀ q ∈ B, q ∈ H) :
    OT P w0 env H ⟨d, .lookup t x y false, ty, pos, af, g⟩ (Is (cv (mget ke m k z)) H) :=
  OT.val fun a w ha hs => by
    obtain ⟨b, o, rfl, rfl, es, clock, rfl, he, _⟩ := hJ
    have hb := hs.own b _ (hB _ (List.mem_singleton.2 rfl))
    exact ⟨_, w, H, by simp [execOp, ha.ev hx, ha.ev hy, run_look hk hu hz hb he], hs, rfl, rfl⟩
theorem o_lkok (hk : KeyT P kt ck ke) (hu : P.underlying t = some (.map kt et)) (hz : ZeroT P et (cv z)) (hx : ev env x = some v) (hy : ev env y = some (ck k)) (hJ : MJ ck cv ke B v m) (hB : ∀ q ∈ B, q ∈ H) :
    OT P w0 env H ⟨d, .lookup t x y true, ty, pos, af, g⟩ (Is (.tuple #[cv (mget ke m k z), .bool (mhas ke m k)]) H) :=
  OT.val fun a w ha hs => by
    obtain ⟨b, o, rfl, rfl, es, clock, rfl, he, _⟩ := hJ
    have hb := hs.own b _ (hB _ (List.mem_singleton.2 rfl))
    exact ⟨_, w, H, by simp [execOp, ha.ev hx, ha.ev hy, run_look hk hu hz hb he], hs, rfl, rfl⟩
/-- The block of a map changes. -/
theorem St.map {w : World} {b : Nat} {o o' : Obj} (hs : St w0 ([(b, o)] ++ R) w) : St w0 ([(b, o')] ++ R) { w with heap := w.heap.setIfInBounds b o' } := by
  have hb := hs.own b o (by simp)
  have hlt : b < w.heap.size := (Array.getElem?_eq_some_iff.1 hb).1
  exact hs.upd (.here b o o' R) (by simp [hlt]) (fun k hk => by simp [Ne.symm hk]) rfl rfl rfl (by simp)
theorem run_mset (hk : KeyT P kt ck ke) (hu : P.underlying t = some (.map kt et)) {b : Nat} {o : Obj} {w : World} (hb : w.heap[b]? = some o) (hM : MO ck cv ke m o) :
    ∃ o', (Instr.mapUpdate t (.map (some b)) (ck k) (cv e)).run P w = .ok () { w with heap := w.heap.setIfInBounds b o' } ∧ MO ck cv ke (mset ke m k e) o' := by
  obtain ⟨es, clock, rfl, he, hborn, hn, hp⟩ := hM
  rcases hk.look he k w with ⟨i, hi, h1, h2, h3, h4, h5⟩ | ⟨hi, h5⟩
  · obtain ⟨_, hke, hf, hset, _⟩ := find_some hi
    refine ⟨.map (es.modify i fun q => { q with key := ck k, val := cv e }) clock, ?_, ?_⟩
    · have hst := hk.stays k m[i].1 w hke
      rw [← h3] at hst
      simp only [Instr.mapUpdate, Sem.run_bind, run_underlying hu, Result.andThen_ok, gO_map hb, hk.check, h5]
      simp only [Array.getElem?_eq_getElem h2, Option.map_some, Option.getD_some, hst, Result.andThen_ok, sO_map _ hb]
    · rw [hset]
      exact MO.upd he hborn hn hp h1 (fun _ => rfl) h2 (hk.same _ _ hke) rfl
  · obtain ⟨hf, hset, _, hno⟩ := find_none hi
    refine ⟨_, ?_, by rw [hset]; exact MO.push he hborn hn hp hno⟩
    simp only [Instr.mapUpdate, Sem.run_bind, run_underlying hu, Result.andThen_ok, gO_map hb, hk.check, h5, sO_map _ hb]
theorem o_mset (hk : KeyT P kt ck ke) (hu : P.underlying t = some (.map kt et)) (hx : ev env x = some v) (hy : ev env y = some (ck k)) (hz : ev env u = some (cv e)) (hJ : MJ ck cv ke B v m) :
    OT P w0 env (B ++ R) ⟨d, .mapUpdate t x y u, ty, pos, af, g⟩ (fun _ H' => ∃ B', H' = B' ++ R ∧ Cov w0 B B' ∧ MJ ck cv ke B' v (mset ke m k e)) :=
  OT.skip fun a w ha hs => by
    obtain ⟨b, o, rfl, rfl, hM⟩ := hJ
    obtain ⟨o', hr, hM'⟩ := run_mset (e := e) (k := k) hk hu (hs.own b o (by simp)) hM
    exact ⟨_, _, by simp [execOp, ha.ev hx, ha.ev hy, ha.ev hz, hr], hs.map, [(b, o')], rfl, Cov.cons (Cov.refl _), b, o', rfl, rfl, hM'⟩
theorem o_minsert (hk : KeyT P kt ck ke) (hu : P.underlying t = some (.map kt et)) (hx : ev env x = some v) (hy : ev env y = some (ck k)) (hz : ev env u = some (cv e)) (hJ : MJ ck cv ke B v m) :
    OT P w0 env (B ++ R) ⟨d, .insert t x y u, ty, pos, af, g⟩ (fun _ H' => ∃ B', H' = B' ++ R ∧ Cov w0 B B' ∧ MJ ck cv ke B' v (mset ke m k e)) :=
  OT.skip fun a w ha hs => by
    obtain ⟨b, o, rfl, rfl, hM⟩ := hJ
    obtain ⟨o', hr, hM'⟩ := run_mset (e := e) (k := k) hk hu (hs.own b o (by simp)) hM
    exact ⟨_, _, by simp [execOp, ha.ev hx, ha.ev hy, ha.ev hz, hr], hs.map, [(b, o')], rfl, Cov.cons (Cov.refl _), b, o', rfl, rfl, hM'⟩
/-- The segment that changed is put back where it stood. -/
theorem OT.push {Φ : Value → GH → Prop} {o : Oper} (F : GH → GH) (hF : ∀ C, Pull (F C) C R) (h : OT P w0 env H o (fun v H' => ∃ C, H' = C ++ R ∧ Φ v C)) : OT P w0 env H o (fun v H' => ∃ C, H' = F C ∧ Φ v C) := by
  intro a w ha hs
  refine wp_mono2 ?_ (fun _ _ _ h => h.elim) (h a w ha hs)
  rintro a' w' ⟨v, H', rfl, hst, C, rfl, hC⟩
  exact ⟨v, F C, rfl, (hF C).push hst, C, rfl, hC⟩
end
section
variable {P : Program} {n : Nat} {w0 : World} {ops : Array Oper} {KS : List Nat} {env0 env : Env} {dn : List Nat} {H RS A B : GH} {Q : Exit → Act → World → Prop}
theorem rsN : ∀ x ∈ ([] : GH), x ∈ H := fun _ h => absurd h List.not_mem_nil
theorem rsA (h : ∀ x ∈ A, x ∈ H) (k : ∀ x ∈ B, x ∈ H) : ∀ x ∈ A ++ B, x ∈ H := fun x hx => (List.mem_append.1 hx).elim (h x) (k x)
/-- One that only reads, and rests on the blocks of rs alone. -/
theorem xd_b (hok : RegOK n ops = true) (i : Nat) {o : Oper} {d : Nat} {v : Value} (l : Env) (rs : GH) (hR : ∀ x ∈ rs, x ∈ H) (ho : ops[i]? = some o) (hd : o.dst = some d) (hn : dn.contains i = false) (hl : Live env l) (hs : slotsOK ops dn i (l.map (·.1)) = true) (hw : Wt ops l o.guard)
    (ht : ∀ H', (∀ x ∈ rs, x ∈ H') → (∀ k ∈ keys H', k ∈ KS ∨ w0.heap.size ≤ k) → OT P w0 l H' o (Is v H')) (k : XD P n w0 ops KS env0 (i :: dn) ((d, v) :: env) H (rs ++ RS) Q) : XD P n w0 ops KS env0 dn env H RS Q :=
  xd_take hok i l rs ho hd hn hl hs hR (fun H' h h2 => .inl ⟨hw, ht H' h h2⟩) k
end
section
variable {P : Program} {w0 : World} {env : Env} {H : GH} {d : Option Nat} {ty t : TypeId} {pos : String} {af : Array Edge} {g : Option (Nat × Bool)} {N s : Nat}
end
end Go.E
/- The engine, part 16: keys that are integers, and structs of integers; entries of maps. -/
namespace Go.E
open Go
section
variable {P : Program} {kt : TypeId}
theorem check_int (hu : P.underlying kt = some (.int .i64)) (b : Bool) (d : Nat) (k : Int) (w : World) : (Instr.checkKey b (d + 1) kt (.int .i64 k)).run P w = .ok () w := by
  simp [Instr.checkKey, run_underlying hu]
theorem keyT_int (hu : P.underlying kt = some (.int .i64)) : KeyT P kt (fun x => .int .i64 x) ieq := by
  refine ⟨fun b k w => ?_, fun k es ks w he => ?_, fun a b w h => ?_, fun a b h => ?_, fun a b c h1 h2 => ?_, fun a => by simp [ieq]⟩
  · exact check_int hu b 9999 k w
  · have key : ∀ (ks : List Int) (es : List MapEntry) (i : Nat), es.map (·.key) = ks.map (fun x => Value.int .i64 x) → Instr.findNow (.int .i64) (.int .i64 k) es i = some ((ks.findIdx? (ieq k)).bind fun j => (es[j]?).map fun e => (i + j, e.val)) := by
      intro ks
      induction ks with
      | nil => intro es i h; cases es with
        | nil => rfl
        | cons => simp at h
      | cons q ks ih =>
        intro es i h
        cases es with
        | nil => simp at h
        | cons e es =>
          simp only [List.map_cons, List.cons.injEq] at h
          simp only [Instr.findNow, h.1, Instr.sameNow, if_true, List.findIdx?_cons, ieq]
          by_cases hq : k = q
          · subst hq; simp
          · have hq' : (k == q) = false := by simpa using hq
            have e1 := ih es (i + 1) h.2
            simp only [hq', e1, Bool.false_eq_true, if_false, ieq]
            cases hf : ks.findIdx? fun b => k == b with
            | none =>
              have : ks.findIdx? (ieq k) = none := hf
              simp [this]
            | some j =>
              have : ks.findIdx? (ieq k) = some j := hf
              simp [this, Nat.add_assoc, Nat.add_comm 1 j]
    have := key ks es 0 he
    simp only [Nat.zero_add] at this
    simp only [Instr.findKey, Sem.run_bind, run_underlying hu, Result.andThen_ok, this, Sem.run_pure]
  · simp only [ieq, beq_iff_eq] at h
    subst h
    simp [Instr.keyThatStays, Instr.sameBits]
  · simp only [ieq, beq_iff_eq] at h
    rw [h]
  · simp only [ieq, beq_iff_eq] at h1 h2 ⊢
    omega
end
end Go.E
/- The engine, part 17: entries of maps. -/
namespace Go.E
open Go
section
variable {κ α : Type} {P : Program} {n : Nat} {w0 : World} {env : Env} {H R B : GH}
variable {d : Option Nat} {op : Op} {ty : TypeId} {pos : String} {af : Array Edge} {g : Option (Nat × Bool)}
variable {t kt et : TypeId} {x y u : Operand} {v : Value} {ck : κ → Value} {cv : α → Value} {ke : κ → κ → Bool} {m : List (κ × α)} {k : κ} {z e : α} {s : Nat}
end
end Go.E
/- The engine, part 18: what slices.Delete does: a slice's end is put onto its own beginning; what is behind is cleared. -/
namespace Go.E
open Go
/-- A slice in a segment, that may hold x more elements. -/
def RM {α : Type} (T : TypeId) (s : Nat) (c : α → Nat → Value) (B : GH) (v : Value) (l : List α) (x : Nat) : Prop :=
  ∃ b o cap N F, (b, BK N F T) ∈ B ∧ v = .slice (some ⟨b, o, none⟩) l.length cap ∧ l.length + x ≤ cap ∧ o + cap * s ≤ N ∧ cap ≤ maxLen ∧ ∀ i, i < l.length * s → F (o + i) = eG s c l i
section
variable {α : Type} {P : Program} {w0 : World} {env : Env} {H B : GH} {d : Option Nat} {ty t : TypeId} {pos : String} {af : Array Edge} {g : Option (Nat × Bool)}
variable {x : Operand} {s : Nat} {c : α → Nat → Value} {v : Value} {l : List α} {T e : TypeId}
theorem RM.oj {k : Nat} (h : RM T s c B v l k) : OJ T s c B v l := by
  obtain ⟨b, o, cap, N, F, h1, h2, h3, h4, h5, h6⟩ := h
  exact .inr ⟨b, o, cap, N, F, h1, h2, by omega, h4, h5, h6⟩
end
end Go.E
/- Loops in plain words: what relations of loops come to. -/
namespace Go.E
open Go
/-- A loop that counts up to n and leaves early where p fails. -/
theorem Wh.all {ρ : Type} {f : Int → Int ⊕ ρ → Prop} (n : Nat) (p : Nat → Bool) (rt rf : ρ) (hgo : ∀ k : Nat, k < n → p k = true → f k (.inl ((k : Int) + 1))) (hbad : ∀ k : Nat, k < n → p k = false → f k (.inr rf)) (hend : f n (.inr rt)) :
    Wh f 0 (if (List.range n).all p = true then rt else rf) := by
  have key : ∀ j k : Nat, k + j = n → Wh f (k : Int) (if (List.range' k j).all p = true then rt else rf) := by
    intro j
    induction j with
    | zero =>
      intro k hk
      obtain rfl : k = n := by omega
      simp only [List.range'_zero, List.all_nil, if_true]
      exact .out hend
    | succ j ih =>
      intro k hk
      simp only [List.range'_succ, List.all_cons, Bool.and_eq_true]
      by_cases hp : p k = true
      · have := ih (k + 1) (by omega)
        simp only [hp, true_and]
        exact .again (hgo k (by omega) hp) this
      · rw [if_neg (fun h => hp h.1)]
        exact .out (hbad k (by omega) (by simpa using hp))
  have := key n 0 (by omega)
  rwa [← List.range_eq_range'] at this
theorem ite_intro {c p q : Prop} [Decidable c] (h1 : c → p) (h2 : ¬ c → q) : if c then p else q := by
  by_cases h : c
  · rw [if_pos h]; exact h1 h
  · rw [if_neg h]; exact h2 h
end Go.E
/- Maps in plain words. -/
namespace Go.E
open Go
structure Eqk {κ : Type} (ke : κ → κ → Bool) : Prop where
  refl : ∀ a, ke a a = true
  symm : ∀ a b, ke a b = true → ke b a = true
  trans : ∀ a b c, ke a b = true → ke b c = true → ke a c = true
theorem eqk_int : Eqk ieq := ⟨fun a => by simp [ieq], fun a b h => by simp [ieq] at h ⊢; omega, fun a b c h k => by simp [ieq] at h k ⊢; omega⟩
section
variable {κ α : Type} {ke : κ → κ → Bool}
theorem mfind_mset (E : Eqk ke) (d : List (κ × α)) (k : κ) (v : α) (k' : κ) : mfind ke (mset ke d k v) k' = if ke k' k = true then some v else mfind ke d k' := by
  induction d with
  | nil => simp [mset, mfind]
  | cons p d ih =>
    simp only [mset]
    by_cases h : ke k p.1 = true
    · rw [if_pos h]
      simp only [mfind]
      have : ke k' p.1 = ke k' k := by
        rw [Bool.eq_iff_iff]
        exact ⟨fun h1 => E.trans _ _ _ h1 (E.symm _ _ h), fun h1 => E.trans _ _ _ h1 h⟩
      rw [this]
      by_cases h2 : ke k' k = true <;> simp [h2]
    · rw [if_neg h]
      simp only [mfind, ih]
      by_cases h2 : ke k' p.1 = true
      · have h3 : ¬ ke k' k = true := fun h3 => h (E.trans _ _ _ (E.symm _ _ h3) h2)
        simp [h2, h3]
      · simp [h2]
end
end Go.E
/- Loops in plain words: searches. -/
namespace Go.E
open Go
/-- A loop that counts up to n and leaves at the first k where p holds. -/
theorem Wh.find {ρ : Type} {f : Int → Int ⊕ ρ → Prop} (n : Nat) (p : Nat → Bool) (rt : ρ) (rf : Nat → ρ) (hgo : ∀ k : Nat, k < n → p k = false → f k (.inl ((k : Int) + 1))) (hbad : ∀ k : Nat, k < n → p k = true → f k (.inr (rf k))) (hend : f n (.inr rt)) :
    ∃ r, Wh f 0 r ∧ ((r = rt ∧ (List.range n).any p = false) ∨ ∃ k, k < n ∧ r = rf k ∧ (List.range n).any p = true) := by
  have key : ∀ j k : Nat, k + j = n → ∃ r, Wh f (k : Int) r ∧ ((r = rt ∧ ∀ i, k ≤ i → i < n → p i = false) ∨ ∃ i, i < n ∧ r = rf i ∧ p i = true) := by
    intro j
    induction j with
    | zero =>
      intro k hk
      obtain rfl : k = n := by omega
      exact ⟨rt, .out hend, .inl ⟨rfl, fun i h1 h2 => by omega⟩⟩
    | succ j ih =>
      intro k hk
      by_cases hp : p k = true
      · exact ⟨rf k, .out (hbad k (by omega) hp), .inr ⟨k, by omega, rfl, hp⟩⟩
      · obtain ⟨r, h1, h2⟩ := ih (k + 1) (by omega)
        refine ⟨r, .again (hgo k (by omega) (by simpa using hp)) h1, ?_⟩
        rcases h2 with ⟨h2, h3⟩ | h2
        · refine .inl ⟨h2, fun i h4 h5 => ?_⟩
          by_cases hik : i = k
          · subst hik; simpa using hp
          · exact h3 i (by omega) h5
        · exact .inr h2
  obtain ⟨r, h1, h2⟩ := key n 0 (by omega)
  refine ⟨r, h1, ?_⟩
  rcases h2 with ⟨h2, h3⟩ | ⟨i, h2, h3, h4⟩
  · refine .inl ⟨h2, ?_⟩
    rw [← Bool.not_eq_true]
    intro h
    obtain ⟨i, hi, hp⟩ := List.any_eq_true.1 h
    rw [h3 i (by omega) (List.mem_range.1 hi)] at hp
    cases hp
  · exact .inr ⟨i, h2, h3, List.any_eq_true.2 ⟨i, List.mem_range.2 h2, h4⟩⟩
/-- A search through a list. -/
theorem any_range {α : Type} [Inhabited α] (l : List α) (q : α → Bool) : (List.range l.length).any (fun k => q (l[k]!)) = l.any q := by
  rw [Bool.eq_iff_iff, List.any_eq_true, List.any_eq_true]
  constructor
  · rintro ⟨k, hk, hq⟩
    have hk := List.mem_range.1 hk
    rw [getElem!_pos l k hk] at hq
    exact ⟨l[k], List.getElem_mem hk, hq⟩
  · rintro ⟨x, hx, hq⟩
    obtain ⟨k, hk, rfl⟩ := List.getElem_of_mem hx
    exact ⟨k, List.mem_range.2 hk, by rw [getElem!_pos l k hk]; exact hq⟩
theorem step1 {k : Nat} (h : k < 9000000000000000000) : inI64 ((k : Int) + 1) := ⟨by omega, by omega⟩
end Go.E
/- Numbers as bytes. -/
namespace Go.E
open Go
end Go.E
/- Messages: what may be, as plain functions of a message's 28 numbers. -/
namespace Go.E
open Go
end Go.E
/- A message's bytes; of one that may be all numbers are in range. -/
namespace Go.E
open Go
end Go.E
/- Opening the arguments; the last step, common to all laws. -/
namespace Go.E
open Go
def kindsFs (P : Program) (rec : TypeId → Option (List IntKind)) : List Field → Nat → Option (List IntKind)
  | [], _ => some []
  | f :: fs, o => if f.offset = o then
    match rec f.type with
    | some ks => if P.cellsOf f.type = ks.length then (kindsFs P rec fs (o + ks.length)).map (ks ++ ·) else none
    | none => none
    else none
/-- The kinds of the cells of a type of integers. -/
def kinds (P : Program) : Nat → TypeId → Option (List IntKind)
  | 0, _ => none
  | k + 1, t => match P.underlying t with
    | some (.int q) => some [q]
    | some (.struct fs) => kindsFs P (kinds P k) fs.toList 0
    | some (.array len e) => match kinds P k e with
      | some ks => if P.cellsOf e = ks.length then some (List.replicate len ks).flatten else none
      | none => none
    | _ => none
/-- Cells that are integers of these kinds. -/
def Ints (ks : List IntKind) (cs : List Value) : Prop := cs.length = ks.length ∧ ∀ (i : Nat) (q : IntKind), ks[i]? = some q → ∃ n : Int, cs[i]? = some (Value.int q n) ∧ (Lit.int q n).wf = true
theorem Ints.nil : Ints [] [] := ⟨rfl, fun i q h => by simp at h⟩
theorem Ints.app {a b : List IntKind} {u v : List Value} (h1 : Ints a u) (h2 : Ints b v) : Ints (a ++ b) (u ++ v) := by
  refine ⟨by simp [h1.1, h2.1], fun i q h => ?_⟩
  by_cases hi : i < a.length
  · rw [List.getElem?_append_left hi] at h
    rw [List.getElem?_append_left (by rw [h1.1]; exact hi)]
    exact h1.2 i q h
  · rw [List.getElem?_append_right (by omega)] at h
    rw [List.getElem?_append_right (by rw [h1.1]; omega), h1.1]
    exact h2.2 _ q h
section
variable {H : Type} {enc : TypeId × Value → H} {P : Program} {w : World} {base : Nat} {sp : Nat → Bool} {held : Bool}
theorem trod_kinds : ∀ (k : Nat) (t : TypeId) (ks : List IntKind), kinds P k t = some ks → P.cellsOf t = ks.length → ∀ (fuel : Nat) (cs : List Value) (x : DataW H × List MemPlace),
    DataW.trod enc P w base sp held fuel t cs = some x → x.2 = [] ∧ Ints ks cs := by
  intro k
  induction k with
  | zero => intro t ks h; simp [kinds] at h
  | succ k ih =>
    intro t ks h hc fuel cs x hx
    simp only [kinds] at h
    split at h
    · rename_i q hu
      simp only [Option.some.injEq] at h
      subst h
      obtain ⟨n, rfl, rfl, hw⟩ := DataW.trod_int hu hx
      refine ⟨rfl, rfl, fun i q' hq => ?_⟩
      cases i with
      | zero => simp at hq; subst hq; exact ⟨n, rfl, hw⟩
      | succ i => simp at hq
    · rename_i fs hu
      obtain ⟨xs, n, rfl, rfl, hl, hn, he⟩ := DataW.trod_struct hu hx
      have key : ∀ (l : List Field) (o : Nat) (ks : List IntKind), kindsFs P (kinds P k) l o = some ks → (∀ f ∈ l, ∃ y, DataW.trod enc P w base sp held n f.type ((cs.drop f.offset).take (P.cellsOf f.type)) = some y) → Ints ks ((cs.drop o).take ks.length) := by
        intro l
        induction l with
        | nil => intro o ks h _; simp only [kindsFs, Option.some.injEq] at h; subst h; simpa using Ints.nil
        | cons f l ihl =>
          intro o ks h hy
          simp only [kindsFs] at h
          split at h
          · rename_i ho
            split at h
            · rename_i k1 hr
              split at h
              · rename_i hsz
                simp only [Option.map_eq_some_iff] at h
                obtain ⟨k2, hk, rfl⟩ := h
                obtain ⟨y, hy1⟩ := hy f List.mem_cons_self
                have i1 := (ih _ _ hr hsz _ _ _ hy1).2
                have i2 := ihl _ _ hk fun f hf => hy f (List.mem_cons_of_mem _ hf)
                rw [ho, hsz] at i1
                have := i1.app i2
                rwa [← List.drop_drop, ← List.take_add, ← List.length_append] at this
              · cases h
            · cases h
          · cases h
      have each : ∀ (i : Nat) (f : Field), fs[i]? = some f → ∃ y, DataW.trod enc P w base sp held n f.type ((cs.drop f.offset).take (P.cellsOf f.type)) = some y ∧ xs[i]? = some y := by
        intro i f hf
        have h1 := he i f hf
        have hi : i < xs.length := by rw [hn]; exact (Array.getElem?_eq_some_iff.1 hf).1
        exact ⟨xs[i], by rw [h1]; exact List.getElem?_eq_getElem hi, List.getElem?_eq_getElem hi⟩
      refine ⟨?_, ?_⟩
      · have kf : ∀ (l : List Field) (o : Nat) (ks : List IntKind), kindsFs P (kinds P k) l o = some ks → ∀ f ∈ l, ∃ kk, kinds P k f.type = some kk ∧ P.cellsOf f.type = kk.length := by
          intro l
          induction l with
          | nil => intro o ks _ f hf; simp at hf
          | cons f l ihl =>
            intro o ks h f' hf
            simp only [kindsFs] at h
            split at h
            · split at h
              · rename_i k1 hr
                split at h
                · rename_i hsz
                  simp only [Option.map_eq_some_iff] at h
                  obtain ⟨k2, hk, rfl⟩ := h
                  rcases List.mem_cons.1 hf with rfl | hf
                  · exact ⟨k1, hr, hsz⟩
                  · exact ihl _ _ hk f' hf
                · cases h
              · cases h
            · cases h
        simp only [List.flatMap_eq_nil_iff]
        intro y hy
        obtain ⟨i, hi⟩ := List.getElem?_of_mem hy
        have hlt : i < fs.size := by rw [← hn]; exact (List.getElem?_eq_some_iff.1 hi).1
        obtain ⟨y', h1, h2⟩ := each i fs[i] (Array.getElem?_eq_getElem hlt)
        rw [hi] at h2
        cases h2
        obtain ⟨kk, hk, hz⟩ := kf _ _ _ h fs[i] (by simp)
        exact (ih _ _ hk hz _ _ _ h1).1
      · have := key fs.toList 0 ks h fun f hf => by
          obtain ⟨i, hi⟩ := List.getElem?_of_mem hf
          obtain ⟨y, h1, _⟩ := each i f (by rw [← hi]; simp)
          exact ⟨y, h1⟩
        rwa [List.drop_zero, List.take_of_length_le (by omega)] at this
    · rename_i len e hu
      split at h
      · rename_i k1 hr
        split at h
        · rename_i hsz
          simp only [Option.some.injEq] at h
          subst h
          obtain ⟨xs, n, rfl, rfl, hl, hn, he⟩ := DataW.trod_array hu hx
          have each : ∀ i, i < len → ∃ y, DataW.trod enc P w base sp held n e ((cs.drop (i * P.cellsOf e)).take (P.cellsOf e)) = some y ∧ xs[i]? = some y := by
            intro i hi
            have hi' : i < xs.length := by omega
            exact ⟨xs[i], by rw [he i hi]; exact List.getElem?_eq_getElem hi', List.getElem?_eq_getElem hi'⟩
          refine ⟨?_, ?_⟩
          · simp only [List.flatMap_eq_nil_iff]
            intro y hy
            obtain ⟨i, hi⟩ := List.getElem?_of_mem hy
            obtain ⟨y', h1, h2⟩ := each i (by rw [← hn]; exact (List.getElem?_eq_some_iff.1 hi).1)
            rw [hi] at h2
            cases h2
            exact (ih _ _ hr hsz _ _ _ h1).1
          · have key : ∀ j, j ≤ len → Ints (List.replicate j k1).flatten (cs.take (j * k1.length)) := by
              intro j
              induction j with
              | zero => intro _; simpa using Ints.nil
              | succ j ihj =>
                intro hj
                obtain ⟨y, h1, _⟩ := each j (by omega)
                have i1 := (ih _ _ hr hsz _ _ _ h1).2
                rw [hsz] at i1
                have := (ihj (by omega)).app i1
                rw [← List.take_add] at this
                rw [List.replicate_succ', List.flatten_append, Nat.succ_mul]
                simpa using this
            have := key len (Nat.le_refl _)
            rwa [List.take_of_length_le (by rw [hl, hc]; simp)] at this
        · cases h
      · cases h
    · cases h
def intOf : Value → Int
  | .int _ n => n
  | _ => 0
/-- The cells of integers of these kinds. -/
def kc (ks : List IntKind) (m : Nat → Int) : Nat → Value := fun i => .int (ks.getD i .i64) (m i)
def wfs (ks : List IntKind) (m : Nat → Int) : Prop := ∀ (i : Nat) (q : IntKind), ks[i]? = some q → (Lit.int q (m i)).wf = true
theorem kc_i64 (n : Nat) (m : Nat → Int) : kc (List.replicate n .i64) m = iv m := by
  funext i
  simp only [kc, iv, List.getD_eq_getElem?_getD, List.getElem?_replicate]
  split <;> rfl
theorem Ints.fn {ks : List IntKind} {cs : List Value} (h : Ints ks cs) : ∃ m, wfs ks m ∧ (∀ i, i < ks.length → cs[i]? = some (kc ks m i)) ∧ cs = (List.range ks.length).map (kc ks m) := by
  have e : ∀ (i : Nat) (q : IntKind), ks[i]? = some q → cs[i]? = some (.int q (intOf (cs.getD i undef))) ∧ (Lit.int q (intOf (cs.getD i undef))).wf = true := by
    intro i q hq
    obtain ⟨n, h1, h2⟩ := h.2 i q hq
    have : intOf (cs.getD i undef) = n := by rw [List.getD_eq_getElem?_getD, h1]; rfl
    rw [this]; exact ⟨h1, h2⟩
  have f : ∀ i, i < ks.length → cs[i]? = some (kc ks (fun i => intOf (cs.getD i undef)) i) := by
    intro i hi
    have := (e i ks[i] (List.getElem?_eq_getElem hi)).1
    rw [this, kc]
    rw [show ks.getD i .i64 = ks[i] from by rw [List.getD_eq_getElem?_getD, List.getElem?_eq_getElem hi]; rfl]
  refine ⟨fun i => intOf (cs.getD i undef), fun i q hq => (e i q hq).2, f, ?_⟩
  apply List.ext_getElem?
  intro i
  by_cases hi : i < ks.length
  · rw [f i hi, List.getElem?_map, List.getElem?_range hi]; rfl
  · rw [List.getElem?_eq_none (by rw [h.1]; omega), List.getElem?_eq_none (by simp; omega)]
theorem open_list {r : Reach} {b0 : Nat} {t e : TypeId} {v : Value} {d : DataW H} {ps : List MemPlace} {ks : List IntKind} (ht : P.underlying t = some (.slice e)) (hk : kinds P 9 e = some ks) (hc : P.cellsOf e = ks.length) (hp : 0 < ks.length)
    (hval : Value.okWide P w r b0 t v) (hd : DataW.Trod enc P w base sp held t v d ps) :
    ∃ l : List (Nat → Int), SL w ks.length (kc ks) v l ∧ (∀ m ∈ l, wfs ks m) ∧ ((d = .nil ∧ l = []) ∨ ∃ elems spare, d = .slice elems spare ∧ elems.length = l.length) := by
  obtain ⟨a, len, cap, rfl⟩ := WideShapes.okWide_slice ht hval
  obtain ⟨fuel, hx⟩ := hd
  rcases DataW.trod_slice ht hx with ⟨h1, h2⟩ | ⟨a', len', cap', elems, rest, n, rfl, h1, h2, hb, hl, hm, hn, he, -, -⟩
  · have h1' : Value.slice a len cap = .slice none 0 0 := by simpa [Value.cells] using h1
    cases h1'; cases h2
    exact ⟨[], SL.nil, by simp, .inl ⟨rfl, rfl⟩⟩
  · have h1' : Value.slice a len cap = .slice (some a') len' cap' := by simpa [Value.cells] using h1
    cases h1'; cases h2
    have each : ∀ i, i < len → ∃ m, wfs ks m ∧ ∀ j, j < ks.length → w.cell? (a'.add (i * ks.length + j)) = some (kc ks m j) := by
      intro i hi
      have h3 := he i hi
      rw [List.getElem?_eq_getElem (by omega)] at h3
      obtain ⟨cs, h4, h5⟩ := Option.bind_eq_some_iff.1 h3
      obtain ⟨_, h6⟩ := trod_kinds 9 e ks hk hc _ _ _ h5
      obtain ⟨m, hm, hf, _⟩ := h6.fn
      refine ⟨m, hm, fun j hj => ?_⟩
      have h7 := World.cells?_some h4
      rw [hc] at h7
      have := h7.2.2 j (by first | exact hj | omega)
      rw [hf j hj] at this
      rw [← this]
      rw [Addr.add_add]
    refine ⟨(List.range len).map fun i => if h : i < len then (each i h).choose else fun _ => 0, ?_, ?_, .inr ⟨_, _, rfl, by simpa using hn⟩⟩
    · refine ⟨some a', cap, by simp, by simpa using hl, hm, (fun h => by cases h), ?_⟩
      simp only [List.length_map, List.length_range]
      by_cases h0 : len = 0
      · left; simp [h0]
      right
      obtain ⟨b, off, spot⟩ := a'
      have hspot : spot = none := by
        have := (each 0 (by omega)).choose_spec.2 0 hp
        simpa [Addr.add] using World.cell?_spot this
      subst hspot
      refine ⟨b, off, rfl, fun i hi => ?_⟩
      have hq : i / ks.length < len := Nat.div_lt_of_lt_mul (by rw [Nat.mul_comm]; exact hi)
      have h8 := (each _ hq).choose_spec.2 (i % ks.length) (Nat.mod_lt _ hp)
      have e1 : i / ks.length * ks.length + i % ks.length = i := by rw [Nat.mul_comm]; exact Nat.div_add_mod _ _
      rw [e1] at h8
      rw [Addr.add_lit] at h8
      rw [h8, eG, List.getElem?_map, List.getElem?_range hq]
      simp only [Option.map_some, Option.elim, dif_pos hq]
    · intro m hm'
      obtain ⟨i, hi, rfl⟩ := List.mem_map.1 hm'
      have hi := List.mem_range.1 hi
      simp only [dif_pos hi]
      exact (each i hi).choose_spec.1
/-- One cell an element: a list of integers. -/
theorem SL.one {q : IntKind} {c : Int → Nat → Value} (hc : ∀ x, c x 0 = .int q x) {v : Value} {l : List (Nat → Int)} (h : SL w 1 (kc [q]) v l) : SL w 1 c v (l.map (· 0)) := by
  obtain ⟨p, cp, rfl, h2, h3, h4, h5⟩ := h
  refine ⟨p, cp, by simp, by simpa using h2, h3, h4, ?_⟩
  rcases h5 with h5 | ⟨b, o, rfl, h5⟩
  · exact .inl (by simpa using h5)
  · refine .inr ⟨b, o, rfl, fun i hi => ?_⟩
    have hi' : i < l.length := by simpa using hi
    rw [h5 i (by simpa using hi)]
    simp only [eG, Nat.div_one, Nat.mod_one, List.getElem?_map, List.getElem?_eq_getElem hi', Option.map_some, Option.elim, hc]
    rfl
theorem SL.ofK {n : Nat} {v : Value} {l : List (Nat → Int)} (h : SL w n (kc (List.replicate n .i64)) v l) : SL w n iv v l := by
  have : kc (List.replicate n .i64) = iv := funext fun m => kc_i64 n m
  rwa [this] at h
theorem wfs_i64 {n : Nat} {m : Nat → Int} (h : wfs (List.replicate n .i64) m) : ∀ i, i < n → inI64 (m i) := fun i hi => bounds_i64 (h i .i64 (by simp [hi]))
theorem open_list64 {r : Reach} {b0 : Nat} {t e : TypeId} {v : Value} {d : DataW H} {ps : List MemPlace} (n : Nat) (ht : P.underlying t = some (.slice e)) (hk : kinds P 9 e = some (List.replicate n .i64)) (hc : P.cellsOf e = n) (hn : Nat.blt 0 n = true)
    (hval : Value.okWide P w r b0 t v) (hd : DataW.Trod enc P w base sp held t v d ps) :
    ∃ l : List (Nat → Int), SL w n iv v l ∧ (∀ m ∈ l, ∀ i, i < n → inI64 (m i)) ∧ ((d = .nil ∧ l.length = 0) ∨ ∃ elems spare, d = .slice elems spare ∧ elems.length = l.length) := by
  obtain ⟨l, h1, h2, h3⟩ := open_list ht hk (by simpa using hc) (by simpa [Nat.blt_eq] using hn) hval hd
  rw [List.length_replicate] at h1
  refine ⟨l, SL.ofK h1, fun m hm => wfs_i64 (h2 m hm), ?_⟩
  rcases h3 with ⟨h3, rfl⟩ | h3
  · exact .inl ⟨h3, rfl⟩
  · exact .inr h3
/-- How long a slice that is handed in can be. -/
theorem len_le {ts : List TypeId} {ds : List (DataW H)} (h : (DataW.weightsEach P ts ds).all (· ≤ reachBytes) = true) {j : Nat} {t e : TypeId} {d : DataW H} {n : Nat} (b : Nat) (ht : ts[j]? = some t) (hd : ds[j]? = some d) (hu : P.underlying t = some (.slice e)) (hb : P.bytesOf e = b)
    (hn : (d = .nil ∧ n = 0) ∨ ∃ elems spare, d = .slice elems spare ∧ elems.length = n) : n * b ≤ 140737488355327 := by
  rcases hn with ⟨_, rfl⟩ | ⟨es, sp, rfl, rfl⟩
  · omega
  · have h1 := sized_slice h ht hd hu
    have h2 := reachBytes_lt
    rw [hb, Nat.add_mul] at h1
    have : es.length * b ≤ es.length * b + sp.length * b := Nat.le_add_right _ _
    omega
end
end Go.E
namespace Go.Proofs.Ytdmibiefinhneaa
open Go Go.E Go.ChangeShapes Go.WideShapes Go.ChangeAt Go.RowKit
theorem st_below {w w' : World} (h : St w [] w') : Below w.heap.size w w' :=
  ⟨h.os, h.tape, h.out, h.size, fun k hk => h.keep k hk (by simp)⟩
theorem all_stay {H : Type} {enc : TypeId × Value → H} {P : Program} (hl : laidOutB P = true) {W W' : World} (hb : Below W.heap.size W W') :
    ∀ (ts : List TypeId) (vs : List Value) (ds : List (DataW H)) (p : List MemPlace), (∀ t ∈ ts, P.readableRec t = true ∧ t < P.types.size) → (∀ x ∈ p, x.block < W.heap.size) →
      DataW.TrodAll enc P W 0 (fun _ => true) true ts vs ds p → DataW.TrodAll enc P W' 0 (fun b => decide (b < W.heap.size)) true ts vs ds p
  | [], vs, ds, p, _, _, h => by
    obtain ⟨rfl, rfl, rfl⟩ := trodAll_nil h
    exact trodAll_mk0
  | t :: ts, vs, ds, p, hts, hp, h => by
    obtain ⟨v, vs', d, ds', a, b, rfl, rfl, rfl, h1, h2⟩ := trodAll_cons h
    have ht := hts t List.mem_cons_self
    exact trodAll_cons_mk (Below.trod hl ht.1 ht.2 h1 hb fun x hx => hp x (List.mem_append_left _ hx))
      (all_stay hl hb ts vs' ds' b (fun s hs => hts s (List.mem_cons_of_mem _ hs)) (fun x hx => hp x (List.mem_append_right _ hx)) h2)
theorem law_post {H : Type} {enc : TypeId × Value → H} {P : Program} (hl : laidOutB P = true) {f : Func} {s : ChangeSpec} {W W' : World} {args : Array Value} {ds gs : List (DataW H)} {before : List MemPlace} {tb : TypeId}
    (hW : DataW.Whole enc P f.params.toList s.vars false W args.toList ds gs before) (hvars : s.vars = []) (hfn : s.fn H (ds ++ gs) = { results := [.lit (.bool true)], args := ds }) (hres : f.resultTypes = #[tb]) (hb : P.underlying tb = some .bool)
    (hpar : f.params.toList.all (fun t => P.readableRec t && Nat.blt t P.types.size) = true) (hst : St W [] W') : s.post enc P f false true false false W args (.bool true) W' := by
  have hbel := st_below hst
  have hlt : ∀ p ∈ before, p.block < W.heap.size := fun p hp => by simpa using hW.lt p hp
  have hW1 := hW
  obtain ⟨p, q, hA, hV, e, _, _⟩ := hW
  rw [hvars] at hV
  obtain ⟨_, rfl⟩ := trodVars_none hV
  rw [List.append_nil] at e
  subst e
  refine ⟨ds, gs, before, [], before, [], hW1, ?_, ?_, ?_, hbel.frame _, fun h => by cases h⟩
  · rw [hfn, hres]
    exact trodAll_cons_mk (shut_bool hb true) trodAll_mk0
  · rw [hfn]
    refine all_stay hl hbel _ _ _ _ (fun t ht => ?_) hlt hA
    have := List.all_eq_true.1 hpar t ht
    rw [Bool.and_eq_true] at this
    exact ⟨this.1, Nat.le_of_ble_eq_true this.2⟩
  · rw [hfn, hvars]; rfl
end Go.Proofs.Ytdmibiefinhneaa
/- Closed facts of the program: types, functions. -/
namespace Go.Proofs.Ytdmibiefinhneaa
open Go Go.E
theorem ap25 : App Try.prog 25 3 1 8 (.int .i64 0) := ⟨Try.underlying25, by kernel_rfl, by kernel_rfl, by kernel_rfl⟩
theorem ap52 : App Try.prog 52 25 1 24 (.slice none 0 0) := ⟨Try.underlying52, by kernel_rfl, by kernel_rfl, by kernel_rfl⟩
theorem el22 : Elm Try.prog 22 32 4 true := ⟨Try.underlying22, by kernel_rfl, by kernel_rfl⟩
theorem el25 : Elm Try.prog 25 3 1 false := ⟨Try.underlying25, by kernel_rfl, by kernel_rfl⟩
theorem el52 : Elm Try.prog 52 25 1 false := ⟨Try.underlying52, by kernel_rfl, by kernel_rfl⟩
theorem fk32 : FldsOk Try.prog 32 := ⟨_, Try.underlying32, by kernel_rfl⟩
theorem fl32_0 : Fld Try.prog 32 0 0 1 false := ⟨_, _, Try.underlying32, rfl, rfl, ⟨by kernel_rfl, by kernel_rfl⟩, rfl⟩
theorem fl32_2 : Fld Try.prog 32 2 2 1 false := ⟨_, _, Try.underlying32, rfl, rfl, ⟨by kernel_rfl, by kernel_rfl⟩, rfl⟩
theorem kf10 : IsFn Try.prog 10 := ⟨_, Try.func10, by kernel_rfl, by kernel_rfl⟩
theorem kf12 : IsFn Try.prog 12 := ⟨_, Try.func12, by kernel_rfl, by kernel_rfl⟩
theorem kf14 : IsFn Try.prog 14 := ⟨_, Try.func14, by kernel_rfl, by kernel_rfl⟩
theorem kf15 : IsFn Try.prog 15 := ⟨_, Try.func15, by kernel_rfl, by kernel_rfl⟩
theorem kf19 : IsFn Try.prog 19 := ⟨_, Try.func19, by kernel_rfl, by kernel_rfl⟩
theorem kf20 : IsFn Try.prog 20 := ⟨_, Try.func20, by kernel_rfl, by kernel_rfl⟩
theorem kf21 : IsFn Try.prog 21 := ⟨_, Try.func21, by kernel_rfl, by kernel_rfl⟩
theorem kf22 : IsFn Try.prog 22 := ⟨_, Try.func22, by kernel_rfl, by kernel_rfl⟩
theorem kf23 : IsFn Try.prog 23 := ⟨_, Try.func23, by kernel_rfl, by kernel_rfl⟩
theorem kf24 : IsFn Try.prog 24 := ⟨_, Try.func24, by kernel_rfl, by kernel_rfl⟩
theorem kf25 : IsFn Try.prog 25 := ⟨_, Try.func25, by kernel_rfl, by kernel_rfl⟩
theorem kf26 : IsFn Try.prog 26 := ⟨_, Try.func26, by kernel_rfl, by kernel_rfl⟩
theorem kf27 : IsFn Try.prog 27 := ⟨_, Try.func27, by kernel_rfl, by kernel_rfl⟩
theorem kf28 : IsFn Try.prog 28 := ⟨_, Try.func28, by kernel_rfl, by kernel_rfl⟩
theorem kf36 : IsFn Try.prog 36 := ⟨_, Try.func36, by kernel_rfl, by kernel_rfl⟩
theorem kf8 : IsFn Try.prog 8 := ⟨_, Try.func8, by kernel_rfl, by kernel_rfl⟩
theorem kf9 : IsFn Try.prog 9 := ⟨_, Try.func9, by kernel_rfl, by kernel_rfl⟩
theorem kt3 : KeyT Try.prog 3 kI ieq := keyT_int Try.underlying3
theorem ts25 : TyS Try.prog 25 1 false := ⟨by kernel_rfl, by kernel_rfl⟩
theorem ts3 : TyS Try.prog 3 1 false := ⟨by kernel_rfl, by kernel_rfl⟩
theorem ts32 : TyS Try.prog 32 4 true := ⟨by kernel_rfl, by kernel_rfl⟩
theorem ze25 : ZeroT Try.prog 25 (.slice none 0 0) := by unfold ZeroT; kernel_rfl
theorem ze3 : ZeroT Try.prog 3 (.int .i64 0) := by unfold ZeroT; kernel_rfl
theorem ze32 : ZeroT Try.prog 32 (AG 4 (iv (fun _ => 0))) := by unfold ZeroT; kernel_rfl
theorem ze4 : ZeroT Try.prog 4 (.bool false) := by unfold ZeroT; kernel_rfl
end Go.Proofs.Ytdmibiefinhneaa
/- The engine, part 24: shifts of other kinds of numbers, clear(x[i:]). -/
namespace Go.E
open Go
section
variable {P : Program} {w0 : World} {env : List (Nat × Value)} {H : GH} {d : Option Nat} {t ty : TypeId} {pos : String} {af : Array Edge} {g : Option (Nat × Bool)}
end
section
variable {P : Program} {n : Nat} {w0 : World} {ops : Array Oper} {KS : List Nat} {env0 env : Env} {dn : List Nat} {H RS : GH} {Q : Exit → Act → World → Prop}
/-! Two can come next, and not both have a slot. -/
end
section
variable {P : Program} {n : Nat} {w0 : World} {env : Env} {H : GH} {Q : Exit → Act → World → Prop}
/-! Several ways meet in a state that is known but for names. -/
def CutI (n : Nat) (w0 : World) (I : Env → GH → Prop) : Exit → Act → World → Prop := fun ex a w => ex = .normal ∧ ∃ e H', I e H' ∧ Ag n e a ∧ St w0 H' w
theorem xw_cutI {c : Code} (I : Env → GH → Prop) (h1 : XW P n w0 env H c (CutI n w0 I)) (h2 : ∀ e H', I e H' → XQ n w0 e H' .normal Q) : XW P n w0 env H c Q :=
  fun a w ha hs => wp_mono (h1 a w ha hs) fun e a' w' ⟨he, e1, H1, hI, ha', hs'⟩ => by subst he; exact h2 e1 H1 hI a' w' ha' hs'
theorem xq_cutI {I : Env → GH → Prop} {e' : Env} (H' : GH) (hl : Live env e') (hH : ∀ w, St w0 H w → St w0 H' w) (hI : I e' H') : XQ n w0 env H .normal (CutI n w0 I) :=
  fun a w ha hs => ⟨rfl, e', H', hI, ha.live hl, hH w hs⟩
end
end Go.E
/- The engine, part 25: short words for what long walks say often. -/
namespace Go.E
open Go
section
variable {α : Type _} {a b : α} {xs bs : List α}
theorem mR (h : a ∈ bs) : a ∈ xs ++ bs := List.mem_append_right xs h
theorem mH : a ∈ a :: xs := List.Mem.head _
variable {p : Nat → Prop}
theorem m_zero : ∀ i, i < 0 → p i := fun i h => absurd h (Nat.not_lt_zero i)
theorem m_step {n : Nat} (h0 : p 0) (h : ∀ i, i < n → p (i + 1)) : ∀ i, i < n + 1 → p i := fun i hi => match i, hi with | 0, _ => h0 | k + 1, hk => h k (Nat.lt_of_succ_lt_succ hk)
theorem M2 (h0 : p 0) (h1 : p 1) : ∀ i, i < 2 → p i := m_step h0 (m_step h1 m_zero)
end
end Go.E
/- The engine, part 28: short words for walks. -/
namespace Go.E
open Go
/-- The guard holds. -/
def gk (ops : Array Oper) (env : Env) : Option (Nat × Bool) → Bool
  | none => true
  | some (j, w) => match (ops[j]?).bind (·.dst) with
    | none => false
    | some s => match lk s env with
      | some v => isWant v w
      | none => false
/-- The guard fails. -/
def nk (ops : Array Oper) (env : Env) : Option (Nat × Bool) → Bool
  | none => false
  | some (j, w) => match (ops[j]?).bind (·.dst) with
    | none => false
    | some s => match lk s env with
      | some v => !isWant v w
      | none => false
theorem isWant_eq {v : Value} {w : Bool} (h : isWant v w = true) : v = .bool w := by
  cases v <;> simp_all [isWant]
theorem gk.wt {ops : Array Oper} {env : Env} {g : Option (Nat × Bool)} (h : gk ops env g = true) : Wt ops env g := by
  rcases g with _ | ⟨j, w⟩
  · trivial
  · unfold gk at h
    unfold Wt
    dsimp only at h ⊢
    cases hs : (ops[j]?).bind (·.dst) with
    | none => rw [hs] at h; simp at h
    | some s =>
      rw [hs] at h
      cases hv : lk s env with
      | none => simp [hv] at h
      | some v => exact ⟨s, rfl, by rw [hv]; simp only [hv] at h; rw [isWant_eq h]⟩
theorem nk.wt {ops : Array Oper} {env : Env} {g : Option (Nat × Bool)} (h : nk ops env g = true) : WtNot ops env g := by
  rcases g with _ | ⟨j, w⟩
  · simp [nk] at h
  · unfold nk at h
    unfold WtNot
    dsimp only at h ⊢
    cases hs : (ops[j]?).bind (·.dst) with
    | none => rw [hs] at h; simp at h
    | some s =>
      rw [hs] at h
      cases hv : lk s env with
      | none => simp [hv] at h
      | some v => exact ⟨s, v, rfl, hv, by simpa [hv] using h⟩
/-- Slots' values, as a list. -/
def sel (env : Env) : List Nat → Option Env
  | [] => some []
  | t :: ks => match lk t env, sel env ks with
    | some v, some l => some ((t, v) :: l)
    | _, _ => none
theorem sel.live {env : Env} : ∀ {ks : List Nat} {l : Env}, sel env ks = some l → Live env l := by
  intro ks
  induction ks with
  | nil => intro l h; cases h; exact ln
  | cons t ks ih =>
    intro l h
    unfold sel at h
    cases hv : lk t env with
    | none => simp [hv] at h
    | some v =>
      cases hk : sel env ks with
      | none => simp [hv, hk] at h
      | some k =>
        simp [hv, hk] at h
        subst h
        exact lc hv (ih hk)
theorem sel.keys {env : Env} : ∀ {ks : List Nat} {l : Env}, sel env ks = some l → l.map (·.1) = ks := by
  intro ks
  induction ks with
  | nil => intro l h; cases h; rfl
  | cons t ks ih =>
    intro l h
    unfold sel at h
    cases hv : lk t env with
    | none => simp [hv] at h
    | some v =>
      cases hk : sel env ks with
      | none => simp [hv, hk] at h
      | some k =>
        simp [hv, hk] at h
        subst h
        simp [ih hk]
theorem sl {env l : Env} (h : sel env (l.map (·.1)) = some l) : Live env l := sel.live h
def okv (b : Bool) (o : Option Value) : Option Value := bif b then o else none
theorem okv.ok {b : Bool} {o : Option Value} {v : Value} (h : okv b o = some v) : b = true ∧ o = some v := by
  cases b
  · cases h
  · exact ⟨rfl, h⟩
def isB (o : Option Value) (w : Bool) : Bool := match o with
  | some v => isWant v w
  | none => false
theorem isB.eq {o : Option Value} {w : Bool} (h : isB o w = true) : o = some (.bool w) := by
  unfold isB at h
  split at h
  · rw [isWant_eq h]
  · cases h
def nth : List Value → Nat → Option Value
  | [], _ => none
  | v :: _, 0 => some v
  | _ :: l, n + 1 => nth l n
theorem nth_eq : ∀ (l : List Value) (n : Nat), nth l n = l[n]?
  | [], n => by simp [nth]
  | v :: l, 0 => by simp [nth]
  | v :: l, n + 1 => by simp [nth, nth_eq l n]
def ex1 : Option Value → Nat → Option Value
  | some (.tuple a), m => nth a.toList m
  | _, _ => none
theorem and2 {a b : Bool} (h : (a && b) = true) : a = true ∧ b = true := by simpa using h
section
variable {P : Program} {n : Nat} {w0 : World} {env : Env} {H : GH} {Q : Exit → Act → World → Prop} {ops : Array Oper} {rest : List Oper}
variable {d : Nat} {op : Op} {ty : TypeId} {pos : String} {af : Array Edge} {g : Option (Nat × Bool)} {x y z : Operand} {v : Value}
theorem xQ (hc : (Nat.blt d n && gk ops env g) = true) {H' : GH} (h : OT P w0 env H ⟨some d, op, ty, pos, af, g⟩ (Is v H')) (k : XO P n w0 ((d, v) :: env) H' ops rest Q) : XO P n w0 env H ops (⟨some d, op, ty, pos, af, g⟩ :: rest) Q :=
  xq (and2 hc).1 (gk.wt (and2 hc).2) h k
theorem xZ (hc : gk ops env g = true) {H' : GH} (h : OT P w0 env H ⟨none, op, ty, pos, af, g⟩ (Is v H')) (k : XO P n w0 env H' ops rest Q) : XO P n w0 env H ops (⟨none, op, ty, pos, af, g⟩ :: rest) Q :=
  xq0 (gk.wt hc) h k
theorem xr (hc : (Nat.blt d n && gk ops env g) = true) {R : Value → GH → Prop} (h : OT P w0 env H ⟨some d, op, ty, pos, af, g⟩ R) (k : ∀ v H', R v H' → XO P n w0 ((d, v) :: env) H' ops rest Q) : XO P n w0 env H ops (⟨some d, op, ty, pos, af, g⟩ :: rest) Q :=
  xo (and2 hc).1 (gk.wt (and2 hc).2) h k
theorem xY (hc : gk ops env g = true) {R : Value → GH → Prop} (h : OT P w0 env H ⟨none, op, ty, pos, af, g⟩ R) (k : ∀ v H', R v H' → XO P n w0 env H' ops rest Q) : XO P n w0 env H ops (⟨none, op, ty, pos, af, g⟩ :: rest) Q :=
  xo0 (gk.wt hc) h k
theorem vm (hx : okv (Nat.blt d n && gk ops env g) (ev env x) = some v) (k : XO P n w0 ((d, v) :: env) H ops rest Q) : XO P n w0 env H ops (⟨some d, .move x, ty, pos, af, g⟩ :: rest) Q :=
  xQ (okv.ok hx).1 (o_mv (okv.ok hx).2) k
theorem va (hx : okv (Nat.blt d n && gk ops env g) (ev env x) = some v) (k : XO P n w0 ((d, v) :: env) H ops rest Q) : XO P n w0 env H ops (⟨some d, .assign x, ty, pos, af, g⟩ :: rest) Q :=
  xQ (okv.ok hx).1 (o_as (okv.ok hx).2) k
theorem vs (hc : (Nat.blt d n && nk ops env g) = true) (k : XO P n w0 ((d, undef) :: env) H ops rest Q) : XO P n w0 env H ops (⟨some d, op, ty, pos, af, g⟩ :: rest) Q :=
  xs (and2 hc).1 (nk.wt (and2 hc).2) k
theorem ve {m : Nat} (hx : okv (Nat.blt d n && gk ops env g) (ex1 (ev env x) m) = some v) (k : XO P n w0 ((d, v) :: env) H ops rest Q) : XO P n w0 env H ops (⟨some d, .extract x m, ty, pos, af, g⟩ :: rest) Q := by
  obtain ⟨h1, h2⟩ := okv.ok hx
  cases he : ev env x with
  | none => rw [he] at h2; cases h2
  | some u =>
    rw [he] at h2
    cases u <;> simp only [ex1, reduceCtorEq] at h2
    rename_i a
    exact xQ h1 (o_ext (l := a.toList) (by rw [he]) (by rw [← nth_eq]; exact h2)) k
theorem vt (hx : okv (Nat.blt d n && gk ops env g && isB (ev env z) true) (ev env x) = some v) (k : XO P n w0 ((d, v) :: env) H ops rest Q) : XO P n w0 env H ops (⟨some d, .pick z x y, ty, pos, af, g⟩ :: rest) Q :=
  xQ (and2 (okv.ok hx).1).1 (o_pick_t (isB.eq (and2 (okv.ok hx).1).2) (okv.ok hx).2) k
theorem vf (hx : okv (Nat.blt d n && gk ops env g && isB (ev env z) false) (ev env y) = some v) (k : XO P n w0 ((d, v) :: env) H ops rest Q) : XO P n w0 env H ops (⟨some d, .pick z x y, ty, pos, af, g⟩ :: rest) Q :=
  xQ (and2 (okv.ok hx).1).1 (o_pick_f (isB.eq (and2 (okv.ok hx).1).2) (okv.ok hx).2) k
/-! Glue. -/
theorem nS {y : Code} (h : XW P n w0 env H y Q) : XO P n w0 env H ops [] (Exit.then (y.wp P Q) Q) := xo_nil (xq_then h)
theorem nR {y : Code} {id : Nat} {l : List Oper} (h : XO P n w0 env H l.toArray l (Exit.then (y.wp P Q) Q)) : XO P n w0 env H ops [] (Exit.then ((Code.seq (.region id l.toArray false) y).wp P Q) Q) := xo_nil (xq_then (xw_seq (xw_region h)))
theorem wS {y : Code} {id : Nat} {l : List Oper} (h : XO P n w0 env H l.toArray l (Exit.then (y.wp P Q) Q)) : XW P n w0 env H (Code.seq (.region id l.toArray false) y) Q := xw_seq (xw_region h)
/-! A condition. -/
section
variable {s : Nat} {u w : Code} {p : Prop} [Decidable p] {A B : Prop} {b : Bool}
theorem wd (hs : lk s env = some (.bool (decide p))) (h : if p then A else B) (t : p → A → XW P n w0 ((s, .bool true) :: env) H u Q) (f : ¬p → B → XW P n w0 ((s, .bool false) :: env) H w Q) : XW P n w0 env H (.cond (.tmp s) u w) Q := by
  refine xw_bool s hs (fun e => ?_) (fun e => ?_)
  · have hp := of_decide_eq_true e
    rw [if_pos hp] at h
    exact xw_cond_t (by simp [ev, lk]) rfl (t hp h)
  · have hp := of_decide_eq_false e
    rw [if_neg hp] at h
    exact xw_cond_f (by simp [ev, lk]) rfl (f hp h)
theorem wd' (hs : lk s env = some (.bool (decide p))) (t : p → XW P n w0 ((s, .bool true) :: env) H u Q) (f : ¬p → XW P n w0 ((s, .bool false) :: env) H w Q) : XW P n w0 env H (.cond (.tmp s) u w) Q :=
  wd (A := True) (B := True) hs (by split <;> trivial) (fun h _ => t h) (fun h _ => f h)
theorem wn (hs : lk s env = some (.bool (!decide p))) (h : if p then A else B) (t : ¬p → B → XW P n w0 ((s, .bool true) :: env) H u Q) (f : p → A → XW P n w0 ((s, .bool false) :: env) H w Q) : XW P n w0 env H (.cond (.tmp s) u w) Q := by
  refine xw_bool s hs (fun e => ?_) (fun e => ?_)
  · have hp := of_decide_eq_false (bnT e)
    rw [if_neg hp] at h
    exact xw_cond_t (by simp [ev, lk]) rfl (t hp h)
  · have hp := of_decide_eq_true (bnF e)
    rw [if_pos hp] at h
    exact xw_cond_f (by simp [ev, lk]) rfl (f hp h)
theorem wb (hs : lk s env = some (.bool b)) (h : if b = true then A else B) (t : b = true → A → XW P n w0 ((s, .bool true) :: env) H u Q) (f : ¬b = true → B → XW P n w0 ((s, .bool false) :: env) H w Q) : XW P n w0 env H (.cond (.tmp s) u w) Q :=
  wd (p := b = true) (by rw [hs]; simp) h t f
theorem wb' (hs : lk s env = some (.bool b)) (t : b = true → XW P n w0 ((s, .bool true) :: env) H u Q) (f : ¬b = true → XW P n w0 ((s, .bool false) :: env) H w Q) : XW P n w0 env H (.cond (.tmp s) u w) Q :=
  wd' (p := b = true) (by rw [hs]; simp) t f
theorem wc (hs : lk s env = some (.bool (!b))) (h : if b = true then A else B) (t : ¬b = true → B → XW P n w0 ((s, .bool true) :: env) H u Q) (f : b = true → A → XW P n w0 ((s, .bool false) :: env) H w Q) : XW P n w0 env H (.cond (.tmp s) u w) Q :=
  wn (p := b = true) (by rw [hs]; simp) h t f
/-! A slot's bool, in a region. -/
theorem od (s : Nat) (hs : lk s env = some (.bool (decide p))) (h : if p then A else B) (t : p → A → XO P n w0 ((s, .bool true) :: env) H ops rest Q) (f : ¬p → B → XO P n w0 ((s, .bool false) :: env) H ops rest Q) : XO P n w0 env H ops rest Q :=
  xo_bool s hs (fun e => t (of_decide_eq_true e) (by rwa [if_pos (of_decide_eq_true e)] at h)) (fun e => f (of_decide_eq_false e) (by rwa [if_neg (of_decide_eq_false e)] at h))
theorem od' (s : Nat) (hs : lk s env = some (.bool (decide p))) (t : p → XO P n w0 ((s, .bool true) :: env) H ops rest Q) (f : ¬p → XO P n w0 ((s, .bool false) :: env) H ops rest Q) : XO P n w0 env H ops rest Q :=
  xo_bool s hs (fun e => t (of_decide_eq_true e)) (fun e => f (of_decide_eq_false e))
theorem on (s : Nat) (hs : lk s env = some (.bool (!decide p))) (h : if p then A else B) (t : ¬p → B → XO P n w0 ((s, .bool true) :: env) H ops rest Q) (f : p → A → XO P n w0 ((s, .bool false) :: env) H ops rest Q) : XO P n w0 env H ops rest Q :=
  xo_bool s hs (fun e => t (of_decide_eq_false (bnT e)) (by rwa [if_neg (of_decide_eq_false (bnT e))] at h)) (fun e => f (of_decide_eq_true (bnF e)) (by rwa [if_pos (of_decide_eq_true (bnF e))] at h))
theorem on' (s : Nat) (hs : lk s env = some (.bool (!decide p))) (t : ¬p → XO P n w0 ((s, .bool true) :: env) H ops rest Q) (f : p → XO P n w0 ((s, .bool false) :: env) H ops rest Q) : XO P n w0 env H ops rest Q :=
  xo_bool s hs (fun e => t (of_decide_eq_false (bnT e))) (fun e => f (of_decide_eq_true (bnF e)))
theorem ob (s : Nat) (hs : lk s env = some (.bool b)) (h : if b = true then A else B) (t : b = true → A → XO P n w0 ((s, .bool true) :: env) H ops rest Q) (f : ¬b = true → B → XO P n w0 ((s, .bool false) :: env) H ops rest Q) : XO P n w0 env H ops rest Q :=
  od (p := b = true) s (by rw [hs]; simp) h t f
theorem ob' (s : Nat) (hs : lk s env = some (.bool b)) (t : b = true → XO P n w0 ((s, .bool true) :: env) H ops rest Q) (f : ¬b = true → XO P n w0 ((s, .bool false) :: env) H ops rest Q) : XO P n w0 env H ops rest Q :=
  od' (p := b = true) s (by rw [hs]; simp) t f
end
/-! Ways that meet. -/
theorem wk {c : Code} (ks : List Nat) {k : Env} (hk : sel env ks = some k) (l : Env) (h1 : XW P n w0 env H c (CutQ n w0 (l ++ k) H)) (h2 : XQ n w0 (l ++ k) H .normal Q) : XW P n w0 env H c Q :=
  xw_cut k (sel.live hk) l h1 h2
theorem qk {s : Nat} {v v' : Value} {l : Env} (hs : lk s env = some v) (e : v = v') (hl : sel env (l.map (·.1)) = some l) : XQ n w0 env H .normal (CutQ n w0 ((s, v') :: l) H) :=
  xq_cut (lce hs e (sel.live hl)) (fun _ h => h)
/-! Calls. -/
theorem xc {f : FuncId} {args : Array Operand} {ts : Array TypeId} {vs : List Value} (hc : (Nat.blt d n && gk ops env g) = true) (hf : IsFn P f) (hargs : evL env args.toList = some vs)
    (h : ∀ w, St w0 H w → Con P f vs.toArray w (Is v [])) (k : XO P n w0 ((d, v) :: env) H ops rest Q) : XO P n w0 env H ops (⟨some d, .call ⟨.value (.func f), args, ts⟩, ty, pos, af, g⟩ :: rest) Q :=
  xcallq (and2 hc).1 (gk.wt (and2 hc).2) hf hargs h k
def en : Nat → List Value → Env
  | _, [] => []
  | i, v :: l => (i, v) :: en (i + 1) l
theorem en.live : ∀ (l k : List Value), LiveA (k ++ l) (en k.length l) := by
  intro l
  induction l with
  | nil => intro k; exact lan
  | cons v l ih =>
    intro k
    refine lac (by simp) ?_
    have := ih (k ++ [v])
    simpa using this
theorem ce {f : FuncId} {fn : Func} {c : Code} {args : List Value} {w : World} {G : Value → GH → Prop} (hf : P.funcs[f]? = some fn) (hb : fn.body = some c) (hn : fn.ntmps = n) (hsz : Nat.ble args.length n = true)
    (h : XW P n w (en 0 args) [] c (bodyPost P fn (GoodEnd w G))) : Con P f args.toArray w G :=
  con_enter (en 0 args) hf hb hn hsz (en.live args []) h
theorem oi {d : Option Nat} {f : FuncId} {fn : Func} {c : Code} {vs : List Value} {m : Nat} {R : Value → GH → Prop} {args : Array Operand} {ts : Array TypeId} (hk : IsFn P f) (hargs : evL env args.toList = some vs)
    (hf : P.funcs[f]? = some fn) (hb : fn.body = some c) (hm : fn.ntmps = m) (hsz : Nat.ble vs.length m = true) (h : XW P m w0 (en 0 vs) H c (bodyPost P fn (GoodEnd w0 R))) : OT P w0 env H ⟨d, .call ⟨.value (.func f), args, ts⟩, ty, pos, af, g⟩ R :=
  ot_in hk hargs hf hb hm hsz (en.live vs []) h
theorem xin {f : FuncId} {fn : Func} {c : Code} {vs : List Value} {m : Nat} {args : Array Operand} {ts : Array TypeId} (hc : (Nat.blt d n && gk ops env g) = true) (hk : IsFn P f) (hargs : evL env args.toList = some vs)
    (hf : P.funcs[f]? = some fn) (hb : fn.body = some c) (hm : fn.ntmps = m) (hsz : Nat.ble vs.length m = true) (h : XW P m w0 (en 0 vs) H c (bodyPost P fn (GoodEnd w0 fun v H' => XO P n w0 ((d, v) :: env) H' ops rest Q))) : XO P n w0 env H ops (⟨some d, .call ⟨.value (.func f), args, ts⟩, ty, pos, af, g⟩ :: rest) Q :=
  xoR (and2 hc).1 (gk.wt (and2 hc).2) (oi hk hargs hf hb hm hsz h)
/-! The end. -/
section
variable {fn : Func} {w : World} {G : Value → GH → Prop} {a b c : Nat} {u s : Value}
theorem rO (hr : fn.results = #[.tmp a]) (hv : lk a env = some v) (hG : G v H) : XQ n w env H .ret (bodyPost P fn (GoodEnd w G)) := con_ret1 (.inl rfl) hr hv H (fun _ h => h) hG
theorem yA (hr : fn.results = #[.tmp a]) (hv : lk a env = some v) (F : GH) (hF : ∀ w', St w H w' → St w F w') (hG : G v F) : XQ n w env H .ret (bodyPost P fn (GoodEnd w G)) := con_ret1 (.inl rfl) hr hv F hF hG
end
/-! Stores. -/
/-- Values of one cell each. -/
inductive On : List Value → Prop
  | n : On []
  | r {v : Value} {l : List Value} (k : On l) (h : v.oneCell' = true) : On (v :: l)
theorem On.get {l : List Value} (h : On l) : ∀ i, i < l.length → (cl l i).oneCell' = true := by
  induction h with
  | n => intro i hi; simp at hi
  | r k h ih =>
    intro i hi
    cases i with
    | zero => exact h
    | succ i => exact ih i (by simpa using hi)
/-- One place of a list. -/
inductive Put : List Value → Nat → Value → List Value → Prop
  | h (u v : Value) (l : List Value) : Put (u :: l) 0 v (v :: l)
  | t {u v : Value} {l l' : List Value} {i : Nat} (k : Put l i v l') : Put (u :: l) (i + 1) v (u :: l')
theorem Put.set {l l' : List Value} {i : Nat} {v : Value} (h : Put l i v l') : l.set i v = l' ∧ i < l.length := by
  induction h with
  | h => simp
  | t k ih => simp [ih.1, ih.2]
end
/-! Regions that draw their order. -/
section
variable {P : Program} {n : Nat} {w0 : World} {ops : Array Oper} {KS : List Nat} {env0 env : Env} {dn : List Nat} {H RS : GH} {Q : Exit → Act → World → Prop}
/-- Operation i, if it may be done now. -/
def rdy (ops : Array Oper) (dn : List Nat) (env : Env) (i : Nat) (ks : List Nat) : Option (Oper × Nat × Env) :=
  match ops[i]? with
  | none => none
  | some o => match o.dst with
    | none => none
    | some d => match sel env ks with
      | none => none
      | some l => bif !dn.contains i && gk ops l o.guard then some (o, d, l) else none
theorem rdy.ok {i : Nat} {ks : List Nat} {o : Oper} {d : Nat} {l : Env} (h : rdy ops dn env i ks = some (o, d, l)) : ops[i]? = some o ∧ o.dst = some d ∧ dn.contains i = false ∧ sel env ks = some l ∧ gk ops l o.guard = true := by
  unfold rdy at h
  split at h
  · cases h
  · rename_i o' ho
    split at h
    · cases h
    · rename_i d' hd
      split at h
      · cases h
      · rename_i l' hl
        cases hb : (!dn.contains i && gk ops l' o'.guard) with
        | false => rw [hb] at h; cases h
        | true =>
          rw [hb] at h
          cases h
          have := and2 hb
          exact ⟨ho, hd, by simpa using this.1, hl, this.2⟩
theorem xb (hok : RegOK n ops = true) (i : Nat) (ks : List Nat) {o : Oper} {d : Nat} {l : Env} {v : Value} (hr : rdy ops dn env i ks = some (o, d, l)) (hs : slotsOK ops dn i ks = true)
    (ht : ∀ H', (∀ k ∈ keys H', k ∈ KS ∨ w0.heap.size ≤ k) → OT P w0 l H' o (Is v H')) (k : XD P n w0 ops KS env0 (i :: dn) ((d, v) :: env) H RS Q) : XD P n w0 ops KS env0 dn env H RS Q :=
  xd_b hok i l [] rsN (rdy.ok hr).1 (rdy.ok hr).2.1 (rdy.ok hr).2.2.1 (sel.live (rdy.ok hr).2.2.2.1) (by rw [(sel.keys (rdy.ok hr).2.2.2.1)]; exact hs) (gk.wt (rdy.ok hr).2.2.2.2) (fun H' _ hK => ht H' hK) k
theorem xbr (hok : RegOK n ops = true) (i : Nat) (ks : List Nat) (rs : GH) (hR : ∀ x ∈ rs, x ∈ H) {o : Oper} {d : Nat} {l : Env} {v : Value} (hr : rdy ops dn env i ks = some (o, d, l)) (hs : slotsOK ops dn i ks = true)
    (ht : ∀ H', (∀ x ∈ rs, x ∈ H') → (∀ k ∈ keys H', k ∈ KS ∨ w0.heap.size ≤ k) → OT P w0 l H' o (Is v H')) (k : XD P n w0 ops KS env0 (i :: dn) ((d, v) :: env) H (rs ++ RS) Q) : XD P n w0 ops KS env0 dn env H RS Q :=
  xd_b hok i l rs hR (rdy.ok hr).1 (rdy.ok hr).2.1 (rdy.ok hr).2.2.1 (sel.live (rdy.ok hr).2.2.2.1) (by rw [(sel.keys (rdy.ok hr).2.2.2.1)]; exact hs) (gk.wt (rdy.ok hr).2.2.2.2) ht k
/-- As rdy, for one that is passed over. -/
def rdn (ops : Array Oper) (dn : List Nat) (env : Env) (i : Nat) (ks : List Nat) : Option (Oper × Nat × Env) :=
  match ops[i]? with
  | none => none
  | some o => match o.dst with
    | none => none
    | some d => match sel env ks with
      | none => none
      | some l => bif !dn.contains i && nk ops l o.guard then some (o, d, l) else none
theorem rdn.ok {i : Nat} {ks : List Nat} {o : Oper} {d : Nat} {l : Env} (h : rdn ops dn env i ks = some (o, d, l)) : ops[i]? = some o ∧ o.dst = some d ∧ dn.contains i = false ∧ sel env ks = some l ∧ nk ops l o.guard = true := by
  unfold rdn at h
  split at h
  · cases h
  · rename_i o' ho
    split at h
    · cases h
    · rename_i d' hd
      split at h
      · cases h
      · rename_i l' hl
        cases hb : (!dn.contains i && nk ops l' o'.guard) with
        | false => rw [hb] at h; cases h
        | true =>
          rw [hb] at h
          cases h
          have := and2 hb
          exact ⟨ho, hd, by simpa using this.1, hl, this.2⟩
theorem xbs (hok : RegOK n ops = true) (i : Nat) (ks : List Nat) {o : Oper} {d : Nat} {l : Env} (hr : rdn ops dn env i ks = some (o, d, l)) (hs : slotsOK ops dn i ks = true)
    (k : XD P n w0 ops KS env0 (i :: dn) ((d, undef) :: env) H RS Q) : XD P n w0 ops KS env0 dn env H RS Q :=
  xd_skip hok i l (rdn.ok hr).1 (rdn.ok hr).2.1 (rdn.ok hr).2.2.1 (sel.live (rdn.ok hr).2.2.2.1) (by rw [(sel.keys (rdn.ok hr).2.2.2.1)]; exact hs) (nk.wt (rdn.ok hr).2.2.2.2) k
section
variable {s : Nat} {p : Prop} [Decidable p] {A B : Prop} {b : Bool}
theorem dd' (s : Nat) (hs : lk s env = some (.bool (decide p))) (t : p → XD P n w0 ops KS env0 dn ((s, .bool true) :: env) H RS Q) (f : ¬p → XD P n w0 ops KS env0 dn ((s, .bool false) :: env) H RS Q) : XD P n w0 ops KS env0 dn env H RS Q :=
  xd_bool s hs (fun e => t (of_decide_eq_true e)) (fun e => f (of_decide_eq_false e))
theorem de' (s : Nat) (hs : lk s env = some (.bool (!decide p))) (t : ¬p → XD P n w0 ops KS env0 dn ((s, .bool true) :: env) H RS Q) (f : p → XD P n w0 ops KS env0 dn ((s, .bool false) :: env) H RS Q) : XD P n w0 ops KS env0 dn env H RS Q :=
  xd_bool s hs (fun e => t (of_decide_eq_false (bnT e))) (fun e => f (of_decide_eq_true (bnF e)))
theorem dc' (s : Nat) (hs : lk s env = some (.bool (!b))) (t : ¬b = true → XD P n w0 ops KS env0 dn ((s, .bool true) :: env) H RS Q) (f : b = true → XD P n w0 ops KS env0 dn ((s, .bool false) :: env) H RS Q) : XD P n w0 ops KS env0 dn env H RS Q :=
  de' (p := b = true) s (by rw [hs]; simp) t f
end
end
section
variable {w0 w' : World} {H B : GH} {α : Type} {T : TypeId} {s : Nat} {c : α → Nat → Value} {l : List α}
theorem M1 {p : Nat → Prop} (h0 : p 0) : ∀ i, i < 1 → p i := m_step h0 m_zero
theorem litS (k : Nat) {b N : Nat} {F : Nat → Value} (hs : St w0 H w') (hm : (b, BK N F T) ∈ H) (hl : k = l.length) (hk : (Nat.ble (k * s) N && Nat.ble k 1000000) = true) (hF : ∀ i, i < k * s → F i = eG s c l i) : SL w' s c (.slice (some ⟨b, 0, none⟩) k k) l :=
  SL.lit hs hm hl (Nat.le_of_ble_eq_true (and2 hk).1) (Nat.le_trans (Nat.le_of_ble_eq_true (and2 hk).2) (by decide)) hF
theorem litO (k : Nat) {b N : Nat} {F : Nat → Value} (hm : (b, BK N F T) ∈ B) (hl : k = l.length) (hk : (Nat.ble (k * s) N && Nat.ble k 1000000) = true) (hF : ∀ i, i < k * s → F i = eG s c l i) : OJ T s c B (.slice (some ⟨b, 0, none⟩) k k) l :=
  OJ.lit hm hl (Nat.le_of_ble_eq_true (and2 hk).1) (Nat.le_trans (Nat.le_of_ble_eq_true (and2 hk).2) (by decide)) hF
end
theorem dT {p : Prop} [Decidable p] (h : p) : decide p = true := decide_eq_true h
theorem dF {p : Prop} [Decidable p] (h : ¬p) : decide p = false := decide_eq_false h
theorem nF2 {b : Bool} (h : b = true) : (!b) = false := by simp [h]
theorem bF {b : Bool} (h : ¬b = true) : b = false := by simpa using h
end Go.E
/- The engine, part 19: the keys of a map, collected and sorted (slices.Sorted of maps.Keys), keys of the kind int. -/
namespace Go.E
open Go Go.Proofs Go.Shelf Go.RowKit
/-- The keys, rising. -/
def skeys {α : Type} (d : List (Int × α)) : List Int := (d.map (·.1)).mergeSort leI
/-- What is asked of a map whose keys are sorted. -/
def skeysP {α : Type} (d : List (Int × α)) : Prop := (∀ p ∈ d, inI64 p.1) ∧ d.length ≤ 1000000000000
def anyR : Value → Option (DataW Unit × List MemPlace) := fun _ => some (.nil, [])
theorem wf_i64 {x : Int} (h : inI64 x) : (Lit.int .i64 x).wf = true := by
  have e : (Lit.int .i64 x).wf = (decide (IntKind.i64.min ≤ x) && decide (x ≤ IntKind.i64.max)) := rfl
  have e1 : IntKind.i64.min = -9223372036854775808 := by decide
  have e2 : IntKind.i64.max = 9223372036854775807 := by decide
  rw [e, e1, e2, decide_eq_true h.1, decide_eq_true h.2]
  rfl
section
variable {P : Program} {ρ ρm : Ren} {α : Type} {cv : α → Value}
/-- A block that is a map of ours is one as the kit reads it. -/
theorem owns_of_MO {d : List (Int × α)} {o : Obj} {b : Nat} {k : TypeId} {w : World} (hk : P.underlying k = some (.int .i64)) (hM : MO kI cv ieq d o) (hb : w.heap[b]? = some o) (hP : skeysP d) :
    ∃ D : DataW Unit, w.ownsMap P k anyR b d.length D ∧ (intKeys D).Perm (d.map (·.1)) ∧ Maps.size D = d.length := by
  obtain ⟨es, clock, rfl, he, hborn, hnd, hpw⟩ := hM
  have hlen : es.size = d.length := by
    have := congrArg List.length he
    simpa using this
  have hkeys : es.toList.map (·.key) = d.map (fun p => kI p.1) := by
    have := congrArg (List.map Prod.fst) he
    simpa [List.map_map, Function.comp_def] using this
  have hrd : ∀ x ∈ es.toList, ∃ n : Int, x.key = .int .i64 n ∧ inI64 n := by
    intro x hx
    have : x.key ∈ es.toList.map (·.key) := List.mem_map.2 ⟨x, hx, rfl⟩
    rw [hkeys] at this
    obtain ⟨p, hp, e⟩ := List.mem_map.1 this
    exact ⟨p.1, e.symm, hP.1 p hp⟩
  have hrg : ∀ x ∈ es.toList, ∀ n : Int, x.key = .int .i64 n → WideElems.rd P k anyR x = some (.int .i64 n, .nil) := by
    intro x hx n hn
    obtain ⟨m, hm, hmi⟩ := hrd x hx
    rw [hm] at hn
    cases hn
    unfold WideElems.rd
    rw [hm, Maps.keyOf_int_mk hk (wf_i64 hmi)]
    rfl
  have hF : WideElems.Fit P k anyR es clock := by
    refine ⟨by rw [hlen]; have := hP.2; unfold maxLen; omega, ⟨hborn, hnd, ?_⟩, fun x hx => ?_⟩
    · rw [hkeys]
      refine List.pairwise_map.2 (hpw.imp fun {p q} h e => ?_)
      have : p.1 = q.1 := by simpa [kI] using e
      simp [ieq, this] at h
    · obtain ⟨n, hn, _⟩ := hrd x hx
      exact ⟨_, hrg x hx n hn⟩
  refine ⟨_, ⟨es, clock, hb, hF, by omega, rfl⟩, ?_, ?_⟩
  · show (List.map (fun p : Lit × DataW Unit => Go.intOf p.1) _).Perm _
    refine ((WideShapes.sorted_perm _).map _).trans ?_
    rw [List.map_map]
    have : es.toList.map ((fun p : Lit × DataW Unit => Go.intOf p.1) ∘ WideElems.rg P k anyR) = es.toList.map (fun x => match x.key with | .int _ n => n | _ => 0) := by
      refine List.map_congr_left fun x hx => ?_
      obtain ⟨n, hn, _⟩ := hrd x hx
      simp only [Function.comp_apply]
      rw [WideElems.rg_of (hrg x hx n hn), hn]
      rfl
    rw [this]
    have h2 : es.toList.map (fun x => match x.key with | .int _ n => n | _ => 0) = (es.toList.map (·.key)).map (fun v => match v with | .int _ n => n | _ => 0) := by
      rw [List.map_map]; rfl
    rw [h2, hkeys, List.map_map]
    exact List.Perm.refl _
  · show List.length _ = _
    rw [(WideShapes.sorted_perm _).length_eq]
    simp [hlen]
/-- What a row of ours is, of a kit's row. -/
theorem con_of_row {f : FuncId} {args : Array Value} {w : World} {T : TypeId} {l : List Int} (h : Calls P f args w fun e w' => ∃ (v : Value) (ss : List Int), e = .returned v ∧ ss.mergeSort leI = l ∧ ss.length = l.length ∧
      w'.ownsRow w.heap.size T 1 v ss.length (l.map encZ) ∧ Below w.heap.size w w') :
    Con P f args w (fun v F => ∃ u C, v = u ∧ F = C ∧ OJ T 1 ic C u l ∧ Cov w [] C) := by
  refine Calls.mono h ?_
  rintro e w' ⟨v, ss, rfl, hs, hl, hrow, hb⟩
  rcases hrow.2 with ⟨rfl, hz⟩ | ⟨g, cap, cur, rfl, hbase, hg, h1, h2, h3, h4⟩
  · refine ⟨_, [], rfl, ⟨hb.os, hb.tape, hb.output, hb.size, fun _ _ h => absurd h (by simp), List.nodup_nil, fun k hk _ => hb.block k hk⟩, _, [], rfl, rfl, ?_, Cov.refl _⟩
    rw [List.eq_nil_of_length_eq_zero (hl.symm.trans hz)]
    exact OJ.nil
  · have hcur : cur = CV cur.size (fun i => cur.getD i undef) := CV_of cur
    have hBK : w'.heap[g]? = some (BK cur.size (fun i => cur.getD i undef) T) := by
      unfold BK
      rw [← hcur]; exact hg
    refine ⟨_, [(g, BK cur.size (fun i => cur.getD i undef) T)], rfl, ⟨hb.os, hb.tape, hb.output, hb.size, ?_, by simp, fun k hk _ => hb.block k hk⟩, _, _, rfl, rfl, ?_, Cov.of_fresh ?_⟩
    · intro b o hm
      cases List.mem_singleton.1 hm
      exact hBK
    · refine .inr ⟨g, 0, cap, _, _, List.mem_singleton.2 rfl, by rw [hl], by omega, by omega, h2, fun i hi => ?_⟩
      rw [Nat.mul_one] at hi
      have e1 : (cur.toList.take (ss.length * 1))[i]? = (l.map encZ)[i]? := by rw [h4]
      rw [Nat.mul_one, List.getElem?_take_of_lt (by omega), List.getElem?_map, List.getElem?_eq_getElem hi] at e1
      have e2 : eG 1 ic l i = .int .i64 l[i] := eG_one hi
      rw [e2, Nat.zero_add, Array.getD_eq_getD_getElem?, ← Array.getElem?_toList, e1]
      rfl
    · intro k hk
      simp only [keys_cons, keys_nil, List.mem_singleton] at hk
      omega
/-- slices.Sorted at what maps.Keys hands back. -/
theorem con_sortedKeys (LK : SlLaysZI.n10 P ρ) (LS : SlLaysZI.n6 P ρ) (LM : SlLaysM.n5 P ρm) (hf : ρm.f 5 = ρ.f 9) (e9 : Enters P (ρ.f 9)) (e10 : Enters P (ρ.f 10))
    {w : World} {Bm b : Nat} {T : TypeId} {o : Obj} {d : List (Int × α)} (hm : w.heap[Bm]? = some (BK 1 (fun _ => .map (some b)) T)) (hb : w.heap[b]? = some o) (hM : MO kI cv ieq d o) (hP : skeysP d) :
    Con P (ρ.f 6) #[.func (.func (ρ.f 10)) #[] #[.pointer (some ⟨Bm, 0, none⟩)]] w (fun v F => ∃ u C, v = u ∧ F = C ∧ OJ (ρ.t 26) 1 ic C u (skeys d) ∧ Cov w [] C) := by
  obtain ⟨D, hown, hperm, hsz⟩ := owns_of_MO (cv := cv) LK.t26 hM hb hP
  have hBm : Bm < w.heap.size := (Array.getElem?_eq_some_iff.1 hm).1
  have hcell : w.cell? ⟨Bm, 0, none⟩ = some (.map (some b)) := cell_BK hm (by omega)
  have hseq : SeqGives Fence.wide 2 P (ρ.f 10) #[.pointer (some ⟨Bm, 0, none⟩)] encZ (fun ss => ss.Perm (intKeys D)) (Maps.size D) w :=
    AnyZI.keys_gives LK Fence.wide 2 trivial rfl (by omega) Bm b _ D w hBm hcell hown
  have hsort : ∀ m, AnyZI.SortsIn P ρ Fence.wide m := fun m =>
    ⟨fun blk off cap ss W hH hblk hsz => callsIn_wide.2 (hf ▸ AnyM.slices_Sort_int LM blk off cap ss W hH hblk hsz),
     fun p cap W => callsIn_wide.2 (hf ▸ AnyM.slices_Sort_int_none LM p cap W)⟩
  have hd := hP.2
  have cS := AnyZI.sorted_in LS Fence.wide 5 trivial trivial trivial trivial rfl (by omega) (hsort _) e9 (ρ.f 10) #[.pointer (some ⟨Bm, 0, none⟩)] trivial e10 _ (Maps.size D) (by rw [hsz]; unfold maxLen; omega) (by rw [hsz]; omega) w hseq
  refine con_of_row (Calls.mono (callsIn_wide.1 cS) ?_)
  rintro e w' ⟨v, ss, rfl, hS, hrow, hnil, hbl⟩
  have hp : ss.Perm (d.map (·.1)) := hS.trans hperm
  have hms : ss.mergeSort leI = skeys d := mergeSort_of_perm_i hp
  refine ⟨v, ss, rfl, hms, ?_, ?_, hbl⟩
  · rw [← hms, List.length_mergeSort]
  · rw [← hms]; exact hrow
/-- A block as a segment. -/
theorem xo_lit {P : Program} {n : Nat} {w0 : World} {env : Env} {H : GH} {ops : Array Oper} {rest : List Oper} {Q : Exit → Act → World → Prop} {b : Nat} {o : Obj} (h : ∀ B : GH, B = [(b, o)] → XO P n w0 env (B ++ H) ops rest Q) : XO P n w0 env ((b, o) :: H) ops rest Q := h _ rfl
/-- The same, of a map in a segment. -/
theorem con_sortedKeysJ (LK : SlLaysZI.n10 P ρ) (LS : SlLaysZI.n6 P ρ) (LM : SlLaysM.n5 P ρm) (hf : ρm.f 5 = ρ.f 9) (e9 : Enters P (ρ.f 9)) (e10 : Enters P (ρ.f 10))
    {w : World} {Bm : Nat} {T : TypeId} {v : Value} {B : GH} {d : List (Int × α)} (hm : w.heap[Bm]? = some (BK 1 (fun _ => v) T)) (hJ : MJ kI cv ieq B v d) (hB : ∀ x ∈ B, w.heap[x.1]? = some x.2) (hP : skeysP d) :
    Con P (ρ.f 6) #[.func (.func (ρ.f 10)) #[] #[.pointer (some ⟨Bm, 0, none⟩)]] w (fun v F => ∃ (u : Value) (C : GH), v = u ∧ F = (C ++ []) ∧ OJ (ρ.t 26) 1 ic C u (skeys d) ∧ Cov w [] C) := by
  obtain ⟨b, o, rfl, rfl, hM⟩ := hJ
  exact (con_sortedKeys LK LS LM hf e9 e10 hm (hB (b, o) (List.mem_singleton.2 rfl)) hM hP).mono fun v F ⟨u, C, h1, h2, h3⟩ => ⟨u, C, h1, by simp [h2], h3⟩
end
end Go.E
/- Maps whose keys are integers, in plain words; the keys, rising; lists that are rising. -/
namespace Go.E
open Go
section
variable {α : Type}
def Uniq (d : List (Int × α)) : Prop := (d.map (·.1)).Nodup
theorem mhas_mem {d : List (Int × α)} {k : Int} : mhas ieq d k = true ↔ k ∈ d.map (·.1) := by
  induction d with
  | nil => simp [mhas, mfind]
  | cons p d ih =>
    unfold mhas at ih ⊢
    simp only [mfind, List.map_cons, List.mem_cons]
    by_cases h : k = p.1
    · simp [ieq, h]
    · have : ieq k p.1 = false := by simp [ieq, h]
      rw [this]
      simp [h, ih]
theorem keys_mset (d : List (Int × α)) (k : Int) (v : α) : (mset ieq d k v).map (·.1) = if k ∈ d.map (·.1) then d.map (·.1) else d.map (·.1) ++ [k] := by
  induction d with
  | nil => simp [mset]
  | cons p d ih =>
    simp only [mset]
    by_cases h : k = p.1
    · simp [ieq, h]
    · have h' : ieq k p.1 = false := by simp [ieq, h]
      rw [h']
      simp only [Bool.false_eq_true, if_false, List.map_cons, ih, List.mem_cons, h, false_or]
      split <;> simp
theorem uniq_mset {d : List (Int × α)} (h : Uniq d) (k : Int) (v : α) : Uniq (mset ieq d k v) := by
  unfold Uniq at h ⊢
  rw [keys_mset]
  split
  · exact h
  · rename_i hk
    exact List.nodup_append.2 ⟨h, by simp, fun a ha b hb => by simp only [List.mem_singleton] at hb; subst hb; exact fun e => hk (e ▸ ha)⟩
theorem len_mset (d : List (Int × α)) (k : Int) (v : α) : (mset ieq d k v).length ≤ d.length + 1 := by
  have := congrArg List.length (keys_mset d k v)
  rw [List.length_map] at this
  rw [this]
  split <;> simp
theorem mem_mset {d : List (Int × α)} {k : Int} {v : α} {p : Int × α} (h : p ∈ mset ieq d k v) : p = (k, v) ∨ p ∈ d := by
  induction d with
  | nil => simp [mset] at h; exact .inl h
  | cons q d ih =>
    simp only [mset] at h
    by_cases hk : k = q.1
    · have : ieq k q.1 = true := by simp [ieq, hk]
      rw [this] at h
      simp only [if_true, List.mem_cons] at h
      rcases h with h | h
      · exact .inl (by rw [h, hk])
      · exact .inr (List.mem_cons_of_mem _ h)
    · have : ieq k q.1 = false := by simp [ieq, hk]
      rw [this] at h
      simp only [Bool.false_eq_true, if_false, List.mem_cons] at h
      rcases h with h | h
      · exact .inr (by rw [h]; exact List.mem_cons_self)
      · exact (ih h).imp id (List.mem_cons_of_mem _)
theorem mem_of_mfind {d : List (Int × α)} {k : Int} {v : α} (h : mfind ieq d k = some v) : (k, v) ∈ d := by
  induction d with
  | nil => simp [mfind] at h
  | cons p d ih =>
    simp only [mfind] at h
    by_cases hk : k = p.1
    · have : ieq k p.1 = true := by simp [ieq, hk]
      rw [this] at h
      simp only [if_true, Option.some.injEq] at h
      rw [hk, ← h]; exact List.mem_cons_self
    · have : ieq k p.1 = false := by simp [ieq, hk]
      rw [this] at h
      exact List.mem_cons_of_mem _ (ih (by simpa using h))
theorem mhas_mfind {d : List (Int × α)} {k : Int} : mhas ieq d k = (mfind ieq d k).isSome := rfl
theorem mget_mfind {d : List (Int × α)} {k : Int} {z : α} : mget ieq d k z = (mfind ieq d k).getD z := rfl
theorem mfind_mset' (d : List (Int × α)) (k : Int) (v : α) (k' : Int) : mfind ieq (mset ieq d k v) k' = if k' = k then some v else mfind ieq d k' := by
  rw [mfind_mset eqk_int]
  simp [ieq]
/-! ### The keys, rising -/
theorem mem_skeys {d : List (Int × α)} {k : Int} : k ∈ skeys d ↔ mhas ieq d k = true := by
  unfold skeys
  rw [List.mem_mergeSort, mhas_mem]
theorem sorted_lt {l : List Int} (h : l.Pairwise (fun a b => a ≤ b)) (hn : l.Nodup) : l.Pairwise (fun a b => a < b) := by
  refine (List.Pairwise.and h hn).imp ?_
  rintro a b ⟨h1, h2⟩
  omega
theorem rising_skeys {d : List (Int × α)} (h : Uniq d) : (skeys d).Pairwise (fun a b => a < b) := by
  refine sorted_lt ?_ ?_
  · have := List.pairwise_mergeSort (le := leI) (fun a b c h1 h2 => by simp only [leI, decide_eq_true_eq] at *; omega) (fun a b => by simp only [leI, Bool.or_eq_true, decide_eq_true_eq]; omega) (d.map (·.1))
    exact this.imp fun h => by simpa [leI] using h
  · exact (List.mergeSort_perm _ _).nodup_iff.2 h
theorem rising_ext {l l' : List Int} (h : l.Pairwise (fun a b => a < b)) (h' : l'.Pairwise (fun a b => a < b)) (hm : ∀ x, x ∈ l ↔ x ∈ l') : l = l' := by
  have n : ∀ {l : List Int}, l.Pairwise (fun a b => a < b) → l.Nodup := fun h => h.imp fun h => by omega
  refine List.Perm.eq_of_pairwise (le := fun a b => a < b) (fun a b _ _ h1 h2 => by omega) h h' ?_
  exact (List.perm_ext_iff_of_nodup (n h) (n h')).2 hm
theorem skeys_eq {d : List (Int × α)} (hu : Uniq d) {l : List Int} (hl : l.Pairwise (fun a b => a < b)) (h : ∀ x, x ∈ l ↔ mhas ieq d x = true) : skeys d = l :=
  rising_ext (rising_skeys hu) hl fun x => by rw [mem_skeys, h]
end
/-! ### Lists that grow round by round -/
theorem filter_take {α : Type} [Inhabited α] (l : List α) (p : α → Bool) (k : Nat) (hk : k < l.length) : (l.take (k + 1)).filter p = (l.take k).filter p ++ (if p (l[k]!) = true then [l[k]!] else []) := by
  rw [List.take_add_one, List.getElem?_eq_getElem hk, List.filter_append, getElem!_pos l k hk]
  by_cases h : p l[k] = true <;> simp [h]
theorem flatMap_take {α β : Type} [Inhabited α] (l : List α) (f : α → List β) (k : Nat) (hk : k < l.length) : (l.take (k + 1)).flatMap f = (l.take k).flatMap f ++ f (l[k]!) := by
  rw [List.take_add_one, List.getElem?_eq_getElem hk, List.flatMap_append, getElem!_pos l k hk]
  simp
theorem take_len {α : Type} (l : List α) : l.take l.length = l := List.take_of_length_le (Nat.le_refl _)
theorem mem_at {α : Type} [Inhabited α] {l : List α} {k : Nat} (hk : k < l.length) : l[k]! ∈ l := by
  rw [getElem!_pos l k hk]; exact List.getElem_mem hk
theorem at_mem' {α : Type} [Inhabited α] {l : List α} {i : Int} (h : 0 ≤ i ∧ i < l.length) : l[i.toNat]! ∈ l := mem_at (by omega)
end Go.E
/- What functions of the program say, as relations. -/
namespace Go.E
open Go
def gnext_l1 (l0 : (List (Nat → Int))) (from1 : Int) (to5 : (List (Int × Bool))) (x11 : Int) (o : ((List (Int × Bool)) × Int) ⊕ ((List (Int × Bool)))) : Prop :=
  if x11 < (l0.length : Int) then
    (0 ≤ x11 ∧ x11 < l0.length) ∧ (
    if (l0[x11.toNat]!) 0 = from1 then
      (inI64 (x11 + 1)) ∧ (
      o = (.inl (mset ieq to5 ((l0[x11.toNat]!) 2) true, x11 + 1)))
    else
      (inI64 (x11 + 1)) ∧ (
      o = (.inl (to5, x11 + 1))))
  else
    o = (.inr to5)
def gnext_k1a (to5 : (List (Int × Bool))) (r : (List Int)) : Prop :=
  (skeysP to5) ∧ (
  r = ((skeys to5)))
def gnext_S (l0 : (List (Nat → Int))) (from1 : Int) (r : (List Int)) : Prop :=
  ∃ x : (List (Int × Bool)), Wh (fun (s : (List (Int × Bool)) × Int) (o : ((List (Int × Bool)) × Int) ⊕ ((List (Int × Bool)))) => gnext_l1 l0 from1 s.1 s.2 o) (([], 0) : (List (Int × Bool)) × Int) x ∧ gnext_k1a x r
def gnodes_l1 (l0 : (List (Nat → Int))) (all3 : (List (Int × Bool))) (x9 : Int) (o : ((List (Int × Bool)) × Int) ⊕ ((List (Int × Bool)))) : Prop :=
  if x9 < (l0.length : Int) then
    (0 ≤ x9 ∧ x9 < l0.length) ∧ (
    (inI64 (x9 + 1)) ∧ (
    o = (.inl (mset ieq (mset ieq all3 ((l0[x9.toNat]!) 0) true) ((l0[x9.toNat]!) 2) true, x9 + 1))))
  else
    o = (.inr all3)
def gnodes_k1a (all3 : (List (Int × Bool))) (r : (List Int)) : Prop :=
  (skeysP all3) ∧ (
  r = ((skeys all3)))
def gnodes_S (l0 : (List (Nat → Int))) (r : (List Int)) : Prop :=
  ∃ x : (List (Int × Bool)), Wh (fun (s : (List (Int × Bool)) × Int) (o : ((List (Int × Bool)) × Int) ⊕ ((List (Int × Bool)))) => gnodes_l1 l0 s.1 s.2 o) (([], 0) : (List (Int × Bool)) × Int) x ∧ gnodes_k1a x r
def hasI_l1 (s0 : (List Int)) (v1 : Int) (x8 : Int) (o : (Int) ⊕ ((Unit) ⊕ (Int))) : Prop :=
  if x8 < (s0.length : Int) then
    (0 ≤ x8 ∧ x8 < s0.length) ∧ (
    if v1 = s0[x8.toNat]! then
      o = (.inr (.inr x8))
    else
      (inI64 (x8 + 1)) ∧ (
      o = (.inl (x8 + 1))))
  else
    o = (.inr (.inl ()))
def hasI_k1a (r : Bool) : Prop :=
  r = (false)
def hasI_k1b (x4 : Int) (r : Bool) : Prop :=
  r = (decide (0 ≤ x4))
def hasI_S (s0 : (List Int)) (v1 : Int) (r : Bool) : Prop :=
  ∃ x : (Unit) ⊕ (Int), Wh (fun (s : Int) (o : (Int) ⊕ ((Unit) ⊕ (Int))) => hasI_l1 s0 v1 s o) (0 : Int) x ∧ (match x with | .inl _ => hasI_k1a r | .inr x4 => hasI_k1b x4 r)
def ints_l1 (a0 : (List Int)) (b1 : (List Int)) (i5 : Int) (o : (Int) ⊕ ((Unit) ⊕ (Unit))) : Prop :=
  if i5 < (a0.length : Int) then
    (0 ≤ i5 ∧ i5 < a0.length) ∧ (
    (0 ≤ i5 ∧ i5 < b1.length) ∧ (
    if a0[i5.toNat]! = b1[i5.toNat]! then
      (inI64 (i5 + 1)) ∧ (
      o = (.inl (i5 + 1)))
    else
      o = (.inr (.inr ()))))
  else
    o = (.inr (.inl ()))
def ints_k1a (r : Bool) : Prop :=
  r = (true)
def ints_k1b (r : Bool) : Prop :=
  r = (false)
def ints_S (a0 : (List Int)) (b1 : (List Int)) (r : Bool) : Prop :=
  if (a0.length : Int) = (b1.length : Int) then
    ∃ x : (Unit) ⊕ (Unit), Wh (fun (s : Int) (o : (Int) ⊕ ((Unit) ⊕ (Unit))) => ints_l1 a0 b1 s o) (0 : Int) x ∧ (match x with | .inl _ => ints_k1a r | .inr _ => ints_k1b r)
  else
    r = (false)
def risingR_l2 (l0 : (List Int)) (out3 : (List Int)) (i4 : Int) (at5 : Int) (o : (Int) ⊕ (Int)) : Prop :=
  (((decide (at5 < (out3.length : Int))) = true) → 0 ≤ at5 ∧ at5 < out3.length) ∧ (((decide (at5 < (out3.length : Int))) = true) → 0 ≤ i4 ∧ i4 < l0.length) ∧ (
  if ((decide (at5 < (out3.length : Int))) && (decide (out3[at5.toNat]! < l0[i4.toNat]!))) = true then
    (inI64 (at5 + 1)) ∧ (
    o = (.inl (at5 + 1)))
  else
    o = (.inr at5))
def risingR_k2a (l0 : (List Int)) (out3 : (List Int)) (i4 : Int) (at5 : Int) (o : ((List Int) × Int) ⊕ ((List Int))) : Prop :=
  (((decide (at5 < (out3.length : Int))) = true) → 0 ≤ at5 ∧ at5 < out3.length) ∧ (((decide (at5 < (out3.length : Int))) = true) → 0 ≤ i4 ∧ i4 < l0.length) ∧ (
  if ((decide (at5 < (out3.length : Int))) && (decide (out3[at5.toNat]! = l0[i4.toNat]!))) = true then
    (inI64 (i4 + 1)) ∧ (
    o = (.inl (out3, i4 + 1)))
  else
    (
      (0 ≤ at5 ∧ at5 ≤ out3.length) ∧ (
      (0 ≤ i4 ∧ i4 < l0.length) ∧ (
      (0 ≤ at5 ∧ at5 ≤ out3.length) ∧ (
      ((0 + ((out3.take at5.toNat).drop 0).length) * 8 ≤ 140737488355328) ∧ (
      ((([] ++ (out3.take at5.toNat).drop 0).length + 1) * 8 ≤ 140737488355328) ∧ (
      (((([] ++ (out3.take at5.toNat).drop 0) ++ [l0[i4.toNat]!]).length + ((out3.take out3.length).drop at5.toNat).length) * 8 ≤ 140737488355328) ∧ (
      True))))))) ∧ (
    (inI64 (i4 + 1)) ∧ (
    o = (.inl (((([] ++ (out3.take at5.toNat).drop 0) ++ [l0[i4.toNat]!]) ++ (out3.take out3.length).drop at5.toNat), i4 + 1)))))
def risingR_l1 (l0 : (List Int)) (out3 : (List Int)) (i4 : Int) (o : ((List Int) × Int) ⊕ ((List Int))) : Prop :=
  if i4 < (l0.length : Int) then
    ∃ x : Int, Wh (fun (s : Int) (o : (Int) ⊕ (Int)) => risingR_l2 l0 out3 i4 s o) (0 : Int) x ∧ risingR_k2a l0 out3 i4 x o
  else
    o = (.inr out3)
def risingR_k1a (out3 : (List Int)) (r : (List Int)) : Prop :=
  r = (out3)
def risingR_S (l0 : (List Int)) (r : (List Int)) : Prop :=
  ∃ x : (List Int), Wh (fun (s : (List Int) × Int) (o : ((List Int) × Int) ⊕ ((List Int))) => risingR_l1 l0 s.1 s.2 o) (([], 0) : (List Int) × Int) x ∧ risingR_k1a x r
def hasR_l1 (l0 : (List Int)) (n1 : Int) (i5 : Int) (o : (Int) ⊕ ((Unit) ⊕ (Unit))) : Prop :=
  if i5 < (l0.length : Int) then
    (0 ≤ i5 ∧ i5 < l0.length) ∧ (
    if l0[i5.toNat]! = n1 then
      o = (.inr (.inr ()))
    else
      (inI64 (i5 + 1)) ∧ (
      o = (.inl (i5 + 1))))
  else
    o = (.inr (.inl ()))
def hasR_k1a (r : Bool) : Prop :=
  r = (false)
def hasR_k1b (r : Bool) : Prop :=
  r = (true)
def hasR_S (l0 : (List Int)) (n1 : Int) (r : Bool) : Prop :=
  ∃ x : (Unit) ⊕ (Unit), Wh (fun (s : Int) (o : (Int) ⊕ ((Unit) ⊕ (Unit))) => hasR_l1 l0 n1 s o) (0 : Int) x ∧ (match x with | .inl _ => hasR_k1a r | .inr _ => hasR_k1b r)
def edgeR_l1 (l0 : (List (Nat → Int))) (from1 : Int) (to2 : Int) (i7 : Int) (o : (Int) ⊕ ((Unit) ⊕ (Unit))) : Prop :=
  if i7 < (l0.length : Int) then
    (0 ≤ i7 ∧ i7 < l0.length) ∧ (((decide (l0[i7.toNat]! 0 = from1)) = true) → 0 ≤ i7 ∧ i7 < l0.length) ∧ (
    if ((decide (l0[i7.toNat]! 0 = from1)) && (decide (l0[i7.toNat]! 2 = to2))) = true then
      o = (.inr (.inr ()))
    else
      (inI64 (i7 + 1)) ∧ (
      o = (.inl (i7 + 1))))
  else
    o = (.inr (.inl ()))
def edgeR_k1a (r : Bool) : Prop :=
  r = (false)
def edgeR_k1b (r : Bool) : Prop :=
  r = (true)
def edgeR_S (l0 : (List (Nat → Int))) (from1 : Int) (to2 : Int) (r : Bool) : Prop :=
  ∃ x : (Unit) ⊕ (Unit), Wh (fun (s : Int) (o : (Int) ⊕ ((Unit) ⊕ (Unit))) => edgeR_l1 l0 from1 to2 s o) (0 : Int) x ∧ (match x with | .inl _ => edgeR_k1a r | .inr _ => edgeR_k1b r)
end Go.E
/- Rising lists of numbers, in plain words; folds. -/
namespace Go.E
open Go
theorem foldl_take {α σ : Type} [Inhabited α] (f : σ → α → σ) (z : σ) (l : List α) (k : Nat) (hk : k < l.length) : (l.take (k + 1)).foldl f z = f ((l.take k).foldl f z) (l[k]!) := by
  rw [List.take_add_one, List.getElem?_eq_getElem hk, List.foldl_append, getElem!_pos l k hk]
  rfl
/-! ### Rising lists -/
def insI (x : Int) : List Int → List Int
  | [] => [x]
  | y :: r => if y < x then y :: insI x r else if y = x then y :: r else x :: y :: r
def rising_F (l : List Int) : List Int := l.foldl (fun out x => insI x out) []
def rising_P (l : List Int) : Prop := l.length ≤ 1000000000
theorem mem_insI {x y : Int} {l : List Int} : y ∈ insI x l ↔ y = x ∨ y ∈ l := by
  induction l with
  | nil => simp [insI]
  | cons z l ih =>
    unfold insI
    split
    · simp only [List.mem_cons, ih]
      constructor
      · rintro (h | h | h)
        · exact .inr (.inl h)
        · exact .inl h
        · exact .inr (.inr h)
      · rintro (h | h | h)
        · exact .inr (.inl h)
        · exact .inl h
        · exact .inr (.inr h)
    · split
      · rename_i h1 h2
        simp only [List.mem_cons]
        constructor
        · exact .inr
        · rintro (h | h)
          · exact .inl (by omega)
          · exact h
      · simp only [List.mem_cons]
theorem rising_insI {x : Int} {l : List Int} (h : l.Pairwise fun a b => a < b) : (insI x l).Pairwise fun a b => a < b := by
  induction l with
  | nil => simp [insI]
  | cons z l ih =>
    have hz := List.pairwise_cons.1 h
    unfold insI
    split
    · rename_i h1
      refine List.pairwise_cons.2 ⟨fun y hy => ?_, ih hz.2⟩
      rcases mem_insI.1 hy with rfl | hy
      · exact h1
      · exact hz.1 y hy
    · split
      · exact h
      · rename_i h1 h2
        refine List.pairwise_cons.2 ⟨fun y hy => ?_, h⟩
        rcases List.mem_cons.1 hy with rfl | hy
        · omega
        · have := hz.1 y hy; omega
theorem len_insI (x : Int) (l : List Int) : (insI x l).length ≤ l.length + 1 := by
  induction l with
  | nil => simp [insI]
  | cons z l ih =>
    unfold insI
    split
    · simp only [List.length_cons]; omega
    · split <;> simp
theorem mem_rising {x : Int} {l : List Int} : x ∈ rising_F l ↔ x ∈ l := by
  have key : ∀ (l out : List Int), x ∈ l.foldl (fun out x => insI x out) out ↔ x ∈ out ∨ x ∈ l := by
    intro l
    induction l with
    | nil => intro out; simp
    | cons y l ih =>
      intro out
      rw [List.foldl_cons, ih, mem_insI, List.mem_cons]
      constructor
      · rintro ((h | h) | h)
        · exact .inr (.inl h)
        · exact .inl h
        · exact .inr (.inr h)
      · rintro (h | h | h)
        · exact .inl (.inr h)
        · exact .inl (.inl h)
        · exact .inr h
  unfold rising_F
  rw [key]
  simp
theorem rising_rising (l : List Int) : (rising_F l).Pairwise fun a b => a < b := by
  have key : ∀ (l out : List Int), (out.Pairwise fun a b => a < b) → (l.foldl (fun out x => insI x out) out).Pairwise fun a b => a < b := by
    intro l
    induction l with
    | nil => intro out h; exact h
    | cons y l ih => intro out h; rw [List.foldl_cons]; exact ih _ (rising_insI h)
  exact key l [] List.Pairwise.nil
theorem len_rising (l : List Int) : (rising_F l).length ≤ l.length := by
  have key : ∀ (l out : List Int), (l.foldl (fun out x => insI x out) out).length ≤ out.length + l.length := by
    intro l
    induction l with
    | nil => intro out; simp
    | cons y l ih =>
      intro out
      rw [List.foldl_cons, List.length_cons]
      have := ih (insI y out)
      have := len_insI y out
      omega
  have := key l []
  simpa [rising_F] using this
/-- Where a number goes. -/
def spot (x : Int) : List Int → Nat
  | [] => 0
  | y :: r => if y < x then spot x r + 1 else 0
theorem spot_le (x : Int) (l : List Int) : spot x l ≤ l.length := by
  induction l with
  | nil => simp [spot]
  | cons y r ih => unfold spot; split <;> simp; omega
theorem spot_lt {x : Int} {l : List Int} {k : Nat} (h : k < spot x l) : l[k]! < x := by
  induction l generalizing k with
  | nil => simp [spot] at h
  | cons y r ih =>
    unfold spot at h
    split at h
    · cases k with
      | zero => simpa
      | succ k => simpa using ih (by omega)
    · omega
theorem spot_at {x : Int} {l : List Int} (h : spot x l < l.length) : ¬ l[spot x l]! < x := by
  induction l with
  | nil => simp at h
  | cons y r ih =>
    unfold spot at h ⊢
    split
    · rename_i hy
      rw [if_pos hy] at h
      simp only [List.length_cons] at h
      simpa using ih (by omega)
    · rename_i hy
      simpa using hy
theorem insI_spot (x : Int) (l : List Int) : insI x l = if spot x l < l.length ∧ l[spot x l]! = x then l else l.take (spot x l) ++ [x] ++ l.drop (spot x l) := by
  induction l with
  | nil => simp [insI, spot]
  | cons y r ih =>
    unfold insI spot
    by_cases h : y < x
    · rw [if_pos h, if_pos h, ih]
      simp only [List.length_cons, Nat.add_lt_add_iff_right, List.take_succ_cons, List.drop_succ_cons]
      have : (y :: r)[spot x r + 1]! = r[spot x r]! := by simp
      rw [this]
      split <;> simp
    · rw [if_neg h, if_neg h]
      by_cases h2 : y = x
      · rw [if_pos h2, if_pos ⟨by simp, by simpa using h2⟩]
      · rw [if_neg h2, if_neg (fun h => h2 (by simpa using h.2))]
        simp
/-! ### The same numbers; numbers in a list -/
def ints_F (a b : List Int) : Bool := decide (a = b)
def ints_P (a _ : List Int) : Prop := a.length < 9000000000000000000
theorem ints_self (a : List Int) : ints_F a a = true := by simp [ints_F]
theorem all_eq {a b : List Int} (hl : a.length = b.length) : (List.range a.length).all (fun k => decide (a[k]! = b[k]!)) = decide (a = b) := by
  rw [Bool.eq_iff_iff, List.all_eq_true, decide_eq_true_eq]
  constructor
  · intro h
    refine List.ext_getElem hl fun i h1 h2 => ?_
    have := h i (List.mem_range.2 h1)
    rwa [decide_eq_true_eq, getElem!_pos a i h1, getElem!_pos b i h2] at this
  · rintro rfl
    exact fun i _ => by simp
def hasI_F (s : List Int) (v : Int) : Bool := decide (v ∈ s)
def hasI_P (s : List Int) (_ : Int) : Prop := s.length ≤ 1000000000
theorem any_has (s : List Int) (v : Int) : s.any (fun x => decide (v = x)) = hasI_F s v := by
  unfold hasI_F
  rw [Bool.eq_iff_iff, List.any_eq_true, decide_eq_true_eq]
  constructor
  · rintro ⟨x, hx, h⟩
    rw [decide_eq_true_eq] at h
    rw [h]; exact hx
  · exact fun h => ⟨v, h, by simp⟩
def ends2 (l : List (Nat → Int)) : List Int := l.flatMap fun e => [e 0, e 2]
theorem len_ends2 (l : List (Nat → Int)) : (ends2 l).length = 2 * l.length := by
  unfold ends2
  induction l with
  | nil => rfl
  | cons e l ih => rw [List.flatMap_cons, List.length_append, ih]; simp; omega
end Go.E
/- Edges: what stands at them; the parts of the chapter that stand alone. -/
namespace Go.E
open Go
theorem ints_ok (a b : List Int) (h : ints_P a b) : ints_S a b (ints_F a b) := by
  unfold ints_P at h
  unfold ints_S ints_F
  by_cases hl : a.length = b.length
  · rw [if_pos (by omega)]
    have := Wh.all (f := fun (s : Int) (o : Int ⊕ (Unit ⊕ Unit)) => ints_l1 a b s o) a.length (fun k => decide (a[k]! = b[k]!)) (.inl ()) (.inr ()) (fun k hk hp => by
        unfold ints_l1
        rw [if_pos (by omega)]
        refine ⟨⟨by omega, by omega⟩, ⟨by omega, by omega⟩, ?_⟩
        rw [Int.toNat_natCast, if_pos (by simpa using hp)]
        exact ⟨step1 (by omega), rfl⟩) (fun k hk hp => by
        unfold ints_l1
        rw [if_pos (by omega)]
        refine ⟨⟨by omega, by omega⟩, ⟨by omega, by omega⟩, ?_⟩
        rw [Int.toNat_natCast, if_neg (by simpa using hp)]) (by
        unfold ints_l1
        rw [if_neg (by omega)])
    refine ⟨_, this, ?_⟩
    rw [all_eq hl]
    by_cases hab : a = b
    · rw [decide_eq_true hab, if_pos rfl]; rfl
    · rw [decide_eq_false hab, if_neg (by decide)]; rfl
  · rw [if_neg (by omega), decide_eq_false (fun e => hl (by rw [e]))]
theorem hasI_ok (s : List Int) (v : Int) (h : hasI_P s v) : hasI_S s v (hasI_F s v) := by
  unfold hasI_P at h
  unfold hasI_S
  obtain ⟨r, hr, h2⟩ := Wh.find (f := fun (t : Int) (o : (Int) ⊕ ((Unit) ⊕ (Int))) => hasI_l1 s v t o) s.length (fun k => decide (v = s[k]!)) (.inl ()) (fun k => .inr (k : Int)) (fun k hk hp => by
      unfold hasI_l1
      rw [if_pos (by omega), Int.toNat_natCast, if_neg (by simpa using hp)]
      exact ⟨⟨by omega, by omega⟩, step1 (by omega), rfl⟩) (fun k hk hp => by
      unfold hasI_l1
      rw [if_pos (by omega), Int.toNat_natCast, if_pos (by simpa using hp)]
      exact ⟨⟨by omega, by omega⟩, rfl⟩) (by
      unfold hasI_l1
      rw [if_neg (by omega)])
  refine ⟨r, hr, ?_⟩
  rw [any_range s fun x => decide (v = x), any_has] at h2
  rcases h2 with ⟨rfl, h2⟩ | ⟨k, hk, rfl, h2⟩
  · rw [h2]; rfl
  · rw [h2]
    show hasI_k1b (k : Int) true
    unfold hasI_k1b
    rw [decide_eq_true (by omega)]
def hasR_F (s : List Int) (v : Int) : Bool := decide (v ∈ s)
def hasR_P (s : List Int) (_ : Int) : Prop := s.length ≤ 1000000000
theorem hasR_ok (s : List Int) (v : Int) (h : hasR_P s v) : hasR_S s v (hasR_F s v) := by
  unfold hasR_P at h
  unfold hasR_S
  obtain ⟨r, hr, h2⟩ := Wh.find (f := fun (t : Int) (o : (Int) ⊕ ((Unit) ⊕ (Unit))) => hasR_l1 s v t o) s.length (fun k => decide (v = s[k]!)) (.inl ()) (fun k => .inr ()) (fun k hk hp => by
      unfold hasR_l1
      rw [if_pos (by omega), Int.toNat_natCast, if_neg (by simpa [eq_comm] using hp)]
      exact ⟨⟨by omega, by omega⟩, step1 (by omega), rfl⟩) (fun k hk hp => by
      unfold hasR_l1
      rw [if_pos (by omega), Int.toNat_natCast, if_pos (by simpa [eq_comm] using hp)]
      exact ⟨⟨by omega, by omega⟩, rfl⟩) (by
      unfold hasR_l1
      rw [if_neg (by omega)])
  refine ⟨r, hr, ?_⟩
  rw [any_range s fun x => decide (v = x), any_has] at h2
  rcases h2 with ⟨rfl, h2⟩ | ⟨k, hk, rfl, h2⟩
  · have : hasR_F s v = false := h2
    rw [this]; rfl
  · have : hasR_F s v = true := h2
    rw [this]; rfl
def edgeR_F (l : List (Nat → Int)) (a b : Int) : Bool := l.any fun e => (decide (e 0 = a)) && (decide (e 2 = b))
def edgeR_P (l : List (Nat → Int)) (_ _ : Int) : Prop := l.length ≤ 1000000000
theorem edgeR_ok (l : List (Nat → Int)) (a b : Int) (h : edgeR_P l a b) : edgeR_S l a b (edgeR_F l a b) := by
  unfold edgeR_P at h
  unfold edgeR_S edgeR_F
  obtain ⟨r, hr, h2⟩ := Wh.find (f := fun (t : Int) (o : (Int) ⊕ ((Unit) ⊕ (Unit))) => edgeR_l1 l a b t o) l.length (fun k => (decide (l[k]! 0 = a)) && (decide (l[k]! 2 = b))) (.inl ()) (fun k => .inr ()) (fun k hk hp => by
      unfold edgeR_l1
      rw [if_pos (by omega), Int.toNat_natCast, if_neg (by rw [hp]; decide)]
      exact ⟨⟨by omega, by omega⟩, fun _ => ⟨by omega, by omega⟩, step1 (by omega), rfl⟩) (fun k hk hp => by
      unfold edgeR_l1
      rw [if_pos (by omega), Int.toNat_natCast, if_pos hp]
      exact ⟨⟨by omega, by omega⟩, fun _ => ⟨by omega, by omega⟩, rfl⟩) (by
      unfold edgeR_l1
      rw [if_neg (by omega)])
  refine ⟨r, hr, ?_⟩
  rw [any_range l fun e => (decide (e 0 = a)) && (decide (e 2 = b))] at h2
  rcases h2 with ⟨rfl, h2⟩ | ⟨k, hk, rfl, h2⟩
  · rw [h2]; rfl
  · rw [h2]; rfl
/-! ### Sets of numbers -/
theorem mhas_mset' {α : Type} (d : List (Int × α)) (k : Int) (v : α) (x : Int) : mhas ieq (mset ieq d k v) x = true ↔ x = k ∨ mhas ieq d x = true := by
  rw [mhas_mfind, mfind_mset', mhas_mfind]
  by_cases h : x = k
  · simp [h]
  · simp [h]
def setOf (l : List Int) : List (Int × Bool) := l.foldl (fun d x => mset ieq d x true) []
theorem setOf_snoc (l : List Int) (x : Int) : setOf (l ++ [x]) = mset ieq (setOf l) x true := by
  unfold setOf
  rw [List.foldl_append]; rfl
theorem setOf_spec (l : List Int) : Uniq (setOf l) ∧ (setOf l).length ≤ l.length ∧ (∀ x, mhas ieq (setOf l) x = true ↔ x ∈ l) ∧ ∀ p ∈ setOf l, p.1 ∈ l := by
  suffices h : ∀ r : List Int, Uniq (setOf r.reverse) ∧ (setOf r.reverse).length ≤ r.length ∧ (∀ x, mhas ieq (setOf r.reverse) x = true ↔ x ∈ r) ∧ ∀ p ∈ setOf r.reverse, p.1 ∈ r by
    have := h l.reverse
    simpa using this
  intro r
  induction r with
  | nil => exact ⟨List.nodup_nil, Nat.zero_le _, fun x => by simp [setOf, mhas, mfind], fun p hp => by simp [setOf] at hp⟩
  | cons y r ih =>
    obtain ⟨h1, h2, h3, h4⟩ := ih
    rw [List.reverse_cons, setOf_snoc]
    refine ⟨uniq_mset h1 _ _, ?_, fun x => ?_, fun p hp => ?_⟩
    · have := len_mset (setOf r.reverse) y true
      simp only [List.length_cons]; omega
    · rw [mhas_mset', h3, List.mem_cons]
    · rcases mem_mset hp with rfl | hp
      · exact List.mem_cons_self
      · exact List.mem_cons_of_mem _ (h4 p hp)
theorem skeys_setOf (l : List Int) : skeys (setOf l) = rising_F l :=
  skeys_eq (setOf_spec l).1 (rising_rising l) fun x => by rw [mem_rising, (setOf_spec l).2.2.1]
theorem setOf_P {l : List Int} (h : ∀ x ∈ l, inI64 x) (hl : l.length ≤ 1000000) : skeysP (setOf l) :=
  ⟨fun p hp => h _ ((setOf_spec l).2.2.2 p hp), by have := (setOf_spec l).2.1; omega⟩
/-- Edges whose numbers are numbers. -/
def Edges (l : List (Nat → Int)) : Prop := l.length ≤ 100000 ∧ ∀ e ∈ l, inI64 (e 0) ∧ inI64 (e 2)
def outs (l : List (Nat → Int)) (a : Int) : List Int := (l.filter fun e => decide (e 0 = a)).map fun e => e 2
def gnext_F (l : List (Nat → Int)) (a : Int) : List Int := rising_F (outs l a)
def gnext_P (l : List (Nat → Int)) (_ : Int) : Prop := Edges l
theorem mem_outs {l : List (Nat → Int)} {a b : Int} : b ∈ outs l a ↔ ∃ e ∈ l, e 0 = a ∧ e 2 = b := by
  unfold outs
  rw [List.mem_map]
  constructor
  · rintro ⟨e, he, rfl⟩
    rw [List.mem_filter, decide_eq_true_eq] at he
    exact ⟨e, he.1, he.2, rfl⟩
  · rintro ⟨e, he, h1, h2⟩
    exact ⟨e, List.mem_filter.2 ⟨he, by simpa using h1⟩, h2⟩
theorem len_outs (l : List (Nat → Int)) (a : Int) : (outs l a).length ≤ l.length := by
  unfold outs
  rw [List.length_map]
  exact List.length_filter_le _ _
theorem gnext_ok (l : List (Nat → Int)) (a : Int) (h : gnext_P l a) : gnext_S l a (gnext_F l a) := by
  obtain ⟨hl, hr⟩ := h
  unfold gnext_S
  refine ⟨setOf (outs l a), ?_, ?_⟩
  · have := Wh.upto (f := fun (s : (List (Int × Bool)) × Int) (o : ((List (Int × Bool)) × Int) ⊕ ((List (Int × Bool)))) => gnext_l1 l a s.1 s.2 o) (fun k : Nat => (setOf (outs (l.take k) a), (k : Int))) l.length (r := setOf (outs l a)) (fun k hk => by
      dsimp only
      unfold gnext_l1
      have e : outs (l.take (k + 1)) a = outs (l.take k) a ++ if decide (l[k]! 0 = a) = true then [l[k]! 2] else [] := by
        unfold outs
        rw [filter_take _ _ _ hk, List.map_append]
        split <;> rfl
      rw [if_pos (by omega), Int.toNat_natCast, e]
      refine ⟨⟨by omega, by omega⟩, ite_intro (fun h1 => ?_) fun h1 => ?_⟩
      · rw [if_pos (by simpa using h1), setOf_snoc]
        exact ⟨⟨by omega, by omega⟩, rfl⟩
      · rw [if_neg (by simpa using h1), List.append_nil]
        exact ⟨⟨by omega, by omega⟩, rfl⟩) (by
      dsimp only
      unfold gnext_l1
      rw [if_neg (by omega), take_len])
    simpa [outs, setOf] using this
  · unfold gnext_k1a gnext_F
    rw [skeys_setOf]
    refine ⟨setOf_P (fun x hx => ?_) (by have := len_outs l a; omega), rfl⟩
    obtain ⟨e, he, _, rfl⟩ := mem_outs.1 hx
    exact (hr e he).2
def gnodes_F (l : List (Nat → Int)) : List Int := rising_F (ends2 l)
def gnodes_P (l : List (Nat → Int)) : Prop := Edges l
theorem ends2_take (l : List (Nat → Int)) (k : Nat) (hk : k < l.length) : ends2 (l.take (k + 1)) = ends2 (l.take k) ++ [l[k]! 0] ++ [l[k]! 2] := by
  unfold ends2
  rw [flatMap_take _ _ _ hk]
  simp
theorem mem_ends2 {l : List (Nat → Int)} {x : Int} : x ∈ ends2 l ↔ ∃ e ∈ l, x = e 0 ∨ x = e 2 := by
  unfold ends2
  rw [List.mem_flatMap]
  simp
theorem gnodes_ok (l : List (Nat → Int)) (h : gnodes_P l) : gnodes_S l (gnodes_F l) := by
  obtain ⟨hl, hr⟩ := h
  unfold gnodes_S
  refine ⟨setOf (ends2 l), ?_, ?_⟩
  · have := Wh.upto (f := fun (s : (List (Int × Bool)) × Int) (o : ((List (Int × Bool)) × Int) ⊕ ((List (Int × Bool)))) => gnodes_l1 l s.1 s.2 o) (fun k : Nat => (setOf (ends2 (l.take k)), (k : Int))) l.length (r := setOf (ends2 l)) (fun k hk => by
      dsimp only
      unfold gnodes_l1
      rw [if_pos (by omega), Int.toNat_natCast, ends2_take _ _ hk, setOf_snoc, setOf_snoc]
      exact ⟨⟨by omega, by omega⟩, ⟨by omega, by omega⟩, rfl⟩) (by
      dsimp only
      unfold gnodes_l1
      rw [if_neg (by omega), take_len])
    simpa [ends2, setOf] using this
  · unfold gnodes_k1a gnodes_F
    rw [skeys_setOf]
    refine ⟨setOf_P (fun x hx => ?_) (by rw [len_ends2]; omega), rfl⟩
    obtain ⟨e, he, h1⟩ := mem_ends2.1 hx
    rcases h1 with rfl | rfl
    · exact (hr e he).1
    · exact (hr e he).2
theorem risingR_ok (l : List Int) (h : rising_P l) : risingR_S l (rising_F l) := by
  unfold rising_P at h
  unfold risingR_S
  refine ⟨rising_F l, ?_, rfl⟩
  have := Wh.upto (f := fun (s : (List Int) × Int) (o : ((List Int) × Int) ⊕ ((List Int))) => risingR_l1 l s.1 s.2 o) (fun k : Nat => (rising_F (l.take k), (k : Int))) l.length (r := rising_F l) (fun k hk => by
      have hs : rising_F (l.take (k + 1)) = insI (l[k]!) (rising_F (l.take k)) := by unfold rising_F; exact foldl_take _ _ _ _ hk
      have hl : (rising_F (l.take k)).length ≤ 1000000000 := Nat.le_trans (len_rising _) (by simp; omega)
      dsimp only
      rw [hs]
      unfold risingR_l1
      rw [if_pos (by omega)]
      generalize rising_F (l.take k) = out at hl
      have hsl := spot_le (l[k]!) out
      have hk' : 0 ≤ (k : Int) ∧ (k : Int) < l.length := ⟨by omega, by omega⟩
      refine ⟨(spot (l[k]!) out : Int), ?_, ?_⟩
      · have := Wh.upto (f := fun (s : Int) (o : (Int) ⊕ (Int)) => risingR_l2 l out (k : Int) s o) (fun j : Nat => (j : Int)) (spot (l[k]!) out) (r := (spot (l[k]!) out : Int)) (fun j hj => by
          have := spot_lt hj
          unfold risingR_l2
          rw [Int.toNat_natCast, Int.toNat_natCast, if_pos (by simp only [Bool.and_eq_true, decide_eq_true_eq]; exact ⟨by omega, this⟩)]
          exact ⟨fun _ => ⟨by omega, by omega⟩, fun _ => hk', ⟨by omega, by omega⟩, rfl⟩) (by
          unfold risingR_l2
          rw [Int.toNat_natCast, Int.toNat_natCast, if_neg (by
            simp only [Bool.and_eq_true, decide_eq_true_eq, not_and]
            exact fun h => spot_at (by omega))]
          exact ⟨fun h => ⟨by omega, by simpa using h⟩, fun _ => hk', rfl⟩)
        simpa using this
      · unfold risingR_k2a
        rw [Int.toNat_natCast, Int.toNat_natCast, insI_spot]
        refine ⟨fun h => ⟨by omega, by simpa using h⟩, fun _ => hk', ?_⟩
        by_cases hc : spot (l[k]!) out < out.length ∧ out[spot (l[k]!) out]! = l[k]!
        · rw [if_pos (by simp only [Bool.and_eq_true, decide_eq_true_eq]; exact ⟨by omega, hc.2⟩), if_pos hc]
          exact ⟨⟨by omega, by omega⟩, rfl⟩
        · rw [if_neg (by simp only [Bool.and_eq_true, decide_eq_true_eq]; exact fun h => hc ⟨by omega, h.2⟩), if_neg hc]
          simp only [List.nil_append, List.drop_zero, take_len]
          refine ⟨⟨⟨by omega, by omega⟩, hk', ⟨by omega, by omega⟩, ?_, ?_, ?_, trivial⟩, ⟨by omega, by omega⟩, rfl⟩
          · simp only [List.length_take]; omega
          · simp only [List.length_take]; omega
          · simp only [List.length_append, List.length_take, List.length_drop, List.length_singleton]; omega) (by
      dsimp only
      unfold risingR_l1
      rw [if_neg (by omega), take_len])
  simpa [rising_F] using this
end Go.E
/- What functions of the program say, as relations. -/
namespace Go.E
open Go
def nodesR_l1 (l0 : (List (Nat → Int))) (out3 : (List Int)) (i4 : Int) (o : ((List Int) × Int) ⊕ ((List Int))) : Prop :=
  if i4 < (l0.length : Int) then
    (0 ≤ i4 ∧ i4 < l0.length) ∧ (
    (0 ≤ i4 ∧ i4 < l0.length) ∧ (
    ((out3.length + 2) * 8 ≤ 140737488355328) ∧ (
    (inI64 (i4 + 1)) ∧ (
    o = (.inl ((out3 ++ [l0[i4.toNat]! 0, l0[i4.toNat]! 2]), i4 + 1))))))
  else
    o = (.inr out3)
def nodesR_k1a (out3 : (List Int)) (r : (List Int)) : Prop :=
  (rising_P out3) ∧ (
  r = ((rising_F out3)))
def nodesR_S (l0 : (List (Nat → Int))) (r : (List Int)) : Prop :=
  ∃ x : (List Int), Wh (fun (s : (List Int) × Int) (o : ((List Int) × Int) ⊕ ((List Int))) => nodesR_l1 l0 s.1 s.2 o) (([], 0) : (List Int) × Int) x ∧ nodesR_k1a x r
def greach_l1 (l0 : (List (Nat → Int))) (met5 : (List (Int × Bool))) (at6 : (List Int)) (o : ((List (Int × Bool)) × (List Int)) ⊕ ((List (Int × Bool)))) : Prop :=
  if 0 < (at6.length : Int) then
    (0 ≤ (0 : Int) ∧ (0 : Int) < at6.length) ∧ (
    (0 ≤ (1 : Int) ∧ (1 : Int) ≤ at6.length) ∧ (
    if ((mget ieq met5 (at6[0]!) false)) = true then
      o = (.inl (met5, (at6.take at6.length).drop 1))
    else
      (gnext_P l0 (at6[0]!)) ∧ (
      ((((at6.take at6.length).drop 1).length + (gnext_F l0 (at6[0]!)).length) * 8 ≤ 140737488355328) ∧ (
      o = (.inl (mset ieq met5 (at6[0]!) true, ((at6.take at6.length).drop 1 ++ (gnext_F l0 (at6[0]!)))))))))
  else
    o = (.inr met5)
def greach_k1a (met5 : (List (Int × Bool))) (r : (List Int)) : Prop :=
  (skeysP met5) ∧ (
  r = ((skeys met5)))
def greach_S (l0 : (List (Nat → Int))) (from1 : Int) (r : (List Int)) : Prop :=
  (gnext_P l0 from1) ∧ (
  ∃ x : (List (Int × Bool)), Wh (fun (s : (List (Int × Bool)) × (List Int)) (o : ((List (Int × Bool)) × (List Int)) ⊕ ((List (Int × Bool)))) => greach_l1 l0 s.1 s.2 o) (([], (gnext_F l0 from1)) : (List (Int × Bool)) × (List Int)) x ∧ greach_k1a x r)
def gfar_l2 (l0 : (List (Nat → Int))) (at6 : (List Int)) (steps5a : (List (Int × Int))) (at6a : (List Int)) (x27 : Int) (o : ((List (Int × Int)) × (List Int) × Int) ⊕ ((List (Int × Int)) × (List Int))) : Prop :=
  if x27 < (l0.length : Int) then
    (0 ≤ x27 ∧ x27 < l0.length) ∧ (
    if ((decide ((l0[x27.toNat]!) 2 = at6[0]!)) && (!((mhas ieq steps5a ((l0[x27.toNat]!) 0))))) = true then
      (inI64 ((mget ieq steps5a (at6[0]!) 0) + 1)) ∧ (
      ((at6a.length + 1) * 8 ≤ 140737488355328) ∧ (
      (inI64 (x27 + 1)) ∧ (
      o = (.inl (mset ieq steps5a ((l0[x27.toNat]!) 0) ((mget ieq steps5a (at6[0]!) 0) + 1), (at6a ++ [(l0[x27.toNat]!) 0]), x27 + 1)))))
    else
      (inI64 (x27 + 1)) ∧ (
      o = (.inl (steps5a, at6a, x27 + 1))))
  else
    o = (.inr (steps5a, at6a))
def gfar_k2a (steps5a : (List (Int × Int))) (at6a : (List Int)) (o : ((List (Int × Int)) × (List Int)) ⊕ ((List (Int × Int)))) : Prop :=
  o = (.inl (steps5a, at6a))
def gfar_l1 (l0 : (List (Nat → Int))) (steps5 : (List (Int × Int))) (at6 : (List Int)) (o : ((List (Int × Int)) × (List Int)) ⊕ ((List (Int × Int)))) : Prop :=
  if 0 < (at6.length : Int) then
    (0 ≤ (0 : Int) ∧ (0 : Int) < at6.length) ∧ (
    (0 ≤ (1 : Int) ∧ (1 : Int) ≤ at6.length) ∧ (
    ∃ x : (List (Int × Int)) × (List Int), Wh (fun (s : (List (Int × Int)) × (List Int) × Int) (o : ((List (Int × Int)) × (List Int) × Int) ⊕ ((List (Int × Int)) × (List Int))) => gfar_l2 l0 at6 s.1 s.2.1 s.2.2 o) ((steps5, (at6.take at6.length).drop 1, 0) : (List (Int × Int)) × (List Int) × Int) x ∧ gfar_k2a x.1 x.2 o))
  else
    o = (.inr steps5)
def gfar_k1a (steps5 : (List (Int × Int))) (r : (List (Int × Int))) : Prop :=
  r = (steps5)
def gfar_S (l0 : (List (Nat → Int))) (to1 : Int) (r : (List (Int × Int))) : Prop :=
  ∃ x : (List (Int × Int)), Wh (fun (s : (List (Int × Int)) × (List Int)) (o : ((List (Int × Int)) × (List Int)) ⊕ ((List (Int × Int)))) => gfar_l1 l0 s.1 s.2 o) ((mset ieq ([]) to1 0, ([to1] : List Int)) : (List (Int × Int)) × (List Int)) x ∧ gfar_k1a x r
end Go.E
/- Edges and what is reached by them, in plain words. -/
namespace Go.E
open Go
/-- An edge goes. -/
def Adj (l : List (Nat → Int)) (a b : Int) : Prop := ∃ e ∈ l, e 0 = a ∧ e 2 = b
/-- One is reached. -/
inductive Rt (l : List (Nat → Int)) : Int → Int → Prop
  | one {a b : Int} : Adj l a b → Rt l a b
  | more {a b c : Int} : Rt l a b → Adj l b c → Rt l a c
theorem Rt.trans {l : List (Nat → Int)} {a b c : Int} (h : Rt l a b) (k : Rt l b c) : Rt l a c := by
  induction k with
  | one e => exact .more h e
  | more _ e ih => exact .more ih e
theorem Rt.first {l : List (Nat → Int)} {a b : Int} (h : Rt l a b) : ∃ c, Adj l a c ∧ (c = b ∨ Rt l c b) := by
  induction h with
  | one e => exact ⟨_, e, .inl rfl⟩
  | more h e ih =>
    obtain ⟨c, h1, h2⟩ := ih
    refine ⟨c, h1, .inr ?_⟩
    rcases h2 with rfl | h2
    · exact .one e
    · exact .more h2 e
theorem Rt.mono {l m : List (Nat → Int)} (hs : ∀ e ∈ l, e ∈ m) {a b : Int} (h : Rt l a b) : Rt m a b := by
  induction h with
  | one e => obtain ⟨e, h1, h2⟩ := e; exact .one ⟨e, hs e h1, h2⟩
  | more _ e ih => obtain ⟨e, h1, h2⟩ := e; exact .more ih ⟨e, hs e h1, h2⟩
def nodesL (l : List (Nat → Int)) : List Int := rising_F (ends2 l)
theorem mem_nodesL {l : List (Nat → Int)} {x : Int} : x ∈ nodesL l ↔ ∃ e ∈ l, x = e 0 ∨ x = e 2 := by
  unfold nodesL ends2
  rw [mem_rising, List.mem_flatMap]
  simp
theorem len_nodesL (l : List (Nat → Int)) : (nodesL l).length ≤ 2 * l.length := by
  unfold nodesL
  have := len_rising (ends2 l)
  rw [len_ends2] at this
  exact this
theorem Adj.left {l : List (Nat → Int)} {a b : Int} (h : Adj l a b) : a ∈ nodesL l := by
  obtain ⟨e, h1, h2, _⟩ := h
  exact mem_nodesL.2 ⟨e, h1, .inl h2.symm⟩
theorem Adj.right {l : List (Nat → Int)} {a b : Int} (h : Adj l a b) : b ∈ nodesL l := by
  obtain ⟨e, h1, _, h2⟩ := h
  exact mem_nodesL.2 ⟨e, h1, .inr h2.symm⟩
theorem Rt.right {l : List (Nat → Int)} {a b : Int} (h : Rt l a b) : b ∈ nodesL l := by
  cases h with
  | one e => exact e.right
  | more _ e => exact e.right
theorem Rt.left {l : List (Nat → Int)} {a b : Int} (h : Rt l a b) : a ∈ nodesL l := by
  obtain ⟨c, h1, _⟩ := h.first
  exact h1.left
theorem nodup_len : ∀ {l m : List Int}, l.Nodup → (∀ x ∈ l, x ∈ m) → l.length ≤ m.length
  | [], m, _, _ => Nat.zero_le _
  | x :: r, m, h, hs => by
    rw [List.nodup_cons] at h
    have hx := hs x List.mem_cons_self
    have : r.length ≤ (m.erase x).length := nodup_len h.2 fun y hy => by
      have hne : y ≠ x := fun e => h.1 (e ▸ hy)
      exact (List.mem_erase_of_ne hne).2 (hs y (List.mem_cons_of_mem _ hy))
    rw [List.length_erase_of_mem hx] at this
    have := List.length_pos_of_mem hx
    simp only [List.length_cons]
    omega
theorem nodup_lt {l m : List Int} {y : Int} (h : l.Nodup) (hs : ∀ x ∈ l, x ∈ m) (hy : y ∈ m) (hn : y ∉ l) : l.length < m.length := by
  have := nodup_len (l := y :: l) (m := m) (List.nodup_cons.2 ⟨hn, h⟩) fun x hx => by
    rcases List.mem_cons.1 hx with rfl | hx
    · exact hy
    · exact hs x hx
  simp only [List.length_cons] at this
  omega
/-- All that are reached from a number. -/
noncomputable def greach_F (l : List (Nat → Int)) (a : Int) : List Int := (nodesL l).filter fun x => @decide (Rt l a x) (Classical.propDecidable _)
theorem mem_greach {l : List (Nat → Int)} {a x : Int} : x ∈ greach_F l a ↔ Rt l a x := by
  unfold greach_F
  rw [List.mem_filter]
  exact ⟨fun h => @of_decide_eq_true _ (Classical.propDecidable _) h.2, fun h => ⟨h.right, @decide_eq_true _ (Classical.propDecidable _) h⟩⟩
theorem rising_greach (l : List (Nat → Int)) (a : Int) : (greach_F l a).Pairwise fun a b => a < b := by
  unfold greach_F
  exact List.Pairwise.sublist List.filter_sublist (rising_rising _)
theorem len_greach (l : List (Nat → Int)) (a : Int) : (greach_F l a).length ≤ 2 * l.length := by
  unfold greach_F
  exact Nat.le_trans (List.length_filter_le _ _) (len_nodesL l)
/-- A list with the same members, once each, sorted. -/
theorem greach_eq {l : List (Nat → Int)} {a : Int} {r : List Int} (hr : r.Pairwise fun a b => a < b) (h : ∀ x, x ∈ r ↔ Rt l a x) : r = greach_F l a :=
  rising_ext hr (rising_greach l a) fun x => by rw [h, mem_greach]
end Go.E
/- What is reached: the program's answer and the document's. -/
namespace Go.E
open Go
/-! ### All numbers at edges -/
def nodesR_F (l : List (Nat → Int)) : List Int := nodesL l
def nodesR_P (l : List (Nat → Int)) : Prop := l.length ≤ 1000000
theorem nodesR_ok (l : List (Nat → Int)) (h : nodesR_P l) : nodesR_S l (nodesR_F l) := by
  unfold nodesR_P at h
  unfold nodesR_S
  refine ⟨ends2 l, ?_, by unfold nodesR_k1a; exact ⟨by unfold rising_P; rw [len_ends2]; omega, rfl⟩⟩
  have := Wh.upto (f := fun (s : (List Int) × Int) (o : ((List Int) × Int) ⊕ ((List Int))) => nodesR_l1 l s.1 s.2 o) (fun k : Nat => (ends2 (l.take k), (k : Int))) l.length (r := ends2 l) (fun k hk => by
      have hb : (ends2 (l.take k)).length ≤ 2000000 := by rw [len_ends2]; simp only [List.length_take]; omega
      have e : ends2 (l.take (k + 1)) = ends2 (l.take k) ++ [l[k]! 0, l[k]! 2] := by unfold ends2; exact flatMap_take _ _ _ hk
      dsimp only
      unfold nodesR_l1
      rw [if_pos (by omega), Int.toNat_natCast, e]
      exact ⟨⟨by omega, by omega⟩, ⟨by omega, by omega⟩, by omega, ⟨by omega, by omega⟩, rfl⟩) (by
      dsimp only
      unfold nodesR_l1
      rw [if_neg (by omega), take_len])
  simpa [ends2] using this
theorem mem_gnext {l : List (Nat → Int)} {a b : Int} : b ∈ gnext_F l a ↔ Adj l a b := by
  unfold gnext_F
  rw [mem_rising, mem_outs]
  rfl
theorem len_gnext (l : List (Nat → Int)) (a : Int) : (gnext_F l a).length ≤ l.length := Nat.le_trans (len_rising _) (len_outs l a)
/-! ### The program's search -/
def greach_P (l : List (Nat → Int)) (_ : Int) : Prop := Edges l
/-- A map that is a set. -/
structure IsSet (d : List (Int × Bool)) : Prop where
  u : Uniq d
  t : ∀ p ∈ d, p.2 = true
theorem IsSet.get {d : List (Int × Bool)} (h : IsSet d) (x : Int) : mget ieq d x false = mhas ieq d x := by
  unfold mget mhas
  cases hf : mfind ieq d x with
  | none => rfl
  | some v => exact h.t _ (mem_of_mfind hf)
theorem IsSet.put {d : List (Int × Bool)} (h : IsSet d) (x : Int) : IsSet (mset ieq d x true) :=
  ⟨uniq_mset h.u _ _, fun p hp => (mem_mset hp).elim (fun e => by rw [e]) (h.t p)⟩
structure ReachI (l : List (Nat → Int)) (a : Int) (s : List (Int × Bool) × List Int) : Prop where
  st : IsSet s.1
  rm : ∀ x, mhas ieq s.1 x = true → Rt l a x
  ra : ∀ x ∈ s.2, Rt l a x
  c0 : ∀ x, Adj l a x → x ∈ s.2 ∨ mhas ieq s.1 x = true
  c1 : ∀ y x, mhas ieq s.1 y = true → Adj l y x → x ∈ s.2 ∨ mhas ieq s.1 x = true
  len : s.2.length ≤ (s.1.length + 1) * l.length
theorem set_keys {d : List (Int × Bool)} {l : List (Nat → Int)} (h : IsSet d) (hr : ∀ x, mhas ieq d x = true → x ∈ nodesL l) : d.length ≤ (nodesL l).length := by
  have := nodup_len (l := d.map fun p : Int × Bool => p.1) (m := nodesL l) h.u fun x hx => hr x (mhas_mem.2 hx)
  simpa using this
theorem set_more {d : List (Int × Bool)} {l : List (Nat → Int)} (h : IsSet d) (hr : ∀ x, mhas ieq d x = true → x ∈ nodesL l) {y : Int} (hy : y ∈ nodesL l) (hn : ¬ mhas ieq d y = true) : d.length < (nodesL l).length := by
  have := nodup_lt (l := d.map fun p : Int × Bool => p.1) (m := nodesL l) h.u (fun x hx => hr x (mhas_mem.2 hx)) hy fun hx => hn (mhas_mem.2 hx)
  simpa using this
theorem len_mset_new {d : List (Int × Bool)} {k : Int} {v : Bool} (h : ¬ mhas ieq d k = true) : (mset ieq d k v).length = d.length + 1 := by
  have := congrArg List.length (keys_mset d k v)
  rw [List.length_map, if_neg (fun hx => h (mhas_mem.2 hx))] at this
  simpa using this
theorem greach_ok (l : List (Nat → Int)) (a : Int) (h : greach_P l a) : greach_S l a (greach_F l a) := by
  obtain ⟨hl, hr⟩ := h
  have hN := len_nodesL l
  unfold greach_S
  refine ⟨⟨hl, hr⟩, ?_⟩
  suffices hs : ∃ r, Wh (fun (s : (List (Int × Bool)) × (List Int)) (o : ((List (Int × Bool)) × (List Int)) ⊕ ((List (Int × Bool)))) => greach_l1 l s.1 s.2 o) (([], (gnext_F l a)) : (List (Int × Bool)) × (List Int)) r ∧ ReachI l a (r, []) by
    obtain ⟨r, hw, hI⟩ := hs
    refine ⟨r, hw, ?_⟩
    unfold greach_k1a
    have hm : ∀ x, mhas ieq r x = true ↔ Rt l a x := fun x => ⟨hI.rm x, fun hx => by
      induction hx with
      | one e => exact (hI.c0 _ e).elim (fun h => by simp at h) id
      | more _ e ih => exact (hI.c1 _ _ ih e).elim (fun h => by simp at h) id⟩
    have hk : r.length ≤ (nodesL l).length := set_keys (l := l) hI.st fun x hx => (hI.rm x hx).right
    refine ⟨⟨fun p hp => ?_, by omega⟩, (greach_eq (rising_skeys hI.st.u) fun x => by rw [mem_skeys, hm]).symm⟩
    obtain ⟨e, he, h1⟩ := mem_nodesL.1 (hI.rm p.1 (mhas_mem.2 (List.mem_map.2 ⟨p, hp, rfl⟩))).right
    rcases h1 with h1 | h1
    · rw [h1]; exact (hr e he).1
    · rw [h1]; exact (hr e he).2
  refine Wh.by (ReachI l a) (fun s => ((nodesL l).length - s.1.length) * (l.length + 1) + s.2.length) (fun r => ReachI l a (r, [])) ⟨⟨List.nodup_nil, fun p hp => by simp at hp⟩, fun x hx => by simp [mhas, mfind] at hx, fun x hx => .one (mem_gnext.1 hx), fun x hx => .inl (mem_gnext.2 hx), fun y x hy => by simp [mhas, mfind] at hy, by have := len_gnext l a; simp only [List.length_nil]; omega⟩ ?_
  rintro ⟨met, at_⟩ ⟨st, rm, ra, c0, c1, len⟩
  simp only at st rm ra c0 c1 len
  cases at_ with
  | nil =>
    refine .inr ⟨met, ?_, st, rm, ra, c0, c1, by simp⟩
    show greach_l1 l met [] _
    unfold greach_l1
    rw [if_neg (by simp)]
  | cons n rest =>
    have hn := ra n List.mem_cons_self
    have hm := set_keys (l := l) st fun x hx => (rm x hx).right
    have hb : (met.length + 1) * l.length ≤ 200001 * 100000 := Nat.mul_le_mul (by omega) hl
    simp only [List.length_cons] at len
    have hd : ((n :: rest).take (n :: rest).length).drop 1 = rest := by rw [take_len]; rfl
    have h0 : (0 : Int) < ((n :: rest).length : Int) := by simp only [List.length_cons]; omega
    by_cases hmet : mhas ieq met n = true
    · refine .inl ⟨(met, rest), ?_, ⟨st, rm, fun x hx => ra x (List.mem_cons_of_mem _ hx), fun x hx => ?_, fun y x hy hx => ?_, by simp only; omega⟩, by simp only [List.length_cons]; omega⟩
      · show greach_l1 l met (n :: rest) _
        unfold greach_l1
        rw [if_pos h0, hd, st.get, if_pos (by simpa using hmet)]
        exact ⟨⟨by omega, h0⟩, ⟨by omega, by omega⟩, rfl⟩
      · rcases c0 x hx with h | h
        · rcases List.mem_cons.1 h with rfl | h
          · exact .inr hmet
          · exact .inl h
        · exact .inr h
      · rcases c1 y x hy hx with h | h
        · rcases List.mem_cons.1 h with rfl | h
          · exact .inr hmet
          · exact .inl h
        · exact .inr h
    · have hmore := set_more (l := l) st (fun x hx => (rm x hx).right) hn.right hmet
      have hgl := len_gnext l n
      have hml := len_mset_new (v := true) hmet
      have hmul : (met.length + 1 + 1) * l.length = (met.length + 1) * l.length + l.length := Nat.succ_mul _ _
      refine .inl ⟨(mset ieq met n true, rest ++ gnext_F l n), ?_, ⟨st.put n, fun x hx => ?_, fun x hx => ?_, fun x hx => ?_, fun y x hy hx => ?_, ?_⟩, ?_⟩
      · show greach_l1 l met (n :: rest) _
        unfold greach_l1
        rw [if_pos h0, hd, st.get, if_neg (by simpa using hmet)]
        exact ⟨⟨by omega, h0⟩, ⟨by omega, by omega⟩, ⟨hl, hr⟩, by simp only [List.getElem!_cons_zero]; omega, rfl⟩
      · rcases (mhas_mset' met n true x).1 hx with rfl | hx
        · exact hn
        · exact rm x hx
      · rcases List.mem_append.1 hx with hx | hx
        · exact ra x (List.mem_cons_of_mem _ hx)
        · exact hn.more (mem_gnext.1 hx)
      · simp only
        rw [mhas_mset', List.mem_append]
        rcases c0 x hx with h | h
        · rcases List.mem_cons.1 h with rfl | h
          · exact .inr (.inl rfl)
          · exact .inl (.inl h)
        · exact .inr (.inr h)
      · simp only at hy ⊢
        rw [mhas_mset', List.mem_append]
        rcases (mhas_mset' met n true y).1 hy with rfl | hy
        · exact .inl (.inr (mem_gnext.2 hx))
        · rcases c1 y x hy hx with h | h
          · rcases List.mem_cons.1 h with rfl | h
            · exact .inr (.inl rfl)
            · exact .inl (.inl h)
          · exact .inr (.inr h)
      · simp only [List.length_append]
        rw [hml, hmul]
        omega
      · simp only [List.length_append, List.length_cons]
        rw [hml]
        have e : ((nodesL l).length - met.length) * (l.length + 1) = ((nodesL l).length - (met.length + 1)) * (l.length + 1) + (l.length + 1) := by
          rw [← Nat.succ_mul]
          congr 1
          omega
        omega
/-! ### The document's search -/
structure GrowI (l : List (Nat → Int)) (a : Int) (out0 : List Int) (s : List Int × Bool × Int) : Prop where
  i0 : 0 ≤ s.2.2
  i1 : s.2.2 ≤ l.length
  nd : s.1.Nodup
  rt : ∀ x ∈ s.1, Rt l a x
  no : s.2.1 = false → s.1 = out0 ∧ ∀ j : Nat, (j : Int) < s.2.2 → (l[j]! 0 = a ∨ l[j]! 0 ∈ out0) → l[j]! 2 ∈ out0
  ye : s.2.1 = true → out0.length < s.1.length
end Go.E
