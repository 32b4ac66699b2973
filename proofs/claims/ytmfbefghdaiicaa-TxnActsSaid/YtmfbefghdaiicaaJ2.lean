/- Part 2 of the proof. -/
import Derived.Test.YtmfbefghdaiicaaJ1
import Derived.LoopN
import Derived.MapKept
import Derived.WalkKit
import Derived.ProofKit
import Derived.OpenShut
import Derived.SizedLaws
import Derived.Test.YtmfbefghdaiicaaRows
import Derived.Shelf.SlIterI.Nil
import Derived.Shelf.SortM.Plain
import Derived.Shelf.SortM.SortNone
import Derived.Scope
set_option maxHeartbeats 1000000
set_option maxRecDepth 100000
set_option linter.unusedVariables false
set_option linter.unusedSimpArgs false
set_option linter.unusedSectionVars false
set_option linter.unnecessarySimpa false
/- The engine: how operations, loops and calls of the model are walked (EB). -/
/- The engine, part 8: slices as lists; segments of the list of blocks. -/
namespace Go.E
open Go
/-- The cells of a list's elements, s to each. -/
def eG {α : Type} (s : Nat) (c : α → Nat → Value) (l : List α) : Nat → Value := fun i => (l[i / s]?).elim undef (fun a => c a (i % s))
def ic (x : Int) : Nat → Value := fun _ => .int .i64 x
theorem eG_at {α : Type} {s j k : Nat} {c : α → Nat → Value} {l : List α} (hj : j < l.length) (hk : k < s) : eG s c l (j * s + k) = c l[j] k := by
  have h1 : (j * s + k) / s = j := by rw [Nat.mul_comm, Nat.mul_add_div (by omega), Nat.div_eq_of_lt hk, Nat.add_zero]
  have h2 : (j * s + k) % s = k := by rw [Nat.mul_comm, Nat.mul_add_mod, Nat.mod_eq_of_lt hk]
  simp only [eG, h1, h2, List.getElem?_eq_getElem hj, Option.elim_some]
theorem eG_one {α : Type} {j : Nat} {c : α → Nat → Value} {l : List α} (hj : j < l.length) : eG 1 c l j = c l[j] 0 := by
  have := eG_at (c := c) (s := 1) (k := 0) hj (by omega)
  simpa using this
theorem eG_app {α : Type} {s : Nat} (hs : 0 < s) (c : α → Nat → Value) (l l' : List α) : ∀ i, i < (l.length + l'.length) * s → app (eG s c l) (l.length * s) (eG s c l') i = eG s c (l ++ l') i := by
  intro i _
  simp only [app, eG]
  by_cases h : i < l.length * s
  · rw [if_pos h, List.getElem?_append_left (by rw [Nat.div_lt_iff_lt_mul hs]; exact h)]
  · rw [if_neg h]
    have hle : l.length * s ≤ i := Nat.le_of_not_lt h
    have h1 : (i - l.length * s) / s = i / s - l.length := by
      rw [Nat.mul_comm, Nat.sub_mul_div]
    have h2 : (i - l.length * s) % s = i % s := by
      rw [Nat.mul_comm, Nat.sub_mul_mod]; rw [Nat.mul_comm]; exact hle
    rw [h1, h2, List.getElem?_append_right (by rw [Nat.le_div_iff_mul_le hs]; exact hle)]
def OL {α : Type} (w0 : World) (T : TypeId) (s : Nat) (c : α → Nat → Value) (B : GH) (v : Value) (l : List α) : Prop := Own w0 T s B v l.length (eG s c l)
def SL {α : Type} (w : World) (s : Nat) (c : α → Nat → Value) (v : Value) (l : List α) : Prop := Sl w s v l.length (eG s c l)
section
variable {α : Type} {w0 w : World} {T : TypeId} {s : Nat} {c : α → Nat → Value} {B H A C : GH} {v : Value} {l : List α}
theorem OL.nil : OL w0 T s c [] (.slice none 0 0) ([] : List α) := Own.nil _
theorem SL.nil : SL w s c (.slice none 0 0) ([] : List α) := Sl.nil _
theorem OL.fresh (h : OL w0 T s c B v l) : ∀ b, b ∈ keys B → w0.heap.size ≤ b := Own.fresh h
theorem OL.val (h : OL w0 T s c B v l) : ∃ p cap, v = .slice p l.length cap := (Own.val h).imp fun _ h => h.imp fun _ h => h.1
theorem SL.keep (h : SL w0 s c v l) (hs : St w0 H w) (hn : ∀ b, b ∈ keys H → w0.heap.size ≤ b) : SL w s c v l := Sl.keep h hs hn
theorem SL.val (h : SL w s c v l) : ∃ p cap, v = .slice p l.length cap := let ⟨p, cap, h, _⟩ := h; ⟨p, cap, h⟩
theorem OL.base {w1 : World} (h : OL w1 T s c B v l) (hw : w0.heap.size ≤ w1.heap.size) : OL w0 T s c B v l := by
  rcases h with h | ⟨b, o, cp, N, F, h1, h2, h3⟩
  · exact .inl h
  · exact .inr ⟨b, o, cp, N, F, h1, Nat.le_trans hw h2, h3⟩
theorem OL.new {b n : Nat} {F : Nat → Value} (hb : w0.heap.size ≤ b) (hl : n = l.length) (hm : Nat.ble n 4611686018427387904 = true) (hF : ∀ i, i < n * s → F i = eG s c l i) : OL w0 T s c [(b, BK (n * s) F T)] (.slice (some ⟨b, 0, none⟩) n n) l := by
  subst hl
  exact Own.mk hb (Nat.le_refl _) (by omega) (by have := Nat.le_of_ble_eq_true hm; unfold maxLen; omega) (fun i hi => by rw [Nat.zero_add]; exact hF i hi)
/-- A literal, or whatever lies whole in one block of the list. -/
theorem SL.lit {w' : World} {b n N : Nat} {F : Nat → Value} (hs : St w0 H w') (hm : (b, BK N F T) ∈ H) (hl : n = l.length) (hN : n * s ≤ N) (hmx : n ≤ maxLen) (hF : ∀ i, i < n * s → F i = eG s c l i) : SL w' s c (.slice (some ⟨b, 0, none⟩) n n) l := by
  subst hl
  exact ⟨_, _, rfl, Nat.le_refl _, hmx, (fun h => by cases h), SrcAt.own hs hm (by omega) fun i hi => by rw [Nat.zero_add]; exact hF i hi⟩
theorem SL.sub {w' : World} {b o n cap N : Nat} {F : Nat → Value} (hs : St w0 H w') (hm : (b, BK N F T) ∈ H) (hl : n = l.length) (hcap : n ≤ cap) (hmx : cap ≤ maxLen) (hN : o + n * s ≤ N) (hF : ∀ i, i < n * s → F (o + i) = eG s c l i) : SL w' s c (.slice (some ⟨b, o, none⟩) n cap) l := by
  subst hl
  exact ⟨_, _, rfl, hcap, hmx, (fun h => by cases h), SrcAt.own hs hm hN hF⟩
/-! ### Segments -/
@[simp] theorem keys_append (A B : GH) : keys (A ++ B) = keys A ++ keys B := List.map_append
theorem St.perm {H' : GH} (h : St w0 H w) (hp : H.Perm H') : St w0 H' w :=
  ⟨h.os, h.tape, h.out, h.size, fun b o hm => h.own b o (hp.mem_iff.2 hm), (hp.map _).nodup_iff.1 h.nd, fun k hk hkn => h.keep k hk fun hh => hkn ((hp.map (·.1)).mem_iff.1 hh)⟩
theorem Mg.news {w1 : World} {F H' : GH} (hB : ∀ k, k ∈ keys B → w1.heap.size ≤ k) (h : Mg w0 w1 H F H') : Mg w0 w1 H (B ++ F) (B ++ H') := by
  induction B with
  | nil => exact h
  | cons x B ih =>
    obtain ⟨b, o⟩ := x
    exact .new (hB b (by simp)) (ih fun k hk => hB k (by simp [hk]))
theorem Upd.seg {b : Nat} {o : Obj} {H' : GH} (h : Upd H b o H') : Upd (A ++ H) b o (A ++ H') := by
  induction A with
  | nil => exact h
  | cons x A ih => exact .there x _ _ b o ih
theorem Swp.seg {b : Nat} {x : Nat × Obj} {H' : GH} (h : Swp H b x H') : Swp (A ++ H) b x (A ++ H') := by
  induction A with
  | nil => exact h
  | cons y A ih => exact .there y _ _ b x ih
theorem Kp.segNew {F : GH} (hB : ∀ b, b ∈ keys B → w0.heap.size ≤ b) (h : Kp w0 H F) : Kp w0 (B ++ H) F := by
  induction B with
  | nil => exact h
  | cons x B ih =>
    obtain ⟨b, o⟩ := x
    exact .new (hB b (by simp)) (ih fun k hk => hB k (by simp [hk]))
theorem Kp.segKeep {F : GH} (h : Kp w0 H F) : Kp w0 (B ++ H) (B ++ F) := by
  induction B with
  | nil => exact h
  | cons x B ih => exact .keep ih
end
section
variable {α : Type} {P : Program} {w0 : World} {env : Env} {H : GH}
variable {d : Option Nat} {ty : TypeId} {pos : String} {af : Array Edge} {g : Option (Nat × Bool)} {t : TypeId} {s : Nat} {c : α → Nat → Value}
end
end Go.E
/- The engine, part 9: loops as relations; slices whose segment may hold more than they need; places of elements; errors as numbers. -/
namespace Go.E
open Go
/-! ### Loops as relations -/
inductive Wh {σ ρ : Type} (f : σ → σ ⊕ ρ → Prop) : σ → ρ → Prop
  | out {s : σ} {r : ρ} (h : f s (.inr r)) : Wh f s r
  | again {s s' : σ} {r : ρ} (h : f s (.inl s')) (k : Wh f s' r) : Wh f s r
/-- A loop that goes through the states st 0, st 1, .., and leaves at the n-th. -/
theorem Wh.upto {σ ρ : Type} {f : σ → σ ⊕ ρ → Prop} (st : Nat → σ) (n : Nat) {r : ρ} (h : ∀ k, k < n → f (st k) (.inl (st (k + 1)))) (hn : f (st n) (.inr r)) : Wh f (st 0) r := by
  have key : ∀ j k, k + j = n → Wh f (st k) r := by
    intro j
    induction j with
    | zero => intro k hk; obtain rfl : k = n := (by omega); exact .out hn
    | succ j ih => intro k hk; exact .again (h k (by omega)) (ih (k + 1) (by omega))
  exact key n 0 (by omega)
/-- A loop, by an invariant and a measure. -/
theorem Wh.by {σ ρ : Type} {f : σ → σ ⊕ ρ → Prop} (I : σ → Prop) (m : σ → Nat) (R : ρ → Prop) {s : σ} (h0 : I s) (h : ∀ s, I s → (∃ s', f s (.inl s') ∧ I s' ∧ m s' < m s) ∨ ∃ r, f s (.inr r) ∧ R r) : ∃ r, Wh f s r ∧ R r := by
  have key : ∀ k s, m s = k → I s → ∃ r, Wh f s r ∧ R r := by
    intro k
    induction k using Nat.strongRecOn with
    | _ k ih =>
      intro s hk hi
      rcases h s hi with ⟨s', h1, h2, h3⟩ | ⟨r, h1, h2⟩
      · obtain ⟨r, h4, h5⟩ := ih (m s') (by omega) s' rfl h2
        exact ⟨r, .again h1 h4, h5⟩
      · exact ⟨r, .out h1, h2⟩
  exact key _ s rfl h0
def RQ {σ ρ : Type} (n : Nat) (w0 : World) (I : σ → Env → GH → Prop) (O : ρ → Exit → Env → GH → Prop) (o : σ ⊕ ρ) : Exit → Act → World → Prop :=
  fun ex a w => ∃ e' H', Ag n e' a ∧ St w0 H' w ∧ ((∃ s', o = .inl s' ∧ ex = .normal ∧ I s' e' H') ∨ ∃ r, o = .inr r ∧ ex ≠ .normal ∧ O r ex e' H')
section
variable {P : Program} {n : Nat} {w0 : World} {env : Env} {H : GH} {Q : Exit → Act → World → Prop} {ops : Array Oper} {rest : List Oper}
theorem xw_wh {σ ρ : Type} {f : σ → σ ⊕ ρ → Prop} {c : Code} (I : σ → Env → GH → Prop) (O : ρ → Exit → Env → GH → Prop) {s0 : σ} {x : ρ} (hw : Wh f s0 x)
    (h0 : ∃ e1 H1, Live env e1 ∧ (∀ w, St w0 H w → St w0 H1 w) ∧ I s0 e1 H1)
    (round : ∀ s o e H, I s e H → f s o → XW P n w0 e H c (RQ n w0 I O o))
    (out : ∀ ex e' H', O x ex e' H' → XQ n w0 e' H' ex Q) : XW P n w0 env H (.loop c) Q := by
  intro a w ha hs
  obtain ⟨e1, H1, hl, hst, hi⟩ := h0
  intro b k cs
  have key : ∀ s, Wh f s x → ∀ e H a w, I s e H → Ag n e a → St w0 H w → ∃ ex a' w', Q ex a' w' ∧ Arrives P (lone (b.at a (.code c :: .inLoop c :: k)) cs w) b k cs ex a' w' := by
    intro s hw
    induction hw with
    | @out s r h =>
      intro e H a w hI ha hs
      obtain ⟨ex, a₁, w₁, hq, harr⟩ := round s _ e H hI h a w ha hs b (.inLoop c :: k) cs
      obtain ⟨e', H', ha', hs', hq | hq⟩ := hq
      · obtain ⟨s', h1, _⟩ := hq; cases h1
      · obtain ⟨r', h1, hne, hO⟩ := hq
        cases h1
        have hQ := out ex e' H' hO a₁ w₁ ha' hs'
        cases ex with
        | normal => exact absurd rfl hne
        | exit id => exact ⟨_, a₁, w₁, hQ, .pass (x := .inLoop c) rfl (fun _ _ => .inl (by simp)) harr⟩
        | goto l => exact ⟨_, a₁, w₁, hQ, .pass (x := .inLoop c) rfl (fun _ _ => .inl (by simp)) harr⟩
        | ret => exact ⟨_, a₁, w₁, hQ, .pass (x := .inLoop c) rfl (fun _ _ => .inl (by simp)) harr⟩
        | panic ch => exact ⟨_, a₁, w₁, hQ, .pass (x := .inLoop c) rfl (fun _ _ => .inl (by simp)) harr⟩
        | outgrown => exact ⟨_, a₁, w₁, hQ, .pass (x := .inLoop c) rfl (fun _ _ => .inl (by simp)) harr⟩
    | @again s s' r h _ ih =>
      intro e H a w hI ha hs
      obtain ⟨ex, a₁, w₁, hq, harr⟩ := round s _ e H hI h a w ha hs b (.inLoop c :: k) cs
      obtain ⟨e', H', ha', hs', hq | hq⟩ := hq
      · obtain ⟨s'', h1, hex, hI'⟩ := hq
        cases h1
        subst hex
        obtain ⟨ex₂, a₂, w₂, hq₂, harr₂⟩ := ih (by assumption) out e' H' a₁ w₁ hI' ha' hs'
        exact ⟨ex₂, a₂, w₂, hq₂, .of_steps (Steps.trans harr (.one step_inLoop)) harr₂⟩
      · obtain ⟨r', h1, _⟩ := hq; cases h1
  obtain ⟨ex, a', w', hq, harr⟩ := key s0 hw e1 H1 a w hi (ha.live hl) (hst w hs)
  exact ⟨ex, a', w', hq, .of_steps (.one step_loop) harr⟩
theorem xq_next {σ ρ : Type} {I : σ → Env → GH → Prop} {O : ρ → Exit → Env → GH → Prop} {o : σ ⊕ ρ} {s' : σ} {e' : Env} (H' : GH) (hl : Live env e') (hst : ∀ w, St w0 H w → St w0 H' w) (ho : o = .inl s') (hI : I s' e' H') :
    XQ n w0 env H .normal (RQ n w0 I O o) := fun a w ha hs => ⟨e', H', ha.live hl, hst w hs, .inl ⟨s', ho, rfl, hI⟩⟩
theorem xq_out {σ ρ : Type} {I : σ → Env → GH → Prop} {O : ρ → Exit → Env → GH → Prop} {o : σ ⊕ ρ} {r : ρ} {ex : Exit} {e' : Env} (H' : GH) (hl : Live env e') (hst : ∀ w, St w0 H w → St w0 H' w) (ho : o = .inr r) (hne : ex ≠ .normal) (hO : O r ex e' H') :
    XQ n w0 env H ex (RQ n w0 I O o) := fun a w ha hs => ⟨e', H', ha.live hl, hst w hs, .inr ⟨r, ho, hne, hO⟩⟩
end
/-! ### Segments -/
/-- B' is what has become of B: its blocks are there still, and new ones may be. -/
def Cov (w0 : World) (B B' : GH) : Prop := (∀ k, k ∈ keys B' → k ∈ keys B ∨ w0.heap.size ≤ k) ∧ ∀ k, k ∈ keys B → k ∈ keys B'
theorem Cov.refl {w0 : World} (B : GH) : Cov w0 B B := ⟨fun _ h => .inl h, fun _ h => h⟩
theorem Cov.trans {w0 : World} {A B C : GH} (h : Cov w0 A B) (k : Cov w0 B C) : Cov w0 A C :=
  ⟨fun x hx => (k.1 x hx).elim (fun h' => h.1 x h') .inr, fun x hx => k.2 x (h.2 x hx)⟩
theorem Cov.fresh {w0 : World} {B : GH} (h : Cov w0 [] B) : ∀ k, k ∈ keys B → w0.heap.size ≤ k := fun k hk => (h.1 k hk).elim (fun h => by simp at h) id
theorem Cov.base {w0 w1 : World} {A B : GH} (h : Cov w1 A B) (hw : w0.heap.size ≤ w1.heap.size) : Cov w0 A B := ⟨fun k hk => (h.1 k hk).imp id fun h => Nat.le_trans hw h, h.2⟩
theorem Cov.cons {w0 : World} {b : Nat} {o o' : Obj} {A B : GH} (h : Cov w0 A B) : Cov w0 ((b, o) :: A) ((b, o') :: B) :=
  ⟨fun k hk => by
    simp only [keys_cons, List.mem_cons] at hk ⊢
    rcases hk with hk | hk
    · exact .inl (.inl hk)
    · exact (h.1 k hk).imp .inr id, fun k hk => by
    simp only [keys_cons, List.mem_cons] at hk ⊢
    exact hk.imp id (h.2 k)⟩
theorem Cov.app {w0 : World} {A A' B B' : GH} (h : Cov w0 A A') (k : Cov w0 B B') : Cov w0 (A ++ B) (A' ++ B') :=
  ⟨fun x hx => by
    simp only [keys_append, List.mem_append] at hx ⊢
    rcases hx with hx | hx
    · exact (h.1 x hx).imp .inl id
    · exact (k.1 x hx).imp .inr id, fun x hx => by
    simp only [keys_append, List.mem_append] at hx ⊢
    exact hx.imp (h.2 x) (k.2 x)⟩
theorem Cov.new {w0 : World} {b : Nat} {o : Obj} {B : GH} (hb : w0.heap.size ≤ b) : Cov w0 B ((b, o) :: B) :=
  ⟨fun k hk => by
    simp only [keys_cons, List.mem_cons] at hk
    rcases hk with hk | hk
    · exact .inr (hk ▸ hb)
    · exact .inl hk, fun k hk => by simp only [keys_cons, List.mem_cons]; exact .inr hk⟩
theorem Cov.upd {w0 : World} {b : Nat} {o : Obj} {B B' : GH} (h : Upd B b o B') : Cov w0 B B' := ⟨fun k hk => .inl (by rw [← h.keys]; exact hk), fun k hk => by rw [h.keys]; exact hk⟩
theorem Upd.ex {b : Nat} {o : Obj} (o' : Obj) : ∀ {B : GH}, (b, o) ∈ B → ∃ B', Upd B b o' B'
  | x :: B, h => by
    rcases List.mem_cons.1 h with h | h
    · subst h; exact ⟨_, .here b o o' B⟩
    · obtain ⟨B', hB'⟩ := Upd.ex o' h
      exact ⟨x :: B', .there x _ _ _ _ hB'⟩
theorem Upd.left {b : Nat} {o : Obj} {B B' H : GH} (h : Upd B b o B') : Upd (B ++ H) b o (B' ++ H) := by
  induction h with
  | here b o o' t => exact .here b o o' _
  | there x t t' b o' h ih => exact .there x _ _ b o' ih
theorem Upd.isin {b : Nat} {o : Obj} {B B' : GH} (h : Upd B b o B') : (b, o) ∈ B' := by
  induction h with
  | here => exact List.mem_cons_self ..
  | there x t t' b o' h ih => exact List.mem_cons_of_mem _ ih
/-- Where a segment, or a block, stands. -/
inductive Pull : GH → GH → GH → Prop
  | here (S R : GH) : Pull (S ++ R) S R
  | hereC (x : Nat × Obj) (R : GH) : Pull (x :: R) [x] R
  | there (A : GH) {H S R : GH} (h : Pull H S R) : Pull (A ++ H) S (A ++ R)
  | thereC (x : Nat × Obj) {H S R : GH} (h : Pull H S R) : Pull (x :: H) S (x :: R)
theorem Pull.perm {H S R : GH} (h : Pull H S R) : H.Perm (S ++ R) := by
  induction h with
  | here => exact List.Perm.refl _
  | hereC => exact List.Perm.refl _
  | @there A H S R h ih =>
    refine (List.Perm.append_left A ih).trans ?_
    rw [← List.append_assoc, ← List.append_assoc]
    exact List.Perm.append_right R List.perm_append_comm
  | @thereC x H S R h ih => exact (List.Perm.cons x ih).trans List.perm_middle.symm
theorem Pull.st {w0 w : World} {H S R : GH} (h : Pull H S R) (hs : St w0 H w) : St w0 (S ++ R) w := hs.perm h.perm
theorem Pull.push {w0 w : World} {H S R : GH} (h : Pull H S R) (hs : St w0 (S ++ R) w) : St w0 H w := hs.perm h.perm.symm
theorem Pull.sub {H S R : GH} (h : Pull H S R) : ∀ x ∈ S, x ∈ H := fun _ hx => h.perm.mem_iff.2 (List.mem_append_left _ hx)
theorem Pull.mem {H R : GH} {x : Nat × Obj} (h : Pull H [x] R) : x ∈ H := h.sub x (List.mem_singleton.2 rfl)
/-- All blocks are new. -/
def Fr (w0 : World) (H : GH) : Prop := ∀ k, k ∈ keys H → w0.heap.size ≤ k
theorem Fr.nil {w0 : World} : Fr w0 [] := fun _ h => by simp at h
theorem Fr.cons {w0 : World} {b : Nat} {o : Obj} {H : GH} (hb : w0.heap.size ≤ b) (h : Fr w0 H) : Fr w0 ((b, o) :: H) := fun k hk => by
  simp only [keys_cons, List.mem_cons] at hk
  exact hk.elim (fun e => e ▸ hb) (h k)
theorem Fr.seg {w0 : World} {B H : GH} (hb : Cov w0 [] B) (h : Fr w0 H) : Fr w0 (B ++ H) := fun k hk => by
  simp only [keys_append, List.mem_append] at hk
  exact hk.elim (hb.fresh k) (h k)
/-! ### Slices -/
def OJ {α : Type} (T : TypeId) (s : Nat) (c : α → Nat → Value) (B : GH) (v : Value) (l : List α) : Prop :=
  (v = .slice none 0 0 ∧ l = []) ∨ ∃ b o cap N F, (b, BK N F T) ∈ B ∧ v = .slice (some ⟨b, o, none⟩) l.length cap ∧ l.length ≤ cap ∧ o + cap * s ≤ N ∧ cap ≤ maxLen ∧ ∀ i, i < l.length * s → F (o + i) = eG s c l i
section
variable {α : Type} {w0 w : World} {T : TypeId} {s : Nat} {c : α → Nat → Value} {B H R : GH} {v : Value} {l : List α}
theorem OJ.nil : OJ T s c B (.slice none 0 0) ([] : List α) := .inl ⟨rfl, rfl⟩
theorem OJ.mono {B' : GH} (h : OJ T s c B v l) (hB : ∀ x ∈ B, x ∈ B') : OJ T s c B' v l := by
  rcases h with h | ⟨b, o, cp, N, F, h1, h2⟩
  · exact .inl h
  · exact .inr ⟨b, o, cp, N, F, hB _ h1, h2⟩
theorem OJ.val (h : OJ T s c B v l) : ∃ p cap, v = .slice p l.length cap := by
  rcases h with ⟨rfl, rfl⟩ | ⟨b, o, cp, N, F, h1, h2, h3⟩
  · exact ⟨none, 0, rfl⟩
  · exact ⟨_, _, h2⟩
theorem OJ.sl (h : OJ T s c B v l) (hs : St w0 H w) (hB : ∀ x ∈ B, x ∈ H) : SL w s c v l := by
  rcases h with ⟨rfl, rfl⟩ | ⟨b, o, cp, N, F, h1, h2, h3, h4, h5, h6⟩
  · exact SL.nil
  · refine ⟨_, _, h2, h3, h5, fun h => (by cases h), SrcAt.own hs (hB _ h1) ?_ h6⟩
    have := Nat.mul_le_mul_right s h3
    omega
theorem OJ.lit {b n N : Nat} {F : Nat → Value} (hm : (b, BK N F T) ∈ B) (hl : n = l.length) (hN : n * s ≤ N) (hmx : n ≤ maxLen) (hF : ∀ i, i < n * s → F i = eG s c l i) : OJ T s c B (.slice (some ⟨b, 0, none⟩) n n) l := by
  subst hl
  exact .inr ⟨b, 0, _, N, F, hm, rfl, Nat.le_refl _, by omega, hmx, fun i hi => by rw [Nat.zero_add]; exact hF i hi⟩
theorem eG_drop {lo : Nat} (hlo : lo ≤ l.length) (hs : 0 < s) (i : Nat) : eG s c (l.drop lo) i = eG s c l (lo * s + i) := by
  simp only [eG, List.getElem?_drop]
  rw [Nat.mul_comm lo s, Nat.mul_add_div hs, Nat.mul_add_mod]
theorem eG_take {hi i : Nat} (h : i < (l.take hi).length * s) (hs : 0 < s) : eG s c (l.take hi) i = eG s c l i := by
  have h1 : i / s < (l.take hi).length := by rw [Nat.div_lt_iff_lt_mul hs]; exact h
  simp only [eG]
  rw [List.getElem?_take_of_lt (by simp at h1; omega)]
/-- What a slice of a slice is. -/
def cutV (v : Value) (s lo hi : Nat) : Value := match v with
  | .slice p _ cap => .slice (if cap = lo then p else p.map (·.add (lo * s))) (hi - lo) (cap - lo)
  | v => v
theorem OJ.cut {lo hi : Nat} (h : OJ T s c B v l) (hlo : lo ≤ hi) (hhi : hi ≤ l.length) (hs : 0 < s) : OJ T s c B (cutV v s lo hi) ((l.take hi).drop lo) := by
  rcases h with ⟨rfl, rfl⟩ | ⟨b, o, cp, N, F, h1, rfl, h3, h4, h5, h6⟩
  · simp at hhi
    subst hhi
    obtain rfl : lo = 0 := by omega
    exact .inl ⟨rfl, rfl⟩
  · have hlen : ((l.take hi).drop lo).length = hi - lo := by simp; omega
    have key : ∀ i, i < (hi - lo) * s → eG s c ((l.take hi).drop lo) i = eG s c l (lo * s + i) := by
      intro i hi'
      rw [eG_drop (by simp; omega) hs]
      refine eG_take ?_ hs
      rw [List.length_take, Nat.min_eq_left hhi]
      have : (hi - lo) * s + lo * s = hi * s := by rw [← Nat.add_mul]; congr 1; omega
      omega
    have hhs := Nat.mul_le_mul_right s hhi
    have hcs := Nat.mul_le_mul_right s h3
    have hls := Nat.mul_le_mul_right s hlo
    by_cases hcl : cp = lo
    · refine .inr ⟨b, o, cp - lo, N, F, h1, by simp [cutV, hcl, hlen], by rw [hlen]; omega, ?_, by omega, ?_⟩
      · subst hcl; simp; omega
      · intro i hi'
        rw [hlen] at hi'
        have : hi - lo = 0 := by omega
        rw [this] at hi'
        omega
    · refine .inr ⟨b, o + lo * s, cp - lo, N, F, h1, by simp [cutV, hcl, hlen, Addr.add_lit], by rw [hlen]; omega, ?_, by omega, ?_⟩
      · rw [Nat.sub_mul]
        have := Nat.mul_le_mul_right s (show lo ≤ cp by omega)
        omega
      · intro i hi'
        rw [hlen] at hi'
        rw [key i hi', Nat.add_assoc]
        refine h6 _ ?_
        have : (hi - lo) * s + lo * s = hi * s := by rw [← Nat.add_mul]; congr 1; omega
        omega
theorem SL.cut {lo hi : Nat} (h : SL w s c v l) (hlo : lo ≤ hi) (hhi : hi ≤ l.length) (hs : 0 < s) : SL w s c (cutV v s lo hi) ((l.take hi).drop lo) := by
  obtain ⟨p, cp, rfl, h3, h5, h6, h7⟩ := h
  have hlen : ((l.take hi).drop lo).length = hi - lo := by simp; omega
  have key : ∀ i, i < (hi - lo) * s → eG s c ((l.take hi).drop lo) i = eG s c l (lo * s + i) := by
    intro i hi'
    rw [eG_drop (by simp; omega) hs]
    refine eG_take ?_ hs
    rw [List.length_take, Nat.min_eq_left hhi]
    have : (hi - lo) * s + lo * s = hi * s := by rw [← Nat.add_mul]; congr 1; omega
    omega
  have hsum : (hi - lo) * s + lo * s = hi * s := by rw [← Nat.add_mul]; congr 1; omega
  have hhs := Nat.mul_le_mul_right s hhi
  refine ⟨if cp = lo then p else p.map (·.add (lo * s)), cp - lo, by rw [hlen]; rfl, by rw [hlen]; omega, by omega, ?_, ?_⟩
  · intro hp
    split at hp
    · omega
    · cases p with
      | none => have := h6 rfl; omega
      | some a => simp at hp
  · rw [hlen]
    rcases Nat.eq_zero_or_pos ((hi - lo) * s) with h0 | h0
    · exact .inl h0
    · rcases h7 with h7 | ⟨b, o, rfl, hc⟩
      · omega
      · have hpos : 0 < hi - lo := Nat.pos_of_mul_pos_right h0
        rw [if_neg (by omega)]
        refine .inr ⟨b, o + lo * s, by simp [Addr.add_lit], fun i hi' => ?_⟩
        rw [Nat.add_assoc, hc _ (by omega), key i hi']
/-- Where element k of a slice's cells lies. -/
def sadr (v : Value) (k : Nat) : Addr := match v with
  | .slice (some a) _ _ => a.add k
  | _ => ⟨0, k, none⟩
theorem SL.place {j : Nat} (h : SL w s c v l) (hj : j < l.length) (hs : 0 < s) : ∃ b o cap, v = .slice (some ⟨b, o, none⟩) l.length cap ∧ ∀ k, k < s → w.cell? ⟨b, o + (j * s + k), none⟩ = some (c l[j] k) := by
  obtain ⟨b, o, cp, hv, _, _, _, hc⟩ := Sl.at h hj hs
  refine ⟨b, o, cp, hv, fun k hk => ?_⟩
  have : j * s + k < l.length * s := by
    have := Nat.mul_le_mul_right s (show j + 1 ≤ l.length by omega)
    rw [Nat.add_mul, Nat.one_mul] at this
    omega
  rw [hc _ this, eG_at hj hk]
end
def errV (T : TypeId) (c : Int) : Value := if c = 0 then .nilIface else .iface T (.int .i64 c)
section
variable {α : Type} {P : Program} {n : Nat} {w0 : World} {env : Env} {H R : GH} {Q : Exit → Act → World → Prop} {ops : Array Oper} {rest : List Oper}
variable {ty : TypeId} {pos : String} {af : Array Edge} {g : Option (Nat × Bool)}
variable {t yt : TypeId} {x y : Operand} {b o N s : Nat} {T : TypeId} {c : α → Nat → Value} {v : Value} {l : List α} {B : GH}
/-- len, of a list -/
theorem o_lenL {d : Option Nat} {e : TypeId} {ts : Array TypeId} (ht : ts = #[t]) (he : P.underlying t = some (.slice e)) {args : Array Operand} (hargs : evL env args.toList = some [v]) (hv : ∃ p cap, v = .slice p l.length cap) :
    OT P w0 env H ⟨d, .call ⟨.builtin .len, args, ts⟩, ty, pos, af, g⟩ (Is (.int .i64 (l.length : Int)) H) := o_lenS ht he hargs hv
theorem o_ixL {d : Option Nat} {e : TypeId} {ag : Bool} {k : IntKind} {i : Int} (he : Elm P t e s ag) (hx : ev env x = some v) (hs0 : Nat.blt 0 s = true) (hv : ∀ w, St w0 H w → SL w s c v l) (hy : ev env y = some (.int k i)) (h0 : 0 ≤ i ∧ i < l.length) :
    OT P w0 env H ⟨d, .indexAddr t x y, ty, pos, af, g⟩ (Is (.pointer (some (sadr v (i.toNat * s)))) H) := by
  intro a w ha hst
  have hspos : 0 < s := by simpa [Nat.blt_eq] using hs0
  obtain ⟨b, o, cp, rfl, _⟩ := (hv w hst).place (j := i.toNat) (by omega) hspos
  simp only [sadr, Addr.add_lit]
  exact o_ixs (w0 := w0) (H := H) he hx hy h0 rfl a w ha hst
theorem o_ldL1 [Inhabited α] {d : Option Nat} {k j off q : Nat} {u : Value} (hx : ev env x = some (.pointer (some (sadr v k)))) (ht : TyS P t q false) (hs0 : Nat.blt off s = true) (hv : ∀ w, St w0 H w → SL w s c v l) (hj : j < l.length) (hk : k = j * s + off) (hu : c l[j]! off = u) :
    OT P w0 env H ⟨d, .load t x, ty, pos, af, g⟩ (Is u H) := by
  subst hk hu
  refine OT.val fun a w ha hs => ?_
  have hso : off < s := by simpa [Nat.blt_eq] using hs0
  obtain ⟨b, o, cp, rfl, hc⟩ := (hv w hs).place hj (by omega)
  rw [getElem!_pos l j hj]
  refine ⟨_, w, H, run_load1 (b := b) (o := o + (j * s + off)) ?_ ht (hc off hso), hs, rfl, rfl⟩
  rw [ha.ev hx]; simp [sadr, Addr.add_lit]
theorem o_ldLA [Inhabited α] {d : Option Nat} {k j off q : Nat} {f : Nat → Value} (hx : ev env x = some (.pointer (some (sadr v k)))) (ht : TyS P t q true) (hq : Nat.ble (off + q) s = true) (hq0 : Nat.blt 0 q = true) (hv : ∀ w, St w0 H w → SL w s c v l) (hj : j < l.length) (hk : k = j * s + off) (hu : ∀ i, i < q → c l[j]! (off + i) = f i) :
    OT P w0 env H ⟨d, .load t x, ty, pos, af, g⟩ (Is (AG q f) H) := by
  subst hk
  have hle := Nat.le_of_ble_eq_true hq
  have hq0' : 0 < q := by simpa [Nat.blt_eq] using hq0
  refine OT.val fun a w ha hs => ?_
  obtain ⟨b, o, cp, rfl, hc⟩ := (hv w hs).place hj (by omega)
  refine ⟨_, w, H, run_loadA (b := b) (o := o + (j * s + off)) (f := f) ?_ ht (fun i hi => ?_), hs, rfl, rfl⟩
  · rw [ha.ev hx]; simp [sadr, Addr.add_lit]
  · have := hc (off + i) (by omega)
    rw [show o + (j * s + off) + i = o + (j * s + (off + i)) by omega, this, ← hu i hi, getElem!_pos l j hj]
/-- A whole element that is a flat struct. -/
theorem o_ldLI {d : Option Nat} {l : List (Nat → Int)} {k j : Nat} (hx : ev env x = some (.pointer (some (sadr v k)))) (ht : TyS P t s true) (hs0 : Nat.blt 0 s = true) (hv : ∀ w, St w0 H w → SL w s iv v l) (hj : j < l.length) (hk : k = j * s) :
    OT P w0 env H ⟨d, .load t x, ty, pos, af, g⟩ (Is (AI s l[j]!) H) :=
  o_ldLA (off := 0) hx ht (by simp) hs0 hv hj hk (fun i _ => by rw [Nat.zero_add])
/-- Cut, of lists: [:h], [l:], [l:h]. -/
theorem run_cut {d : Option Nat} {a : Act} {w : World} {e : TypeId} {ag : Bool} {lo hi : Option Operand} {m h : Nat} (he : Elm P t e s ag) (hx : a.eval x = v) (hv : ∃ p cap, v = .slice p l.length cap ∧ l.length ≤ cap)
    (hlo : ∀ o, lo = some o → ∃ k, a.eval o = .int k (m : Int)) (hlo' : lo = none → m = 0) (hhi : ∀ o, hi = some o → ∃ k, a.eval o = .int k (h : Int)) (hhi' : hi = none → h = l.length) (hlh : m ≤ h) (hhc : h ≤ l.length) :
    (execOp a.eval ⟨d, .slice t x lo hi none, ty, pos, af, g⟩).run P w = .ok (.value (cutV v s m h)) w := by
  obtain ⟨p, cap, rfl, hc⟩ := hv
  exact run_slice he hx hlo hlo' hhi hhi' hlh (Nat.le_trans hhc hc)
theorem o_cutH {d : Option Nat} {e : TypeId} {ag : Bool} {o2 : Operand} {k : IntKind} {j : Int} (he : Elm P t e s ag) (hx : ev env x = some v) (hv : ∀ w, St w0 H w → SL w s c v l) (h2 : ev env o2 = some (.int k j)) (hj : 0 ≤ j ∧ j ≤ l.length) :
    OT P w0 env H ⟨d, .slice t x none (some o2) none, ty, pos, af, g⟩ (Is (cutV v s 0 j.toNat) H) :=
  OT.val fun a w ha hs => ⟨_, w, H, run_cut (l := l) he (ha.ev hx) (let ⟨p, cp, h, h', _⟩ := hv w hs; ⟨p, cp, h, h'⟩) (fun o ho => by cases ho) (fun _ => rfl) (fun o ho => by cases ho; exact ⟨k, by rw [ha.ev h2, Int.toNat_of_nonneg hj.1]⟩) (fun h => by cases h) (Nat.zero_le _) (by omega), hs, rfl, rfl⟩
theorem o_cutL {d : Option Nat} {e : TypeId} {ag : Bool} {o1 : Operand} {k : IntKind} {i : Int} (he : Elm P t e s ag) (hx : ev env x = some v) (hv : ∀ w, St w0 H w → SL w s c v l) (h1 : ev env o1 = some (.int k i)) (hi : 0 ≤ i ∧ i ≤ l.length) :
    OT P w0 env H ⟨d, .slice t x (some o1) none none, ty, pos, af, g⟩ (Is (cutV v s i.toNat l.length) H) :=
  OT.val fun a w ha hs => ⟨_, w, H, run_cut (l := l) he (ha.ev hx) (let ⟨p, cp, h, h', _⟩ := hv w hs; ⟨p, cp, h, h'⟩) (fun o ho => by cases ho; exact ⟨k, by rw [ha.ev h1, Int.toNat_of_nonneg hi.1]⟩) (fun h => by cases h) (fun o ho => by cases ho) (fun _ => rfl) (by omega) (by omega), hs, rfl, rfl⟩
/-! Errors -/
theorem o_eqE {d : Option Nat} {ds : TypeDesc} {r : Int} (ht : P.underlying t = some ds) (hz : nilOf ds = some .nilIface) (hk : ∀ u, sameKind ds (.iface u (.int .i64 r)) = true) (hk0 : sameKind ds .nilIface = true) (hx : ev env x = some (errV T r)) :
    OT P w0 env H ⟨d, .binOp .eql t x (.const .nilIface) yt, ty, pos, af, g⟩ (Is (.bool (decide (r = 0))) H) := by
  refine o_eqn (r := decide (r = 0)) ht hz hx ?_ ?_
  · unfold errV; split
    · exact hk0
    · exact hk _
  · unfold errV; split
    · rename_i h; simp [isNilV, h]
    · rename_i h; simp [isNilV, h]
theorem o_neE {d : Option Nat} {ds : TypeDesc} {r : Int} (ht : P.underlying t = some ds) (hz : nilOf ds = some .nilIface) (hk : ∀ u, sameKind ds (.iface u (.int .i64 r)) = true) (hk0 : sameKind ds .nilIface = true) (hx : ev env x = some (errV T r)) :
    OT P w0 env H ⟨d, .binOp .neq t x (.const .nilIface) yt, ty, pos, af, g⟩ (Is (.bool (!decide (r = 0))) H) := by
  refine o_nen (r := decide (r = 0)) ht hz hx ?_ ?_
  · unfold errV; split
    · exact hk0
    · exact hk _
  · unfold errV; split
    · rename_i h; simp [isNilV, h]
    · rename_i h; simp [isNilV, h]
end
end Go.E
/- The engine, part 10: append to a slice whose segment may hold more; stores through places of elements. -/
namespace Go.E
open Go
/-- A slice in a segment: nil, or of n elements with cells G. -/
def Oj (T : TypeId) (s : Nat) (B : GH) (v : Value) (n : Nat) (G : Nat → Value) : Prop :=
  (v = .slice none 0 0 ∧ n = 0) ∨ ∃ b o c N F, (b, BK N F T) ∈ B ∧ v = .slice (some ⟨b, o, none⟩) n c ∧ n ≤ c ∧ o + c * s ≤ N ∧ c ≤ maxLen ∧ ∀ i, i < n * s → F (o + i) = G i
theorem Oj.val {T : TypeId} {s n : Nat} {B : GH} {v : Value} {G : Nat → Value} (h : Oj T s B v n G) : ∃ p c, v = .slice p n c ∧ n ≤ c ∧ c ≤ maxLen ∧ (p = none → c = 0) := by
  rcases h with ⟨h2, h3⟩ | ⟨b, o, c, N, F, h1, h3, h4, h5, h6, h7⟩
  · subst h3; exact ⟨none, 0, h2, Nat.le_refl _, Nat.zero_le _, fun _ => rfl⟩
  · exact ⟨_, c, h3, h4, h6, fun h => by cases h⟩
theorem Oj.ext {T : TypeId} {s n : Nat} {B : GH} {v : Value} {G G' : Nat → Value} (h : Oj T s B v n G) (hG : ∀ i, i < n * s → G i = G' i) : Oj T s B v n G' := by
  rcases h with h | ⟨b, o, c, N, F, h1, h3, h4, h5, h6, h7⟩
  · exact .inl h
  · exact .inr ⟨b, o, c, N, F, h1, h3, h4, h5, h6, fun i hi => (h7 i hi).trans (hG i hi)⟩
section
variable {P : Program} {n : Nat} {w0 : World} {env : Env} {H : GH} {Q : Exit → Act → World → Prop} {ops : Array Oper} {rest : List Oper}
variable {d : Option Nat} {op : Op} {ty : TypeId} {pos : String} {af : Array Edge} {g : Option (Nat × Bool)}
variable {t yt : TypeId} {x y : Operand} {b o N s : Nat} {F : Nat → Value} {m k : Nat → Int} {T : TypeId}
theorem o_appj {e : TypeId} {by_ : Nat} {z : Value} {B : GH} {v : Value} {n m c2 : Nat} {G S : Nat → Value} {q : Option Addr} {ts : Array TypeId} {args : Array Operand} (ht : App P t e s by_ z) (hts : ts = #[t, t])
    (hargs : evL env args.toList = some [v, .slice q m c2]) (hown : Oj e s B v n G) (hsrc : ∀ w, St w0 (B ++ H) w → SrcAt w q (m * s) S) (h1 : ∀ i, i < m * s → (S i).oneCell' = true) (hmax : n + m ≤ maxLen) (hby : (n + m) * by_ ≤ 140737488355328) :
    OT P w0 env (B ++ H) ⟨d, .call ⟨.builtin .append, args, ts⟩, ty, pos, af, g⟩ (fun v' H' => ∃ B', H' = B' ++ H ∧ Cov w0 B B' ∧ Oj e s B' v' (n + m) (app G (n * s) S)) :=
  OT.val fun a w ha hs => by
    subst hts
    have e1 : args.map a.eval = #[v, .slice q m c2] := Array.toList_inj.1 (by simpa using evL_spec ha _ _ hargs)
    have hexec : (execOp a.eval ⟨d, .call ⟨.builtin .append, args, #[t, t]⟩, ty, pos, af, g⟩).run P w = ((Builtin.append_ #[t, t] ty #[v, .slice q m c2]).run P w).andThen fun u w' => .ok (.value u) w' := by
      simp [execOp, resolve, invoke, builtin, e1]
    obtain ⟨i, hi, hi'⟩ := Option.map_eq_some_iff.1 ht.i
    simp only [Prod.mk.injEq] at hi'
    obtain ⟨hi1, hi2, hi3⟩ := hi'
    have hspos : 0 < s := by simpa [Nat.blt_eq] using ht.pos
    have hmx : maxLen = 9223372036854775807 := by decide
    have hsrc' := hsrc w hs
    -- the case of nothing to put
    rcases Nat.eq_zero_or_pos m with hm0 | hmpos
    · subst hm0
      obtain ⟨p, c, hv, hnc, hcm, hpn⟩ := hown.val
      have hr : (Builtin.append_ #[t, t] ty #[v, .slice q 0 c2]).run P w = .ok v w := by
        rw [hv]
        cases q <;> cases p <;> simp [Builtin.append_, run_underlying ht.u, Go.sizeOf, typeInfo, hi, Builtin.lenOf, hnc, Builtin.firstCells, loadCells, loadCellsFrom, storeCells]
      refine ⟨v, w, B ++ H, by rw [hexec, hr]; rfl, hs, B, rfl, Cov.refl B, ?_⟩
      rw [Nat.add_zero]
      exact hown.ext fun i hi => by simp [app, hi]
    · have hms : m * s ≠ 0 := Nat.mul_ne_zero (by omega) (by omega)
      rcases hsrc' with h0 | ⟨b2, o2, hq, hcells⟩
      · exact absurd h0 hms
      · subst hq
        have hl : ((List.range (m * s)).map S).length = m * i.size := by rw [hi1]; simp
        have hnews := list_src hcells
        have hoc : ∀ u ∈ (List.range (m * s)).map S, u.oneCell' = true := by
          intro u hu
          obtain ⟨j, hj, rfl⟩ := List.mem_map.1 hu
          exact h1 j (List.mem_range.1 hj)
        rcases hown with ⟨hv, hn0⟩ | ⟨b, o, c, N, F, hB, hv, hnc, hoN, hcm, hF⟩
        · subst hv hn0
          simp only [Nat.zero_add] at hmax hby
          have hr := run_append_nil (P := P) w t ty e i z ht.u hi hi3 ⟨b2, o2, none⟩ m c2 _ hl hnews hmpos (by omega) (by rw [hi2]; omega)
          have hgc := grownCap_ge w m 0 e
          have hgm := grownCap_le_maxLen w m 0 e (by omega)
          have hobj : Obj.cells (((List.range (m * s)).map S).toArray ++ Builtin.zeroCells z.cells (grownCap w m 0 e - m)) e = BK (grownCap w m 0 e * s) (fun j => (((List.range (m * s)).map S).toArray ++ Builtin.zeroCells z.cells (grownCap w m 0 e - m)).getD j undef) e := by
            unfold BK
            congr 1
            refine CV_eq ?_ fun j hj => ?_
            · simp only [Array.size_append, List.size_toArray, List.length_map, List.length_range, size_zeroCells, ht.z, ← Nat.add_mul]
              congr 1; omega
            · have hsz : (((List.range (m * s)).map S).toArray ++ Builtin.zeroCells z.cells (grownCap w m 0 e - m)).size = grownCap w m 0 e * s := by
                simp only [Array.size_append, List.size_toArray, List.length_map, List.length_range, size_zeroCells, ht.z, ← Nat.add_mul]
                congr 1; omega
              simp only [Array.getD_eq_getD_getElem?]
              rw [Array.getElem?_eq_getElem (by rw [hsz]; exact hj)]
              rfl
          have hst := (hs.drew).alloc (Obj.cells (((List.range (m * s)).map S).toArray ++ Builtin.zeroCells z.cells (grownCap w m 0 e - m)) e)
          refine ⟨_, _, _, by rw [hexec, hr]; rfl, hst, (w.heap.size, BK (grownCap w m 0 e * s) (fun j => (((List.range (m * s)).map S).toArray ++ Builtin.zeroCells z.cells (grownCap w m 0 e - m)).getD j undef) e) :: B, by rw [hobj]; rfl, Cov.new hs.size, ?_⟩
          refine .inr ⟨w.heap.size, 0, grownCap w m 0 e, _, _, List.mem_cons_self .., by rw [Nat.zero_add], by omega, by omega, hgm, fun j hj => ?_⟩
          simp only [Nat.zero_add] at hj ⊢
          simp only [app, Nat.zero_mul, Nat.not_lt_zero, if_false, Nat.sub_zero]
          rw [Array.getD_eq_getD_getElem?, Array.getElem?_append_left (by simpa using hj)]
          simp [hj]
        · subst hv
          by_cases hroom : n + m ≤ c
          · -- there is room
            have hbk : w.heap[b]? = some (BK N F e) := hs.own _ _ (List.mem_append_left _ hB)
            have hcs : (n + m) * s ≤ c * s := Nat.mul_le_mul_right _ hroom
            rw [Nat.add_mul] at hcs
            have hfc := run_firstCells_some (P := P) w i.size m ⟨b2, o2, none⟩ m c2 _ hl hnews
            have hst := run_storeCells_at P b (o + n * s) e ((List.range (m * s)).map S) 0 (CV N F) w hbk (by simp; omega) hoc
            simp only [Nat.add_zero] at hst
            have hr : (Builtin.append_ #[t, t] ty #[.slice (some ⟨b, o, none⟩) n c, .slice (some ⟨b2, o2, none⟩) m c2]).run P w = .ok (.slice (some ⟨b, o, none⟩) (n + m) c) (w.setRow b ((CV N F).toList.take (o + n * s) ++ (List.range (m * s)).map S ++ (CV N F).toList.drop (o + n * s + ((List.range (m * s)).map S).length)).toArray) := by
              subst hi1
              simp [Builtin.append_, run_underlying ht.u, Go.sizeOf, typeInfo, hi, Builtin.lenOf, hroom, hfc, Addr.add_lit]
              simp at hst
              rw [hst]
              rfl
            have hsp : ((CV N F).toList.take (o + n * s) ++ (List.range (m * s)).map S ++ (CV N F).toList.drop (o + n * s + ((List.range (m * s)).map S).length)).toArray = CV N (updR F (o + n * s) (m * s) S) :=
              splice_CV (by simp; omega) (fun j hj => by
                have hj' : j < m * s := by simpa using hj
                simp only [updR]
                rw [if_pos (by omega)]
                simp [hj']) (fun j _ hh => by
                simp only [List.length_map, List.length_range] at hh
                simp only [updR]; rw [if_neg (by omega)])
            obtain ⟨B', hB'⟩ := Upd.ex (BK N (updR F (o + n * s) (m * s) S) e) hB
            refine ⟨_, _, _, by rw [hexec, hr]; rfl, hs.setRow (N := N) (F := F) (T := e) (b := b) (f' := updR F (o + n * s) (m * s) S) (List.mem_append_left _ hB) hsp hB'.left, B', rfl, Cov.upd hB', ?_⟩
            refine .inr ⟨b, o, c, N, _, hB'.isin, rfl, hroom, hoN, hcm, fun j hj => ?_⟩
            rw [Nat.add_mul] at hj
            simp only [updR, app]
            by_cases hjn : j < n * s
            · rw [if_neg (by omega), if_pos hjn, hF j hjn]
            · rw [if_pos (by omega), if_neg hjn]; congr 1; omega
          · -- it grows
            have hns : n * s ≤ c * s := Nat.mul_le_mul_right _ hnc
            have hbk : w.heap[b]? = some (BK N F e) := hs.own _ _ (List.mem_append_left _ hB)
            have holds : ∀ j u, ((List.range (n * s)).map G)[j]? = some u → w.cell? ((⟨b, o, none⟩ : Addr).add j) = some u :=
              list_src fun j hj => by rw [cell_BK hbk (by omega), hF j hj]
            have hr := run_append_grow (P := P) w t ty e i z ht.u hi hi3 ⟨b, o, none⟩ n c ((List.range (n * s)).map G) (by rw [hi1]; simp) holds ⟨b2, o2, none⟩ m c2 _ hl hnews (by omega) (by omega) (growslice_fits (by omega) (by rw [hi2]; exact hby))
            have hgc := grownCap_ge w (n + m) c e
            have hgm := grownCap_le_maxLen w (n + m) c e hmax
            have hsz : (((List.range (n * s)).map G).toArray ++ ((List.range (m * s)).map S).toArray ++ Builtin.zeroCells z.cells (grownCap w (n + m) c e - (n + m))).size = grownCap w (n + m) c e * s := by
              simp only [Array.size_append, List.size_toArray, List.length_map, List.length_range, size_zeroCells, ht.z, ← Nat.add_mul]
              congr 1; omega
            have hobj : Obj.cells (((List.range (n * s)).map G).toArray ++ ((List.range (m * s)).map S).toArray ++ Builtin.zeroCells z.cells (grownCap w (n + m) c e - (n + m))) e =
                BK (grownCap w (n + m) c e * s) (fun j => (((List.range (n * s)).map G).toArray ++ ((List.range (m * s)).map S).toArray ++ Builtin.zeroCells z.cells (grownCap w (n + m) c e - (n + m))).getD j undef) e := by
              unfold BK
              congr 1
              refine CV_eq hsz fun j hj => ?_
              simp only [Array.getD_eq_getD_getElem?]
              rw [Array.getElem?_eq_getElem (by rw [hsz]; exact hj)]
              rfl
            have hst := (hs.drew).alloc (Obj.cells (((List.range (n * s)).map G).toArray ++ ((List.range (m * s)).map S).toArray ++ Builtin.zeroCells z.cells (grownCap w (n + m) c e - (n + m))) e)
            refine ⟨_, _, _, by rw [hexec, hr]; rfl, hst, (w.heap.size, BK (grownCap w (n + m) c e * s) (fun j => (((List.range (n * s)).map G).toArray ++ ((List.range (m * s)).map S).toArray ++ Builtin.zeroCells z.cells (grownCap w (n + m) c e - (n + m))).getD j undef) e) :: B, by rw [hobj]; rfl, Cov.new hs.size, ?_⟩
            refine .inr ⟨w.heap.size, 0, grownCap w (n + m) c e, _, _, List.mem_cons_self .., rfl, hgc, by omega, hgm, fun j hj => ?_⟩
            rw [Nat.add_mul] at hj
            simp only [Nat.zero_add, app]
            rw [Array.getD_eq_getD_getElem?, Array.getElem?_append_left (by simp; omega)]
            by_cases hjn : j < n * s
            · rw [if_pos hjn, Array.getElem?_append_left (by simpa using hjn)]
              simp [hjn]
            · rw [if_neg hjn, Array.getElem?_append_right (by simp; omega)]
              simp [show j - n * s < m * s by omega]
end
section
variable {α : Type} {P : Program} {w0 : World} {env : Env} {H : GH}
variable {d : Option Nat} {ty : TypeId} {pos : String} {af : Array Edge} {g : Option (Nat × Bool)} {t : TypeId} {s : Nat} {c : α → Nat → Value}
/-- append, of lists. -/
theorem o_appJ {e : TypeId} {by_ : Nat} {z : Value} {B : GH} {v u : Value} {l l' : List α} {ts : Array TypeId} {args : Array Operand} (ht : App P t e s by_ z) (hts : ts = #[t, t])
    (hargs : evL env args.toList = some [v, u]) (hown : OJ e s c B v l) (hsrc : ∀ w, St w0 (B ++ H) w → SL w s c u l') (h1 : ∀ (a : α) (i : Nat), (c a i).oneCell' = true) (hby : (l.length + l'.length) * by_ ≤ 140737488355328) (hmax : l.length + l'.length ≤ maxLen) :
    OT P w0 env (B ++ H) ⟨d, .call ⟨.builtin .append, args, ts⟩, ty, pos, af, g⟩ (fun v' H' => ∃ B', H' = B' ++ H ∧ Cov w0 B B' ∧ OJ e s c B' v' (l ++ l')) := by
  intro a w ha hs
  obtain ⟨p, cap, hu, _, _, hpn, hsrc0⟩ := hsrc w hs
  subst hu
  have hspos : 0 < s := by simpa [Nat.blt_eq] using ht.pos
  have hsrc2 : ∀ w', St w0 (B ++ H) w' → SrcAt w' p (l'.length * s) (eG s c l') := by
    intro w' hs'
    obtain ⟨p', cap', hu', _, _, _, h⟩ := hsrc w' hs'
    cases hu'
    exact h
  have h1' : ∀ i, i < l'.length * s → (eG s c l' i).oneCell' = true := by
    intro i hi
    have : i / s < l'.length := by rw [Nat.div_lt_iff_lt_mul hspos]; exact hi
    simp only [eG, List.getElem?_eq_getElem this, Option.elim_some, h1]
  have hj : Oj e s B v l.length (eG s c l) := by
    rcases hown with ⟨h1, h2⟩ | h
    · exact .inl ⟨h1, by rw [h2]; rfl⟩
    · exact .inr h
  have := o_appj (d := d) (ty := ty) (pos := pos) (af := af) (g := g) (B := B) (H := H) (n := l.length) (m := l'.length) ht hts hargs hj hsrc2 h1' hmax hby a w ha hs
  refine wp_mono2 ?_ (fun _ _ _ h => h.elim) this
  rintro a' w' ⟨v', H', rfl, hs', B', rfl, hcov, hown'⟩
  refine ⟨v', _, rfl, hs', B', rfl, hcov, ?_⟩
  have hx := hown'.ext (eG_app hspos c l l')
  rcases hx with ⟨h1, h2⟩ | ⟨b, o, cp, N, F, h1, h2⟩
  · exact .inl ⟨h1, by rw [← List.length_append] at h2; exact List.length_eq_zero_iff.1 h2⟩
  · exact .inr ⟨b, o, cp, N, F, h1, by rw [List.length_append]; exact h2⟩
/-- A store into an element. -/
theorem eG_set {l : List α} {j : Nat} (e : α) (hj : j < l.length) (hs : 0 < s) (i : Nat) : eG s c (l.set j e) i = if j * s ≤ i ∧ i < j * s + s then c e (i - j * s) else eG s c l i := by
  simp only [eG, List.getElem?_set]
  have hdm := Nat.div_add_mod i s
  have hml := Nat.mod_lt i hs
  by_cases h : j = i / s
  · subst h
    rw [Nat.mul_comm] at hdm
    rw [if_pos rfl, if_pos hj, if_pos (by omega)]
    simp only [Option.elim_some]
    congr 1; omega
  · rw [if_neg h, if_neg]
    intro hh
    apply h
    have h1 : j ≤ i / s := (Nat.le_div_iff_mul_le hs).2 hh.1
    have h2 : i / s < j + 1 := by rw [Nat.div_lt_iff_lt_mul hs, Nat.add_mul, Nat.one_mul]; exact hh.2
    omega
theorem OJ.set {T : TypeId} {B : GH} {v : Value} {l : List α} {j : Nat} (h : OJ T s c B v l) (hj : j < l.length) (hs : 0 < s) (e : α) : ∃ b o cap N F, v = .slice (some ⟨b, o, none⟩) l.length cap ∧ (b, BK N F T) ∈ B ∧ o + (j * s + s) ≤ N ∧
    ∀ B', Upd B b (BK N (updR F (o + j * s) s (c e)) T) B' → OJ T s c B' v (l.set j e) := by
  rcases h with ⟨_, rfl⟩ | ⟨b, o, cap, N, F, h1, h2, h3, h4, h5, h6⟩
  · simp at hj
  · have hle := Nat.mul_le_mul_right s (show j + 1 ≤ l.length by omega)
    have hle2 := Nat.mul_le_mul_right s h3
    rw [Nat.add_mul, Nat.one_mul] at hle
    refine ⟨b, o, cap, N, F, h2, h1, by omega, fun B' hu => .inr ⟨b, o, cap, N, _, hu.isin, by rw [List.length_set]; exact h2, by rw [List.length_set]; exact h3, h4, h5, fun i hi => ?_⟩⟩
    rw [List.length_set] at hi
    rw [eG_set e hj hs]
    simp only [updR]
    by_cases hh : j * s ≤ i ∧ i < j * s + s
    · rw [if_pos (by omega), if_pos hh]; congr 1; omega
    · rw [if_neg (by omega), if_neg hh, h6 i hi]
/-- xs[j] = e, of one cell. -/
theorem o_stL1 {T : TypeId} {B : GH} {x y : Operand} {v u : Value} {l : List α} {k j : Nat} {e : α} {c : α → Nat → Value} (hx : ev env x = some (.pointer (some (sadr v k)))) (hy : ev env y = some u) (ht : TyS P t 1 false) (h1 : u.oneCell' = true) (hJ : OJ T 1 c B v l) (hj : j < l.length) (hk : k = j * 1) (hu : c e = fun _ => u) :
    OT P w0 env (B ++ H) ⟨none, .store t x y, ty, pos, af, g⟩ (fun _ H' => ∃ B', H' = B' ++ H ∧ Cov w0 B B' ∧ OJ T 1 c B' v (l.set j e)) := by
  intro a w ha hs
  subst hk
  obtain ⟨b, o, cap, N, F, hv, hm, hle, hset⟩ := hJ.set hj (by omega) e
  obtain ⟨B', hB'⟩ := Upd.ex (BK N (updR F (o + j * 1) 1 (c e)) T) hm
  have e1 : updR F (o + j * 1) 1 (c e) = upd F (o + j * 1) u := by
    funext i; simp only [updR, upd, hu]
    by_cases h : i = o + j * 1
    · rw [if_pos (by omega), if_pos h]
    · rw [if_neg (by omega), if_neg h]
  have := o_st (w0 := w0) (env := env) (H := B ++ H) (H' := B' ++ H) (b := b) (o := o + j * 1) (N := N) (F := F) (T := T) (ty := ty) (pos := pos) (af := af) (g := g) (by rw [hx, hv]; simp [sadr, Addr.add_lit]) hy ht h1 (List.mem_append_left _ hm) (by omega) (by rw [← e1]; exact hB'.left) a w ha hs
  refine wp_mono2 ?_ (fun _ _ _ h => h.elim) this
  rintro a' w' ⟨v', H', rfl, hs', rfl, rfl⟩
  exact ⟨undef, _, rfl, hs', B', rfl, Cov.upd hB', hset B' hB'⟩
end
end Go.E
namespace Go.E
open Go
section
variable {P : Program} {n : Nat} {w0 : World} {env : Env} {H : GH} {o : Oper}
theorem OT.st {H1 : GH} {R : Value → GH → Prop} (hh : ∀ w, St w0 H w → St w0 H1 w) (h : OT P w0 env H1 o R) : OT P w0 env H o R := fun a w ha hs => h a w ha (hh w hs)
end
end Go.E
namespace Go.E
open Go
section
variable {P : Program} {n : Nat} {w0 : World} {ops : Array Oper} {KS : List Nat} {env0 env : Env} {dn : List Nat} {H RS : GH} {Q : Exit → Act → World → Prop}
end
end Go.E
/- The engine, part 11: small things that the printed walks use. -/
namespace Go.E
open Go
theorem toNat_lt {i : Int} {n : Nat} (h : 0 ≤ i ∧ i < n) : i.toNat < n := by omega
theorem toNat_le {i : Int} {n : Nat} (h : 0 ≤ i ∧ i ≤ n) : i.toNat ≤ n := by omega
theorem oneOf {v : Value} {n : Nat} (h : ∃ p c, v = .slice p n c) : v.oneCell' = true := by obtain ⟨p, c, rfl⟩ := h; rfl
theorem len_max {k b : Nat} (h : k * b ≤ 140737488355328) (hb : 0 < b) : k ≤ maxLen := by
  have : k * 1 ≤ k * b := Nat.mul_le_mul_left k hb
  have e : maxLen = 9223372036854775807 := by decide
  omega
theorem bnT {b : Bool} (h : (!b) = true) : b = false := by simpa using h
theorem bnF {b : Bool} (h : (!b) = false) : b = true := by simpa using h
def strAt (s : ByteArray) (i : Int) : Int := ((s[i.toNat]?).map fun b => (b.toNat : Int)).getD 0
section
variable {P : Program} {n : Nat} {w0 : World} {env : Env} {H : GH} {Q : Exit → Act → World → Prop} {ops : Array Oper} {rest : List Oper}
variable {ty : TypeId} {pos : String} {af : Array Edge} {g : Option (Nat × Bool)} {t : TypeId} {x y : Operand}
theorem o_mkE {d : Option Nat} {i : Int} {ds : TypeDesc} (hx : ev env x = some (.int .i64 i)) (h1 : P.underlying t = some ds) (h2 : (match ds with | .interface _ => false | _ => true) = true) (hi : i ≠ 0) :
    OT P w0 env H ⟨d, .makeInterface t x, ty, pos, af, g⟩ (Is (errV t i) H) := by
  rw [show errV t i = .iface t (.int .i64 i) from if_neg hi]
  exact o_mki hx h1 h2
theorem o_ixStr {d : Option Nat} {s : ByteArray} {k : IntKind} {i : Int} (hu : P.underlying t = some .string) (hx : ev env x = some (.string s)) (hy : ev env y = some (.int k i)) (h0 : 0 ≤ i ∧ i < s.size) :
    OT P w0 env H ⟨d, .index t x y, ty, pos, af, g⟩ (Is (.int .u8 (strAt s i)) H) :=
  OT.pure fun a w ha => by
    have hlt : i.toNat < s.size := by omega
    have hs : s[i.toNat]? = some s[i.toNat] := getElem?_pos s i.toNat hlt
    simp only [execOp, ha.ev hx, ha.ev hy, Instr.index, asIntOf, Sem.run_bind, Sem.run_pure, Result.andThen_ok, run_underlying hu, if_pos h0.1, hs, strAt, Option.map_some, Option.getD_some]
end
end Go.E
/- The engine, part 12: calls entered in place; loops taken apart round by round; results that lie in memory; blocks that are given; permuted lists of blocks. -/
namespace Go.E
open Go
section
variable {P : Program} {n : Nat} {w0 : World} {env : Env} {H : GH} {Q : Exit → Act → World → Prop} {ops : Array Oper} {rest : List Oper}
variable {ty : TypeId} {pos : String} {af : Array Edge} {g : Option (Nat × Bool)}
/-! ### A loop, one round at a time -/
/-! ### A call entered in place -/
theorem calls_in {f : FuncId} {fn : Func} {c : Code} {vs : List Value} {l : Env} {m : Nat} {w : World} {R : Value → GH → Prop} (hf : P.funcs[f]? = some fn) (hb : fn.body = some c) (hm : fn.ntmps = m) (hsz : Nat.ble vs.length m = true) (hl : LiveA vs l)
    (h : XW P m w0 l H c (bodyPost P fn (GoodEnd w0 R))) (hs : St w0 H w) : Calls P f vs.toArray w (GoodEnd w0 R) := by
  refine calls_of_wp hf hb (h _ w ⟨?_, rfl, ?_⟩ hs)
  · have := Nat.le_of_ble_eq_true hsz
    simp only [Array.size_append, Array.size_replicate, hm, List.size_toArray]
    omega
  · intro t v ht
    have h1 : vs.toArray[t]? = some v := by rw [List.getElem?_toArray]; exact hl.get t v ht
    have hlt := (Array.getElem?_eq_some_iff.1 h1).1
    simp only [Array.getD_eq_getD_getElem?]
    rw [Array.getElem?_append_left hlt, h1]
    rfl
theorem ot_enter {o : Oper} {f : FuncId} {fn : Func} {c : Code} {vs : List Value} {l : Env} {m : Nat} {R : Value → GH → Prop}
    (hrun : ∀ a w, AgV env a → (execOp a.eval o).run P w = .ok (.enter f vs.toArray) w)
    (hf : P.funcs[f]? = some fn) (hb : fn.body = some c) (hm : fn.ntmps = m) (hsz : Nat.ble vs.length m = true) (hl : LiveA vs l)
    (h : XW P m w0 l H c (bodyPost P fn (GoodEnd w0 R))) : OT P w0 env H o R := by
  intro a w ha hs
  unfold Oper.wp
  rw [hrun a w ha, Oper.upon_enter]
  refine Calls.mono (calls_in hf hb hm hsz hl h hs) ?_
  rintro e w' ⟨v, F, rfl, hst, hR⟩
  exact ⟨v, F, rfl, hst, hR⟩
/-- A function by its name. -/
theorem ot_in {d : Option Nat} {f : FuncId} {fn : Func} {c : Code} {vs : List Value} {l : Env} {m : Nat} {R : Value → GH → Prop} {args : Array Operand} {ts : Array TypeId} (hk : IsFn P f) (hargs : evL env args.toList = some vs)
    (hf : P.funcs[f]? = some fn) (hb : fn.body = some c) (hm : fn.ntmps = m) (hsz : Nat.ble vs.length m = true) (hl : LiveA vs l)
    (h : XW P m w0 l H c (bodyPost P fn (GoodEnd w0 R))) : OT P w0 env H ⟨d, .call ⟨.value (.func f), args, ts⟩, ty, pos, af, g⟩ R := by
  refine ot_enter (fun a w ha => ?_) hf hb hm hsz hl h
  cases d with
  | some d => exact run_call hk hargs a w ha
  | none =>
    have hm : args.map a.eval = vs.toArray := Array.toList_inj.1 (by simpa using evL_spec ha _ _ hargs)
    simp only [execOp, resolve, Sem.run_bind, Act.eval, Deferred.ofValue, Sem.run_pure, Result.andThen_ok, invoke, hm]
    simpa using run_callFunc hk vs.toArray w
/-- A closure. -/
theorem ot_inv {d : Option Nat} {f : FuncId} {fn : Func} {c : Code} {x : Operand} {first vs cap : List Value} {l : Env} {m : Nat} {R : Value → GH → Prop} {args : Array Operand} {ts : Array TypeId} (hx : ev env x = some (.func (.func f) first.toArray cap.toArray)) (hk : IsFn P f) (hargs : evL env args.toList = some vs)
    (hf : P.funcs[f]? = some fn) (hb : fn.body = some c) (hm : fn.ntmps = m) (hsz : Nat.ble (first ++ vs ++ cap).length m = true) (hl : LiveA (first ++ vs ++ cap) l)
    (h : XW P m w0 l H c (bodyPost P fn (GoodEnd w0 R))) : OT P w0 env H ⟨d, .call ⟨.value x, args, ts⟩, ty, pos, af, g⟩ R := by
  refine ot_enter (fun a w ha => ?_) hf hb hm hsz hl h
  have hm : args.map a.eval = vs.toArray := Array.toList_inj.1 (by simpa using evL_spec ha _ _ hargs)
  simp only [execOp, resolve, Sem.run_bind, ha.ev hx, Deferred.ofValue, Sem.run_pure, Result.andThen_ok, invoke, hm]
  have := run_callFunc hk (first ++ vs ++ cap).toArray w
  simpa using this
/-- One operation, whatever it may answer: what comes behind it stands in R. -/
theorem xoR {d : Nat} {op : Op} (hd : Nat.blt d n = true) (hw : Wt ops env g) (h : OT P w0 env H ⟨some d, op, ty, pos, af, g⟩ (fun v H' => XO P n w0 ((d, v) :: env) H' ops rest Q)) : XO P n w0 env H ops (⟨some d, op, ty, pos, af, g⟩ :: rest) Q :=
  xo hd hw h fun _ _ hr => hr
/-! ### Results -/
inductive ResV (P : Program) (env : Env) (H : GH) : List ResultVar → List Value → Prop
  | nil : ResV P env H [] []
  | tmp {t : Nat} {v : Value} {l : List ResultVar} {vs : List Value} (h : lk t env = some v) (k : ResV P env H l vs) : ResV P env H (.tmp t :: l) (v :: vs)
  | cell {t b s : Nat} {ty T : TypeId} {F : Nat → Value} {l : List ResultVar} {vs : List Value} (h : lk t env = some (.pointer (some ⟨b, 0, none⟩))) (ht : TyS P ty s true) (hm : (b, BK s F T) ∈ H) (k : ResV P env H l vs) : ResV P env H (.cell t ty :: l) (AG s F :: vs)
  | cell1 {t b q : Nat} {ty T : TypeId} {v : Value} {l : List ResultVar} {vs : List Value} (h : lk t env = some (.pointer (some ⟨b, 0, none⟩))) (ht : TyS P ty q false) (hm : (b, BK 1 (fun _ => v) T) ∈ H) (k : ResV P env H l vs) : ResV P env H (.cell t ty :: l) (v :: vs)
theorem ResV.run {l : List ResultVar} {vs : List Value} (h : ResV P env H l vs) {a : Act} (ha : AgV env a) {w : World} (hs : St w0 H w) :
    (l.mapM (m := Sem) fun | .tmp t => pure (a.tmps.getD t undef) | .cell b t => do loadVar t (← asAddr (a.tmps.getD b undef))).run P w = .ok vs w := by
  induction h with
  | nil => simp
  | @tmp t v l vs h k ih =>
    simp [ha t v h, ih, -Array.getD_eq_getD_getElem?]
  | @cell t b s ty T F l vs h ht hm k ih =>
    have hlo := run_loadCells (P := P) w ⟨b, 0, none⟩ s F (fun j hj => by rw [Addr.add_lit, Nat.zero_add]; exact cell_BK (hs.own _ _ hm) hj)
    have hv : (loadVar ty ⟨b, 0, none⟩).run P w = .ok (AG s F) w := by
      simp [loadVar, ht.isAgg, ht.sizeOf, hlo, AG, CV]
    have hA : (asAddr (a.tmps.getD t undef)).run P w = .ok ⟨b, 0, none⟩ w := by rw [ha t _ h]; rfl
    simp [hA, hv, ih, -Array.getD_eq_getD_getElem?]
  | @cell1 t b q ty T v l vs h ht hm k ih =>
    have hc := cell_BK (hs.own _ _ hm) (show 0 < 1 by omega)
    have hv : (loadVar ty ⟨b, 0, none⟩).run P w = .ok v w := by
      simp [loadVar, ht.isAgg, hc]
    have hA : (asAddr (a.tmps.getD t undef)).run P w = .ok ⟨b, 0, none⟩ w := by rw [ha t _ h]; rfl
    simp [hA, hv, ih, -Array.getD_eq_getD_getElem?]
def tupV : List Value → Value
  | [v] => v
  | l => .tuple l.toArray
theorem con_retN {fn : Func} {w : World} {G : Value → GH → Prop} {e : Exit} (he : e = .ret ∨ e = .normal) {l : List ResultVar} {vs : List Value} {v : Value} (hr : fn.results = l.toArray) (h : ResV P env H l vs) (hv : tupV vs = v)
    (F : GH) (hF : ∀ w', St w H w' → St w F w') (hG : G v F) : XQ n w env H e (bodyPost P fn (GoodEnd w G)) := by
  intro a w' ha hs
  have hrun : (results fn a.tmps).run P w' = .ok v w' := by
    have h1 := h.run ha.get hs
    simp only [results, hr, List.mapM_toArray]
    subst hv
    simp [-Array.getD_eq_getD_getElem?]
    refine Eq.trans (congrArg (fun r => Result.andThen r fun a w' => Result.ok (if h : a.length = 1 then a[0] else Value.tuple a.toArray) w') h1) ?_
    match vs with
    | [] => rfl
    | [v] => rfl
    | v :: u :: r => rfl
  rcases he with rfl | rfl <;> exact ⟨ha.defers, _, hrun, _, F, rfl, hF w' hs, hG⟩
end
end Go.E
/- The engine, part 13: blocks that are given, calls that change them, blocks of several kinds of cells. -/
namespace Go.E
open Go
/-! ### Lists of segments -/
def cat : List GH → GH
  | [] => []
  | S :: L => S ++ cat L
theorem cat_perm {L L' : List GH} (h : L.Perm L') : (cat L).Perm (cat L') := by
  induction h with
  | nil => exact List.Perm.refl _
  | cons x h ih => exact List.Perm.append_left x ih
  | swap x y l =>
    show (y ++ (x ++ cat l)).Perm (x ++ (y ++ cat l))
    rw [← List.append_assoc, ← List.append_assoc]
    exact List.Perm.append_right _ List.perm_append_comm
  | trans h1 h2 ih1 ih2 => exact ih1.trans ih2
theorem cat_append (L L' : List GH) : cat (L ++ L') = cat L ++ cat L' := by
  induction L with
  | nil => rfl
  | cons x L ih => show x ++ cat (L ++ L') = (x ++ cat L) ++ cat L'; rw [ih, List.append_assoc]
theorem map_getD_range (L : List GH) : (List.range L.length).map (fun i => L.getD i []) = L := by
  apply List.ext_getElem?
  intro i
  by_cases h : i < L.length
  · simp [h]
  · simp [h]
theorem St.permI {w0 w : World} (σ : List Nat) (L : List GH) (h : List.isPerm σ (List.range L.length) = true) (hs : St w0 (cat L) w) : St w0 (cat (σ.map fun i => L.getD i [])) w := by
  refine hs.perm ?_
  have h1 := (List.isPerm_iff.1 h).map (fun i => L.getD i [])
  rw [map_getD_range] at h1
  exact cat_perm h1.symm
theorem St.permJ {w0 w : World} (σ : List Nat) (L : List GH) (hs : St w0 (cat L) w) (h : List.isPerm σ (List.range L.length) = true := by kernel_rfl) : St w0 (cat (σ.map fun i => L.getD i [])) w := St.permI σ L h hs
/-! ### What is given -/
def Has (w : World) (C : GH) : Prop := (∀ b o, (b, o) ∈ C → w.heap[b]? = some o) ∧ (keys C).Nodup
theorem St.has {w0 w : World} {C R : GH} (h : St w0 (C ++ R) w) : Has w C := by
  refine ⟨fun b o hm => h.own b o (List.mem_append_left _ hm), ?_⟩
  have := h.nd
  rw [keys_append] at this
  exact (List.nodup_append.1 this).1
theorem St.hasC {w0 w : World} {Cs Rs : List GH} (h : St w0 (cat (Cs ++ Rs)) w) : Has w (cat Cs) := by
  rw [cat_append] at h; exact h.has
theorem Has.st {w w' : World} {C : GH} (h : Has w C) (hs : St w [] w') : St w C w' := by
  have hk : ∀ k, k < w.heap.size → w'.heap[k]? = w.heap[k]? := fun k hk => hs.keep k hk (by simp)
  refine ⟨hs.os, hs.tape, hs.out, hs.size, fun b o hm => ?_, h.2, fun k hlt _ => hk k hlt⟩
  have := h.1 b o hm
  rw [hk b (Array.getElem?_eq_some_iff.1 this).1]; exact this
section
variable {P : Program} {n : Nat} {w0 : World} {env : Env} {H : GH} {Q : Exit → Act → World → Prop} {ops : Array Oper} {rest : List Oper}
variable {ty : TypeId} {pos : String} {af : Array Edge} {g : Option (Nat × Bool)}
theorem xw_has {C : GH} {c : Code} (h : Has w0 C) (k : XW P n w0 env C c Q) : XW P n w0 env [] c Q := fun a w ha hs => k a w ha (h.st hs)
def CatG (G : Value → List GH → Prop) : Value → GH → Prop := fun v F => ∃ Ls, F = cat Ls ∧ G v Ls
/-- A call that is given blocks. -/
theorem ot_callG {Cs Rs : List GH} {o : Oper} {f : FuncId} {vs : List Value} {G : World → Value → List GH → Prop}
    (hrun : ∀ a w, AgV env a → (execOp a.eval o).run P w = .ok (.enter f vs.toArray) w)
    (h : ∀ w, St w0 (cat (Cs ++ Rs)) w → Con P f vs.toArray w (CatG (G w))) (hcov : ∀ w v Ls, G w v Ls → Cov w (cat Cs) (cat Ls)) :
    OT P w0 env (cat (Cs ++ Rs)) o (fun v H' => ∃ w Ls, H' = cat (Ls ++ Rs) ∧ w0.heap.size ≤ w.heap.size ∧ G w v Ls) := by
  intro a w ha hs
  unfold Oper.wp
  rw [hrun a w ha, Oper.upon_enter]
  refine Calls.mono (h w hs) ?_
  rintro e w' ⟨v, F, rfl, hst, Ls, rfl, hG⟩
  have hc := hcov w v Ls hG
  refine ⟨v, cat (Ls ++ Rs), rfl, ?_, w, Ls, rfl, hs.size, hG⟩
  rw [cat_append] at hs ⊢
  have hnd := hs.nd
  simp only [keys_append, List.nodup_append] at hnd
  refine hs.trans hst ?_ ?_ ?_ ?_
  · simp only [keys_append, List.nodup_append]
    refine ⟨hst.nd, hnd.2.1, ?_⟩
    intro a ha b hb e
    subst e
    rcases hc.1 a ha with h1 | h1
    · exact hnd.2.2 a h1 a hb rfl
    · have := hs.klt (b := a) (by simp [hb])
      omega
  · intro b o hm
    rcases List.mem_append.1 hm with hm | hm
    · exact .inl hm
    · refine .inr ⟨List.mem_append_right _ hm, fun hb => ?_⟩
      rcases hc.1 b hb with h1 | h1
      · exact hnd.2.2 b h1 b (mem_keys hm) rfl
      · have := hs.klt (b := b) (by simp [mem_keys hm])
        omega
  · intro b hb _
    simp [hb]
  · intro b hb _
    simp only [keys_append, List.mem_append] at hb ⊢
    exact hb.imp (hc.2 b) id
theorem ot_callF {Cs Rs : List GH} {d : Nat} {f : FuncId} {args : Array Operand} {ts : Array TypeId} {vs : List Value} {G : World → Value → List GH → Prop} (hk : IsFn P f) (hargs : evL env args.toList = some vs)
    (h : ∀ w, St w0 (cat (Cs ++ Rs)) w → Con P f vs.toArray w (CatG (G w))) (hcov : ∀ w v Ls, G w v Ls → Cov w (cat Cs) (cat Ls)) :
    OT P w0 env (cat (Cs ++ Rs)) ⟨some d, .call ⟨.value (.func f), args, ts⟩, ty, pos, af, g⟩ (fun v H' => ∃ w Ls, H' = cat (Ls ++ Rs) ∧ w0.heap.size ≤ w.heap.size ∧ G w v Ls) :=
  ot_callG (run_call hk hargs) h hcov
/-! ### Cells of several kinds -/
def cl (l : List Value) : Nat → Value := fun i => l.getD i undef
variable {d : Option Nat} {t yt : TypeId} {x y : Operand} {b o N s : Nat} {T : TypeId} {l l' : List Value}
theorem o_stC {H' : GH} {v : Value} (hx : ev env x = some (.pointer (some ⟨b, o, none⟩))) (hy : ev env y = some v) (ht : TyS P t 1 false) (h1 : v.oneCell' = true) (hm : (b, BK N (cl l) T) ∈ H) (hN : l.length = N) (ho : o < N) (hl : l.set o v = l')
    (hu : Upd H b (BK N (cl l') T) H') : OT P w0 env H ⟨none, .store t x y, ty, pos, af, g⟩ (Is undef H') :=
  o_st hx hy ht h1 hm ho (by
    rw [BK_ext (g := cl l') (fun i hi => ?_)]
    · exact hu
    · subst hl
      simp only [upd, cl, List.getD_eq_getElem?_getD, List.getElem?_set]
      by_cases h : i = o
      · subst h; rw [if_pos rfl, if_pos rfl, if_pos (by omega)]; rfl
      · rw [if_neg h, if_neg (fun e => h e.symm)])
theorem o_stCA {H' : GH} {f : Nat → Value} (hx : ev env x = some (.pointer (some ⟨b, o, none⟩))) (hy : ev env y = some (AG s f)) (ht : TyS P t s true) (h1 : ∀ i, i < s → (f i).oneCell' = true) (hm : (b, BK N (cl l) T) ∈ H) (ho : o + s ≤ N) (hl : ∀ i, i < N → updR (cl l) o s f i = cl l' i)
    (hu : Upd H b (BK N (cl l') T) H') : OT P w0 env H ⟨none, .store t x y, ty, pos, af, g⟩ (Is undef H') :=
  o_stS hx hy ht h1 hm ho (by rw [BK_ext (g := cl l') hl]; exact hu)
end
end Go.E
namespace Go.E
open Go
section
variable {P : Program} {n : Nat} {w0 : World} {env : Env} {H : GH} {Q : Exit → Act → World → Prop} {ops : Array Oper} {rest : List Oper}
theorem Cov.more {w0 : World} {A B N : GH} (h : Cov w0 A B) (k : Cov w0 [] N) : Cov w0 A (B ++ N) := by
  have := h.app k
  rwa [List.append_nil] at this
theorem Cov.app0 {w0 : World} {N M : GH} (h : Cov w0 [] N) (k : Cov w0 [] M) : Cov w0 [] (N ++ M) := h.app k
theorem Cov.nil {w0 : World} : Cov w0 [] [] := Cov.refl _
/-- What is not given may be forgotten: a list of blocks that covers what was given. -/
theorem OJ.left {α : Type} {T : TypeId} {s : Nat} {c : α → Nat → Value} {B N : GH} {v : Value} {l : List α} (h : OJ T s c B v l) : OJ T s c (B ++ N) v l := h.mono fun _ hx => List.mem_append_left _ hx
theorem OJ.right {α : Type} {T : TypeId} {s : Nat} {c : α → Nat → Value} {B N : GH} {v : Value} {l : List α} (h : OJ T s c N v l) : OJ T s c (B ++ N) v l := h.mono fun _ hx => List.mem_append_right _ hx
variable {ty : TypeId} {pos : String} {af : Array Edge} {g : Option (Nat × Bool)} {d : Option Nat} {x : Operand}
theorem o_boxC {e : TypeId} {k : Nat} {f : Nat → Value} (l : List Value) (hx : ev env x = some (AG k f)) (hf : ∀ i, i < k → f i = cl l i) : OT P w0 env H ⟨d, .box e x, ty, pos, af, g⟩ (NewAt w0 (BK k (cl l) e) H) := by
  rw [AG_ext hf] at hx; exact o_boxA hx
theorem o_allocC {e : TypeId} {k : Nat} {f : Nat → Value} (l : List Value) (hz : ZeroT P e (AG k f)) (hf : ∀ i, i < k → f i = cl l i) : OT P w0 env H ⟨d, .alloc e, ty, pos, af, g⟩ (NewAt w0 (BK k (cl l) e) H) := by
  rw [AG_ext hf] at hz; exact o_alloc hz rfl
end
end Go.E
namespace Go.E
open Go
section
variable {P : Program} {w0 : World} {env : Env} {H : GH} {ty : TypeId} {pos : String} {af : Array Edge} {g : Option (Nat × Bool)} {d : Option Nat} {t : TypeId} {N : Nat}
theorem o_buildC {ps : Array (Nat × Operand)} {zf f : Nat → Value} (l : List Value) (hok : FldsOk P t) (hz : ZeroT P t (AG N zf)) (hf : Fill P t N env ps.toList zf f) (hl : ∀ i, i < N → f i = cl l i) : OT P w0 env H ⟨d, .build t ps, ty, pos, af, g⟩ (Is (AG N (cl l)) H) := by
  rw [← AG_ext hl]; exact o_build hok hz hf
end
end Go.E
namespace Go.E
open Go
theorem SL.nilOr {α : Type} {w : World} {s : Nat} {c : α → Nat → Value} {v : Value} {l : List α} (h : SL w s c v l) : ((isNilV v = some true ∧ ∀ e, sameKind (.slice e) v = true) ∧ l = []) ∨ (isNilV v = some false ∧ ∀ e, sameKind (.slice e) v = true) := by
  obtain ⟨p, cp, rfl, h2, h3, h4, h5⟩ := h
  cases p with
  | none => exact .inl ⟨⟨rfl, fun _ => rfl⟩, List.length_eq_zero_iff.1 (by have := h4 rfl; omega)⟩
  | some a => exact .inr ⟨rfl, fun _ => rfl⟩
theorem OJ.nilOr {α : Type} {T : TypeId} {s : Nat} {c : α → Nat → Value} {B : GH} {v : Value} {l : List α} (h : OJ T s c B v l) : ((isNilV v = some true ∧ ∀ e, sameKind (.slice e) v = true) ∧ l = []) ∨ (isNilV v = some false ∧ ∀ e, sameKind (.slice e) v = true) := by
  rcases h with ⟨rfl, rfl⟩ | ⟨b, o, cp, N, F, h1, rfl, h2⟩
  · exact .inl ⟨⟨rfl, fun _ => rfl⟩, rfl⟩
  · exact .inr ⟨rfl, fun _ => rfl⟩
end Go.E
/- The engine, part 14: shifts, bits, max and min, cut to its length. -/
namespace Go.E
open Go
section
variable {P : Program} {n : Nat} {w0 : World} {env : Env} {H : GH} {Q : Exit → Act → World → Prop} {ops : Array Oper} {rest : List Oper}
variable {ty : TypeId} {pos : String} {af : Array Edge} {g : Option (Nat × Bool)} {d : Option Nat} {t yt : TypeId} {x y : Operand} {i j : Int} {k' : IntKind}
end
end Go.E
namespace Go.E
open Go
def reach (ops : Array Oper) : Nat → Nat → List Nat
  | 0, i => aft ops i
  | f + 1, i => aft ops i ++ (aft ops i).flatMap (reach ops f)
section
variable {P : Program} {n : Nat} {w0 : World} {ops : Array Oper} {KS : List Nat} {env0 env : Env} {dn : List Nat} {H RS : GH} {Q : Exit → Act → World → Prop}
theorem reach_listed {listed : Array Bool} (hd : ∀ j, listed.getD j false = true → ∀ k ∈ aft ops j, listed.getD k false = true) : ∀ f i, (∀ k ∈ aft ops i, listed.getD k false = true) → ∀ k ∈ reach ops f i, listed.getD k false = true
  | 0, _, h, k, hk => h k hk
  | f + 1, i, h, k, hk => by
    rcases List.mem_append.1 hk with hk | hk
    · exact h k hk
    · obtain ⟨j, hj, hk⟩ := List.mem_flatMap.1 hk
      exact reach_listed hd f j (fun q hq => hd j (h j hj) q hq) k hk
def noRs (p : Rec) : Rec := ⟨p.i, p.l, [], p.v⟩
theorem map_noRs (dl : List Rec) : (dl.map noRs).map (·.i) = dl.map (·.i) := by simp [noRs]
theorem envOK_noRs {dl : List Rec} (h : EnvOK ops env0 dl env) : EnvOK ops env0 (dl.map noRs) env := by
  intro s v hs
  rcases h s v hs with ⟨p, hp, h1, h2⟩ | ⟨h1, h2⟩
  · exact .inl ⟨noRs p, List.mem_map_of_mem hp, h1, h2⟩
  · refine .inr ⟨fun p hp => ?_, h2⟩
    obtain ⟨q, hq, rfl⟩ := List.mem_map.1 hp
    exact h1 q hq
/-- One step of one that may write, when all else that was taken is done by then. -/
theorem xd_flush (hok : RegOK n ops = true) (f : Nat) (i : Nat) {o : Oper} (l : Env) (ho : ops[i]? = some o) (hf : front ops dn = [i]) (hcl : dn.all (reach ops f i).contains = true) (hl : Live env l) (hs : slotsOK ops dn i (l.map (·.1)) = true) (hw : Wt ops l o.guard) {R : Value → GH → Prop} (ht : OT P w0 l H o R)
    (k : ∀ v H', R v H' → (∀ k ∈ keys H', k ∈ KS ∨ w0.heap.size ≤ k) ∧ XD P n w0 ops KS env0 (i :: dn) (match o.dst with | some d => (d, v) :: env | none => env) H' [] Q) : XD P n w0 ops KS env0 dn env H RS Q := by
  intro a0 dl ha0 hdn hnd he hrs
  refine xd_rounds hok (by rw [hdn]; exact hnd) ?_ ?_
  · intro a w listed hr hinv
    exfalso
    have hi : i ∈ front ops dn := by rw [hf]; exact List.mem_singleton.2 rfl
    obtain ⟨h1, h2⟩ := List.mem_filter.1 hi
    have := all_listed hok hinv.lsize hr i (List.mem_range.1 h1)
    obtain ⟨p, hp, e⟩ := hinv.inn i this
    simp only [Bool.and_eq_true, Bool.not_eq_true', List.contains_eq_mem, decide_eq_false_iff_not] at h2
    exact h2.1 (by rw [← hdn]; exact List.mem_map.2 ⟨p, hp, e⟩)
  · intro fuel listed a w j hinv hr hni
    have hj := front_spec hinv.lsize hdn hinv.inn hr hni
    rw [hf] at hj
    obtain rfl := List.mem_singleton.1 hj
    obtain ⟨hlt, hl0, haft⟩ := (mem_ready' hinv.lsize).1 hr
    have hagv := hinv.agv hl0 haft (slots_spec ha0 he hdn hl hs)
    have hdst : dstOf ops j = o.dst := by simp [dstOf, ho]
    have hall : ∀ p ∈ dl, listed.getD p.i false = true := by
      intro p hp
      have h1 := List.all_eq_true.1 hcl p.i (by rw [← hdn]; exact List.mem_map.2 ⟨p, hp, rfl⟩)
      simp only [List.contains_eq_mem, decide_eq_true_eq] at h1
      exact reach_listed hinv.down f j haft _ h1
    unfold wpOp
    simp only [ho]
    rw [if_pos (hw.wanted hagv)]
    refine .inl (wp_mono2 ?_ (fun _ _ _ h => h.elim) (ht a w hagv hinv.st))
    rintro a' w' ⟨v, H', rfl, hst, hR⟩
    obtain ⟨k3, k2⟩ := k v H' hR
    have hlt' : j < listed.size := by rw [hinv.lsize]; exact hlt
    have hni2 : ∀ p ∈ dl.map noRs, p.i ≠ j := by
      intro p hp
      obtain ⟨q, hq, rfl⟩ := List.mem_map.1 hp
      exact hni q hq
    have hni' : j ∉ (dl.map noRs).map (·.i) := by
      simp only [List.mem_map, not_exists, not_and]
      rintro p ⟨q, hq, rfl⟩
      exact hni q hq
    have hinv2 : Inv P n ops w0 KS a0 (⟨j, l, [], v⟩ :: dl.map noRs) H' fuel (listed.setIfInBounds j true) (a.put o.dst v) w' := by
      rw [← hdst]
      refine ⟨by simpa using hinv.lsize, ?_, ?_, ?_, ?_, by rw [put_size]; exact hinv.size, by rw [put_defers]; exact hinv.defers, hst, k3, ?_, ?_⟩
      · intro q hq
        rw [getD_set hlt'] at hq
        by_cases e : q = j
        · exact ⟨⟨j, l, [], v⟩, List.mem_cons_self .., e.symm⟩
        · rw [if_neg e] at hq
          obtain ⟨p, hp, e⟩ := hinv.inn q hq
          exact ⟨noRs p, List.mem_cons_of_mem _ (List.mem_map.2 ⟨p, hp, rfl⟩), e⟩
      · intro q hq hq0
        exfalso
        rw [getD_set hlt'] at hq0
        rcases List.mem_cons.1 hq with rfl | hq
        · simp at hq0
        · obtain ⟨p, hp, rfl⟩ := List.mem_map.1 hq
          have hq1 : (if p.i = j then true else listed.getD p.i false) = false := hq0
          rw [if_neg (hni p hp), hall p hp] at hq1; cases hq1
      · intro q hq hq1 s hs'
        rcases List.mem_cons.1 hq with rfl | hq
        · have hs'' : dstOf ops j = some s := hs'
          rw [hs'', put_getD_self (by rw [hinv.size]; exact regOK_lt hok hs'')]
        · obtain ⟨p, hp, rfl⟩ := List.mem_map.1 hq
          have hne := hni p hp
          rw [put_getD (fun hh => hne (regOK_uniq hok hs' hh))]
          exact hinv.done p hp (hall p hp) s hs'
      · intro s hs'
        have hne : dstOf ops j ≠ some s := fun hh => by
          have := hs' j hh
          rw [getD_set hlt', if_pos rfl] at this
          cases this
        rw [put_getD hne]
        refine hinv.rest s fun q hq => ?_
        have := hs' q hq
        rw [getD_set hlt'] at this
        split at this
        · cases this
        · exact this
      · intro q hq k' hk
        rw [getD_set hlt'] at hq ⊢
        by_cases e : k' = j
        · rw [if_pos e]
        · rw [if_neg e]
          by_cases e2 : q = j
          · subst e2; exact haft k' hk
          · rw [if_neg e2] at hq; exact hinv.down q hq k' hk
      · rw [countP_set hlt' hl0 _ hlt]
        have := hinv.fuel
        omega
    have henv := envOK_cons (p := ⟨j, l, [], v⟩) hok (envOK_noRs he) hni'
    refine k2 a0 (⟨j, l, [], v⟩ :: dl.map noRs) ha0 (by simp only [List.map_cons, map_noRs, hdn]) (List.nodup_cons.2 ⟨by rw [← hdn, ← map_noRs]; exact hni', hnd⟩) ?_ ?_ _ _ _ _ hinv2
    · cases hd : o.dst with
      | none => exact henv.2 (by show dstOf ops j = none; rw [hdst, hd])
      | some d => exact henv.1 d (by show dstOf ops j = some d; rw [hdst, hd])
    · intro p hp x hx
      rcases List.mem_cons.1 hp with rfl | hp
      · cases hx
      · obtain ⟨q, hq, rfl⟩ := List.mem_map.1 hp
        cases hx
end
end Go.E
namespace Go.E
open Go
section
variable {P : Program} {n : Nat} {w0 : World} {ops : Array Oper} {KS : List Nat} {env0 env : Env} {dn : List Nat} {H RS : GH} {Q : Exit → Act → World → Prop}
theorem xd_fl (hok : RegOK n ops = true) (f : Nat) (i : Nat) {o : Oper} {d : Nat} (l : Env) (ho : ops[i]? = some o) (hd : o.dst = some d) (hf : front ops dn = [i]) (hcl : dn.all (reach ops f i).contains = true) (hl : Live env l) (hs : slotsOK ops dn i (l.map (·.1)) = true) (hw : Wt ops l o.guard) {R : Value → GH → Prop} (ht : OT P w0 l H o R)
    (k : ∀ v H', R v H' → (∀ k ∈ keys H', k ∈ KS ∨ w0.heap.size ≤ k) ∧ XD P n w0 ops KS env0 (i :: dn) ((d, v) :: env) H' [] Q) : XD P n w0 ops KS env0 dn env H RS Q :=
  xd_flush hok f i l ho hf hcl hl hs hw ht (fun v H' h => by rw [hd]; exact k v H' h)
theorem xd_fl0 (hok : RegOK n ops = true) (f : Nat) (i : Nat) {o : Oper} (l : Env) (ho : ops[i]? = some o) (hd : o.dst = none) (hf : front ops dn = [i]) (hcl : dn.all (reach ops f i).contains = true) (hl : Live env l) (hs : slotsOK ops dn i (l.map (·.1)) = true) (hw : Wt ops l o.guard) {R : Value → GH → Prop} (ht : OT P w0 l H o R)
    (k : ∀ v H', R v H' → (∀ k ∈ keys H', k ∈ KS ∨ w0.heap.size ≤ k) ∧ XD P n w0 ops KS env0 (i :: dn) env H' [] Q) : XD P n w0 ops KS env0 dn env H RS Q :=
  xd_flush hok f i l ho hf hcl hl hs hw ht (fun v H' h => by rw [hd]; exact k v H' h)
/-- The keys of what is given and of what is new. -/
def Ks (w0 : World) (KS : List Nat) (H : GH) : Prop := ∀ k ∈ keys H, k ∈ KS ∨ w0.heap.size ≤ k
theorem Ks.nil : Ks w0 KS [] := fun _ h => by simp at h
theorem Ks.consN {b : Nat} {o : Obj} (hb : w0.heap.size ≤ b) (h : Ks w0 KS H) : Ks w0 KS ((b, o) :: H) := fun k hk => by
  simp only [keys_cons, List.mem_cons] at hk
  exact hk.elim (fun e => .inr (e ▸ hb)) (h k)
theorem Ks.consK {b : Nat} {o : Obj} (hb : b ∈ KS) (h : Ks w0 KS H) : Ks w0 KS ((b, o) :: H) := fun k hk => by
  simp only [keys_cons, List.mem_cons] at hk
  exact hk.elim (fun e => .inl (e ▸ hb)) (h k)
theorem Ks.segN {B : GH} (hc : Cov w0 [] B) (h : Ks w0 KS H) : Ks w0 KS (B ++ H) := fun k hk => by
  simp only [keys_append, List.mem_append] at hk
  exact hk.elim (fun e => .inr (hc.fresh k e)) (h k)
theorem Ks.segK {B : GH} (hc : ∀ k ∈ keys B, k ∈ KS) (h : Ks w0 KS H) : Ks w0 KS (B ++ H) := fun k hk => by
  simp only [keys_append, List.mem_append] at hk
  exact hk.elim (fun e => .inl (hc k e)) (h k)
theorem xd_show {H' : GH} (e : H = H') (h : XD P n w0 ops KS env0 dn env H' RS Q) : XD P n w0 ops KS env0 dn env H RS Q := e ▸ h
end
end Go.E
namespace Go.E
open Go
section
variable {P : Program} {n : Nat} {w0 : World} {ops : Array Oper} {KS : List Nat} {env0 env : Env} {dn : List Nat} {H RS : GH} {Q : Exit → Act → World → Prop}
theorem XD.more {RS' : GH} (h : XD P n w0 ops KS env0 dn env H RS' Q) (hs : ∀ x ∈ RS, x ∈ RS') : XD P n w0 ops KS env0 dn env H RS Q :=
  fun a0 dl h1 h2 h3 h4 h5 => h a0 dl h1 h2 h3 h4 fun p hp x hx => hs x (h5 p hp x hx)
end
/-- The laws of the two truth values, for a rewriting. -/
theorem bS : (∀ b : Bool, (true && b) = b) ∧ (∀ b : Bool, (b && true) = b) ∧ (∀ b : Bool, (false && b) = false) ∧ (∀ b : Bool, (b && false) = false) ∧ (∀ b : Bool, (b || true) = true) ∧ (∀ b : Bool, (true || b) = true) ∧ (∀ b : Bool, (b || false) = b) ∧
    (∀ b : Bool, (false || b) = b) ∧ ((!true) = false) ∧ ((!false) = true) ∧ (∀ (b c : Bool), cond true b c = b) ∧ (∀ (b c : Bool), cond false b c = c) := by simp
end Go.E
/- The engine, part 15: maps. -/
namespace Go.E
open Go
/-! ### Maps as lists of keys and values -/
section
variable {κ α : Type} (ke : κ → κ → Bool)
end
/-- What the model asks of a map's keys, answered. -/
structure KeyT {κ : Type} (P : Program) (kt : TypeId) (ck : κ → Value) (ke : κ → κ → Bool) : Prop where
  check : ∀ (b : Bool) k w, (Instr.checkKey b 10000 kt (ck k)).run P w = .ok () w
  find : ∀ k (es : List MapEntry) (ks : List κ) w, es.map (·.key) = ks.map ck → (Instr.findKey kt (ck k) es).run P w = .ok ((ks.findIdx? (ke k)).bind fun i => (es[i]?).map fun e => (i, e.val)) w
  stays : ∀ a b w, ke a b = true → (Instr.keyThatStays (ck b) (ck a)).run P w = .ok (ck a) w
  same : ∀ a b, ke a b = true → ck a = ck b
  eqv : ∀ a b c, ke a b = true → ke a c = true → ke c b = true
  self : ∀ a, ke a a = true
/-- A map's block. -/
def MO {κ α : Type} (ck : κ → Value) (cv : α → Value) (ke : κ → κ → Bool) (d : List (κ × α)) (o : Obj) : Prop :=
  ∃ es clock, o = .map es clock ∧ es.toList.map (fun e => (e.key, e.val)) = d.map (fun p => (ck p.1, cv p.2)) ∧ (∀ e ∈ es.toList, e.born < clock) ∧ (es.toList.map (·.born)).Nodup ∧ d.Pairwise fun p q => ke q.1 p.1 = false
/-- A map in a segment. -/
def MJ {κ α : Type} (ck : κ → Value) (cv : α → Value) (ke : κ → κ → Bool) (B : GH) (v : Value) (d : List (κ × α)) : Prop := ∃ b o, B = [(b, o)] ∧ v = .map (some b) ∧ MO ck cv ke d o
section
variable {κ α : Type} {ke : κ → κ → Bool}
end
section
variable {κ α : Type} {P : Program} {kt et : TypeId} {ck : κ → Value} {cv : α → Value} {ke : κ → κ → Bool}
theorem MO.upd {d : List (κ × α)} {es : Array MapEntry} {clock i : Nat} {f : MapEntry → MapEntry} {v : α} (he : es.toList.map (fun e => (e.key, e.val)) = d.map (fun p => (ck p.1, cv p.2))) (hb : ∀ e ∈ es.toList, e.born < clock) (hn : (es.toList.map (·.born)).Nodup)
    (hp : d.Pairwise fun p q => ke q.1 p.1 = false) (hi : i < d.length) (hf : ∀ e, (f e).born = e.born) (hj : i < es.size) (h1 : (f es[i]).key = ck d[i].1) (h2 : (f es[i]).val = cv v) : MO ck cv ke (d.set i (d[i].1, v)) (.map (es.modify i f) clock) := by
  have hl : es.size = d.length := by simpa using congrArg List.length he
  have hborn : (es.modify i f).toList.map (·.born) = es.toList.map (·.born) := by
    apply List.ext_getElem (by simp)
    intro n h3 h4
    simp only [Array.toList_modify, List.getElem_map, List.getElem_modify]
    split
    · rw [hf]
    · rfl
  refine ⟨_, _, rfl, ?_, ?_, by rw [hborn]; exact hn, ?_⟩
  · apply List.ext_getElem (by simp [hl])
    intro n h3 h4
    have hn1 : n < es.size := by simpa using h3
    have hn2 : n < d.length := by omega
    simp only [Array.toList_modify, List.getElem_map, List.getElem_modify, List.getElem_set, Array.getElem_toList]
    by_cases hin : i = n
    · subst hin
      simp only [if_pos]
      rw [h1, h2]
    · rw [if_neg hin, if_neg hin]
      have := congrArg (fun l => l[n]?) he
      simp only [List.getElem?_map, Array.getElem?_toList, Array.getElem?_eq_getElem hn1, List.getElem?_eq_getElem hn2, Option.map_some, Option.some.injEq] at this
      exact this
  · intro e hm
    have : e.born ∈ (es.modify i f).toList.map (·.born) := List.mem_map_of_mem hm
    rw [hborn] at this
    obtain ⟨e', h3, h4⟩ := List.mem_map.1 this
    rw [← h4]; exact hb e' h3
  · rw [List.pairwise_iff_getElem] at hp ⊢
    intro a b ha hb' hab
    simp only [List.length_set] at ha hb'
    have := hp a b ha hb' hab
    simp only [List.getElem_set]
    by_cases h3 : i = a <;> by_cases h4 : i = b <;> simp only [h3, h4, if_true, if_false] <;> first | (subst h3; subst h4; omega) | (subst h3; simp [h4]; exact this) | (subst h4; simp [h3]; exact this) | (simp [h3, h4]; exact this) | skip
    all_goals (try (subst h3)); (try (subst h4)); simp_all
theorem MO.push {d : List (κ × α)} {es : Array MapEntry} {clock : Nat} {k : κ} {v : α} (he : es.toList.map (fun e => (e.key, e.val)) = d.map (fun p => (ck p.1, cv p.2))) (hb : ∀ e ∈ es.toList, e.born < clock) (hn : (es.toList.map (·.born)).Nodup)
    (hp : d.Pairwise fun p q => ke q.1 p.1 = false) (hk : ∀ p ∈ d, ke k p.1 = false) : MO ck cv ke (d ++ [(k, v)]) (.map (es.push { key := ck k, val := cv v, born := clock }) (clock + 1)) := by
  refine ⟨_, _, rfl, by simp [he], ?_, ?_, ?_⟩
  · intro e hm
    simp only [Array.toList_push, List.mem_append, List.mem_singleton] at hm
    rcases hm with hm | rfl
    · have := hb e hm; omega
    · exact Nat.lt_succ_self _
  · simp only [Array.toList_push, List.map_append, List.map_cons, List.map_nil]
    rw [List.nodup_append]
    refine ⟨hn, by simp, fun a ha b hb' => ?_⟩
    obtain ⟨e, h1, rfl⟩ := List.mem_map.1 ha
    simp only [List.mem_singleton] at hb'
    have := hb e h1
    omega
  · rw [List.pairwise_append]
    refine ⟨hp, by simp, fun p hp' q hq => ?_⟩
    simp only [List.mem_singleton] at hq
    subst hq
    exact hk p hp'
theorem erase_map {α β : Type} (f : α → β) : ∀ (l : List α) (i : Nat), (l.eraseIdx i).map f = (l.map f).eraseIdx i
  | [], _ => rfl
  | _ :: _, 0 => rfl
  | a :: l, i + 1 => by simp [List.eraseIdx_cons_succ, erase_map f l i]
theorem MO.erase {d : List (κ × α)} {es : Array MapEntry} {clock i : Nat} (he : es.toList.map (fun e => (e.key, e.val)) = d.map (fun p => (ck p.1, cv p.2))) (hb : ∀ e ∈ es.toList, e.born < clock) (hn : (es.toList.map (·.born)).Nodup)
    (hp : d.Pairwise fun p q => ke q.1 p.1 = false) : MO ck cv ke (d.eraseIdx i) (.map (es.eraseIdxIfInBounds i) clock) := by
  have e1 : (es.eraseIdxIfInBounds i).toList = es.toList.eraseIdx i := by simp
  refine ⟨_, _, rfl, ?_, ?_, ?_, ?_⟩
  · rw [e1, erase_map, he, erase_map]
  · intro e hm
    rw [e1] at hm
    exact hb e (List.mem_of_mem_eraseIdx hm)
  · rw [e1, erase_map]
    exact hn.sublist (List.eraseIdx_sublist _ _)
  · exact hp.sublist (List.eraseIdx_sublist _ _)
end
section
variable {κ α : Type} {P : Program} {n : Nat} {w0 : World} {env : Env} {H R B : GH} {Q : Exit → Act → World → Prop} {ops : Array Oper} {rest : List Oper}
variable {d : Option Nat} {op : Op} {ty : TypeId} {pos : String} {af : Array Edge} {g : Option (Nat × Bool)}
variable {t kt et : TypeId} {x y u : Operand} {v : Value} {ck : κ → Value} {cv : α → Value} {ke : κ → κ → Bool} {m : List (κ × α)} {k : κ} {z e : α}
theorem MJ.val (h : MJ ck cv ke B v m) : ∃ b, v = .map (some b) := let ⟨b, _, _, h, _⟩ := h; ⟨b, h⟩
theorem MJ.one (h : MJ ck cv ke B v m) : v.oneCell' = true := by obtain ⟨b, rfl⟩ := h.val; rfl
/-- The block of a map changes. -/
theorem St.map {w : World} {b : Nat} {o o' : Obj} (hs : St w0 ([(b, o)] ++ R) w) : St w0 ([(b, o')] ++ R) { w with heap := w.heap.setIfInBounds b o' } := by
  have hb := hs.own b o (by simp)
  have hlt : b < w.heap.size := (Array.getElem?_eq_some_iff.1 hb).1
  exact hs.upd (.here b o o' R) (by simp [hlt]) (fun k hk => by simp [Ne.symm hk]) rfl rfl rfl (by simp)
/-- The segment that changed is put back where it stood. -/
theorem OT.push {Φ : Value → GH → Prop} {o : Oper} (F : GH → GH) (hF : ∀ C, Pull (F C) C R) (h : OT P w0 env H o (fun v H' => ∃ C, H' = C ++ R ∧ Φ v C)) : OT P w0 env H o (fun v H' => ∃ C, H' = F C ∧ Φ v C) := by
  intro a w ha hs
  refine wp_mono2 ?_ (fun _ _ _ h => h.elim) (h a w ha hs)
  rintro a' w' ⟨v, H', rfl, hst, C, rfl, hC⟩
  exact ⟨v, F C, rfl, (hF C).push hst, C, rfl, hC⟩
end
section
variable {P : Program} {n : Nat} {w0 : World} {ops : Array Oper} {KS : List Nat} {env0 env : Env} {dn : List Nat} {H RS A B : GH} {Q : Exit → Act → World → Prop}
theorem rsN : ∀ x ∈ ([] : GH), x ∈ H := fun _ h => absurd h List.not_mem_nil
theorem rsC {y : Nat × Obj} (h : y ∈ H) (k : ∀ x ∈ A, x ∈ H) : ∀ x ∈ y :: A, x ∈ H := fun x hx => (List.mem_cons.1 hx).elim (fun e => e ▸ h) (k x)
theorem rsA (h : ∀ x ∈ A, x ∈ H) (k : ∀ x ∈ B, x ∈ H) : ∀ x ∈ A ++ B, x ∈ H := fun x hx => (List.mem_append.1 hx).elim (h x) (k x)
theorem xd_sh1 {H' : GH} (e : H = H') (h : (∀ k ∈ keys H', k ∈ KS ∨ w0.heap.size ≤ k) ∧ XD P n w0 ops KS env0 dn env H' RS Q) : (∀ k ∈ keys H, k ∈ KS ∨ w0.heap.size ≤ k) ∧ XD P n w0 ops KS env0 dn env H RS Q := e ▸ h
theorem xd_sh2 {H' : GH} (e : H = H') (h : (∀ x ∈ RS, x ∈ H') ∧ (∀ k ∈ keys H', k ∈ KS ∨ w0.heap.size ≤ k) ∧ XD P n w0 ops KS env0 dn env H' RS Q) : (∀ x ∈ RS, x ∈ H) ∧ (∀ k ∈ keys H, k ∈ KS ∨ w0.heap.size ≤ k) ∧ XD P n w0 ops KS env0 dn env H RS Q := e ▸ h
/-- One that only reads, and rests on the blocks of rs alone. -/
theorem xd_b (hok : RegOK n ops = true) (i : Nat) {o : Oper} {d : Nat} {v : Value} (l : Env) (rs : GH) (hR : ∀ x ∈ rs, x ∈ H) (ho : ops[i]? = some o) (hd : o.dst = some d) (hn : dn.contains i = false) (hl : Live env l) (hs : slotsOK ops dn i (l.map (·.1)) = true) (hw : Wt ops l o.guard)
    (ht : ∀ H', (∀ x ∈ rs, x ∈ H') → (∀ k ∈ keys H', k ∈ KS ∨ w0.heap.size ≤ k) → OT P w0 l H' o (Is v H')) (k : XD P n w0 ops KS env0 (i :: dn) ((d, v) :: env) H (rs ++ RS) Q) : XD P n w0 ops KS env0 dn env H RS Q :=
  xd_take hok i l rs ho hd hn hl hs hR (fun H' h h2 => .inl ⟨hw, ht H' h h2⟩) k
end
section
variable {P : Program} {w0 : World} {env : Env} {H : GH} {d : Option Nat} {ty t : TypeId} {pos : String} {af : Array Edge} {g : Option (Nat × Bool)} {N s : Nat}
end
end Go.E
/- The engine, part 16: keys that are integers, and structs of integers; entries of maps. -/
namespace Go.E
open Go
section
variable {P : Program} {kt : TypeId}
end
end Go.E
/- The engine, part 17: entries of maps. -/
namespace Go.E
open Go
section
variable {κ α : Type} {P : Program} {n : Nat} {w0 : World} {env : Env} {H R B : GH}
variable {d : Option Nat} {op : Op} {ty : TypeId} {pos : String} {af : Array Edge} {g : Option (Nat × Bool)}
variable {t kt et : TypeId} {x y u : Operand} {v : Value} {ck : κ → Value} {cv : α → Value} {ke : κ → κ → Bool} {m : List (κ × α)} {k : κ} {z e : α} {s : Nat}
end
end Go.E
/- The engine, part 18: what slices.Delete does: a slice's end is put onto its own beginning; what is behind is cleared. -/
namespace Go.E
open Go
section
variable {α : Type} {P : Program} {w0 : World} {env : Env} {H B : GH} {d : Option Nat} {ty t : TypeId} {pos : String} {af : Array Edge} {g : Option (Nat × Bool)}
variable {x : Operand} {s : Nat} {c : α → Nat → Value} {v : Value} {l : List α} {T e : TypeId}
end
end Go.E
/- Loops in plain words: what relations of loops come to. -/
namespace Go.E
open Go
/-- A loop that counts up to n and leaves early where p fails. -/
theorem Wh.all {ρ : Type} {f : Int → Int ⊕ ρ → Prop} (n : Nat) (p : Nat → Bool) (rt rf : ρ) (hgo : ∀ k : Nat, k < n → p k = true → f k (.inl ((k : Int) + 1))) (hbad : ∀ k : Nat, k < n → p k = false → f k (.inr rf)) (hend : f n (.inr rt)) :
    Wh f 0 (if (List.range n).all p = true then rt else rf) := by
  have key : ∀ j k : Nat, k + j = n → Wh f (k : Int) (if (List.range' k j).all p = true then rt else rf) := by
    intro j
    induction j with
    | zero =>
      intro k hk
      obtain rfl : k = n := by omega
      simp only [List.range'_zero, List.all_nil, if_true]
      exact .out hend
    | succ j ih =>
      intro k hk
      simp only [List.range'_succ, List.all_cons, Bool.and_eq_true]
      by_cases hp : p k = true
      · have := ih (k + 1) (by omega)
        simp only [hp, true_and]
        exact .again (hgo k (by omega) hp) this
      · rw [if_neg (fun h => hp h.1)]
        exact .out (hbad k (by omega) (by simpa using hp))
  have := key n 0 (by omega)
  rwa [← List.range_eq_range'] at this
theorem ite_intro {c p q : Prop} [Decidable c] (h1 : c → p) (h2 : ¬ c → q) : if c then p else q := by
  by_cases h : c
  · rw [if_pos h]; exact h1 h
  · rw [if_neg h]; exact h2 h
/-- A loop over a state, with a count. -/
theorem Wh.fold {σ ρ : Type} {f : σ → σ ⊕ ρ → Prop} (n : Nat) (st : Nat → σ) (r : ρ) (h : ∀ k, k < n → f (st k) (.inl (st (k + 1)))) (hn : f (st n) (.inr r)) : Wh f (st 0) r := Wh.upto st n h hn
end Go.E
/- Maps in plain words. -/
namespace Go.E
open Go
structure Eqk {κ : Type} (ke : κ → κ → Bool) : Prop where
  refl : ∀ a, ke a a = true
  symm : ∀ a b, ke a b = true → ke b a = true
  trans : ∀ a b c, ke a b = true → ke b c = true → ke a c = true
section
variable {κ α : Type} {ke : κ → κ → Bool}
end
end Go.E
/- Loops in plain words: searches. -/
namespace Go.E
open Go
/-- A loop that counts up to n and leaves at the first k where p holds. -/
theorem Wh.find {ρ : Type} {f : Int → Int ⊕ ρ → Prop} (n : Nat) (p : Nat → Bool) (rt : ρ) (rf : Nat → ρ) (hgo : ∀ k : Nat, k < n → p k = false → f k (.inl ((k : Int) + 1))) (hbad : ∀ k : Nat, k < n → p k = true → f k (.inr (rf k))) (hend : f n (.inr rt)) :
    ∃ r, Wh f 0 r ∧ ((r = rt ∧ (List.range n).any p = false) ∨ ∃ k, k < n ∧ r = rf k ∧ (List.range n).any p = true) := by
  have key : ∀ j k : Nat, k + j = n → ∃ r, Wh f (k : Int) r ∧ ((r = rt ∧ ∀ i, k ≤ i → i < n → p i = false) ∨ ∃ i, i < n ∧ r = rf i ∧ p i = true) := by
    intro j
    induction j with
    | zero =>
      intro k hk
      obtain rfl : k = n := by omega
      exact ⟨rt, .out hend, .inl ⟨rfl, fun i h1 h2 => by omega⟩⟩
    | succ j ih =>
      intro k hk
      by_cases hp : p k = true
      · exact ⟨rf k, .out (hbad k (by omega) hp), .inr ⟨k, by omega, rfl, hp⟩⟩
      · obtain ⟨r, h1, h2⟩ := ih (k + 1) (by omega)
        refine ⟨r, .again (hgo k (by omega) (by simpa using hp)) h1, ?_⟩
        rcases h2 with ⟨h2, h3⟩ | h2
        · refine .inl ⟨h2, fun i h4 h5 => ?_⟩
          by_cases hik : i = k
          · subst hik; simpa using hp
          · exact h3 i (by omega) h5
        · exact .inr h2
  obtain ⟨r, h1, h2⟩ := key n 0 (by omega)
  refine ⟨r, h1, ?_⟩
  rcases h2 with ⟨h2, h3⟩ | ⟨i, h2, h3, h4⟩
  · refine .inl ⟨h2, ?_⟩
    rw [← Bool.not_eq_true]
    intro h
    obtain ⟨i, hi, hp⟩ := List.any_eq_true.1 h
    rw [h3 i (by omega) (List.mem_range.1 hi)] at hp
    cases hp
  · exact .inr ⟨i, h2, h3, List.any_eq_true.2 ⟨i, List.mem_range.2 h2, h4⟩⟩
/-- A search through a list. -/
theorem any_range {α : Type} [Inhabited α] (l : List α) (q : α → Bool) : (List.range l.length).any (fun k => q (l[k]!)) = l.any q := by
  rw [Bool.eq_iff_iff, List.any_eq_true, List.any_eq_true]
  constructor
  · rintro ⟨k, hk, hq⟩
    have hk := List.mem_range.1 hk
    rw [getElem!_pos l k hk] at hq
    exact ⟨l[k], List.getElem_mem hk, hq⟩
  · rintro ⟨x, hx, hq⟩
    obtain ⟨k, hk, rfl⟩ := List.getElem_of_mem hx
    exact ⟨k, List.mem_range.2 hk, by rw [getElem!_pos l k hk]; exact hq⟩
theorem step1 {k : Nat} (h : k < 9000000000000000000) : inI64 ((k : Int) + 1) := ⟨by omega, by omega⟩
end Go.E
/- Numbers as bytes. -/
namespace Go.E
open Go
end Go.E
/- Messages: what may be, as plain functions of a message's 28 numbers. -/
namespace Go.E
open Go
theorem eqN2 (f g : Nat → Int) : eqN 2 f g = (decide (f 0 = g 0) && decide (f 1 = g 1)) := by
  rw [Bool.eq_iff_iff, eqN_iff]
  simp only [Bool.and_eq_true, decide_eq_true_eq]
  exact ⟨fun h => ⟨h 0 (by omega), h 1 (by omega)⟩, fun h i hi => by
    rcases (show i = 0 ∨ i = 1 by omega) with rfl | rfl
    · exact h.1
    · exact h.2⟩
def inB (n a b : Int) : Bool := decide (a ≤ n) && decide (n ≤ b)
def txB (n : Int) : Bool := inB n 1 1048576
def shB (n : Int) : Bool := inB n 1 64
def endsB (m : Nat → Int) : Bool :=
  if m 0 = 11 then (if m 1 = 0 then shB (m 2) else shB (m 1) && decide (m 2 = 0))
  else if m 0 = 1 ∨ m 0 = 4 ∨ m 0 = 6 ∨ m 0 = 8 then decide (m 1 = 0) && shB (m 2)
  else shB (m 1) && decide (m 2 = 0)
def resB (t r : Int) : Bool := inB t 1 250 && inB r 0 250
/-- No step ahead of step i is of its transaction. -/
def newB (m : Nat → Int) (i j : Nat) : Bool := (List.range j).all fun k => !decide (m (12 + k * 2 + 0) = m (12 + (i * 2 + 0)))
/-- The step i of a message. -/
def stepB (m : Nat → Int) (i : Nat) : Bool :=
  if m 11 ≤ i then decide (m (12 + (i * 2 + 0)) = 0) && decide (m (12 + (i * 2 + 1)) = 0)
  else txB (m (12 + (i * 2 + 0))) && inB (m (12 + (i * 2 + 1))) 1 1048576 && newB m i i
def pathB (m : Nat → Int) : Bool := inB (m 11) 1 8 && txB (m 9) && inB (m 10) 0 1048576 && (List.range 8).all (stepB m)
def mayB (m : Nat → Int) : Bool :=
  if m 0 = 1 ∨ m 0 = 2 then resB (m 5) (m 6) && inB (m 7) 1 4 && inB (m 4) 1 1048576 && txB (m 3)
  else if m 0 = 3 then inB (m 4) 1 1048576 && inB (m 8) 1 15 && txB (m 3)
  else if m 0 = 5 ∨ m 0 = 6 then inB (m 8) 0 1 && txB (m 3)
  else if m 0 = 4 ∨ m 0 = 7 ∨ m 0 = 8 ∨ m 0 = 9 then txB (m 3)
  else if m 0 = 10 then txB (m 3) && txB (m 9) && decide (m 9 < m 3)
  else if m 0 = 11 then pathB m else false
/-- What a kind asks is taken out. -/
def mayZ (m : Nat → Int) : Nat → Int :=
  if m 0 = 1 ∨ m 0 = 2 then updI (updI (updI (updRI m 5 2 (fun _ => 0)) 7 0) 4 0) 3 0
  else if m 0 = 3 then updI (updI (updI (updI m 4 0) 8 0) 8 0) 3 0
  else if m 0 = 5 ∨ m 0 = 6 then updI (updI m 8 0) 3 0
  else if m 0 = 4 ∨ m 0 = 7 ∨ m 0 = 8 ∨ m 0 = 9 then updI m 3 0
  else if m 0 = 10 then updI (updI m 3 0) 9 0
  else if m 0 = 11 then updRI (updI (updI (updI m 11 0) 9 0) 10 0) 12 16 (fun _ => 0) else m
/-- The head of a message alone. -/
def headM (m : Nat → Int) : Nat → Int := updI (updI (updI (fun _ => 0) 0 (m 0)) 1 (m 1)) 2 (m 2)
def okB (m : Nat → Int) : Bool := endsB m && mayB m && eqN 28 (mayZ m) (headM m)
end Go.E
/- A message's bytes; of one that may be all numbers are in range. -/
namespace Go.E
open Go
theorem stepB_rng {m : Nat → Int} {i : Nat} (h : stepB m i = true) : (0 ≤ m (12 + (i * 2 + 0)) ∧ m (12 + (i * 2 + 0)) ≤ 1048576) ∧ 0 ≤ m (12 + (i * 2 + 1)) ∧ m (12 + (i * 2 + 1)) ≤ 1048576 := by
  unfold stepB at h
  split at h
  · simp only [Bool.and_eq_true, decide_eq_true_eq] at h; omega
  · simp only [Bool.and_eq_true, decide_eq_true_eq, txB, inB] at h; omega
theorem okB_rng {m : Nat → Int} (h : okB m = true) : (∀ k, (k = 0 ∨ k = 1 ∨ k = 2 ∨ k = 5 ∨ k = 6 ∨ k = 7 ∨ k = 8 ∨ k = 11) → 0 ≤ m k ∧ m k < 256) ∧ (∀ k, (k = 3 ∨ k = 4 ∨ k = 9 ∨ k = 10 ∨ 12 ≤ k) → k < 28 → 0 ≤ m k ∧ m k < 4294967296) := by
  unfold okB at h
  simp only [Bool.and_eq_true] at h
  obtain ⟨⟨he, hm⟩, hq⟩ := h
  rw [eqN_iff] at hq
  have h012 : (0 ≤ m 0 ∧ m 0 < 12) ∧ (0 ≤ m 1 ∧ m 1 ≤ 64) ∧ 0 ≤ m 2 ∧ m 2 ≤ 64 := by
    refine ⟨?_, ?_⟩
    · unfold mayB at hm
      repeat' split at hm
      all_goals first | omega | cases hm
    · unfold endsB at he
      repeat' split at he
      all_goals (simp only [Bool.and_eq_true, decide_eq_true_eq, shB, inB] at he; omega)
  have key : ∀ k, 3 ≤ k → k < 28 → 0 ≤ m k ∧ m k ≤ 1048576 ∧ (k = 5 ∨ k = 6 ∨ k = 7 ∨ k = 8 ∨ k = 11 → m k < 256) := by
    intro k h3 h28
    have hk := hq k h28
    have hh : headM m k = 0 := by simp only [headM, updI]; rw [if_neg (by omega), if_neg (by omega), if_neg (by omega)]
    rw [hh] at hk
    unfold mayZ at hk
    unfold mayB at hm
    repeat' split at hm
    · rename_i h0
      rw [if_pos h0] at hk
      simp only [updI, updRI] at hk
      simp only [Bool.and_eq_true, resB, txB, inB, decide_eq_true_eq] at hm
      by_cases e3 : k = 3
      · subst e3; omega
      by_cases e4 : k = 4
      · subst e4; omega
      by_cases e5 : k = 5
      · subst e5; omega
      by_cases e6 : k = 6
      · subst e6; omega
      by_cases e7 : k = 7
      · subst e7; omega
      rw [if_neg e3, if_neg e4, if_neg e7, if_neg (by omega)] at hk
      omega
    · rename_i h0 h1
      rw [if_neg h0, if_pos h1] at hk
      simp only [updI] at hk
      simp only [Bool.and_eq_true, txB, inB, decide_eq_true_eq] at hm
      by_cases e3 : k = 3
      · subst e3; omega
      by_cases e4 : k = 4
      · subst e4; omega
      by_cases e8 : k = 8
      · subst e8; omega
      rw [if_neg e3, if_neg e8, if_neg e8, if_neg e4] at hk
      omega
    · rename_i h0 h1 h2
      rw [if_neg h0, if_neg h1, if_pos h2] at hk
      simp only [updI] at hk
      simp only [Bool.and_eq_true, txB, inB, decide_eq_true_eq] at hm
      by_cases e3 : k = 3
      · subst e3; omega
      by_cases e8 : k = 8
      · subst e8; omega
      rw [if_neg e3, if_neg e8] at hk
      omega
    · rename_i h0 h1 h2 h4
      rw [if_neg h0, if_neg h1, if_neg h2, if_pos h4] at hk
      simp only [updI] at hk
      simp only [Bool.and_eq_true, txB, inB, decide_eq_true_eq] at hm
      by_cases e3 : k = 3
      · subst e3; omega
      rw [if_neg e3] at hk
      omega
    · rename_i h0 h1 h2 h4 h5
      rw [if_neg h0, if_neg h1, if_neg h2, if_neg h4, if_pos h5] at hk
      simp only [updI] at hk
      simp only [Bool.and_eq_true, txB, inB, decide_eq_true_eq] at hm
      by_cases e3 : k = 3
      · subst e3; omega
      by_cases e9 : k = 9
      · subst e9; omega
      rw [if_neg e9, if_neg e3] at hk
      omega
    · rename_i h0 h1 h2 h4 h5 h6
      rw [if_neg h0, if_neg h1, if_neg h2, if_neg h4, if_neg h5, if_pos h6] at hk
      simp only [updI, updRI] at hk
      unfold pathB at hm
      simp only [Bool.and_eq_true, txB, inB, decide_eq_true_eq, List.all_eq_true] at hm
      by_cases e9 : k = 9
      · subst e9; omega
      by_cases e10 : k = 10
      · subst e10; omega
      by_cases e11 : k = 11
      · subst e11; omega
      by_cases e12 : 12 ≤ k
      · have hst := stepB_rng (hm.2 ((k - 12) / 2) (List.mem_range.2 (by omega)))
        rcases (show k = 12 + ((k - 12) / 2 * 2 + 0) ∨ k = 12 + ((k - 12) / 2 * 2 + 1) by omega) with e | e
        · rw [← e] at hst; omega
        · rw [← e] at hst; omega
      rw [if_neg (by omega), if_neg e10, if_neg e9, if_neg e11] at hk
      omega
    · cases hm
  refine ⟨fun k hk => ?_, fun k hk h28 => ?_⟩
  · rcases hk with rfl | rfl | rfl | hk
    · omega
    · omega
    · omega
    · have := key k (by omega) (by omega)
      have := this.2.2 (by omega)
      omega
  · have := key k (by omega) h28
    omega
end Go.E
/- Opening the arguments; the last step, common to all laws. -/
namespace Go.E
open Go
def kindsFs (P : Program) (rec : TypeId → Option (List IntKind)) : List Field → Nat → Option (List IntKind)
  | [], _ => some []
  | f :: fs, o => if f.offset = o then
    match rec f.type with
    | some ks => if P.cellsOf f.type = ks.length then (kindsFs P rec fs (o + ks.length)).map (ks ++ ·) else none
    | none => none
    else none
/-- The kinds of the cells of a type of integers. -/
def kinds (P : Program) : Nat → TypeId → Option (List IntKind)
  | 0, _ => none
  | k + 1, t => match P.underlying t with
    | some (.int q) => some [q]
    | some (.struct fs) => kindsFs P (kinds P k) fs.toList 0
    | some (.array len e) => match kinds P k e with
      | some ks => if P.cellsOf e = ks.length then some (List.replicate len ks).flatten else none
      | none => none
    | _ => none
/-- Cells that are integers of these kinds. -/
def Ints (ks : List IntKind) (cs : List Value) : Prop := cs.length = ks.length ∧ ∀ (i : Nat) (q : IntKind), ks[i]? = some q → ∃ n : Int, cs[i]? = some (Value.int q n) ∧ (Lit.int q n).wf = true
theorem Ints.nil : Ints [] [] := ⟨rfl, fun i q h => by simp at h⟩
theorem Ints.app {a b : List IntKind} {u v : List Value} (h1 : Ints a u) (h2 : Ints b v) : Ints (a ++ b) (u ++ v) := by
  refine ⟨by simp [h1.1, h2.1], fun i q h => ?_⟩
  by_cases hi : i < a.length
  · rw [List.getElem?_append_left hi] at h
    rw [List.getElem?_append_left (by rw [h1.1]; exact hi)]
    exact h1.2 i q h
  · rw [List.getElem?_append_right (by omega)] at h
    rw [List.getElem?_append_right (by rw [h1.1]; omega), h1.1]
    exact h2.2 _ q h
section
variable {H : Type} {enc : TypeId × Value → H} {P : Program} {w : World} {base : Nat} {sp : Nat → Bool} {held : Bool}
theorem trod_kinds : ∀ (k : Nat) (t : TypeId) (ks : List IntKind), kinds P k t = some ks → P.cellsOf t = ks.length → ∀ (fuel : Nat) (cs : List Value) (x : DataW H × List MemPlace),
    DataW.trod enc P w base sp held fuel t cs = some x → x.2 = [] ∧ Ints ks cs := by
  intro k
  induction k with
  | zero => intro t ks h; simp [kinds] at h
  | succ k ih =>
    intro t ks h hc fuel cs x hx
    simp only [kinds] at h
    split at h
    · rename_i q hu
      simp only [Option.some.injEq] at h
      subst h
      obtain ⟨n, rfl, rfl, hw⟩ := DataW.trod_int hu hx
      refine ⟨rfl, rfl, fun i q' hq => ?_⟩
      cases i with
      | zero => simp at hq; subst hq; exact ⟨n, rfl, hw⟩
      | succ i => simp at hq
    · rename_i fs hu
      obtain ⟨xs, n, rfl, rfl, hl, hn, he⟩ := DataW.trod_struct hu hx
      have key : ∀ (l : List Field) (o : Nat) (ks : List IntKind), kindsFs P (kinds P k) l o = some ks → (∀ f ∈ l, ∃ y, DataW.trod enc P w base sp held n f.type ((cs.drop f.offset).take (P.cellsOf f.type)) = some y) → Ints ks ((cs.drop o).take ks.length) := by
        intro l
        induction l with
        | nil => intro o ks h _; simp only [kindsFs, Option.some.injEq] at h; subst h; simpa using Ints.nil
        | cons f l ihl =>
          intro o ks h hy
          simp only [kindsFs] at h
          split at h
          · rename_i ho
            split at h
            · rename_i k1 hr
              split at h
              · rename_i hsz
                simp only [Option.map_eq_some_iff] at h
                obtain ⟨k2, hk, rfl⟩ := h
                obtain ⟨y, hy1⟩ := hy f List.mem_cons_self
                have i1 := (ih _ _ hr hsz _ _ _ hy1).2
                have i2 := ihl _ _ hk fun f hf => hy f (List.mem_cons_of_mem _ hf)
                rw [ho, hsz] at i1
                have := i1.app i2
                rwa [← List.drop_drop, ← List.take_add, ← List.length_append] at this
              · cases h
            · cases h
          · cases h
      have each : ∀ (i : Nat) (f : Field), fs[i]? = some f → ∃ y, DataW.trod enc P w base sp held n f.type ((cs.drop f.offset).take (P.cellsOf f.type)) = some y ∧ xs[i]? = some y := by
        intro i f hf
        have h1 := he i f hf
        have hi : i < xs.length := by rw [hn]; exact (Array.getElem?_eq_some_iff.1 hf).1
        exact ⟨xs[i], by rw [h1]; exact List.getElem?_eq_getElem hi, List.getElem?_eq_getElem hi⟩
      refine ⟨?_, ?_⟩
      · have kf : ∀ (l : List Field) (o : Nat) (ks : List IntKind), kindsFs P (kinds P k) l o = some ks → ∀ f ∈ l, ∃ kk, kinds P k f.type = some kk ∧ P.cellsOf f.type = kk.length := by
          intro l
          induction l with
          | nil => intro o ks _ f hf; simp at hf
          | cons f l ihl =>
            intro o ks h f' hf
            simp only [kindsFs] at h
            split at h
            · split at h
              · rename_i k1 hr
                split at h
                · rename_i hsz
                  simp only [Option.map_eq_some_iff] at h
                  obtain ⟨k2, hk, rfl⟩ := h
                  rcases List.mem_cons.1 hf with rfl | hf
                  · exact ⟨k1, hr, hsz⟩
                  · exact ihl _ _ hk f' hf
                · cases h
              · cases h
            · cases h
        simp only [List.flatMap_eq_nil_iff]
        intro y hy
        obtain ⟨i, hi⟩ := List.getElem?_of_mem hy
        have hlt : i < fs.size := by rw [← hn]; exact (List.getElem?_eq_some_iff.1 hi).1
        obtain ⟨y', h1, h2⟩ := each i fs[i] (Array.getElem?_eq_getElem hlt)
        rw [hi] at h2
        cases h2
        obtain ⟨kk, hk, hz⟩ := kf _ _ _ h fs[i] (by simp)
        exact (ih _ _ hk hz _ _ _ h1).1
      · have := key fs.toList 0 ks h fun f hf => by
          obtain ⟨i, hi⟩ := List.getElem?_of_mem hf
          obtain ⟨y, h1, _⟩ := each i f (by rw [← hi]; simp)
          exact ⟨y, h1⟩
        rwa [List.drop_zero, List.take_of_length_le (by omega)] at this
    · rename_i len e hu
      split at h
      · rename_i k1 hr
        split at h
        · rename_i hsz
          simp only [Option.some.injEq] at h
          subst h
          obtain ⟨xs, n, rfl, rfl, hl, hn, he⟩ := DataW.trod_array hu hx
          have each : ∀ i, i < len → ∃ y, DataW.trod enc P w base sp held n e ((cs.drop (i * P.cellsOf e)).take (P.cellsOf e)) = some y ∧ xs[i]? = some y := by
            intro i hi
            have hi' : i < xs.length := by omega
            exact ⟨xs[i], by rw [he i hi]; exact List.getElem?_eq_getElem hi', List.getElem?_eq_getElem hi'⟩
          refine ⟨?_, ?_⟩
          · simp only [List.flatMap_eq_nil_iff]
            intro y hy
            obtain ⟨i, hi⟩ := List.getElem?_of_mem hy
            obtain ⟨y', h1, h2⟩ := each i (by rw [← hn]; exact (List.getElem?_eq_some_iff.1 hi).1)
            rw [hi] at h2
            cases h2
            exact (ih _ _ hr hsz _ _ _ h1).1
          · have key : ∀ j, j ≤ len → Ints (List.replicate j k1).flatten (cs.take (j * k1.length)) := by
              intro j
              induction j with
              | zero => intro _; simpa using Ints.nil
              | succ j ihj =>
                intro hj
                obtain ⟨y, h1, _⟩ := each j (by omega)
                have i1 := (ih _ _ hr hsz _ _ _ h1).2
                rw [hsz] at i1
                have := (ihj (by omega)).app i1
                rw [← List.take_add] at this
                rw [List.replicate_succ', List.flatten_append, Nat.succ_mul]
                simpa using this
            have := key len (Nat.le_refl _)
            rwa [List.take_of_length_le (by rw [hl, hc]; simp)] at this
        · cases h
      · cases h
    · cases h
def intOf : Value → Int
  | .int _ n => n
  | _ => 0
/-- The cells of integers of these kinds. -/
def kc (ks : List IntKind) (m : Nat → Int) : Nat → Value := fun i => .int (ks.getD i .i64) (m i)
def wfs (ks : List IntKind) (m : Nat → Int) : Prop := ∀ (i : Nat) (q : IntKind), ks[i]? = some q → (Lit.int q (m i)).wf = true
theorem kc_i64 (n : Nat) (m : Nat → Int) : kc (List.replicate n .i64) m = iv m := by
  funext i
  simp only [kc, iv, List.getD_eq_getElem?_getD, List.getElem?_replicate]
  split <;> rfl
theorem Ints.fn {ks : List IntKind} {cs : List Value} (h : Ints ks cs) : ∃ m, wfs ks m ∧ (∀ i, i < ks.length → cs[i]? = some (kc ks m i)) ∧ cs = (List.range ks.length).map (kc ks m) := by
  have e : ∀ (i : Nat) (q : IntKind), ks[i]? = some q → cs[i]? = some (.int q (intOf (cs.getD i undef))) ∧ (Lit.int q (intOf (cs.getD i undef))).wf = true := by
    intro i q hq
    obtain ⟨n, h1, h2⟩ := h.2 i q hq
    have : intOf (cs.getD i undef) = n := by rw [List.getD_eq_getElem?_getD, h1]; rfl
    rw [this]; exact ⟨h1, h2⟩
  have f : ∀ i, i < ks.length → cs[i]? = some (kc ks (fun i => intOf (cs.getD i undef)) i) := by
    intro i hi
    have := (e i ks[i] (List.getElem?_eq_getElem hi)).1
    rw [this, kc]
    rw [show ks.getD i .i64 = ks[i] from by rw [List.getD_eq_getElem?_getD, List.getElem?_eq_getElem hi]; rfl]
  refine ⟨fun i => intOf (cs.getD i undef), fun i q hq => (e i q hq).2, f, ?_⟩
  apply List.ext_getElem?
  intro i
  by_cases hi : i < ks.length
  · rw [f i hi, List.getElem?_map, List.getElem?_range hi]; rfl
  · rw [List.getElem?_eq_none (by rw [h.1]; omega), List.getElem?_eq_none (by simp; omega)]
theorem open_list {r : Reach} {b0 : Nat} {t e : TypeId} {v : Value} {d : DataW H} {ps : List MemPlace} {ks : List IntKind} (ht : P.underlying t = some (.slice e)) (hk : kinds P 9 e = some ks) (hc : P.cellsOf e = ks.length) (hp : 0 < ks.length)
    (hval : Value.okWide P w r b0 t v) (hd : DataW.Trod enc P w base sp held t v d ps) :
    ∃ l : List (Nat → Int), SL w ks.length (kc ks) v l ∧ (∀ m ∈ l, wfs ks m) ∧ ((d = .nil ∧ l = []) ∨ ∃ elems spare, d = .slice elems spare ∧ elems.length = l.length) := by
  obtain ⟨a, len, cap, rfl⟩ := WideShapes.okWide_slice ht hval
  obtain ⟨fuel, hx⟩ := hd
  rcases DataW.trod_slice ht hx with ⟨h1, h2⟩ | ⟨a', len', cap', elems, rest, n, rfl, h1, h2, hb, hl, hm, hn, he, -, -⟩
  · have h1' : Value.slice a len cap = .slice none 0 0 := by simpa [Value.cells] using h1
    cases h1'; cases h2
    exact ⟨[], SL.nil, by simp, .inl ⟨rfl, rfl⟩⟩
  · have h1' : Value.slice a len cap = .slice (some a') len' cap' := by simpa [Value.cells] using h1
    cases h1'; cases h2
    have each : ∀ i, i < len → ∃ m, wfs ks m ∧ ∀ j, j < ks.length → w.cell? (a'.add (i * ks.length + j)) = some (kc ks m j) := by
      intro i hi
      have h3 := he i hi
      rw [List.getElem?_eq_getElem (by omega)] at h3
      obtain ⟨cs, h4, h5⟩ := Option.bind_eq_some_iff.1 h3
      obtain ⟨_, h6⟩ := trod_kinds 9 e ks hk hc _ _ _ h5
      obtain ⟨m, hm, hf, _⟩ := h6.fn
      refine ⟨m, hm, fun j hj => ?_⟩
      have h7 := World.cells?_some h4
      rw [hc] at h7
      have := h7.2.2 j (by first | exact hj | omega)
      rw [hf j hj] at this
      rw [← this]
      rw [Addr.add_add]
    refine ⟨(List.range len).map fun i => if h : i < len then (each i h).choose else fun _ => 0, ?_, ?_, .inr ⟨_, _, rfl, by simpa using hn⟩⟩
    · refine ⟨some a', cap, by simp, by simpa using hl, hm, (fun h => by cases h), ?_⟩
      simp only [List.length_map, List.length_range]
      by_cases h0 : len = 0
      · left; simp [h0]
      right
      obtain ⟨b, off, spot⟩ := a'
      have hspot : spot = none := by
        have := (each 0 (by omega)).choose_spec.2 0 hp
        simpa [Addr.add] using World.cell?_spot this
      subst hspot
      refine ⟨b, off, rfl, fun i hi => ?_⟩
      have hq : i / ks.length < len := Nat.div_lt_of_lt_mul (by rw [Nat.mul_comm]; exact hi)
      have h8 := (each _ hq).choose_spec.2 (i % ks.length) (Nat.mod_lt _ hp)
      have e1 : i / ks.length * ks.length + i % ks.length = i := by rw [Nat.mul_comm]; exact Nat.div_add_mod _ _
      rw [e1] at h8
      rw [Addr.add_lit] at h8
      rw [h8, eG, List.getElem?_map, List.getElem?_range hq]
      simp only [Option.map_some, Option.elim, dif_pos hq]
    · intro m hm'
      obtain ⟨i, hi, rfl⟩ := List.mem_map.1 hm'
      have hi := List.mem_range.1 hi
      simp only [dif_pos hi]
      exact (each i hi).choose_spec.1
/-- One cell an element: a list of integers. -/
theorem SL.one {q : IntKind} {c : Int → Nat → Value} (hc : ∀ x, c x 0 = .int q x) {v : Value} {l : List (Nat → Int)} (h : SL w 1 (kc [q]) v l) : SL w 1 c v (l.map (· 0)) := by
  obtain ⟨p, cp, rfl, h2, h3, h4, h5⟩ := h
  refine ⟨p, cp, by simp, by simpa using h2, h3, h4, ?_⟩
  rcases h5 with h5 | ⟨b, o, rfl, h5⟩
  · exact .inl (by simpa using h5)
  · refine .inr ⟨b, o, rfl, fun i hi => ?_⟩
    have hi' : i < l.length := by simpa using hi
    rw [h5 i (by simpa using hi)]
    simp only [eG, Nat.div_one, Nat.mod_one, List.getElem?_map, List.getElem?_eq_getElem hi', Option.map_some, Option.elim, hc]
    rfl
theorem SL.ofK {n : Nat} {v : Value} {l : List (Nat → Int)} (h : SL w n (kc (List.replicate n .i64)) v l) : SL w n iv v l := by
  have : kc (List.replicate n .i64) = iv := funext fun m => kc_i64 n m
  rwa [this] at h
theorem wfs_i64 {n : Nat} {m : Nat → Int} (h : wfs (List.replicate n .i64) m) : ∀ i, i < n → inI64 (m i) := fun i hi => bounds_i64 (h i .i64 (by simp [hi]))
theorem open_list64 {r : Reach} {b0 : Nat} {t e : TypeId} {v : Value} {d : DataW H} {ps : List MemPlace} (n : Nat) (ht : P.underlying t = some (.slice e)) (hk : kinds P 9 e = some (List.replicate n .i64)) (hc : P.cellsOf e = n) (hn : Nat.blt 0 n = true)
    (hval : Value.okWide P w r b0 t v) (hd : DataW.Trod enc P w base sp held t v d ps) :
    ∃ l : List (Nat → Int), SL w n iv v l ∧ (∀ m ∈ l, ∀ i, i < n → inI64 (m i)) ∧ ((d = .nil ∧ l.length = 0) ∨ ∃ elems spare, d = .slice elems spare ∧ elems.length = l.length) := by
  obtain ⟨l, h1, h2, h3⟩ := open_list ht hk (by simpa using hc) (by simpa [Nat.blt_eq] using hn) hval hd
  rw [List.length_replicate] at h1
  refine ⟨l, SL.ofK h1, fun m hm => wfs_i64 (h2 m hm), ?_⟩
  rcases h3 with ⟨h3, rfl⟩ | h3
  · exact .inl ⟨h3, rfl⟩
  · exact .inr h3
/-- How long a slice that is handed in can be. -/
theorem len_le {ts : List TypeId} {ds : List (DataW H)} (h : (DataW.weightsEach P ts ds).all (· ≤ reachBytes) = true) {j : Nat} {t e : TypeId} {d : DataW H} {n : Nat} (b : Nat) (ht : ts[j]? = some t) (hd : ds[j]? = some d) (hu : P.underlying t = some (.slice e)) (hb : P.bytesOf e = b)
    (hn : (d = .nil ∧ n = 0) ∨ ∃ elems spare, d = .slice elems spare ∧ elems.length = n) : n * b ≤ 140737488355327 := by
  rcases hn with ⟨_, rfl⟩ | ⟨es, sp, rfl, rfl⟩
  · omega
  · have h1 := sized_slice h ht hd hu
    have h2 := reachBytes_lt
    rw [hb, Nat.add_mul] at h1
    have : es.length * b ≤ es.length * b + sp.length * b := Nat.le_add_right _ _
    omega
end
end Go.E
namespace Go.Proofs.Ytmfbefghdaiicaa
open Go Go.E Go.ChangeShapes Go.WideShapes Go.ChangeAt Go.RowKit
theorem st_below {w w' : World} (h : St w [] w') : Below w.heap.size w w' :=
  ⟨h.os, h.tape, h.out, h.size, fun k hk => h.keep k hk (by simp)⟩
theorem all_stay {H : Type} {enc : TypeId × Value → H} {P : Program} (hl : laidOutB P = true) {W W' : World} (hb : Below W.heap.size W W') :
    ∀ (ts : List TypeId) (vs : List Value) (ds : List (DataW H)) (p : List MemPlace), (∀ t ∈ ts, P.readableRec t = true ∧ t < P.types.size) → (∀ x ∈ p, x.block < W.heap.size) →
      DataW.TrodAll enc P W 0 (fun _ => true) true ts vs ds p → DataW.TrodAll enc P W' 0 (fun b => decide (b < W.heap.size)) true ts vs ds p
  | [], vs, ds, p, _, _, h => by
    obtain ⟨rfl, rfl, rfl⟩ := trodAll_nil h
    exact trodAll_mk0
  | t :: ts, vs, ds, p, hts, hp, h => by
    obtain ⟨v, vs', d, ds', a, b, rfl, rfl, rfl, h1, h2⟩ := trodAll_cons h
    have ht := hts t List.mem_cons_self
    exact trodAll_cons_mk (Below.trod hl ht.1 ht.2 h1 hb fun x hx => hp x (List.mem_append_left _ hx))
      (all_stay hl hb ts vs' ds' b (fun s hs => hts s (List.mem_cons_of_mem _ hs)) (fun x hx => hp x (List.mem_append_right _ hx)) h2)
theorem law_post {H : Type} {enc : TypeId × Value → H} {P : Program} (hl : laidOutB P = true) {f : Func} {s : ChangeSpec} {W W' : World} {args : Array Value} {ds gs : List (DataW H)} {before : List MemPlace} {tb : TypeId}
    (hW : DataW.Whole enc P f.params.toList s.vars false W args.toList ds gs before) (hvars : s.vars = []) (hfn : s.fn H (ds ++ gs) = { results := [.lit (.bool true)], args := ds }) (hres : f.resultTypes = #[tb]) (hb : P.underlying tb = some .bool)
    (hpar : f.params.toList.all (fun t => P.readableRec t && Nat.blt t P.types.size) = true) (hst : St W [] W') : s.post enc P f false true false false W args (.bool true) W' := by
  have hbel := st_below hst
  have hlt : ∀ p ∈ before, p.block < W.heap.size := fun p hp => by simpa using hW.lt p hp
  have hW1 := hW
  obtain ⟨p, q, hA, hV, e, _, _⟩ := hW
  rw [hvars] at hV
  obtain ⟨_, rfl⟩ := trodVars_none hV
  rw [List.append_nil] at e
  subst e
  refine ⟨ds, gs, before, [], before, [], hW1, ?_, ?_, ?_, hbel.frame _, fun h => by cases h⟩
  · rw [hfn, hres]
    exact trodAll_cons_mk (shut_bool hb true) trodAll_mk0
  · rw [hfn]
    refine all_stay hl hbel _ _ _ _ (fun t ht => ?_) hlt hA
    have := List.all_eq_true.1 hpar t ht
    rw [Bool.and_eq_true] at this
    exact ⟨this.1, Nat.le_of_ble_eq_true this.2⟩
  · rw [hfn, hvars]; rfl
end Go.Proofs.Ytmfbefghdaiicaa
/- Closed facts of the program: types, functions. -/
namespace Go.Proofs.Ytmfbefghdaiicaa
open Go Go.E
theorem ap27 : App Try.prog 27 3 1 8 (.int .i64 0) := ⟨Try.underlying27, by kernel_rfl, by kernel_rfl, by kernel_rfl⟩
theorem ap28 : App Try.prog 28 94 5 40 (AG 5 (iv (fun _ => 0))) := ⟨Try.underlying28, by kernel_rfl, by kernel_rfl, by kernel_rfl⟩
theorem ap35 : App Try.prog 35 42 28 224 (AG 28 (iv (fun _ => 0))) := ⟨Try.underlying35, by kernel_rfl, by kernel_rfl, by kernel_rfl⟩
theorem ea40 : ElmA Try.prog 40 8 39 2 true := ⟨Try.underlying40, by kernel_rfl, by kernel_rfl⟩
theorem el128 : Elm Try.prog 128 39 2 true := ⟨Try.underlying128, by kernel_rfl, by kernel_rfl⟩
theorem el22 : Elm Try.prog 22 44 33 true := ⟨Try.underlying22, by kernel_rfl, by kernel_rfl⟩
theorem el27 : Elm Try.prog 27 3 1 false := ⟨Try.underlying27, by kernel_rfl, by kernel_rfl⟩
theorem el28 : Elm Try.prog 28 94 5 true := ⟨Try.underlying28, by kernel_rfl, by kernel_rfl⟩
theorem el35 : Elm Try.prog 35 42 28 true := ⟨Try.underlying35, by kernel_rfl, by kernel_rfl⟩
theorem eq25 : Flat Try.prog 25 2 := ⟨by kernel_rfl, by kernel_rfl⟩
theorem eq39 : Flat Try.prog 39 2 := ⟨by kernel_rfl, by kernel_rfl⟩
theorem eq42 : Flat Try.prog 42 28 := ⟨by kernel_rfl, by kernel_rfl⟩
theorem eq94 : Flat Try.prog 94 5 := ⟨by kernel_rfl, by kernel_rfl⟩
theorem fk25 : FldsOk Try.prog 25 := ⟨_, Try.underlying25, by kernel_rfl⟩
theorem fk30 : FldsOk Try.prog 30 := ⟨_, Try.underlying30, by kernel_rfl⟩
theorem fk39 : FldsOk Try.prog 39 := ⟨_, Try.underlying39, by kernel_rfl⟩
theorem fk42 : FldsOk Try.prog 42 := ⟨_, Try.underlying42, by kernel_rfl⟩
theorem fk48 : FldsOk Try.prog 48 := ⟨_, Try.underlying48, by kernel_rfl⟩
theorem fk94 : FldsOk Try.prog 94 := ⟨_, Try.underlying94, by kernel_rfl⟩
theorem fl25_0 : Fld Try.prog 25 0 0 1 false := ⟨_, _, Try.underlying25, rfl, rfl, ⟨by kernel_rfl, by kernel_rfl⟩, rfl⟩
theorem fl25_1 : Fld Try.prog 25 1 1 1 false := ⟨_, _, Try.underlying25, rfl, rfl, ⟨by kernel_rfl, by kernel_rfl⟩, rfl⟩
theorem fl30_0 : Fld Try.prog 30 0 0 1 false := ⟨_, _, Try.underlying30, rfl, rfl, ⟨by kernel_rfl, by kernel_rfl⟩, rfl⟩
theorem fl30_1 : Fld Try.prog 30 1 1 1 false := ⟨_, _, Try.underlying30, rfl, rfl, ⟨by kernel_rfl, by kernel_rfl⟩, rfl⟩
theorem fl30_10 : Fld Try.prog 30 10 11 1 false := ⟨_, _, Try.underlying30, rfl, rfl, ⟨by kernel_rfl, by kernel_rfl⟩, rfl⟩
theorem fl30_11 : Fld Try.prog 30 11 12 1 false := ⟨_, _, Try.underlying30, rfl, rfl, ⟨by kernel_rfl, by kernel_rfl⟩, rfl⟩
theorem fl30_2 : Fld Try.prog 30 2 2 1 false := ⟨_, _, Try.underlying30, rfl, rfl, ⟨by kernel_rfl, by kernel_rfl⟩, rfl⟩
theorem fl30_3 : Fld Try.prog 30 3 3 1 false := ⟨_, _, Try.underlying30, rfl, rfl, ⟨by kernel_rfl, by kernel_rfl⟩, rfl⟩
theorem fl30_4 : Fld Try.prog 30 4 4 1 false := ⟨_, _, Try.underlying30, rfl, rfl, ⟨by kernel_rfl, by kernel_rfl⟩, rfl⟩
theorem fl30_5 : Fld Try.prog 30 5 5 1 false := ⟨_, _, Try.underlying30, rfl, rfl, ⟨by kernel_rfl, by kernel_rfl⟩, rfl⟩
theorem fl30_6 : Fld Try.prog 30 6 6 2 true := ⟨_, _, Try.underlying30, rfl, rfl, ⟨by kernel_rfl, by kernel_rfl⟩, rfl⟩
theorem fl30_7 : Fld Try.prog 30 7 8 1 false := ⟨_, _, Try.underlying30, rfl, rfl, ⟨by kernel_rfl, by kernel_rfl⟩, rfl⟩
theorem fl30_8 : Fld Try.prog 30 8 9 1 false := ⟨_, _, Try.underlying30, rfl, rfl, ⟨by kernel_rfl, by kernel_rfl⟩, rfl⟩
theorem fl30_9 : Fld Try.prog 30 9 10 1 false := ⟨_, _, Try.underlying30, rfl, rfl, ⟨by kernel_rfl, by kernel_rfl⟩, rfl⟩
theorem fl39_0 : Fld Try.prog 39 0 0 1 false := ⟨_, _, Try.underlying39, rfl, rfl, ⟨by kernel_rfl, by kernel_rfl⟩, rfl⟩
theorem fl39_1 : Fld Try.prog 39 1 1 1 false := ⟨_, _, Try.underlying39, rfl, rfl, ⟨by kernel_rfl, by kernel_rfl⟩, rfl⟩
theorem fl42_0 : Fld Try.prog 42 0 0 1 false := ⟨_, _, Try.underlying42, rfl, rfl, ⟨by kernel_rfl, by kernel_rfl⟩, rfl⟩
theorem fl42_1 : Fld Try.prog 42 1 1 1 false := ⟨_, _, Try.underlying42, rfl, rfl, ⟨by kernel_rfl, by kernel_rfl⟩, rfl⟩
theorem fl42_10 : Fld Try.prog 42 10 11 1 false := ⟨_, _, Try.underlying42, rfl, rfl, ⟨by kernel_rfl, by kernel_rfl⟩, rfl⟩
theorem fl42_11 : Fld Try.prog 42 11 12 16 true := ⟨_, _, Try.underlying42, rfl, rfl, ⟨by kernel_rfl, by kernel_rfl⟩, rfl⟩
theorem fl42_2 : Fld Try.prog 42 2 2 1 false := ⟨_, _, Try.underlying42, rfl, rfl, ⟨by kernel_rfl, by kernel_rfl⟩, rfl⟩
theorem fl42_3 : Fld Try.prog 42 3 3 1 false := ⟨_, _, Try.underlying42, rfl, rfl, ⟨by kernel_rfl, by kernel_rfl⟩, rfl⟩
theorem fl42_4 : Fld Try.prog 42 4 4 1 false := ⟨_, _, Try.underlying42, rfl, rfl, ⟨by kernel_rfl, by kernel_rfl⟩, rfl⟩
theorem fl42_5 : Fld Try.prog 42 5 5 2 true := ⟨_, _, Try.underlying42, rfl, rfl, ⟨by kernel_rfl, by kernel_rfl⟩, rfl⟩
theorem fl42_6 : Fld Try.prog 42 6 7 1 false := ⟨_, _, Try.underlying42, rfl, rfl, ⟨by kernel_rfl, by kernel_rfl⟩, rfl⟩
theorem fl42_7 : Fld Try.prog 42 7 8 1 false := ⟨_, _, Try.underlying42, rfl, rfl, ⟨by kernel_rfl, by kernel_rfl⟩, rfl⟩
theorem fl42_8 : Fld Try.prog 42 8 9 1 false := ⟨_, _, Try.underlying42, rfl, rfl, ⟨by kernel_rfl, by kernel_rfl⟩, rfl⟩
theorem fl42_9 : Fld Try.prog 42 9 10 1 false := ⟨_, _, Try.underlying42, rfl, rfl, ⟨by kernel_rfl, by kernel_rfl⟩, rfl⟩
theorem fl44_0 : Fld Try.prog 44 0 0 1 false := ⟨_, _, Try.underlying44, rfl, rfl, ⟨by kernel_rfl, by kernel_rfl⟩, rfl⟩
theorem fl44_1 : Fld Try.prog 44 1 1 1 false := ⟨_, _, Try.underlying44, rfl, rfl, ⟨by kernel_rfl, by kernel_rfl⟩, rfl⟩
theorem fl44_2 : Fld Try.prog 44 2 2 2 true := ⟨_, _, Try.underlying44, rfl, rfl, ⟨by kernel_rfl, by kernel_rfl⟩, rfl⟩
theorem fl44_3 : Fld Try.prog 44 3 4 1 false := ⟨_, _, Try.underlying44, rfl, rfl, ⟨by kernel_rfl, by kernel_rfl⟩, rfl⟩
theorem fl44_4 : Fld Try.prog 44 4 5 28 true := ⟨_, _, Try.underlying44, rfl, rfl, ⟨by kernel_rfl, by kernel_rfl⟩, rfl⟩
theorem fl48_0 : Fld Try.prog 48 0 0 1 false := ⟨_, _, Try.underlying48, rfl, rfl, ⟨by kernel_rfl, by kernel_rfl⟩, rfl⟩
theorem fl48_1 : Fld Try.prog 48 1 1 1 false := ⟨_, _, Try.underlying48, rfl, rfl, ⟨by kernel_rfl, by kernel_rfl⟩, rfl⟩
theorem fl48_10 : Fld Try.prog 48 10 11 1 false := ⟨_, _, Try.underlying48, rfl, rfl, ⟨by kernel_rfl, by kernel_rfl⟩, rfl⟩
theorem fl48_11 : Fld Try.prog 48 11 12 1 false := ⟨_, _, Try.underlying48, rfl, rfl, ⟨by kernel_rfl, by kernel_rfl⟩, rfl⟩
theorem fl48_2 : Fld Try.prog 48 2 2 1 false := ⟨_, _, Try.underlying48, rfl, rfl, ⟨by kernel_rfl, by kernel_rfl⟩, rfl⟩
theorem fl48_3 : Fld Try.prog 48 3 3 1 false := ⟨_, _, Try.underlying48, rfl, rfl, ⟨by kernel_rfl, by kernel_rfl⟩, rfl⟩
theorem fl48_4 : Fld Try.prog 48 4 4 1 false := ⟨_, _, Try.underlying48, rfl, rfl, ⟨by kernel_rfl, by kernel_rfl⟩, rfl⟩
theorem fl48_5 : Fld Try.prog 48 5 5 1 false := ⟨_, _, Try.underlying48, rfl, rfl, ⟨by kernel_rfl, by kernel_rfl⟩, rfl⟩
theorem fl48_6 : Fld Try.prog 48 6 6 2 true := ⟨_, _, Try.underlying48, rfl, rfl, ⟨by kernel_rfl, by kernel_rfl⟩, rfl⟩
theorem fl48_7 : Fld Try.prog 48 7 8 1 false := ⟨_, _, Try.underlying48, rfl, rfl, ⟨by kernel_rfl, by kernel_rfl⟩, rfl⟩
theorem fl48_8 : Fld Try.prog 48 8 9 1 false := ⟨_, _, Try.underlying48, rfl, rfl, ⟨by kernel_rfl, by kernel_rfl⟩, rfl⟩
theorem fl48_9 : Fld Try.prog 48 9 10 1 false := ⟨_, _, Try.underlying48, rfl, rfl, ⟨by kernel_rfl, by kernel_rfl⟩, rfl⟩
theorem fl94_0 : Fld Try.prog 94 0 0 1 false := ⟨_, _, Try.underlying94, rfl, rfl, ⟨by kernel_rfl, by kernel_rfl⟩, rfl⟩
theorem fl94_1 : Fld Try.prog 94 1 1 1 false := ⟨_, _, Try.underlying94, rfl, rfl, ⟨by kernel_rfl, by kernel_rfl⟩, rfl⟩
theorem fl94_2 : Fld Try.prog 94 2 2 2 true := ⟨_, _, Try.underlying94, rfl, rfl, ⟨by kernel_rfl, by kernel_rfl⟩, rfl⟩
theorem fl94_3 : Fld Try.prog 94 3 4 1 false := ⟨_, _, Try.underlying94, rfl, rfl, ⟨by kernel_rfl, by kernel_rfl⟩, rfl⟩
theorem kf10 : IsFn Try.prog 10 := ⟨_, Try.func10, by kernel_rfl, by kernel_rfl⟩
theorem kf11 : IsFn Try.prog 11 := ⟨_, Try.func11, by kernel_rfl, by kernel_rfl⟩
theorem kf12 : IsFn Try.prog 12 := ⟨_, Try.func12, by kernel_rfl, by kernel_rfl⟩
theorem kf13 : IsFn Try.prog 13 := ⟨_, Try.func13, by kernel_rfl, by kernel_rfl⟩
theorem kf14 : IsFn Try.prog 14 := ⟨_, Try.func14, by kernel_rfl, by kernel_rfl⟩
theorem kf15 : IsFn Try.prog 15 := ⟨_, Try.func15, by kernel_rfl, by kernel_rfl⟩
theorem kf16 : IsFn Try.prog 16 := ⟨_, Try.func16, by kernel_rfl, by kernel_rfl⟩
theorem kf17 : IsFn Try.prog 17 := ⟨_, Try.func17, by kernel_rfl, by kernel_rfl⟩
theorem kf18 : IsFn Try.prog 18 := ⟨_, Try.func18, by kernel_rfl, by kernel_rfl⟩
theorem kf19 : IsFn Try.prog 19 := ⟨_, Try.func19, by kernel_rfl, by kernel_rfl⟩
theorem kf20 : IsFn Try.prog 20 := ⟨_, Try.func20, by kernel_rfl, by kernel_rfl⟩
theorem kf21 : IsFn Try.prog 21 := ⟨_, Try.func21, by kernel_rfl, by kernel_rfl⟩
theorem kf22 : IsFn Try.prog 22 := ⟨_, Try.func22, by kernel_rfl, by kernel_rfl⟩
theorem kf23 : IsFn Try.prog 23 := ⟨_, Try.func23, by kernel_rfl, by kernel_rfl⟩
theorem kf24 : IsFn Try.prog 24 := ⟨_, Try.func24, by kernel_rfl, by kernel_rfl⟩
theorem kf25 : IsFn Try.prog 25 := ⟨_, Try.func25, by kernel_rfl, by kernel_rfl⟩
theorem kf26 : IsFn Try.prog 26 := ⟨_, Try.func26, by kernel_rfl, by kernel_rfl⟩
theorem kf27 : IsFn Try.prog 27 := ⟨_, Try.func27, by kernel_rfl, by kernel_rfl⟩
theorem kf28 : IsFn Try.prog 28 := ⟨_, Try.func28, by kernel_rfl, by kernel_rfl⟩
theorem kf29 : IsFn Try.prog 29 := ⟨_, Try.func29, by kernel_rfl, by kernel_rfl⟩
theorem kf30 : IsFn Try.prog 30 := ⟨_, Try.func30, by kernel_rfl, by kernel_rfl⟩
theorem kf31 : IsFn Try.prog 31 := ⟨_, Try.func31, by kernel_rfl, by kernel_rfl⟩
theorem kf32 : IsFn Try.prog 32 := ⟨_, Try.func32, by kernel_rfl, by kernel_rfl⟩
theorem kf33 : IsFn Try.prog 33 := ⟨_, Try.func33, by kernel_rfl, by kernel_rfl⟩
theorem kf34 : IsFn Try.prog 34 := ⟨_, Try.func34, by kernel_rfl, by kernel_rfl⟩
theorem kf35 : IsFn Try.prog 35 := ⟨_, Try.func35, by kernel_rfl, by kernel_rfl⟩
theorem kf36 : IsFn Try.prog 36 := ⟨_, Try.func36, by kernel_rfl, by kernel_rfl⟩
theorem kf37 : IsFn Try.prog 37 := ⟨_, Try.func37, by kernel_rfl, by kernel_rfl⟩
theorem kf38 : IsFn Try.prog 38 := ⟨_, Try.func38, by kernel_rfl, by kernel_rfl⟩
theorem kf39 : IsFn Try.prog 39 := ⟨_, Try.func39, by kernel_rfl, by kernel_rfl⟩
theorem kf40 : IsFn Try.prog 40 := ⟨_, Try.func40, by kernel_rfl, by kernel_rfl⟩
theorem kf41 : IsFn Try.prog 41 := ⟨_, Try.func41, by kernel_rfl, by kernel_rfl⟩
theorem kf42 : IsFn Try.prog 42 := ⟨_, Try.func42, by kernel_rfl, by kernel_rfl⟩
theorem kf43 : IsFn Try.prog 43 := ⟨_, Try.func43, by kernel_rfl, by kernel_rfl⟩
theorem kf44 : IsFn Try.prog 44 := ⟨_, Try.func44, by kernel_rfl, by kernel_rfl⟩
theorem kf45 : IsFn Try.prog 45 := ⟨_, Try.func45, by kernel_rfl, by kernel_rfl⟩
theorem kf46 : IsFn Try.prog 46 := ⟨_, Try.func46, by kernel_rfl, by kernel_rfl⟩
theorem kf47 : IsFn Try.prog 47 := ⟨_, Try.func47, by kernel_rfl, by kernel_rfl⟩
theorem kf48 : IsFn Try.prog 48 := ⟨_, Try.func48, by kernel_rfl, by kernel_rfl⟩
theorem kf49 : IsFn Try.prog 49 := ⟨_, Try.func49, by kernel_rfl, by kernel_rfl⟩
theorem kf50 : IsFn Try.prog 50 := ⟨_, Try.func50, by kernel_rfl, by kernel_rfl⟩
theorem kf51 : IsFn Try.prog 51 := ⟨_, Try.func51, by kernel_rfl, by kernel_rfl⟩
theorem kf52 : IsFn Try.prog 52 := ⟨_, Try.func52, by kernel_rfl, by kernel_rfl⟩
theorem kf53 : IsFn Try.prog 53 := ⟨_, Try.func53, by kernel_rfl, by kernel_rfl⟩
theorem kf54 : IsFn Try.prog 54 := ⟨_, Try.func54, by kernel_rfl, by kernel_rfl⟩
theorem kf55 : IsFn Try.prog 55 := ⟨_, Try.func55, by kernel_rfl, by kernel_rfl⟩
theorem kf58 : IsFn Try.prog 58 := ⟨_, Try.func58, by kernel_rfl, by kernel_rfl⟩
theorem kf59 : IsFn Try.prog 59 := ⟨_, Try.func59, by kernel_rfl, by kernel_rfl⟩
theorem kf60 : IsFn Try.prog 60 := ⟨_, Try.func60, by kernel_rfl, by kernel_rfl⟩
theorem kf61 : IsFn Try.prog 61 := ⟨_, Try.func61, by kernel_rfl, by kernel_rfl⟩
theorem kf62 : IsFn Try.prog 62 := ⟨_, Try.func62, by kernel_rfl, by kernel_rfl⟩
theorem kf63 : IsFn Try.prog 63 := ⟨_, Try.func63, by kernel_rfl, by kernel_rfl⟩
theorem kf64 : IsFn Try.prog 64 := ⟨_, Try.func64, by kernel_rfl, by kernel_rfl⟩
theorem kf65 : IsFn Try.prog 65 := ⟨_, Try.func65, by kernel_rfl, by kernel_rfl⟩
theorem kf66 : IsFn Try.prog 66 := ⟨_, Try.func66, by kernel_rfl, by kernel_rfl⟩
theorem kf67 : IsFn Try.prog 67 := ⟨_, Try.func67, by kernel_rfl, by kernel_rfl⟩
theorem kf68 : IsFn Try.prog 68 := ⟨_, Try.func68, by kernel_rfl, by kernel_rfl⟩
theorem kf69 : IsFn Try.prog 69 := ⟨_, Try.func69, by kernel_rfl, by kernel_rfl⟩
theorem kf70 : IsFn Try.prog 70 := ⟨_, Try.func70, by kernel_rfl, by kernel_rfl⟩
theorem kf71 : IsFn Try.prog 71 := ⟨_, Try.func71, by kernel_rfl, by kernel_rfl⟩
theorem kf74 : IsFn Try.prog 74 := ⟨_, Try.func74, by kernel_rfl, by kernel_rfl⟩
theorem kf75 : IsFn Try.prog 75 := ⟨_, Try.func75, by kernel_rfl, by kernel_rfl⟩
theorem kf76 : IsFn Try.prog 76 := ⟨_, Try.func76, by kernel_rfl, by kernel_rfl⟩
theorem kf78 : IsFn Try.prog 78 := ⟨_, Try.func78, by kernel_rfl, by kernel_rfl⟩
theorem kf79 : IsFn Try.prog 79 := ⟨_, Try.func79, by kernel_rfl, by kernel_rfl⟩
theorem kf8 : IsFn Try.prog 8 := ⟨_, Try.func8, by kernel_rfl, by kernel_rfl⟩
theorem kf80 : IsFn Try.prog 80 := ⟨_, Try.func80, by kernel_rfl, by kernel_rfl⟩
theorem kf81 : IsFn Try.prog 81 := ⟨_, Try.func81, by kernel_rfl, by kernel_rfl⟩
theorem kf9 : IsFn Try.prog 9 := ⟨_, Try.func9, by kernel_rfl, by kernel_rfl⟩
theorem ts25 : TyS Try.prog 25 2 true := ⟨by kernel_rfl, by kernel_rfl⟩
theorem ts26 : TyS Try.prog 26 1 false := ⟨by kernel_rfl, by kernel_rfl⟩
theorem ts27 : TyS Try.prog 27 1 false := ⟨by kernel_rfl, by kernel_rfl⟩
theorem ts28 : TyS Try.prog 28 1 false := ⟨by kernel_rfl, by kernel_rfl⟩
theorem ts3 : TyS Try.prog 3 1 false := ⟨by kernel_rfl, by kernel_rfl⟩
theorem ts30 : TyS Try.prog 30 13 true := ⟨by kernel_rfl, by kernel_rfl⟩
theorem ts39 : TyS Try.prog 39 2 true := ⟨by kernel_rfl, by kernel_rfl⟩
theorem ts4 : TyS Try.prog 4 1 false := ⟨by kernel_rfl, by kernel_rfl⟩
theorem ts40 : TyS Try.prog 40 16 true := ⟨by kernel_rfl, by kernel_rfl⟩
theorem ts42 : TyS Try.prog 42 28 true := ⟨by kernel_rfl, by kernel_rfl⟩
theorem ts44 : TyS Try.prog 44 33 true := ⟨by kernel_rfl, by kernel_rfl⟩
theorem ts48 : TyS Try.prog 48 13 true := ⟨by kernel_rfl, by kernel_rfl⟩
theorem ts94 : TyS Try.prog 94 5 true := ⟨by kernel_rfl, by kernel_rfl⟩
theorem ze25 : ZeroT Try.prog 25 (AG 2 (iv (fun _ => 0))) := by unfold ZeroT; kernel_rfl
theorem ze3 : ZeroT Try.prog 3 (.int .i64 0) := by unfold ZeroT; kernel_rfl
theorem ze30 : ZeroT Try.prog 30 (AG 13 (fun i => ([.int .i64 0, .int .i64 0, .int .i64 0, .int .i64 0, .bool false, .int .i64 0, .int .i64 0, .int .i64 0, .int .i64 0, .slice none 0 0, .slice none 0 0, .slice none 0 0, .slice none 0 0] : List Value).getD i undef)) := by unfold ZeroT; kernel_rfl
theorem ze39 : ZeroT Try.prog 39 (AG 2 (iv (fun _ => 0))) := by unfold ZeroT; kernel_rfl
theorem ze40 : ZeroT Try.prog 40 (AG 16 (iv (fun _ => 0))) := by unfold ZeroT; kernel_rfl
theorem ze42 : ZeroT Try.prog 42 (AG 28 (iv (fun _ => 0))) := by unfold ZeroT; kernel_rfl
theorem ze48 : ZeroT Try.prog 48 (AG 13 (fun i => ([.int .i64 0, .int .i64 0, .int .i64 0, .int .i64 0, .bool false, .int .i64 0, .int .i64 0, .int .i64 0, .int .i64 0, .slice none 0 0, .slice none 0 0, .slice none 0 0, .slice none 0 0] : List Value).getD i undef)) := by unfold ZeroT; kernel_rfl
theorem ze94 : ZeroT Try.prog 94 (AG 5 (iv (fun _ => 0))) := by unfold ZeroT; kernel_rfl
end Go.Proofs.Ytmfbefghdaiicaa
/- The engine, part 24: shifts of other kinds of numbers, clear(x[i:]). -/
namespace Go.E
open Go
section
variable {P : Program} {w0 : World} {env : List (Nat × Value)} {H : GH} {d : Option Nat} {t ty : TypeId} {pos : String} {af : Array Edge} {g : Option (Nat × Bool)}
theorem o_shrK {yt : TypeId} {x y : Operand} {i j c : Int} {k k' : IntKind} (hx : ev env x = some (.int k i)) (hy : ev env y = some (.int k' j)) (hj : 0 ≤ j ∧ j.toNat ≤ k.bits) (hc : (2 : Int) ^ j.toNat = c) :
    OT P w0 env H ⟨d, .binOp .shr t x y yt, ty, pos, af, g⟩ (Is (.int k (i / c)) H) :=
  OT.pure fun a w ha => by
    subst hc
    have h1 : ¬ j < 0 := by omega
    have h2 : min j.toNat k.bits = j.toNat := by omega
    have hs : (binOp .shr t (.int k i) (.int k' j)).run P w = .ok (.int k (i / 2 ^ j.toNat)) w := by
      show (Op.shift .shr k i k' j).run P w = _
      unfold Op.shift
      rw [if_neg h1]
      simp only [h2, Sem.run_pure]
      rw [Int.fdiv_eq_ediv_of_nonneg i (Int.pow_nonneg (by omega))]
    simp only [execOp, ha.ev hx, ha.ev hy, eqGuard]
    simp [hs]
/-- clear(x[i:]) of ints -/
theorem o_clearC {ag : Bool} {e : TypeId} {v : Value} {l : List Int} {B : GH} {ts : Array TypeId} {by_ : Nat} {args : Array Operand} {i : Nat} (ht : App P t e 1 by_ (.int .i64 0)) (hz : ZeroT P e (.int .i64 0)) (hts : ts = #[t]) (hargs : evL env args.toList = some [cutV v 1 i l.length]) (hJ : OJ e 1 ic B v l) (hi : i ≤ l.length) :
    OT P w0 env (B ++ H) ⟨d, .call ⟨.builtin .clear, args, ts⟩, ty, pos, af, g⟩ (fun _ H' => ∃ B', H' = B' ++ H ∧ Cov w0 B B' ∧ OJ e 1 ic B' v (l.take i ++ List.replicate (l.length - i) 0)) :=
  OT.val fun a w ha hs => by
    subst hts
    have e1 : args.map a.eval = #[cutV v 1 i l.length] := Array.toList_inj.1 (by simpa using evL_spec ha _ _ hargs)
    have hexec : (execOp a.eval ⟨d, .call ⟨.builtin .clear, args, #[t]⟩, ty, pos, af, g⟩).run P w = ((Builtin.clear_ #[t] ty #[cutV v 1 i l.length]).run P w).andThen fun u w' => .ok (.value u) w' := by
      simp [execOp, resolve, invoke, builtin, e1]
    have h0 : ∀ (u : Option Addr) (cc : Nat), (Builtin.clear_ #[t] ty #[.slice u 0 cc]).run P w = .ok (.tuple #[]) w := by
      intro u cc
      cases u <;> simp [Builtin.clear_, run_underlying ht.u]
    rcases Nat.eq_zero_or_pos (l.length - i) with hm0 | hmpos
    · have hv : ∃ (u : Option Addr) (cc : Nat), cutV v 1 i l.length = .slice u 0 cc := by
        rcases hJ with ⟨rfl, rfl⟩ | ⟨b, o, cap, N, F, hB, rfl, hlc, hoN, hcm, hF⟩
        · exact ⟨(if (0 : Nat) = i then none else Option.map (fun (q : Addr) => q.add (i * 1)) none), 0 - i, by simp only [cutV, hm0]⟩
        · exact ⟨_, _, by simp only [cutV, hm0]; rfl⟩
      obtain ⟨u, cc, hv⟩ := hv
      refine ⟨_, w, B ++ H, by rw [hexec, hv, h0]; rfl, hs, B, rfl, Cov.refl B, ?_⟩
      rw [hm0, List.take_of_length_le (by omega)]
      simpa using hJ
    · rcases hJ with ⟨rfl, rfl⟩ | ⟨b, o, cap, N, F, hB, rfl, hlc, hoN, hcm, hF⟩
      · simp at hmpos
      have hcl : ¬ cap = i := by omega
      have ev2 : cutV (.slice (some ⟨b, o, none⟩) l.length cap) 1 i l.length = .slice (some ⟨b, o + i * 1, none⟩) (l.length - i) (cap - i) := by
        simp only [cutV, if_neg hcl, Option.map_some, Addr.add_lit]
      rw [Nat.mul_one] at ev2
      have hbk : w.heap[b]? = some (BK N F e) := hs.own _ _ (List.mem_append_left _ hB)
      have hzl : (Builtin.zeroCells (Value.int .i64 0).cells (l.length - i)).toList.length = (l.length - i) := by
        rw [Array.length_toList, size_zeroCells, ht.z, Nat.mul_one]
      have hget : ∀ q, q < l.length - i → (Builtin.zeroCells (Value.int .i64 0).cells (l.length - i)).toList[q]? = some (.int .i64 0) := by
        intro q hq
        simp [Builtin.zeroCells, Value.cells, hq, Nat.mod_one]
      have hoc : ∀ u ∈ (Builtin.zeroCells (Value.int .i64 0).cells (l.length - i)).toList, u.oneCell' = true := by
        intro u hu
        obtain ⟨q, hq, he⟩ := List.getElem_of_mem hu
        have := hget q (by omega)
        rw [List.getElem?_eq_getElem hq, he] at this
        have e2 := Option.some.inj this
        rw [e2]
        rfl
      have hst := run_storeCells_at P b (o + i) e (Builtin.zeroCells (Value.int .i64 0).cells (l.length - i)).toList 0 (CV N F) w hbk (by rw [hzl]; simp; omega) hoc
      simp only [Nat.add_zero] at hst
      have hr : (Builtin.clear_ #[t] ty #[.slice (some ⟨b, o + i, none⟩) (l.length - i) (cap - i)]).run P w = .ok (.tuple #[]) (w.setRow b ((CV N F).toList.take (o + i) ++ (Builtin.zeroCells (Value.int .i64 0).cells (l.length - i)).toList ++ (CV N F).toList.drop (o + i + (Builtin.zeroCells (Value.int .i64 0).cells (l.length - i)).toList.length)).toArray) := by
        obtain ⟨n, hn⟩ : ∃ n, l.length - i = n + 1 := ⟨l.length - i - 1, by omega⟩
        rw [hn] at hst ⊢
        simp only [Builtin.clear_, Sem.run_bind, run_underlying ht.u, Result.andThen_ok, hz.run]
        simp [run_underlying ht.u, hz.run, hst]
      have hsp : ((CV N F).toList.take (o + i) ++ (Builtin.zeroCells (Value.int .i64 0).cells (l.length - i)).toList ++ (CV N F).toList.drop (o + i + (Builtin.zeroCells (Value.int .i64 0).cells (l.length - i)).toList.length)).toArray = CV N (updR F (o + i) (l.length - i) fun _ => .int .i64 0) :=
        splice_CV (by rw [hzl]; omega) (fun k hk => by
          rw [hzl] at hk
          simp only [updR]
          rw [if_pos (by omega), hget k hk]) (fun k _ hh => by
          rw [hzl] at hh
          simp only [updR]; rw [if_neg (by omega)])
      obtain ⟨B', hB'⟩ := Upd.ex (BK N (updR F (o + i) (l.length - i) fun _ => .int .i64 0) e) hB
      have hlen : (l.take i ++ List.replicate (l.length - i) (0 : Int)).length = l.length := by simp; omega
      refine ⟨_, _, _, by rw [hexec, ev2, hr]; rfl, hs.setRow (N := N) (F := F) (T := e) (b := b) (f' := updR F (o + i) (l.length - i) fun _ => .int .i64 0) (List.mem_append_left _ hB) hsp hB'.left, B', rfl, Cov.upd hB', ?_⟩
      refine .inr ⟨b, o, cap, N, _, hB'.isin, by rw [hlen], by rw [hlen]; exact hlc, hoN, hcm, fun q hq => ?_⟩
      rw [hlen] at hq
      have hq' : q < l.length := by omega
      rw [eG_one (by rw [hlen]; exact hq')]
      simp only [updR]
      by_cases hqi : q < i
      · rw [if_neg (by omega), hF q (by omega), eG_one hq', List.getElem_append_left (by simp; omega), List.getElem_take]
      · rw [if_pos (by omega), List.getElem_append_right (by simp; omega), List.getElem_replicate]
        rfl
end
section
variable {P : Program} {n : Nat} {w0 : World} {ops : Array Oper} {KS : List Nat} {env0 env : Env} {dn : List Nat} {H RS : GH} {Q : Exit → Act → World → Prop}
/-! Two can come next, and not both have a slot. -/
theorem xd_step2a (hok : RegOK n ops = true) (i j : Nat) {o o' : Oper} {d : Nat} (l l' : Env) (ho : ops[i]? = some o) (ho' : ops[j]? = some o') (hd : o.dst = some d) (hd' : o'.dst = none) (hf : front ops dn = [i, j]) (hl : Live env l) (hl' : Live env l')
    (hs : slotsOK ops dn i (l.map (·.1)) = true) (hs' : slotsOK ops dn j (l'.map (·.1)) = true) (hw : Wt ops l o.guard) (hw' : Wt ops l' o'.guard) {R R' : Value → GH → Prop} (ht : OT P w0 l H o R) (ht' : OT P w0 l' H o' R')
    (k : ∀ v H', R v H' → (∀ x ∈ RS, x ∈ H') ∧ (∀ k ∈ keys H', k ∈ KS ∨ w0.heap.size ≤ k) ∧ XD P n w0 ops KS env0 (i :: dn) ((d, v) :: env) H' RS Q) (k' : ∀ v H', R' v H' → (∀ x ∈ RS, x ∈ H') ∧ (∀ k ∈ keys H', k ∈ KS ∨ w0.heap.size ≤ k) ∧ XD P n w0 ops KS env0 (j :: dn) env H' RS Q) : XD P n w0 ops KS env0 dn env H RS Q := by
  intro a0 dl ha0 hdn hnd he hrs
  refine xd_rounds hok (by rw [hdn]; exact hnd) ?_ ?_
  · intro a w listed hr hinv
    exfalso
    have hi : i ∈ front ops dn := by rw [hf]; simp
    obtain ⟨h1, h2⟩ := List.mem_filter.1 hi
    have := all_listed hok hinv.lsize hr i (List.mem_range.1 h1)
    obtain ⟨p, hp, e⟩ := hinv.inn i this
    simp only [Bool.and_eq_true, Bool.not_eq_true', List.contains_eq_mem, decide_eq_false_iff_not] at h2
    exact h2.1 (by rw [← hdn]; exact List.mem_map.2 ⟨p, hp, e⟩)
  · intro fuel listed a w q hinv hr hni
    have hj := front_spec hinv.lsize hdn hinv.inn hr hni
    rw [hf] at hj
    simp only [List.mem_cons, List.not_mem_nil, or_false] at hj
    rcases hj with rfl | rfl
    · exact xd_one hok l ho hl hs hw ht (fun v H' hR => by rw [hd]; exact k v H' hR) ha0 hdn hnd he hrs hinv hr hni
    · exact xd_one hok l' ho' hl' hs' hw' ht' (fun v H' hR => by rw [hd']; exact k' v H' hR) ha0 hdn hnd he hrs hinv hr hni
end
section
variable {P : Program} {n : Nat} {w0 : World} {env : Env} {H : GH} {Q : Exit → Act → World → Prop}
/-! Several ways meet in a state that is known but for names. -/
def CutI (n : Nat) (w0 : World) (I : Env → GH → Prop) : Exit → Act → World → Prop := fun ex a w => ex = .normal ∧ ∃ e H', I e H' ∧ Ag n e a ∧ St w0 H' w
theorem xw_cutI {c : Code} (I : Env → GH → Prop) (h1 : XW P n w0 env H c (CutI n w0 I)) (h2 : ∀ e H', I e H' → XQ n w0 e H' .normal Q) : XW P n w0 env H c Q :=
  fun a w ha hs => wp_mono (h1 a w ha hs) fun e a' w' ⟨he, e1, H1, hI, ha', hs'⟩ => by subst he; exact h2 e1 H1 hI a' w' ha' hs'
theorem xq_cutI {I : Env → GH → Prop} {e' : Env} (H' : GH) (hl : Live env e') (hH : ∀ w, St w0 H w → St w0 H' w) (hI : I e' H') : XQ n w0 env H .normal (CutI n w0 I) :=
  fun a w ha hs => ⟨rfl, e', H', hI, ha.live hl, hH w hs⟩
/-- A call that hands back several new segments, as one list. -/
theorem Con.catP {f : FuncId} {args : Array Value} {w : World} {post : Value → GH → Prop} (h : Con P f args w post) (hc : ∀ v F, post v F → Cov w [] F) :
    Con P f args w (CatG fun v Ls => Cov w (cat []) (cat Ls) ∧ ∃ F, Ls = [F] ∧ post v F) :=
  h.mono fun v F hp => ⟨[F], by simp [cat], by simpa [cat] using hc v F hp, F, rfl, hp⟩
end
end Go.E
/- The engine, part 25: short words for what long walks say often. -/
namespace Go.E
open Go
section
variable {α : Type _} {a b : α} {xs bs : List α}
theorem mR (h : a ∈ bs) : a ∈ xs ++ bs := List.mem_append_right xs h
theorem mT (h : a ∈ xs) : a ∈ b :: xs := List.Mem.tail _ h
theorem mH : a ∈ a :: xs := List.Mem.head _
variable {p : Nat → Prop}
theorem m_zero : ∀ i, i < 0 → p i := fun i h => absurd h (Nat.not_lt_zero i)
theorem m_step {n : Nat} (h0 : p 0) (h : ∀ i, i < n → p (i + 1)) : ∀ i, i < n + 1 → p i := fun i hi => match i, hi with | 0, _ => h0 | k + 1, hk => h k (Nat.lt_of_succ_lt_succ hk)
theorem M2 (h0 : p 0) (h1 : p 1) : ∀ i, i < 2 → p i := m_step h0 (m_step h1 m_zero)
theorem M5 (h0 : p 0) (h1 : p 1) (h2 : p 2) (h3 : p 3) (h4 : p 4) : ∀ i, i < 5 → p i := m_step h0 (m_step h1 (m_step h2 (m_step h3 (m_step h4 m_zero))))
theorem M13 (h0 : p 0) (h1 : p 1) (h2 : p 2) (h3 : p 3) (h4 : p 4) (h5 : p 5) (h6 : p 6) (h7 : p 7) (h8 : p 8) (h9 : p 9) (h10 : p 10) (h11 : p 11) (h12 : p 12) : ∀ i, i < 13 → p i := m_step h0 (m_step h1 (m_step h2 (m_step h3 (m_step h4 (m_step h5 (m_step h6 (m_step h7 (m_step h8 (m_step h9 (m_step h10 (m_step h11 (m_step h12 m_zero))))))))))))
theorem M28 (h0 : p 0) (h1 : p 1) (h2 : p 2) (h3 : p 3) (h4 : p 4) (h5 : p 5) (h6 : p 6) (h7 : p 7) (h8 : p 8) (h9 : p 9) (h10 : p 10) (h11 : p 11) (h12 : p 12) (h13 : p 13) (h14 : p 14) (h15 : p 15) (h16 : p 16) (h17 : p 17) (h18 : p 18) (h19 : p 19) (h20 : p 20) (h21 : p 21) (h22 : p 22) (h23 : p 23) (h24 : p 24) (h25 : p 25) (h26 : p 26) (h27 : p 27) : ∀ i, i < 28 → p i := m_step h0 (m_step h1 (m_step h2 (m_step h3 (m_step h4 (m_step h5 (m_step h6 (m_step h7 (m_step h8 (m_step h9 (m_step h10 (m_step h11 (m_step h12 (m_step h13 (m_step h14 (m_step h15 (m_step h16 (m_step h17 (m_step h18 (m_step h19 (m_step h20 (m_step h21 (m_step h22 (m_step h23 (m_step h24 (m_step h25 (m_step h26 (m_step h27 m_zero)))))))))))))))))))))))))))
end
end Go.E
/- The engine, part 28: short words for walks. -/
namespace Go.E
open Go
/-- The guard holds. -/
def gk (ops : Array Oper) (env : Env) : Option (Nat × Bool) → Bool
  | none => true
  | some (j, w) => match (ops[j]?).bind (·.dst) with
    | none => false
    | some s => match lk s env with
      | some v => isWant v w
      | none => false
/-- The guard fails. -/
def nk (ops : Array Oper) (env : Env) : Option (Nat × Bool) → Bool
  | none => false
  | some (j, w) => match (ops[j]?).bind (·.dst) with
    | none => false
    | some s => match lk s env with
      | some v => !isWant v w
      | none => false
theorem isWant_eq {v : Value} {w : Bool} (h : isWant v w = true) : v = .bool w := by
  cases v <;> simp_all [isWant]
theorem gk.wt {ops : Array Oper} {env : Env} {g : Option (Nat × Bool)} (h : gk ops env g = true) : Wt ops env g := by
  rcases g with _ | ⟨j, w⟩
  · trivial
  · unfold gk at h
    unfold Wt
    dsimp only at h ⊢
    cases hs : (ops[j]?).bind (·.dst) with
    | none => rw [hs] at h; simp at h
    | some s =>
      rw [hs] at h
      cases hv : lk s env with
      | none => simp [hv] at h
      | some v => exact ⟨s, rfl, by rw [hv]; simp only [hv] at h; rw [isWant_eq h]⟩
theorem nk.wt {ops : Array Oper} {env : Env} {g : Option (Nat × Bool)} (h : nk ops env g = true) : WtNot ops env g := by
  rcases g with _ | ⟨j, w⟩
  · simp [nk] at h
  · unfold nk at h
    unfold WtNot
    dsimp only at h ⊢
    cases hs : (ops[j]?).bind (·.dst) with
    | none => rw [hs] at h; simp at h
    | some s =>
      rw [hs] at h
      cases hv : lk s env with
      | none => simp [hv] at h
      | some v => exact ⟨s, v, rfl, hv, by simpa [hv] using h⟩
/-- Slots' values, as a list. -/
def sel (env : Env) : List Nat → Option Env
  | [] => some []
  | t :: ks => match lk t env, sel env ks with
    | some v, some l => some ((t, v) :: l)
    | _, _ => none
theorem sel.live {env : Env} : ∀ {ks : List Nat} {l : Env}, sel env ks = some l → Live env l := by
  intro ks
  induction ks with
  | nil => intro l h; cases h; exact ln
  | cons t ks ih =>
    intro l h
    unfold sel at h
    cases hv : lk t env with
    | none => simp [hv] at h
    | some v =>
      cases hk : sel env ks with
      | none => simp [hv, hk] at h
      | some k =>
        simp [hv, hk] at h
        subst h
        exact lc hv (ih hk)
theorem sel.keys {env : Env} : ∀ {ks : List Nat} {l : Env}, sel env ks = some l → l.map (·.1) = ks := by
  intro ks
  induction ks with
  | nil => intro l h; cases h; rfl
  | cons t ks ih =>
    intro l h
    unfold sel at h
    cases hv : lk t env with
    | none => simp [hv] at h
    | some v =>
      cases hk : sel env ks with
      | none => simp [hv, hk] at h
      | some k =>
        simp [hv, hk] at h
        subst h
        simp [ih hk]
theorem sl {env l : Env} (h : sel env (l.map (·.1)) = some l) : Live env l := sel.live h
def okv (b : Bool) (o : Option Value) : Option Value := bif b then o else none
theorem okv.ok {b : Bool} {o : Option Value} {v : Value} (h : okv b o = some v) : b = true ∧ o = some v := by
  cases b
  · cases h
  · exact ⟨rfl, h⟩
def isB (o : Option Value) (w : Bool) : Bool := match o with
  | some v => isWant v w
  | none => false
theorem isB.eq {o : Option Value} {w : Bool} (h : isB o w = true) : o = some (.bool w) := by
  unfold isB at h
  split at h
  · rw [isWant_eq h]
  · cases h
def nth : List Value → Nat → Option Value
  | [], _ => none
  | v :: _, 0 => some v
  | _ :: l, n + 1 => nth l n
theorem nth_eq : ∀ (l : List Value) (n : Nat), nth l n = l[n]?
  | [], n => by simp [nth]
  | v :: l, 0 => by simp [nth]
  | v :: l, n + 1 => by simp [nth, nth_eq l n]
def ex1 : Option Value → Nat → Option Value
  | some (.tuple a), m => nth a.toList m
  | _, _ => none
def np : Option Value → Option Value
  | some (.pointer (some b)) => some (.pointer (some b))
  | _ => none
theorem and2 {a b : Bool} (h : (a && b) = true) : a = true ∧ b = true := by simpa using h
section
variable {P : Program} {n : Nat} {w0 : World} {env : Env} {H : GH} {Q : Exit → Act → World → Prop} {ops : Array Oper} {rest : List Oper}
variable {d : Nat} {op : Op} {ty : TypeId} {pos : String} {af : Array Edge} {g : Option (Nat × Bool)} {x y z : Operand} {v : Value}
theorem xQ (hc : (Nat.blt d n && gk ops env g) = true) {H' : GH} (h : OT P w0 env H ⟨some d, op, ty, pos, af, g⟩ (Is v H')) (k : XO P n w0 ((d, v) :: env) H' ops rest Q) : XO P n w0 env H ops (⟨some d, op, ty, pos, af, g⟩ :: rest) Q :=
  xq (and2 hc).1 (gk.wt (and2 hc).2) h k
theorem xZ (hc : gk ops env g = true) {H' : GH} (h : OT P w0 env H ⟨none, op, ty, pos, af, g⟩ (Is v H')) (k : XO P n w0 env H' ops rest Q) : XO P n w0 env H ops (⟨none, op, ty, pos, af, g⟩ :: rest) Q :=
  xq0 (gk.wt hc) h k
theorem xr (hc : (Nat.blt d n && gk ops env g) = true) {R : Value → GH → Prop} (h : OT P w0 env H ⟨some d, op, ty, pos, af, g⟩ R) (k : ∀ v H', R v H' → XO P n w0 ((d, v) :: env) H' ops rest Q) : XO P n w0 env H ops (⟨some d, op, ty, pos, af, g⟩ :: rest) Q :=
  xo (and2 hc).1 (gk.wt (and2 hc).2) h k
theorem xY (hc : gk ops env g = true) {R : Value → GH → Prop} (h : OT P w0 env H ⟨none, op, ty, pos, af, g⟩ R) (k : ∀ v H', R v H' → XO P n w0 env H' ops rest Q) : XO P n w0 env H ops (⟨none, op, ty, pos, af, g⟩ :: rest) Q :=
  xo0 (gk.wt hc) h k
theorem vm (hx : okv (Nat.blt d n && gk ops env g) (ev env x) = some v) (k : XO P n w0 ((d, v) :: env) H ops rest Q) : XO P n w0 env H ops (⟨some d, .move x, ty, pos, af, g⟩ :: rest) Q :=
  xQ (okv.ok hx).1 (o_mv (okv.ok hx).2) k
theorem va (hx : okv (Nat.blt d n && gk ops env g) (ev env x) = some v) (k : XO P n w0 ((d, v) :: env) H ops rest Q) : XO P n w0 env H ops (⟨some d, .assign x, ty, pos, af, g⟩ :: rest) Q :=
  xQ (okv.ok hx).1 (o_as (okv.ok hx).2) k
theorem vs (hc : (Nat.blt d n && nk ops env g) = true) (k : XO P n w0 ((d, undef) :: env) H ops rest Q) : XO P n w0 env H ops (⟨some d, op, ty, pos, af, g⟩ :: rest) Q :=
  xs (and2 hc).1 (nk.wt (and2 hc).2) k
theorem ve {m : Nat} (hx : okv (Nat.blt d n && gk ops env g) (ex1 (ev env x) m) = some v) (k : XO P n w0 ((d, v) :: env) H ops rest Q) : XO P n w0 env H ops (⟨some d, .extract x m, ty, pos, af, g⟩ :: rest) Q := by
  obtain ⟨h1, h2⟩ := okv.ok hx
  cases he : ev env x with
  | none => rw [he] at h2; cases h2
  | some u =>
    rw [he] at h2
    cases u <;> simp only [ex1, reduceCtorEq] at h2
    rename_i a
    exact xQ h1 (o_ext (l := a.toList) (by rw [he]) (by rw [← nth_eq]; exact h2)) k
theorem vp (hx : okv (Nat.blt d n && gk ops env g) (np (ev env x)) = some v) (k : XO P n w0 ((d, v) :: env) H ops rest Q) : XO P n w0 env H ops (⟨some d, .nilCheck x, ty, pos, af, g⟩ :: rest) Q := by
  obtain ⟨h1, h2⟩ := okv.ok hx
  unfold np at h2
  split at h2
  · rename_i he
    cases h2
    exact xQ h1 (o_nilp he) k
  · cases h2
theorem vt (hx : okv (Nat.blt d n && gk ops env g && isB (ev env z) true) (ev env x) = some v) (k : XO P n w0 ((d, v) :: env) H ops rest Q) : XO P n w0 env H ops (⟨some d, .pick z x y, ty, pos, af, g⟩ :: rest) Q :=
  xQ (and2 (okv.ok hx).1).1 (o_pick_t (isB.eq (and2 (okv.ok hx).1).2) (okv.ok hx).2) k
theorem vf (hx : okv (Nat.blt d n && gk ops env g && isB (ev env z) false) (ev env y) = some v) (k : XO P n w0 ((d, v) :: env) H ops rest Q) : XO P n w0 env H ops (⟨some d, .pick z x y, ty, pos, af, g⟩ :: rest) Q :=
  xQ (and2 (okv.ok hx).1).1 (o_pick_f (isB.eq (and2 (okv.ok hx).1).2) (okv.ok hx).2) k
/-! Glue. -/
theorem nS {y : Code} (h : XW P n w0 env H y Q) : XO P n w0 env H ops [] (Exit.then (y.wp P Q) Q) := xo_nil (xq_then h)
theorem nR {y : Code} {id : Nat} {l : List Oper} (h : XO P n w0 env H l.toArray l (Exit.then (y.wp P Q) Q)) : XO P n w0 env H ops [] (Exit.then ((Code.seq (.region id l.toArray false) y).wp P Q) Q) := xo_nil (xq_then (xw_seq (xw_region h)))
theorem wS {y : Code} {id : Nat} {l : List Oper} (h : XO P n w0 env H l.toArray l (Exit.then (y.wp P Q) Q)) : XW P n w0 env H (Code.seq (.region id l.toArray false) y) Q := xw_seq (xw_region h)
/-! A condition. -/
section
variable {s : Nat} {u w : Code} {p : Prop} [Decidable p] {A B : Prop} {b : Bool}
theorem wd (hs : lk s env = some (.bool (decide p))) (h : if p then A else B) (t : p → A → XW P n w0 ((s, .bool true) :: env) H u Q) (f : ¬p → B → XW P n w0 ((s, .bool false) :: env) H w Q) : XW P n w0 env H (.cond (.tmp s) u w) Q := by
  refine xw_bool s hs (fun e => ?_) (fun e => ?_)
  · have hp := of_decide_eq_true e
    rw [if_pos hp] at h
    exact xw_cond_t (by simp [ev, lk]) rfl (t hp h)
  · have hp := of_decide_eq_false e
    rw [if_neg hp] at h
    exact xw_cond_f (by simp [ev, lk]) rfl (f hp h)
theorem wd' (hs : lk s env = some (.bool (decide p))) (t : p → XW P n w0 ((s, .bool true) :: env) H u Q) (f : ¬p → XW P n w0 ((s, .bool false) :: env) H w Q) : XW P n w0 env H (.cond (.tmp s) u w) Q :=
  wd (A := True) (B := True) hs (by split <;> trivial) (fun h _ => t h) (fun h _ => f h)
theorem wn (hs : lk s env = some (.bool (!decide p))) (h : if p then A else B) (t : ¬p → B → XW P n w0 ((s, .bool true) :: env) H u Q) (f : p → A → XW P n w0 ((s, .bool false) :: env) H w Q) : XW P n w0 env H (.cond (.tmp s) u w) Q := by
  refine xw_bool s hs (fun e => ?_) (fun e => ?_)
  · have hp := of_decide_eq_false (bnT e)
    rw [if_neg hp] at h
    exact xw_cond_t (by simp [ev, lk]) rfl (t hp h)
  · have hp := of_decide_eq_true (bnF e)
    rw [if_pos hp] at h
    exact xw_cond_f (by simp [ev, lk]) rfl (f hp h)
theorem wb (hs : lk s env = some (.bool b)) (h : if b = true then A else B) (t : b = true → A → XW P n w0 ((s, .bool true) :: env) H u Q) (f : ¬b = true → B → XW P n w0 ((s, .bool false) :: env) H w Q) : XW P n w0 env H (.cond (.tmp s) u w) Q :=
  wd (p := b = true) (by rw [hs]; simp) h t f
theorem wc (hs : lk s env = some (.bool (!b))) (h : if b = true then A else B) (t : ¬b = true → B → XW P n w0 ((s, .bool true) :: env) H u Q) (f : b = true → A → XW P n w0 ((s, .bool false) :: env) H w Q) : XW P n w0 env H (.cond (.tmp s) u w) Q :=
  wn (p := b = true) (by rw [hs]; simp) h t f
/-! A slot's bool, in a region. -/
theorem od (s : Nat) (hs : lk s env = some (.bool (decide p))) (h : if p then A else B) (t : p → A → XO P n w0 ((s, .bool true) :: env) H ops rest Q) (f : ¬p → B → XO P n w0 ((s, .bool false) :: env) H ops rest Q) : XO P n w0 env H ops rest Q :=
  xo_bool s hs (fun e => t (of_decide_eq_true e) (by rwa [if_pos (of_decide_eq_true e)] at h)) (fun e => f (of_decide_eq_false e) (by rwa [if_neg (of_decide_eq_false e)] at h))
theorem od' (s : Nat) (hs : lk s env = some (.bool (decide p))) (t : p → XO P n w0 ((s, .bool true) :: env) H ops rest Q) (f : ¬p → XO P n w0 ((s, .bool false) :: env) H ops rest Q) : XO P n w0 env H ops rest Q :=
  xo_bool s hs (fun e => t (of_decide_eq_true e)) (fun e => f (of_decide_eq_false e))
theorem on (s : Nat) (hs : lk s env = some (.bool (!decide p))) (h : if p then A else B) (t : ¬p → B → XO P n w0 ((s, .bool true) :: env) H ops rest Q) (f : p → A → XO P n w0 ((s, .bool false) :: env) H ops rest Q) : XO P n w0 env H ops rest Q :=
  xo_bool s hs (fun e => t (of_decide_eq_false (bnT e)) (by rwa [if_neg (of_decide_eq_false (bnT e))] at h)) (fun e => f (of_decide_eq_true (bnF e)) (by rwa [if_pos (of_decide_eq_true (bnF e))] at h))
theorem on' (s : Nat) (hs : lk s env = some (.bool (!decide p))) (t : ¬p → XO P n w0 ((s, .bool true) :: env) H ops rest Q) (f : p → XO P n w0 ((s, .bool false) :: env) H ops rest Q) : XO P n w0 env H ops rest Q :=
  xo_bool s hs (fun e => t (of_decide_eq_false (bnT e))) (fun e => f (of_decide_eq_true (bnF e)))
theorem ob (s : Nat) (hs : lk s env = some (.bool b)) (h : if b = true then A else B) (t : b = true → A → XO P n w0 ((s, .bool true) :: env) H ops rest Q) (f : ¬b = true → B → XO P n w0 ((s, .bool false) :: env) H ops rest Q) : XO P n w0 env H ops rest Q :=
  od (p := b = true) s (by rw [hs]; simp) h t f
theorem ob' (s : Nat) (hs : lk s env = some (.bool b)) (t : b = true → XO P n w0 ((s, .bool true) :: env) H ops rest Q) (f : ¬b = true → XO P n w0 ((s, .bool false) :: env) H ops rest Q) : XO P n w0 env H ops rest Q :=
  od' (p := b = true) s (by rw [hs]; simp) t f
theorem oc (s : Nat) (hs : lk s env = some (.bool (!b))) (h : if b = true then A else B) (t : ¬b = true → B → XO P n w0 ((s, .bool true) :: env) H ops rest Q) (f : b = true → A → XO P n w0 ((s, .bool false) :: env) H ops rest Q) : XO P n w0 env H ops rest Q :=
  on (p := b = true) s (by rw [hs]; simp) h t f
theorem oc' (s : Nat) (hs : lk s env = some (.bool (!b))) (t : ¬b = true → XO P n w0 ((s, .bool true) :: env) H ops rest Q) (f : b = true → XO P n w0 ((s, .bool false) :: env) H ops rest Q) : XO P n w0 env H ops rest Q :=
  on' (p := b = true) s (by rw [hs]; simp) t f
end
/-! Ways that meet. -/
theorem wk {c : Code} (ks : List Nat) {k : Env} (hk : sel env ks = some k) (l : Env) (h1 : XW P n w0 env H c (CutQ n w0 (l ++ k) H)) (h2 : XQ n w0 (l ++ k) H .normal Q) : XW P n w0 env H c Q :=
  xw_cut k (sel.live hk) l h1 h2
theorem qk {s : Nat} {v v' : Value} {l : Env} (hs : lk s env = some v) (e : v = v') (hl : sel env (l.map (·.1)) = some l) : XQ n w0 env H .normal (CutQ n w0 ((s, v') :: l) H) :=
  xq_cut (lce hs e (sel.live hl)) (fun _ h => h)
/-! Calls. -/
theorem xc {f : FuncId} {args : Array Operand} {ts : Array TypeId} {vs : List Value} (hc : (Nat.blt d n && gk ops env g) = true) (hf : IsFn P f) (hargs : evL env args.toList = some vs)
    (h : ∀ w, St w0 H w → Con P f vs.toArray w (Is v [])) (k : XO P n w0 ((d, v) :: env) H ops rest Q) : XO P n w0 env H ops (⟨some d, .call ⟨.value (.func f), args, ts⟩, ty, pos, af, g⟩ :: rest) Q :=
  xcallq (and2 hc).1 (gk.wt (and2 hc).2) hf hargs h k
theorem sE {α : Sort _} {p : α → Prop} {a b : α} (h : b = a) (k : p a) : p b := h ▸ k
def en : Nat → List Value → Env
  | _, [] => []
  | i, v :: l => (i, v) :: en (i + 1) l
theorem en.live : ∀ (l k : List Value), LiveA (k ++ l) (en k.length l) := by
  intro l
  induction l with
  | nil => intro k; exact lan
  | cons v l ih =>
    intro k
    refine lac (by simp) ?_
    have := ih (k ++ [v])
    simpa using this
theorem ce {f : FuncId} {fn : Func} {c : Code} {args : List Value} {w : World} {G : Value → GH → Prop} (hf : P.funcs[f]? = some fn) (hb : fn.body = some c) (hn : fn.ntmps = n) (hsz : Nat.ble args.length n = true)
    (h : XW P n w (en 0 args) [] c (bodyPost P fn (GoodEnd w G))) : Con P f args.toArray w G :=
  con_enter (en 0 args) hf hb hn hsz (en.live args []) h
theorem xhs {C : GH} {c : Code} (h : Has w0 C) (H' : GH) (e : C = H') (k : XW P n w0 env H' c Q) : XW P n w0 env [] c Q := xw_has h (e ▸ k)
theorem oi {d : Option Nat} {f : FuncId} {fn : Func} {c : Code} {vs : List Value} {m : Nat} {R : Value → GH → Prop} {args : Array Operand} {ts : Array TypeId} (hk : IsFn P f) (hargs : evL env args.toList = some vs)
    (hf : P.funcs[f]? = some fn) (hb : fn.body = some c) (hm : fn.ntmps = m) (hsz : Nat.ble vs.length m = true) (h : XW P m w0 (en 0 vs) H c (bodyPost P fn (GoodEnd w0 R))) : OT P w0 env H ⟨d, .call ⟨.value (.func f), args, ts⟩, ty, pos, af, g⟩ R :=
  ot_in hk hargs hf hb hm hsz (en.live vs []) h
theorem xin {f : FuncId} {fn : Func} {c : Code} {vs : List Value} {m : Nat} {args : Array Operand} {ts : Array TypeId} (hc : (Nat.blt d n && gk ops env g) = true) (hk : IsFn P f) (hargs : evL env args.toList = some vs)
    (hf : P.funcs[f]? = some fn) (hb : fn.body = some c) (hm : fn.ntmps = m) (hsz : Nat.ble vs.length m = true) (h : XW P m w0 (en 0 vs) H c (bodyPost P fn (GoodEnd w0 fun v H' => XO P n w0 ((d, v) :: env) H' ops rest Q))) : XO P n w0 env H ops (⟨some d, .call ⟨.value (.func f), args, ts⟩, ty, pos, af, g⟩ :: rest) Q :=
  xoR (and2 hc).1 (gk.wt (and2 hc).2) (oi hk hargs hf hb hm hsz h)
/-! The end. -/
section
variable {fn : Func} {w : World} {G : Value → GH → Prop} {a b c : Nat} {u s : Value}
theorem rO (hr : fn.results = #[.tmp a]) (hv : lk a env = some v) (hG : G v H) : XQ n w env H .ret (bodyPost P fn (GoodEnd w G)) := con_ret1 (.inl rfl) hr hv H (fun _ h => h) hG
theorem rT (hr : fn.results = #[.tmp a, .tmp b]) (hv : lk a env = some v) (hu : lk b env = some u) (hG : G (.tuple #[v, u]) H) : XQ n w env H .ret (bodyPost P fn (GoodEnd w G)) := con_ret2 (.inl rfl) hr hv hu H (fun _ h => h) hG
theorem yA (hr : fn.results = #[.tmp a]) (hv : lk a env = some v) (F : GH) (hF : ∀ w', St w H w' → St w F w') (hG : G v F) : XQ n w env H .ret (bodyPost P fn (GoodEnd w G)) := con_ret1 (.inl rfl) hr hv F hF hG
end
/-! Stores. -/
/-- Values of one cell each. -/
inductive On : List Value → Prop
  | n : On []
  | r {v : Value} {l : List Value} (k : On l) (h : v.oneCell' = true) : On (v :: l)
theorem oN : On [] := .n
theorem oA {x : Value} {l : List Value} (h : x.oneCell' = true) (k : On l) : On (x :: l) := .r k h
theorem On.get {l : List Value} (h : On l) : ∀ i, i < l.length → (cl l i).oneCell' = true := by
  induction h with
  | n => intro i hi; simp at hi
  | r k h ih =>
    intro i hi
    cases i with
    | zero => exact h
    | succ i => exact ih i (by simpa using hi)
theorem o_stD {b s : Nat} {T t : TypeId} {F : Nat → Value} {l : List Value} {H' : GH} (hx : ev env x = some (.pointer (some ⟨b, 0, none⟩))) (hy : ev env y = some (AG s (cl l))) (ht : TyS P t s true) (hl : l.length = s) (h1 : On l) (hm : (b, BK s F T) ∈ H)
    (hu : Upd H b (BK s (cl l) T) H') : OT P w0 env H ⟨none, .store t x y, ty, pos, af, g⟩ (Is undef H') :=
  o_stW hx hy ht (fun i hi => h1.get i (hl ▸ hi)) hm hu
/-- One place of a list. -/
inductive Put : List Value → Nat → Value → List Value → Prop
  | h (u v : Value) (l : List Value) : Put (u :: l) 0 v (v :: l)
  | t {u v : Value} {l l' : List Value} {i : Nat} (k : Put l i v l') : Put (u :: l) (i + 1) v (u :: l')
theorem pH {u v : Value} {l : List Value} : Put (u :: l) 0 v (v :: l) := .h u v l
theorem pT {u v : Value} {l l' : List Value} {i : Nat} (k : Put l i v l') : Put (u :: l) (i + 1) v (u :: l') := .t k
theorem Put.set {l l' : List Value} {i : Nat} {v : Value} (h : Put l i v l') : l.set i v = l' ∧ i < l.length := by
  induction h with
  | h => simp
  | t k ih => simp [ih.1, ih.2]
theorem o_stP {b o N : Nat} {T t : TypeId} {l l' : List Value} {H' : GH} (hx : ev env x = some (.pointer (some ⟨b, o, none⟩))) (hy : ev env y = some v) (ht : TyS P t 1 false) (h1 : v.oneCell' = true) (hm : (b, BK N (cl l) T) ∈ H) (hN : l.length = N) (hp : Put l o v l')
    (hu : Upd H b (BK N (cl l') T) H') : OT P w0 env H ⟨none, .store t x y, ty, pos, af, g⟩ (Is undef H') :=
  o_stC hx hy ht h1 hm hN (hN ▸ hp.set.2) hp.set.1 hu
end
/-! Regions that draw their order. -/
section
variable {P : Program} {n : Nat} {w0 : World} {ops : Array Oper} {KS : List Nat} {env0 env : Env} {dn : List Nat} {H RS : GH} {Q : Exit → Act → World → Prop}
/-- Operation i, if it may be done now. -/
def rdy (ops : Array Oper) (dn : List Nat) (env : Env) (i : Nat) (ks : List Nat) : Option (Oper × Nat × Env) :=
  match ops[i]? with
  | none => none
  | some o => match o.dst with
    | none => none
    | some d => match sel env ks with
      | none => none
      | some l => bif !dn.contains i && gk ops l o.guard then some (o, d, l) else none
theorem rdy.ok {i : Nat} {ks : List Nat} {o : Oper} {d : Nat} {l : Env} (h : rdy ops dn env i ks = some (o, d, l)) : ops[i]? = some o ∧ o.dst = some d ∧ dn.contains i = false ∧ sel env ks = some l ∧ gk ops l o.guard = true := by
  unfold rdy at h
  split at h
  · cases h
  · rename_i o' ho
    split at h
    · cases h
    · rename_i d' hd
      split at h
      · cases h
      · rename_i l' hl
        cases hb : (!dn.contains i && gk ops l' o'.guard) with
        | false => rw [hb] at h; cases h
        | true =>
          rw [hb] at h
          cases h
          have := and2 hb
          exact ⟨ho, hd, by simpa using this.1, hl, this.2⟩
theorem xb (hok : RegOK n ops = true) (i : Nat) (ks : List Nat) {o : Oper} {d : Nat} {l : Env} {v : Value} (hr : rdy ops dn env i ks = some (o, d, l)) (hs : slotsOK ops dn i ks = true)
    (ht : ∀ H', (∀ k ∈ keys H', k ∈ KS ∨ w0.heap.size ≤ k) → OT P w0 l H' o (Is v H')) (k : XD P n w0 ops KS env0 (i :: dn) ((d, v) :: env) H RS Q) : XD P n w0 ops KS env0 dn env H RS Q :=
  xd_b hok i l [] rsN (rdy.ok hr).1 (rdy.ok hr).2.1 (rdy.ok hr).2.2.1 (sel.live (rdy.ok hr).2.2.2.1) (by rw [(sel.keys (rdy.ok hr).2.2.2.1)]; exact hs) (gk.wt (rdy.ok hr).2.2.2.2) (fun H' _ hK => ht H' hK) k
theorem xbr (hok : RegOK n ops = true) (i : Nat) (ks : List Nat) (rs : GH) (hR : ∀ x ∈ rs, x ∈ H) {o : Oper} {d : Nat} {l : Env} {v : Value} (hr : rdy ops dn env i ks = some (o, d, l)) (hs : slotsOK ops dn i ks = true)
    (ht : ∀ H', (∀ x ∈ rs, x ∈ H') → (∀ k ∈ keys H', k ∈ KS ∨ w0.heap.size ≤ k) → OT P w0 l H' o (Is v H')) (k : XD P n w0 ops KS env0 (i :: dn) ((d, v) :: env) H (rs ++ RS) Q) : XD P n w0 ops KS env0 dn env H RS Q :=
  xd_b hok i l rs hR (rdy.ok hr).1 (rdy.ok hr).2.1 (rdy.ok hr).2.2.1 (sel.live (rdy.ok hr).2.2.2.1) (by rw [(sel.keys (rdy.ok hr).2.2.2.1)]; exact hs) (gk.wt (rdy.ok hr).2.2.2.2) ht k
/-- As rdy, for one that is passed over. -/
def rdn (ops : Array Oper) (dn : List Nat) (env : Env) (i : Nat) (ks : List Nat) : Option (Oper × Nat × Env) :=
  match ops[i]? with
  | none => none
  | some o => match o.dst with
    | none => none
    | some d => match sel env ks with
      | none => none
      | some l => bif !dn.contains i && nk ops l o.guard then some (o, d, l) else none
theorem rdn.ok {i : Nat} {ks : List Nat} {o : Oper} {d : Nat} {l : Env} (h : rdn ops dn env i ks = some (o, d, l)) : ops[i]? = some o ∧ o.dst = some d ∧ dn.contains i = false ∧ sel env ks = some l ∧ nk ops l o.guard = true := by
  unfold rdn at h
  split at h
  · cases h
  · rename_i o' ho
    split at h
    · cases h
    · rename_i d' hd
      split at h
      · cases h
      · rename_i l' hl
        cases hb : (!dn.contains i && nk ops l' o'.guard) with
        | false => rw [hb] at h; cases h
        | true =>
          rw [hb] at h
          cases h
          have := and2 hb
          exact ⟨ho, hd, by simpa using this.1, hl, this.2⟩
theorem xbs (hok : RegOK n ops = true) (i : Nat) (ks : List Nat) {o : Oper} {d : Nat} {l : Env} (hr : rdn ops dn env i ks = some (o, d, l)) (hs : slotsOK ops dn i ks = true)
    (k : XD P n w0 ops KS env0 (i :: dn) ((d, undef) :: env) H RS Q) : XD P n w0 ops KS env0 dn env H RS Q :=
  xd_skip hok i l (rdn.ok hr).1 (rdn.ok hr).2.1 (rdn.ok hr).2.2.1 (sel.live (rdn.ok hr).2.2.2.1) (by rw [(sel.keys (rdn.ok hr).2.2.2.1)]; exact hs) (nk.wt (rdn.ok hr).2.2.2.2) k
section
variable {s : Nat} {p : Prop} [Decidable p] {A B : Prop} {b : Bool}
theorem dd (s : Nat) (hs : lk s env = some (.bool (decide p))) (h : if p then A else B) (t : p → A → XD P n w0 ops KS env0 dn ((s, .bool true) :: env) H RS Q) (f : ¬p → B → XD P n w0 ops KS env0 dn ((s, .bool false) :: env) H RS Q) : XD P n w0 ops KS env0 dn env H RS Q :=
  xd_bool s hs (fun e => t (of_decide_eq_true e) (by rwa [if_pos (of_decide_eq_true e)] at h)) (fun e => f (of_decide_eq_false e) (by rwa [if_neg (of_decide_eq_false e)] at h))
theorem dd' (s : Nat) (hs : lk s env = some (.bool (decide p))) (t : p → XD P n w0 ops KS env0 dn ((s, .bool true) :: env) H RS Q) (f : ¬p → XD P n w0 ops KS env0 dn ((s, .bool false) :: env) H RS Q) : XD P n w0 ops KS env0 dn env H RS Q :=
  xd_bool s hs (fun e => t (of_decide_eq_true e)) (fun e => f (of_decide_eq_false e))
theorem de (s : Nat) (hs : lk s env = some (.bool (!decide p))) (h : if p then A else B) (t : ¬p → B → XD P n w0 ops KS env0 dn ((s, .bool true) :: env) H RS Q) (f : p → A → XD P n w0 ops KS env0 dn ((s, .bool false) :: env) H RS Q) : XD P n w0 ops KS env0 dn env H RS Q :=
  xd_bool s hs (fun e => t (of_decide_eq_false (bnT e)) (by rwa [if_neg (of_decide_eq_false (bnT e))] at h)) (fun e => f (of_decide_eq_true (bnF e)) (by rwa [if_pos (of_decide_eq_true (bnF e))] at h))
theorem de' (s : Nat) (hs : lk s env = some (.bool (!decide p))) (t : ¬p → XD P n w0 ops KS env0 dn ((s, .bool true) :: env) H RS Q) (f : p → XD P n w0 ops KS env0 dn ((s, .bool false) :: env) H RS Q) : XD P n w0 ops KS env0 dn env H RS Q :=
  xd_bool s hs (fun e => t (of_decide_eq_false (bnT e))) (fun e => f (of_decide_eq_true (bnF e)))
theorem db' (s : Nat) (hs : lk s env = some (.bool b)) (t : b = true → XD P n w0 ops KS env0 dn ((s, .bool true) :: env) H RS Q) (f : ¬b = true → XD P n w0 ops KS env0 dn ((s, .bool false) :: env) H RS Q) : XD P n w0 ops KS env0 dn env H RS Q :=
  dd' (p := b = true) s (by rw [hs]; simp) t f
theorem dc (s : Nat) (hs : lk s env = some (.bool (!b))) (h : if b = true then A else B) (t : ¬b = true → B → XD P n w0 ops KS env0 dn ((s, .bool true) :: env) H RS Q) (f : b = true → A → XD P n w0 ops KS env0 dn ((s, .bool false) :: env) H RS Q) : XD P n w0 ops KS env0 dn env H RS Q :=
  de (p := b = true) s (by rw [hs]; simp) h t f
theorem dc' (s : Nat) (hs : lk s env = some (.bool (!b))) (t : ¬b = true → XD P n w0 ops KS env0 dn ((s, .bool true) :: env) H RS Q) (f : b = true → XD P n w0 ops KS env0 dn ((s, .bool false) :: env) H RS Q) : XD P n w0 ops KS env0 dn env H RS Q :=
  de' (p := b = true) s (by rw [hs]; simp) t f
end
end
section
variable {w0 w' : World} {H B : GH} {α : Type} {T : TypeId} {s : Nat} {c : α → Nat → Value} {l : List α}
theorem M1 {p : Nat → Prop} (h0 : p 0) : ∀ i, i < 1 → p i := m_step h0 m_zero
theorem litS (k : Nat) {b N : Nat} {F : Nat → Value} (hs : St w0 H w') (hm : (b, BK N F T) ∈ H) (hl : k = l.length) (hk : (Nat.ble (k * s) N && Nat.ble k 1000000) = true) (hF : ∀ i, i < k * s → F i = eG s c l i) : SL w' s c (.slice (some ⟨b, 0, none⟩) k k) l :=
  SL.lit hs hm hl (Nat.le_of_ble_eq_true (and2 hk).1) (Nat.le_trans (Nat.le_of_ble_eq_true (and2 hk).2) (by decide)) hF
theorem litO (k : Nat) {b N : Nat} {F : Nat → Value} (hm : (b, BK N F T) ∈ B) (hl : k = l.length) (hk : (Nat.ble (k * s) N && Nat.ble k 1000000) = true) (hF : ∀ i, i < k * s → F i = eG s c l i) : OJ T s c B (.slice (some ⟨b, 0, none⟩) k k) l :=
  OJ.lit hm hl (Nat.le_of_ble_eq_true (and2 hk).1) (Nat.le_trans (Nat.le_of_ble_eq_true (and2 hk).2) (by decide)) hF
end
theorem St.fold {w0 w : World} (Xs Rs : List GH) (h : St w0 (cat (Xs ++ Rs)) w) : St w0 (cat (cat Xs :: Rs)) w := by
  rw [cat_append] at h; exact h
theorem dT {p : Prop} [Decidable p] (h : p) : decide p = true := decide_eq_true h
theorem dF {p : Prop} [Decidable p] (h : ¬p) : decide p = false := decide_eq_false h
theorem nF1 {p : Prop} [Decidable p] (h : p) : (!decide p) = false := by simp [h]
theorem nF2 {b : Bool} (h : b = true) : (!b) = false := by simp [h]
theorem bF {b : Bool} (h : ¬b = true) : b = false := by simpa using h
end Go.E
/- What functions of the program say, as relations. -/
namespace Go.E
open Go
def inn_S (n0 : Int) (low1 : Int) (high2 : Int) (r : Bool) : Prop :=
  r = ((decide (low1 ≤ n0)) && (decide (n0 ≤ high2)))
def inn_F (n0 : Int) (low1 : Int) (high2 : Int) : Bool :=
  (decide (low1 ≤ n0)) && (decide (n0 ≤ high2))
theorem inn_ok (n0 : Int) (low1 : Int) (high2 : Int) : inn_S n0 low1 high2 (inn_F n0 low1 high2) := by
  obtain ⟨r, hr⟩ : ∃ r, r = inn_F n0 low1 high2 := ⟨_, rfl⟩
  rw [← hr]
  unfold inn_F at hr
  unfold inn_S
  exact hr
def shard_S (n0 : Int) (r : Bool) : Prop :=
  r = ((inn_F n0 1 64))
def shard_F (n0 : Int) : Bool :=
  (inn_F n0 1 64)
theorem shard_ok (n0 : Int) : shard_S n0 (shard_F n0) := by
  obtain ⟨r, hr⟩ : ∃ r, r = shard_F n0 := ⟨_, rfl⟩
  rw [← hr]
  unfold shard_F at hr
  unfold shard_S
  exact hr
def tx_S (n0 : Int) (r : Bool) : Prop :=
  r = ((inn_F n0 1 1048576))
def tx_F (n0 : Int) : Bool :=
  (inn_F n0 1 1048576)
theorem tx_ok (n0 : Int) : tx_S n0 (tx_F n0) := by
  obtain ⟨r, hr⟩ : ∃ r, r = tx_F n0 := ⟨_, rfl⟩
  rw [← hr]
  unfold tx_F at hr
  unfold tx_S
  exact hr
def ends_S (m0 : (Nat → Int)) (r : Bool) : Prop :=
  if m0 0 = 11 then
    if m0 1 = 0 then
      r = ((decide (m0 1 = 0)) && ((shard_F (m0 2))))
    else
      r = (((shard_F (m0 1))) && (decide (m0 2 = 0)))
  else
    if ((decide (m0 0 = 1)) || ((decide (m0 0 = 4)) || ((decide (m0 0 = 6)) || (decide (m0 0 = 8))))) = true then
      r = ((decide (m0 1 = 0)) && ((shard_F (m0 2))))
    else
      r = (((shard_F (m0 1))) && (decide (m0 2 = 0)))
def ends_F (m0 : (Nat → Int)) : Bool :=
  if m0 0 = 11 then
    if m0 1 = 0 then
      (decide (m0 1 = 0)) && ((shard_F (m0 2)))
    else
      ((shard_F (m0 1))) && (decide (m0 2 = 0))
  else
    if ((decide (m0 0 = 1)) || ((decide (m0 0 = 4)) || ((decide (m0 0 = 6)) || (decide (m0 0 = 8))))) = true then
      (decide (m0 1 = 0)) && ((shard_F (m0 2)))
    else
      ((shard_F (m0 1))) && (decide (m0 2 = 0))
theorem ends_ok (m0 : (Nat → Int)) : ends_S m0 (ends_F m0) := by
  obtain ⟨r, hr⟩ : ∃ r, r = ends_F m0 := ⟨_, rfl⟩
  rw [← hr]
  unfold ends_F at hr
  unfold ends_S
  by_cases hp1 : m0 0 = 11
  · rw [if_pos hp1] at hr ⊢
    by_cases hp2 : m0 1 = 0
    · rw [if_pos hp2] at hr ⊢
      exact hr
    · rw [if_neg hp2] at hr ⊢
      exact hr
  · rw [if_neg hp1] at hr ⊢
    by_cases hp3 : ((decide (m0 0 = 1)) || ((decide (m0 0 = 4)) || ((decide (m0 0 = 6)) || (decide (m0 0 = 8))))) = true
    · rw [if_pos hp3] at hr ⊢
      exact hr
    · rw [if_neg hp3] at hr ⊢
      exact hr
def resOk_S (r0 : (Nat → Int)) (r : Bool) : Prop :=
  r = ((((decide (1 ≤ r0 0)) && (decide (r0 0 ≤ 250))) && (decide (0 ≤ r0 1))) && (decide (r0 1 ≤ 250)))
def resOk_F (r0 : (Nat → Int)) : Bool :=
  (((decide (1 ≤ r0 0)) && (decide (r0 0 ≤ 250))) && (decide (0 ≤ r0 1))) && (decide (r0 1 ≤ 250))
theorem resOk_ok (r0 : (Nat → Int)) : resOk_S r0 (resOk_F r0) := by
  obtain ⟨r, hr⟩ : ∃ r, r = resOk_F r0 := ⟨_, rfl⟩
  rw [← hr]
  unfold resOk_F at hr
  unfold resOk_S
  exact hr
def path_l2 (m0 : (Nat → Int)) (x25 : Int) (x50 : Int) (o : (Int) ⊕ ((Unit) ⊕ (Unit))) : Prop :=
  if x50 < (x25.toNat : Int) then
    (0 ≤ x50 ∧ x50 < (x25.toNat : Nat)) ∧ (
    if m0 (12 + (x50.toNat * 2)) = m0 (12 + (x25.toNat * 2)) then
      o = (.inr (.inr ()))
    else
      (inI64 (x50 + 1)) ∧ (
      o = (.inl (x50 + 1))))
  else
    o = (.inr (.inl ()))
def path_k2a (x25 : Int) (o : (Int) ⊕ ((Unit) ⊕ (Unit))) : Prop :=
  (inI64 (x25 + 1)) ∧ (
  o = (.inl (x25 + 1)))
def path_k2b (o : (Int) ⊕ ((Unit) ⊕ (Unit))) : Prop :=
  o = (.inr (.inr ()))
def path_l1 (m0 : (Nat → Int)) (x25 : Int) (o : (Int) ⊕ ((Unit) ⊕ (Unit))) : Prop :=
  if x25 < 8 then
    (0 ≤ x25 ∧ x25 < 8) ∧ (
    if m0 11 ≤ x25 then
      if ((eqN 2 (fun i => (fun i => m0 (12 + i)) ((x25.toNat * 2) + i)) (fun _ => 0))) = true then
        (inI64 (x25 + 1)) ∧ (
        o = (.inl (x25 + 1)))
      else
        o = (.inr (.inr ()))
    else
      if ((!((tx_F (m0 (12 + (x25.toNat * 2)))))) || (!((inn_F (m0 (12 + ((x25.toNat * 2) + 1))) 1 1048576)))) = true then
        o = (.inr (.inr ()))
      else
        (0 ≤ x25 ∧ x25 ≤ 8) ∧ (
        ∃ x : (Unit) ⊕ (Unit), Wh (fun (s : Int) (o : (Int) ⊕ ((Unit) ⊕ (Unit))) => path_l2 m0 x25 s o) (0 : Int) x ∧ (match x with | .inl _ => path_k2a x25 o | .inr _ => path_k2b o)))
  else
    o = (.inr (.inl ()))
def path_k1a (r : Bool) : Prop :=
  r = (true)
def path_k1b (r : Bool) : Prop :=
  r = (false)
def path_S (m0 : (Nat → Int)) (r : Bool) : Prop :=
  if (((!((inn_F (m0 11) 1 8))) || (!((tx_F (m0 9))))) || (!((inn_F (m0 10) 0 1048576)))) = true then
    r = (false)
  else
    ∃ x : (Unit) ⊕ (Unit), Wh (fun (s : Int) (o : (Int) ⊕ ((Unit) ⊕ (Unit))) => path_l1 m0 s o) (0 : Int) x ∧ (match x with | .inl _ => path_k1a r | .inr _ => path_k1b r)
end Go.E
/- The steps of a probe that may be, in plain words. -/
namespace Go.E
open Go
theorem imin {k : Nat} (h : k < 9000000000) : inI64 ((k : Int) + 1) := ⟨by omega, by omega⟩
def newF (m : Nat → Int) (i : Nat) (k : Nat) : Bool := !decide (m (12 + k * 2) = m (12 + i * 2))
def stepF (m : Nat → Int) (i : Nat) : Bool :=
  if m 11 ≤ i then eqN 2 (fun j => m (12 + (i * 2 + j))) (fun _ => 0)
  else tx_F (m (12 + i * 2)) && inn_F (m (12 + (i * 2 + 1))) 1 1048576 && (List.range i).all (newF m i)
def path_F (m : Nat → Int) : Bool := inn_F (m 11) 1 8 && tx_F (m 9) && inn_F (m 10) 0 1048576 && (List.range 8).all (stepF m)
theorem path_l2_wh (m : Nat → Int) (i : Nat) (hi : i < 8) : Wh (fun (s : Int) (o : Int ⊕ (Unit ⊕ Unit)) => path_l2 m (i : Int) s o) 0 (if (List.range i).all (newF m i) = true then .inl () else .inr ()) := by
  refine Wh.all i (newF m i) _ _ (fun k hk hp => ?_) (fun k hk hp => ?_) ?_
  · unfold path_l2
    rw [if_pos (by simp; exact hk)]
    refine ⟨by simp; exact hk, ?_⟩
    simp only [newF, Bool.not_eq_true', decide_eq_false_iff_not] at hp
    rw [if_neg (by simpa using hp)]
    exact ⟨imin (by omega), rfl⟩
  · unfold path_l2
    rw [if_pos (by simp; exact hk)]
    refine ⟨by simp; exact hk, ?_⟩
    simp only [newF, Bool.not_eq_false', decide_eq_true_eq] at hp
    rw [if_pos (by simpa using hp)]
  · unfold path_l2
    rw [if_neg (by simp)]
theorem path_l1_wh (m : Nat → Int) : Wh (fun (s : Int) (o : Int ⊕ (Unit ⊕ Unit)) => path_l1 m s o) 0 (if (List.range 8).all (stepF m) = true then .inl () else .inr ()) := by
  have key : ∀ k : Nat, k < 8 → path_l1 m k (if stepF m k = true then .inl ((k : Int) + 1) else .inr (.inr ())) := by
    intro k hk
    unfold path_l1
    rw [if_pos (by omega)]
    refine ⟨by omega, ?_⟩
    unfold stepF
    by_cases h1 : m 11 ≤ k
    · rw [if_pos h1, if_pos h1]
      simp only [Int.toNat_natCast]
      by_cases h2 : eqN 2 (fun j => m (12 + (k * 2 + j))) (fun _ => 0) = true
      · rw [if_pos h2, if_pos h2]; exact ⟨imin (by omega), rfl⟩
      · rw [if_neg h2, if_neg h2]
    · rw [if_neg h1, if_neg h1]
      simp only [Int.toNat_natCast]
      by_cases h2 : tx_F (m (12 + k * 2)) = true
      · by_cases h3 : inn_F (m (12 + (k * 2 + 1))) 1 1048576 = true
        · rw [if_neg (by simp [h2, h3])]
          refine ⟨by omega, _, path_l2_wh m k hk, ?_⟩
          by_cases h4 : (List.range k).all (newF m k) = true
          · rw [if_pos h4, h2, h3, h4]
            exact ⟨imin (by omega), rfl⟩
          · rw [if_neg h4, if_neg (by simp only [h2, h3, Bool.true_and]; exact h4)]
            rfl
        · rw [if_pos (by simp [h3]), if_neg (by simp [h3])]
      · rw [if_pos (by simp [h2]), if_neg (by simp [h2])]
  refine Wh.all 8 (stepF m) _ _ (fun k hk hp => ?_) (fun k hk hp => ?_) ?_
  · have := key k hk; rwa [if_pos hp] at this
  · have := key k hk; rwa [if_neg (by simp [hp])] at this
  · unfold path_l1
    rw [if_neg (by omega)]
theorem path_ok (m : Nat → Int) : path_S m (path_F m) := by
  unfold path_S path_F
  by_cases h : ((!inn_F (m 11) 1 8) || (!tx_F (m 9)) || (!inn_F (m 10) 0 1048576)) = true
  · rw [if_pos h]
    have : (inn_F (m 11) 1 8 && tx_F (m 9) && inn_F (m 10) 0 1048576) = false := by
      revert h; cases inn_F (m 11) 1 8 <;> cases tx_F (m 9) <;> cases inn_F (m 10) 0 1048576 <;> simp
    rw [this]; rfl
  · rw [if_neg h]
    have : (inn_F (m 11) 1 8 && tx_F (m 9) && inn_F (m 10) 0 1048576) = true := by
      revert h; cases inn_F (m 11) 1 8 <;> cases tx_F (m 9) <;> cases inn_F (m 10) 0 1048576 <;> simp
    rw [this, Bool.true_and]
    refine ⟨_, path_l1_wh m, ?_⟩
    by_cases h1 : (List.range 8).all (stepF m) = true
    · rw [if_pos h1, h1]; rfl
    · rw [if_neg h1]; simp only [Bool.not_eq_true] at h1; rw [h1]; rfl
end Go.E
/- What functions of the program say, as relations. -/
namespace Go.E
open Go
def may_S (m0 : (Nat → Int)) (r : Bool × (Nat → Int)) : Prop :=
  if ((decide (m0 0 = 1)) || (decide (m0 0 = 2))) = true then
    r = ((((((resOk_F (fun i => m0 (5 + i)))) && ((inn_F (m0 7) 1 4))) && ((inn_F (m0 4) 1 1048576))) && ((tx_F (m0 3))), (updI (updI (updI (updRI m0 5 2 (fun _ => 0)) 7 0) 4 0) 3 0)))
  else
    if m0 0 = 3 then
      r = ((((((inn_F (m0 4) 1 1048576)) && ((inn_F (m0 8) 1 15))) && ((inn_F 0 0 1))) && ((tx_F (m0 3))), (updI (updI (updI (updI m0 4 0) 8 0) 8 0) 3 0)))
    else
      if ((decide (m0 0 = 5)) || (decide (m0 0 = 6))) = true then
        r = ((((inn_F (m0 8) 0 1)) && ((tx_F (m0 3))), (updI (updI m0 8 0) 3 0)))
      else
        if ((decide (m0 0 = 4)) || ((decide (m0 0 = 7)) || ((decide (m0 0 = 8)) || (decide (m0 0 = 9))))) = true then
          r = (((tx_F (m0 3)), (updI m0 3 0)))
        else
          if m0 0 = 10 then
            r = (((((tx_F (m0 3))) && ((tx_F (m0 9)))) && (decide (m0 9 < m0 3)), (updI (updI m0 3 0) 9 0)))
          else
            if m0 0 = 11 then
              r = (((path_F m0), (updRI (updI (updI (updI m0 11 0) 9 0) 10 0) 12 16 (fun _ => 0))))
            else
              r = ((false, m0))
def may_F (m0 : (Nat → Int)) : Bool × (Nat → Int) :=
  if ((decide (m0 0 = 1)) || (decide (m0 0 = 2))) = true then
    (((((resOk_F (fun i => m0 (5 + i)))) && ((inn_F (m0 7) 1 4))) && ((inn_F (m0 4) 1 1048576))) && ((tx_F (m0 3))), (updI (updI (updI (updRI m0 5 2 (fun _ => 0)) 7 0) 4 0) 3 0))
  else
    if m0 0 = 3 then
      (((((inn_F (m0 4) 1 1048576)) && ((inn_F (m0 8) 1 15))) && ((inn_F 0 0 1))) && ((tx_F (m0 3))), (updI (updI (updI (updI m0 4 0) 8 0) 8 0) 3 0))
    else
      if ((decide (m0 0 = 5)) || (decide (m0 0 = 6))) = true then
        (((inn_F (m0 8) 0 1)) && ((tx_F (m0 3))), (updI (updI m0 8 0) 3 0))
      else
        if ((decide (m0 0 = 4)) || ((decide (m0 0 = 7)) || ((decide (m0 0 = 8)) || (decide (m0 0 = 9))))) = true then
          ((tx_F (m0 3)), (updI m0 3 0))
        else
          if m0 0 = 10 then
            ((((tx_F (m0 3))) && ((tx_F (m0 9)))) && (decide (m0 9 < m0 3)), (updI (updI m0 3 0) 9 0))
          else
            if m0 0 = 11 then
              ((path_F m0), (updRI (updI (updI (updI m0 11 0) 9 0) 10 0) 12 16 (fun _ => 0)))
            else
              (false, m0)
theorem may_ok (m0 : (Nat → Int)) : may_S m0 (may_F m0) := by
  obtain ⟨r, hr⟩ : ∃ r, r = may_F m0 := ⟨_, rfl⟩
  rw [← hr]
  unfold may_F at hr
  unfold may_S
  by_cases hp4 : ((decide (m0 0 = 1)) || (decide (m0 0 = 2))) = true
  · rw [if_pos hp4] at hr ⊢
    exact hr
  · rw [if_neg hp4] at hr ⊢
    by_cases hp5 : m0 0 = 3
    · rw [if_pos hp5] at hr ⊢
      exact hr
    · rw [if_neg hp5] at hr ⊢
      by_cases hp6 : ((decide (m0 0 = 5)) || (decide (m0 0 = 6))) = true
      · rw [if_pos hp6] at hr ⊢
        exact hr
      · rw [if_neg hp6] at hr ⊢
        by_cases hp7 : ((decide (m0 0 = 4)) || ((decide (m0 0 = 7)) || ((decide (m0 0 = 8)) || (decide (m0 0 = 9))))) = true
        · rw [if_pos hp7] at hr ⊢
          exact hr
        · rw [if_neg hp7] at hr ⊢
          by_cases hp8 : m0 0 = 10
          · rw [if_pos hp8] at hr ⊢
            exact hr
          · rw [if_neg hp8] at hr ⊢
            by_cases hp9 : m0 0 = 11
            · rw [if_pos hp9] at hr ⊢
              exact hr
            · rw [if_neg hp9] at hr ⊢
              exact hr
def msgOk_S (m0 : (Nat → Int)) (r : Int) : Prop :=
  if ((ends_F m0)) = true then
    if ((may_F m0).1) = true then
      if ((eqN 28 ((may_F m0).2) (updI (updI (updI (fun _ => 0) 0 (m0 0)) 1 (m0 1)) 2 (m0 2)))) = true then
        r = (0)
      else
        r = (5)
    else
      r = (5)
  else
    r = (5)
def msgOk_F (m0 : (Nat → Int)) : Int :=
  if ((ends_F m0)) = true then
    if ((may_F m0).1) = true then
      if ((eqN 28 ((may_F m0).2) (updI (updI (updI (fun _ => 0) 0 (m0 0)) 1 (m0 1)) 2 (m0 2)))) = true then
        0
      else
        5
    else
      5
  else
    5
theorem msgOk_ok (m0 : (Nat → Int)) : msgOk_S m0 (msgOk_F m0) := by
  obtain ⟨r, hr⟩ : ∃ r, r = msgOk_F m0 := ⟨_, rfl⟩
  rw [← hr]
  unfold msgOk_F at hr
  unfold msgOk_S
  by_cases hp10 : ((ends_F m0)) = true
  · rw [if_pos hp10] at hr ⊢
    by_cases hp11 : ((may_F m0).1) = true
    · rw [if_pos hp11] at hr ⊢
      by_cases hp12 : ((eqN 28 ((may_F m0).2) (updI (updI (updI (fun _ => 0) 0 (m0 0)) 1 (m0 1)) 2 (m0 2)))) = true
      · rw [if_pos hp12] at hr ⊢
        exact hr
      · rw [if_neg hp12] at hr ⊢
        exact hr
    · rw [if_neg hp11] at hr ⊢
      exact hr
  · rw [if_neg hp10] at hr ⊢
    exact hr
end Go.E
/- What the program asks of a message, in plain words. -/
namespace Go.E
open Go
theorem all28 {p : Nat → Prop} : (∀ i, i < 28 → p i) ↔ (p 0 ∧ p 1 ∧ p 2 ∧ p 3 ∧ p 4 ∧ p 5 ∧ p 6 ∧ p 7 ∧ p 8 ∧ p 9 ∧ p 10 ∧ p 11 ∧ p 12 ∧ p 13 ∧ p 14 ∧ p 15 ∧ p 16 ∧ p 17 ∧ p 18 ∧ p 19 ∧ p 20 ∧ p 21 ∧ p 22 ∧ p 23 ∧ p 24 ∧ p 25 ∧ p 26 ∧ p 27) :=
  ⟨fun h => ⟨h 0 (by omega), h 1 (by omega), h 2 (by omega), h 3 (by omega), h 4 (by omega), h 5 (by omega), h 6 (by omega), h 7 (by omega), h 8 (by omega), h 9 (by omega), h 10 (by omega), h 11 (by omega), h 12 (by omega), h 13 (by omega), h 14 (by omega), h 15 (by omega), h 16 (by omega), h 17 (by omega), h 18 (by omega), h 19 (by omega), h 20 (by omega), h 21 (by omega), h 22 (by omega), h 23 (by omega), h 24 (by omega), h 25 (by omega), h 26 (by omega), h 27 (by omega)⟩, fun ⟨h0, h1, h2, h3, h4, h5, h6, h7, h8, h9, h10, h11, h12, h13, h14, h15, h16, h17, h18, h19, h20, h21, h22, h23, h24, h25, h26, h27⟩ i hi => match i, hi with | 0, _ => h0 | 1, _ => h1 | 2, _ => h2 | 3, _ => h3 | 4, _ => h4 | 5, _ => h5 | 6, _ => h6 | 7, _ => h7 | 8, _ => h8 | 9, _ => h9 | 10, _ => h10 | 11, _ => h11 | 12, _ => h12 | 13, _ => h13 | 14, _ => h14 | 15, _ => h15 | 16, _ => h16 | 17, _ => h17 | 18, _ => h18 | 19, _ => h19 | 20, _ => h20 | 21, _ => h21 | 22, _ => h22 | 23, _ => h23 | 24, _ => h24 | 25, _ => h25 | 26, _ => h26 | 27, _ => h27 | q + 28, h => absurd h (by omega)⟩
theorem ends_eq (m : Nat → Int) : ends_F m = endsB m := by
  unfold ends_F endsB shB shard_F
  have hin : ∀ a b c, inn_F a b c = inB a b c := fun a b c => rfl
  simp only [hin]
  by_cases h1 : m 0 = 11
  · rw [if_pos h1, if_pos h1]
    by_cases h2 : m 1 = 0
    · rw [if_pos h2, if_pos h2]; simp [h2]
    · rw [if_neg h2, if_neg h2]
  · rw [if_neg h1, if_neg h1]
    by_cases h2 : m 0 = 1 ∨ m 0 = 4 ∨ m 0 = 6 ∨ m 0 = 8
    · rw [if_pos h2, if_pos (by simpa using h2)]
    · rw [if_neg h2, if_neg (by simpa using h2)]
theorem newF_eq (m : Nat → Int) (i : Nat) : newF m i = fun k => !decide (m (12 + k * 2 + 0) = m (12 + (i * 2 + 0))) := by
  funext k; simp [newF]
theorem step_eq (m : Nat → Int) (i : Nat) : stepF m i = stepB m i := by
  unfold stepF stepB newB txB tx_F
  rw [eqN2, newF_eq]
  rfl
theorem path_eq (m : Nat → Int) : path_F m = pathB m := by
  unfold path_F pathB
  rw [show stepF m = stepB m from funext (step_eq m)]
  rfl
theorem res_eq (m : Nat → Int) : resOk_F (fun i => m (5 + i)) = resB (m 5) (m 6) := by
  simp [resOk_F, resB, inB, Bool.and_assoc]
theorem may_eq (m : Nat → Int) : may_F m = (mayB m, mayZ m) := by
  unfold may_F mayB mayZ
  have hin : ∀ a b c, inn_F a b c = inB a b c := fun a b c => rfl
  have htx : ∀ a, tx_F a = txB a := fun a => rfl
  have h01 : inB 0 0 1 = true := rfl
  simp only [hin, htx, path_eq, res_eq]
  by_cases h1 : m 0 = 1 ∨ m 0 = 2
  · rw [if_pos (by simpa using h1), if_pos h1, if_pos h1]
  · rw [if_neg (by simpa using h1), if_neg h1, if_neg h1]
    by_cases h2 : m 0 = 3
    · rw [if_pos h2, if_pos h2, if_pos h2, h01, Bool.and_true]
    · rw [if_neg h2, if_neg h2, if_neg h2]
      by_cases h3 : m 0 = 5 ∨ m 0 = 6
      · rw [if_pos (by simpa using h3), if_pos h3, if_pos h3]
      · rw [if_neg (by simpa using h3), if_neg h3, if_neg h3]
        by_cases h4 : m 0 = 4 ∨ m 0 = 7 ∨ m 0 = 8 ∨ m 0 = 9
        · rw [if_pos (by simpa using h4), if_pos h4, if_pos h4]
        · rw [if_neg (by simpa using h4), if_neg h4, if_neg h4]
          by_cases h5 : m 0 = 10
          · rw [if_pos h5, if_pos h5, if_pos h5]
          · rw [if_neg h5, if_neg h5, if_neg h5]
            by_cases h6 : m 0 = 11
            · rw [if_pos h6, if_pos h6, if_pos h6]
            · rw [if_neg h6, if_neg h6, if_neg h6]
theorem msgOk_eq (m : Nat → Int) : msgOk_F m = if okB m = true then 0 else 5 := by
  unfold msgOk_F okB
  rw [may_eq, ends_eq]
  simp only
  show (if endsB m = true then if mayB m = true then if eqN 28 (mayZ m) (headM m) = true then 0 else 5 else 5 else 5) = _
  cases endsB m <;> cases mayB m <;> cases eqN 28 (mayZ m) (headM m) <;> rfl
theorem msgOk_0 (m : Nat → Int) : msgOk_F m = 0 ↔ okB m = true := by
  rw [msgOk_eq]; cases okB m <;> simp
end Go.E
namespace Go.E
open Go
end Go.E
/- What a message that may be holds, kind by kind. -/
namespace Go.E
open Go
/-- Where may a message of a kind go. -/
theorem ways_eq (m : Nat → Int) (h1 : 1 ≤ m 0) (h2 : m 0 ≤ 11) : (((((decide (strAt (⟨#[111, 98, 98, 111, 98, 111, 98, 111, 98, 98, 101]⟩ : ByteArray) ((m 0) - 1) = 111)) && (!(((decide (m 1 = 0)) && (decide (1 ≤ m 2))) && (decide (m 2 ≤ 64))))) || ((decide (strAt (⟨#[111, 98, 98, 111, 98, 111, 98, 111, 98, 98, 101]⟩ : ByteArray) ((m 0) - 1) = 98)) && (!(((decide (m 2 = 0)) && (decide (1 ≤ m 1))) && (decide (m 1 ≤ 64)))))) || ((!(((decide (m 1 = 0)) && (decide (1 ≤ m 2))) && (decide (m 2 ≤ 64)))) && (!(((decide (m 2 = 0)) && (decide (1 ≤ m 1))) && (decide (m 1 ≤ 64))))))) = !endsB m := by
  have hs : ∀ k : Nat, k < 11 → strAt (⟨#[111, 98, 98, 111, 98, 111, 98, 111, 98, 98, 101]⟩ : ByteArray) (((k : Int) + 1) - 1) = if k = 0 ∨ k = 3 ∨ k = 5 ∨ k = 7 then 111 else if k = 10 then 101 else 98 := by decide +kernel
  obtain ⟨k, hk, e⟩ : ∃ k : Nat, k < 11 ∧ m 0 = (k : Int) + 1 := ⟨(m 0 - 1).toNat, by omega, by omega⟩
  rw [e, hs k hk]
  unfold endsB shB inB
  rw [e]
  rcases (show k = 0 ∨ k = 1 ∨ k = 2 ∨ k = 3 ∨ k = 4 ∨ k = 5 ∨ k = 6 ∨ k = 7 ∨ k = 8 ∨ k = 9 ∨ k = 10 by omega) with rfl | rfl | rfl | rfl | rfl | rfl | rfl | rfl | rfl | rfl | rfl
  all_goals (rw [Bool.eq_iff_iff]; simp; try omega)
  by_cases h0 : m 1 = 0
  · simp [h0]; omega
  · simp [h0]; omega
end Go.E
namespace Go.E
open Go
theorem okB_kind {m : Nat → Int} (h : okB m = true) : 1 ≤ m 0 ∧ m 0 ≤ 11 := by
  have := (okB_rng h).1
  unfold okB mayB at h
  simp only [Bool.and_eq_true] at h
  obtain ⟨⟨_, hm⟩, _⟩ := h
  repeat' split at hm
  all_goals first | omega | cases hm
def oth (m : Nat → Int) : Prop :=
  ((m 0 = 1 ∨ m 0 = 2) ∧ (1 ≤ m 5 ∧ m 5 ≤ 250 ∧ 0 ≤ m 6 ∧ m 6 ≤ 250) ∧ (1 ≤ m 7 ∧ m 7 ≤ 4) ∧ (1 ≤ m 4 ∧ m 4 ≤ 1048576) ∧ (1 ≤ m 3 ∧ m 3 ≤ 1048576) ∧ (m 8 = 0 ∧ m 9 = 0)) ∨
  (m 0 = 3 ∧ (1 ≤ m 4 ∧ m 4 ≤ 1048576) ∧ (1 ≤ m 8 ∧ m 8 ≤ 15) ∧ (1 ≤ m 3 ∧ m 3 ≤ 1048576) ∧ (m 5 = 0 ∧ m 6 = 0 ∧ m 7 = 0 ∧ m 9 = 0)) ∨
  ((m 0 = 5 ∨ m 0 = 6) ∧ (0 ≤ m 8 ∧ m 8 ≤ 1) ∧ (1 ≤ m 3 ∧ m 3 ≤ 1048576) ∧ (m 4 = 0 ∧ m 5 = 0 ∧ m 6 = 0 ∧ m 7 = 0 ∧ m 9 = 0)) ∨
  ((m 0 = 4 ∨ m 0 = 7 ∨ m 0 = 8 ∨ m 0 = 9) ∧ (1 ≤ m 3 ∧ m 3 ≤ 1048576) ∧ (m 4 = 0 ∧ m 5 = 0 ∧ m 6 = 0 ∧ m 7 = 0 ∧ m 8 = 0 ∧ m 9 = 0)) ∨
  (m 0 = 10 ∧ (1 ≤ m 3 ∧ m 3 ≤ 1048576) ∧ (1 ≤ m 9 ∧ m 9 ≤ 1048576) ∧ m 9 < m 3 ∧ (m 4 = 0 ∧ m 5 = 0 ∧ m 6 = 0 ∧ m 7 = 0 ∧ m 8 = 0))
def zt (m : Nat → Int) : Prop := m 10 = 0 ∧ m 11 = 0 ∧ m 12 = 0 ∧ m 13 = 0 ∧ m 14 = 0 ∧ m 15 = 0 ∧ m 16 = 0 ∧ m 17 = 0 ∧ m 18 = 0 ∧ m 19 = 0 ∧ m 20 = 0 ∧ m 21 = 0 ∧ m 22 = 0 ∧ m 23 = 0 ∧ m 24 = 0 ∧ m 25 = 0 ∧ m 26 = 0 ∧ m 27 = 0
theorem okB_oth (m : Nat → Int) (h : m 0 ≠ 11) : okB m = true ↔ endsB m = true ∧ oth m ∧ zt m := by
  unfold okB mayB mayZ headM
  generalize endsB m = E
  cases E
  · simp
  simp only [Bool.true_and, true_and]
  by_cases h1 : m 0 = 1 ∨ m 0 = 2
  · simp only [if_pos h1, Bool.and_eq_true, eqN_iff, all28, updI, updRI, resB, inB, txB, decide_eq_true_eq]
    simp [oth, zt]
    omega
  by_cases h2 : m 0 = 3
  · simp only [if_neg h1, if_pos h2, Bool.and_eq_true, eqN_iff, all28, updI, updRI, resB, inB, txB, decide_eq_true_eq]
    simp [oth, zt]
    omega
  by_cases h3 : m 0 = 5 ∨ m 0 = 6
  · simp only [if_neg h1, if_neg h2, if_pos h3, Bool.and_eq_true, eqN_iff, all28, updI, updRI, resB, inB, txB, decide_eq_true_eq]
    simp [oth, zt]
    omega
  by_cases h4 : m 0 = 4 ∨ m 0 = 7 ∨ m 0 = 8 ∨ m 0 = 9
  · simp only [if_neg h1, if_neg h2, if_neg h3, if_pos h4, Bool.and_eq_true, eqN_iff, all28, updI, updRI, resB, inB, txB, decide_eq_true_eq]
    simp [oth, zt]
    omega
  by_cases h5 : m 0 = 10
  · simp only [if_neg h1, if_neg h2, if_neg h3, if_neg h4, if_pos h5, Bool.and_eq_true, eqN_iff, all28, updI, updRI, resB, inB, txB, decide_eq_true_eq]
    simp [oth, zt]
    omega
  · simp only [if_neg h1, if_neg h2, if_neg h3, if_neg h4, if_neg h5, if_neg h]
    simp [oth]
    omega
end Go.E
/- What functions of the program say, as relations. -/
namespace Go.E
open Go
def errIs_F (a b : Int) : Bool := decide (a = b)
def errIs_P (_ b : Int) : Prop := b ≠ 0
def code_l1 (e0 : Int) (i3 : Int) (o : (Int) ⊕ ((Unit) ⊕ (Int))) : Prop :=
  if i3 ≤ 15 then
    (i3 ≠ 0) ∧ (
    (errIs_P e0 i3) ∧ (
    if ((errIs_F e0 i3)) = true then
      o = (.inr (.inr i3))
    else
      (inI64 (i3 + 1)) ∧ (
      o = (.inl (i3 + 1)))))
  else
    o = (.inr (.inl ()))
def code_k1a (r : Int) : Prop :=
  r = ((-1))
def code_k1b (x2 : Int) (r : Int) : Prop :=
  r = (x2)
def code_S (e0 : Int) (r : Int) : Prop :=
  if e0 = 0 then
    r = (0)
  else
    ∃ x : (Unit) ⊕ (Int), Wh (fun (s : Int) (o : (Int) ⊕ ((Unit) ⊕ (Int))) => code_l1 e0 s o) (1 : Int) x ∧ (match x with | .inl _ => code_k1a r | .inr x2 => code_k1b x2 r)
end Go.E
/- An error's number. -/
namespace Go.E
open Go
def code_F (e : Int) : Int := if 0 ≤ e ∧ e ≤ 15 then e else -1
theorem code_ok (e : Int) : code_S e (code_F e) := by
  unfold code_S
  refine ite_intro (fun h => ?_) (fun h => ?_)
  · subst h; rfl
  · by_cases hr : 1 ≤ e ∧ e ≤ 15
    · refine ⟨.inr e, ?_, ?_⟩
      · have := Wh.upto (f := fun (s : Int) (o : Int ⊕ (Unit ⊕ Int)) => code_l1 e s o) (fun k => (k : Int) + 1) (e.toNat - 1) (r := .inr e) ?_ ?_
        · simpa using this
        · intro k hk
          unfold code_l1
          rw [if_pos (by omega)]
          refine ⟨by omega, by unfold errIs_P; omega, ?_⟩
          rw [if_neg (by simp [errIs_F]; omega)]
          exact ⟨⟨by omega, by omega⟩, by congr 2⟩
        · unfold code_l1
          have e1 : ((e.toNat - 1 : Nat) : Int) + 1 = e := by omega
          simp only [e1]
          rw [if_pos (by omega)]
          refine ⟨by omega, by unfold errIs_P; omega, ?_⟩
          rw [if_pos (by simp [errIs_F])]
          trivial
      · show code_F e = e
        unfold code_F; rw [if_pos (by omega)]
    · refine ⟨.inl (), ?_, ?_⟩
      · have := Wh.upto (f := fun (s : Int) (o : Int ⊕ (Unit ⊕ Int)) => code_l1 e s o) (fun k => (k : Int) + 1) 15 (r := .inl ()) ?_ ?_
        · simpa using this
        · intro k hk
          unfold code_l1
          rw [if_pos (by omega)]
          refine ⟨by omega, by unfold errIs_P; omega, ?_⟩
          rw [if_neg (by simp [errIs_F]; omega)]
          exact ⟨⟨by omega, by omega⟩, by congr 2⟩
        · unfold code_l1
          rw [if_neg (by omega)]
      · show code_F e = -1
        unfold code_F; rw [if_neg (by omega)]
end Go.E
/- The engine, part 19: the keys of a map, collected and sorted (slices.Sorted of maps.Keys), keys of the kind int. -/
namespace Go.E
open Go Go.Proofs Go.Shelf Go.RowKit
section
variable {P : Program} {ρ ρm : Ren} {α : Type} {cv : α → Value}
/-- A contract with one new segment, as one on lists of segments. -/
theorem Con.cat1 {f : FuncId} {args : Array Value} {w : World} {V : Value → Value} {Jc : Value → GH → Prop} (h : Con P f args w (fun v F => ∃ (u : Value) (C : GH), v = V u ∧ F = (C ++ []) ∧ Jc u C ∧ Cov w [] C)) :
    Con P f args w (CatG fun v Ls => Cov w (cat []) (cat Ls) ∧ ∃ (u : Value) (C : GH), v = V u ∧ Ls = [C] ∧ Jc u C ∧ Cov w [] C) :=
  h.mono fun v F ⟨u, C, h1, h2, h3, h4⟩ => ⟨[C], h2, by simpa [cat] using h4, u, C, h1, rfl, h3, h4⟩
end
end Go.E
/- Maps whose keys are integers, in plain words; the keys, rising; lists that are rising. -/
namespace Go.E
open Go
section
variable {α : Type}
/-! ### The keys, rising -/
end
/-! ### Lists that grow round by round -/
theorem map_take {α β : Type} [Inhabited α] (l : List α) (f : α → β) (k : Nat) (hk : k < l.length) : (l.take (k + 1)).map f = (l.take k).map f ++ [f (l[k]!)] := by
  rw [List.take_add_one, List.getElem?_eq_getElem hk, List.map_append, getElem!_pos l k hk]
  rfl
theorem take_len {α : Type} (l : List α) : l.take l.length = l := List.take_of_length_le (Nat.le_refl _)
end Go.E
