/- The engine: how operations, loops and calls of the model are walked (EB). -/
import Derived.Test.YtljklmlodfbdnaaGreatEA
import Derived.LoopN
import Derived.MapKept
set_option linter.unusedVariables false
set_option linter.unusedSimpArgs false
set_option linter.unusedSectionVars false
/- The engine, part 8: slices as lists; segments of the list of blocks. -/
namespace Go.E
open Go

/-- The cells of a list's elements, s to each. -/
def eG {α : Type} (s : Nat) (c : α → Nat → Value) (l : List α) : Nat → Value := fun i => (l[i / s]?).elim undef (fun a => c a (i % s))
def ic (x : Int) : Nat → Value := fun _ => .int .i64 x

theorem eG_at {α : Type} {s j k : Nat} {c : α → Nat → Value} {l : List α} (hj : j < l.length) (hk : k < s) : eG s c l (j * s + k) = c l[j] k := by
  have h1 : (j * s + k) / s = j := by rw [Nat.mul_comm, Nat.mul_add_div (by omega), Nat.div_eq_of_lt hk, Nat.add_zero]
  have h2 : (j * s + k) % s = k := by rw [Nat.mul_comm, Nat.mul_add_mod, Nat.mod_eq_of_lt hk]
  simp only [eG, h1, h2, List.getElem?_eq_getElem hj, Option.elim_some]
theorem eG_one {α : Type} {j : Nat} {c : α → Nat → Value} {l : List α} (hj : j < l.length) : eG 1 c l j = c l[j] 0 := by
  have := eG_at (c := c) (s := 1) (k := 0) hj (by omega)
  simpa using this
theorem eG_app {α : Type} {s : Nat} (hs : 0 < s) (c : α → Nat → Value) (l l' : List α) : ∀ i, i < (l.length + l'.length) * s → app (eG s c l) (l.length * s) (eG s c l') i = eG s c (l ++ l') i := by
  intro i _
  simp only [app, eG]
  by_cases h : i < l.length * s
  · rw [if_pos h, List.getElem?_append_left (by rw [Nat.div_lt_iff_lt_mul hs]; exact h)]
  · rw [if_neg h]
    have hle : l.length * s ≤ i := Nat.le_of_not_lt h
    have h1 : (i - l.length * s) / s = i / s - l.length := by
      rw [Nat.mul_comm, Nat.sub_mul_div]
    have h2 : (i - l.length * s) % s = i % s := by
      rw [Nat.mul_comm, Nat.sub_mul_mod]; rw [Nat.mul_comm]; exact hle
    rw [h1, h2, List.getElem?_append_right (by rw [Nat.le_div_iff_mul_le hs]; exact hle)]

def OL {α : Type} (w0 : World) (T : TypeId) (s : Nat) (c : α → Nat → Value) (B : GH) (v : Value) (l : List α) : Prop := Own w0 T s B v l.length (eG s c l)
def SL {α : Type} (w : World) (s : Nat) (c : α → Nat → Value) (v : Value) (l : List α) : Prop := Sl w s v l.length (eG s c l)

section
variable {α : Type} {w0 w : World} {T : TypeId} {s : Nat} {c : α → Nat → Value} {B H A C : GH} {v : Value} {l : List α}

theorem OL.nil : OL w0 T s c [] (.slice none 0 0) ([] : List α) := Own.nil _
theorem SL.nil : SL w s c (.slice none 0 0) ([] : List α) := Sl.nil _
theorem OL.fresh (h : OL w0 T s c B v l) : ∀ b, b ∈ keys B → w0.heap.size ≤ b := Own.fresh h
theorem OL.val (h : OL w0 T s c B v l) : ∃ p cap, v = .slice p l.length cap := (Own.val h).imp fun _ h => h.imp fun _ h => h.1
theorem SL.keep (h : SL w0 s c v l) (hs : St w0 H w) (hn : ∀ b, b ∈ keys H → w0.heap.size ≤ b) : SL w s c v l := Sl.keep h hs hn
theorem SL.val (h : SL w s c v l) : ∃ p cap, v = .slice p l.length cap := let ⟨p, cap, h, _⟩ := h; ⟨p, cap, h⟩
theorem OL.base {w1 : World} (h : OL w1 T s c B v l) (hw : w0.heap.size ≤ w1.heap.size) : OL w0 T s c B v l := by
  rcases h with h | ⟨b, o, cp, N, F, h1, h2, h3⟩
  · exact .inl h
  · exact .inr ⟨b, o, cp, N, F, h1, Nat.le_trans hw h2, h3⟩
theorem OL.new {b n : Nat} {F : Nat → Value} (hb : w0.heap.size ≤ b) (hl : n = l.length) (hm : Nat.ble n 4611686018427387904 = true) (hF : ∀ i, i < n * s → F i = eG s c l i) : OL w0 T s c [(b, BK (n * s) F T)] (.slice (some ⟨b, 0, none⟩) n n) l := by
  subst hl
  exact Own.mk hb (Nat.le_refl _) (by omega) (by have := Nat.le_of_ble_eq_true hm; unfold maxLen; omega) (fun i hi => by rw [Nat.zero_add]; exact hF i hi)

/-- A literal, or whatever lies whole in one block of the list. -/
theorem SL.lit {w' : World} {b n N : Nat} {F : Nat → Value} (hs : St w0 H w') (hm : (b, BK N F T) ∈ H) (hl : n = l.length) (hN : n * s ≤ N) (hmx : n ≤ maxLen) (hF : ∀ i, i < n * s → F i = eG s c l i) : SL w' s c (.slice (some ⟨b, 0, none⟩) n n) l := by
  subst hl
  exact ⟨_, _, rfl, Nat.le_refl _, hmx, (fun h => by cases h), SrcAt.own hs hm (by omega) fun i hi => by rw [Nat.zero_add]; exact hF i hi⟩

theorem SL.sub {w' : World} {b o n cap N : Nat} {F : Nat → Value} (hs : St w0 H w') (hm : (b, BK N F T) ∈ H) (hl : n = l.length) (hcap : n ≤ cap) (hmx : cap ≤ maxLen) (hN : o + n * s ≤ N) (hF : ∀ i, i < n * s → F (o + i) = eG s c l i) : SL w' s c (.slice (some ⟨b, o, none⟩) n cap) l := by
  subst hl
  exact ⟨_, _, rfl, hcap, hmx, (fun h => by cases h), SrcAt.own hs hm hN hF⟩

/-! ### Segments -/
@[simp] theorem keys_append (A B : GH) : keys (A ++ B) = keys A ++ keys B := List.map_append

theorem St.perm {H' : GH} (h : St w0 H w) (hp : H.Perm H') : St w0 H' w :=
  ⟨h.os, h.tape, h.out, h.size, fun b o hm => h.own b o (hp.mem_iff.2 hm), (hp.map _).nodup_iff.1 h.nd, fun k hk hkn => h.keep k hk fun hh => hkn ((hp.map (·.1)).mem_iff.1 hh)⟩
theorem Mg.news {w1 : World} {F H' : GH} (hB : ∀ k, k ∈ keys B → w1.heap.size ≤ k) (h : Mg w0 w1 H F H') : Mg w0 w1 H (B ++ F) (B ++ H') := by
  induction B with
  | nil => exact h
  | cons x B ih =>
    obtain ⟨b, o⟩ := x
    exact .new (hB b (by simp)) (ih fun k hk => hB k (by simp [hk]))
theorem Upd.seg {b : Nat} {o : Obj} {H' : GH} (h : Upd H b o H') : Upd (A ++ H) b o (A ++ H') := by
  induction A with
  | nil => exact h
  | cons x A ih => exact .there x _ _ b o ih
theorem Swp.seg {b : Nat} {x : Nat × Obj} {H' : GH} (h : Swp H b x H') : Swp (A ++ H) b x (A ++ H') := by
  induction A with
  | nil => exact h
  | cons y A ih => exact .there y _ _ b x ih
theorem Kp.segNew {F : GH} (hB : ∀ b, b ∈ keys B → w0.heap.size ≤ b) (h : Kp w0 H F) : Kp w0 (B ++ H) F := by
  induction B with
  | nil => exact h
  | cons x B ih =>
    obtain ⟨b, o⟩ := x
    exact .new (hB b (by simp)) (ih fun k hk => hB k (by simp [hk]))
theorem Kp.segKeep {F : GH} (h : Kp w0 H F) : Kp w0 (B ++ H) (B ++ F) := by
  induction B with
  | nil => exact h
  | cons x B ih => exact .keep ih
end

section
variable {α : Type} {P : Program} {w0 : World} {env : Env} {H : GH}
variable {d : Option Nat} {ty : TypeId} {pos : String} {af : Array Edge} {g : Option (Nat × Bool)} {t : TypeId} {s : Nat} {c : α → Nat → Value}

end
end Go.E

/- The engine, part 9: loops as relations; slices whose segment may hold more than they need; places of elements; errors as numbers. -/
namespace Go.E
open Go

/-! ### Loops as relations -/
inductive Wh {σ ρ : Type} (f : σ → σ ⊕ ρ → Prop) : σ → ρ → Prop
  | out {s : σ} {r : ρ} (h : f s (.inr r)) : Wh f s r
  | again {s s' : σ} {r : ρ} (h : f s (.inl s')) (k : Wh f s' r) : Wh f s r

/-- A loop that goes through the states st 0, st 1, .., and leaves at the n-th. -/
theorem Wh.upto {σ ρ : Type} {f : σ → σ ⊕ ρ → Prop} (st : Nat → σ) (n : Nat) {r : ρ} (h : ∀ k, k < n → f (st k) (.inl (st (k + 1)))) (hn : f (st n) (.inr r)) : Wh f (st 0) r := by
  have key : ∀ j k, k + j = n → Wh f (st k) r := by
    intro j
    induction j with
    | zero => intro k hk; obtain rfl : k = n := (by omega); exact .out hn
    | succ j ih => intro k hk; exact .again (h k (by omega)) (ih (k + 1) (by omega))
  exact key n 0 (by omega)

/-- A loop, by an invariant and a measure. -/
theorem Wh.by {σ ρ : Type} {f : σ → σ ⊕ ρ → Prop} (I : σ → Prop) (m : σ → Nat) (R : ρ → Prop) {s : σ} (h0 : I s) (h : ∀ s, I s → (∃ s', f s (.inl s') ∧ I s' ∧ m s' < m s) ∨ ∃ r, f s (.inr r) ∧ R r) : ∃ r, Wh f s r ∧ R r := by
  have key : ∀ k s, m s = k → I s → ∃ r, Wh f s r ∧ R r := by
    intro k
    induction k using Nat.strongRecOn with
    | _ k ih =>
      intro s hk hi
      rcases h s hi with ⟨s', h1, h2, h3⟩ | ⟨r, h1, h2⟩
      · obtain ⟨r, h4, h5⟩ := ih (m s') (by omega) s' rfl h2
        exact ⟨r, .again h1 h4, h5⟩
      · exact ⟨r, .out h1, h2⟩
  exact key _ s rfl h0

def RQ {σ ρ : Type} (n : Nat) (w0 : World) (I : σ → Env → GH → Prop) (O : ρ → Exit → Env → GH → Prop) (o : σ ⊕ ρ) : Exit → Act → World → Prop :=
  fun ex a w => ∃ e' H', Ag n e' a ∧ St w0 H' w ∧ ((∃ s', o = .inl s' ∧ ex = .normal ∧ I s' e' H') ∨ ∃ r, o = .inr r ∧ ex ≠ .normal ∧ O r ex e' H')

section
variable {P : Program} {n : Nat} {w0 : World} {env : Env} {H : GH} {Q : Exit → Act → World → Prop} {ops : Array Oper} {rest : List Oper}

theorem xw_wh {σ ρ : Type} {f : σ → σ ⊕ ρ → Prop} {c : Code} (I : σ → Env → GH → Prop) (O : ρ → Exit → Env → GH → Prop) {s0 : σ} {x : ρ} (hw : Wh f s0 x)
    (h0 : ∃ e1 H1, Live env e1 ∧ (∀ w, St w0 H w → St w0 H1 w) ∧ I s0 e1 H1)
    (round : ∀ s o e H, I s e H → f s o → XW P n w0 e H c (RQ n w0 I O o))
    (out : ∀ ex e' H', O x ex e' H' → XQ n w0 e' H' ex Q) : XW P n w0 env H (.loop c) Q := by
  intro a w ha hs
  obtain ⟨e1, H1, hl, hst, hi⟩ := h0
  intro b k cs
  have key : ∀ s, Wh f s x → ∀ e H a w, I s e H → Ag n e a → St w0 H w → ∃ ex a' w', Q ex a' w' ∧ Arrives P (lone (b.at a (.code c :: .inLoop c :: k)) cs w) b k cs ex a' w' := by
    intro s hw
    induction hw with
    | @out s r h =>
      intro e H a w hI ha hs
      obtain ⟨ex, a₁, w₁, hq, harr⟩ := round s _ e H hI h a w ha hs b (.inLoop c :: k) cs
      obtain ⟨e', H', ha', hs', hq | hq⟩ := hq
      · obtain ⟨s', h1, _⟩ := hq; cases h1
      · obtain ⟨r', h1, hne, hO⟩ := hq
        cases h1
        have hQ := out ex e' H' hO a₁ w₁ ha' hs'
        cases ex with
        | normal => exact absurd rfl hne
        | exit id => exact ⟨_, a₁, w₁, hQ, .pass (x := .inLoop c) rfl (fun _ _ => .inl (by simp)) harr⟩
        | goto l => exact ⟨_, a₁, w₁, hQ, .pass (x := .inLoop c) rfl (fun _ _ => .inl (by simp)) harr⟩
        | ret => exact ⟨_, a₁, w₁, hQ, .pass (x := .inLoop c) rfl (fun _ _ => .inl (by simp)) harr⟩
        | panic ch => exact ⟨_, a₁, w₁, hQ, .pass (x := .inLoop c) rfl (fun _ _ => .inl (by simp)) harr⟩
        | outgrown => exact ⟨_, a₁, w₁, hQ, .pass (x := .inLoop c) rfl (fun _ _ => .inl (by simp)) harr⟩
    | @again s s' r h _ ih =>
      intro e H a w hI ha hs
      obtain ⟨ex, a₁, w₁, hq, harr⟩ := round s _ e H hI h a w ha hs b (.inLoop c :: k) cs
      obtain ⟨e', H', ha', hs', hq | hq⟩ := hq
      · obtain ⟨s'', h1, hex, hI'⟩ := hq
        cases h1
        subst hex
        obtain ⟨ex₂, a₂, w₂, hq₂, harr₂⟩ := ih (by assumption) out e' H' a₁ w₁ hI' ha' hs'
        exact ⟨ex₂, a₂, w₂, hq₂, .of_steps (Steps.trans harr (.one step_inLoop)) harr₂⟩
      · obtain ⟨r', h1, _⟩ := hq; cases h1
  obtain ⟨ex, a', w', hq, harr⟩ := key s0 hw e1 H1 a w hi (ha.live hl) (hst w hs)
  exact ⟨ex, a', w', hq, .of_steps (.one step_loop) harr⟩

theorem xq_next {σ ρ : Type} {I : σ → Env → GH → Prop} {O : ρ → Exit → Env → GH → Prop} {o : σ ⊕ ρ} {s' : σ} {e' : Env} (H' : GH) (hl : Live env e') (hst : ∀ w, St w0 H w → St w0 H' w) (ho : o = .inl s') (hI : I s' e' H') :
    XQ n w0 env H .normal (RQ n w0 I O o) := fun a w ha hs => ⟨e', H', ha.live hl, hst w hs, .inl ⟨s', ho, rfl, hI⟩⟩
theorem xq_out {σ ρ : Type} {I : σ → Env → GH → Prop} {O : ρ → Exit → Env → GH → Prop} {o : σ ⊕ ρ} {r : ρ} {ex : Exit} {e' : Env} (H' : GH) (hl : Live env e') (hst : ∀ w, St w0 H w → St w0 H' w) (ho : o = .inr r) (hne : ex ≠ .normal) (hO : O r ex e' H') :
    XQ n w0 env H ex (RQ n w0 I O o) := fun a w ha hs => ⟨e', H', ha.live hl, hst w hs, .inr ⟨r, ho, hne, hO⟩⟩
end

/-! ### Segments -/
/-- B' is what has become of B: its blocks are there still, and new ones may be. -/
def Cov (w0 : World) (B B' : GH) : Prop := (∀ k, k ∈ keys B' → k ∈ keys B ∨ w0.heap.size ≤ k) ∧ ∀ k, k ∈ keys B → k ∈ keys B'

theorem Cov.refl {w0 : World} (B : GH) : Cov w0 B B := ⟨fun _ h => .inl h, fun _ h => h⟩
theorem Cov.trans {w0 : World} {A B C : GH} (h : Cov w0 A B) (k : Cov w0 B C) : Cov w0 A C :=
  ⟨fun x hx => (k.1 x hx).elim (fun h' => h.1 x h') .inr, fun x hx => k.2 x (h.2 x hx)⟩
theorem Cov.fresh {w0 : World} {B : GH} (h : Cov w0 [] B) : ∀ k, k ∈ keys B → w0.heap.size ≤ k := fun k hk => (h.1 k hk).elim (fun h => by simp at h) id
theorem Cov.base {w0 w1 : World} {A B : GH} (h : Cov w1 A B) (hw : w0.heap.size ≤ w1.heap.size) : Cov w0 A B := ⟨fun k hk => (h.1 k hk).imp id fun h => Nat.le_trans hw h, h.2⟩
theorem Cov.cons {w0 : World} {b : Nat} {o o' : Obj} {A B : GH} (h : Cov w0 A B) : Cov w0 ((b, o) :: A) ((b, o') :: B) :=
  ⟨fun k hk => by
    simp only [keys_cons, List.mem_cons] at hk ⊢
    rcases hk with hk | hk
    · exact .inl (.inl hk)
    · exact (h.1 k hk).imp .inr id, fun k hk => by
    simp only [keys_cons, List.mem_cons] at hk ⊢
    exact hk.imp id (h.2 k)⟩
theorem Cov.app {w0 : World} {A A' B B' : GH} (h : Cov w0 A A') (k : Cov w0 B B') : Cov w0 (A ++ B) (A' ++ B') :=
  ⟨fun x hx => by
    simp only [keys_append, List.mem_append] at hx ⊢
    rcases hx with hx | hx
    · exact (h.1 x hx).imp .inl id
    · exact (k.1 x hx).imp .inr id, fun x hx => by
    simp only [keys_append, List.mem_append] at hx ⊢
    exact hx.imp (h.2 x) (k.2 x)⟩
theorem Cov.new {w0 : World} {b : Nat} {o : Obj} {B : GH} (hb : w0.heap.size ≤ b) : Cov w0 B ((b, o) :: B) :=
  ⟨fun k hk => by
    simp only [keys_cons, List.mem_cons] at hk
    rcases hk with hk | hk
    · exact .inr (hk ▸ hb)
    · exact .inl hk, fun k hk => by simp only [keys_cons, List.mem_cons]; exact .inr hk⟩
theorem Cov.upd {w0 : World} {b : Nat} {o : Obj} {B B' : GH} (h : Upd B b o B') : Cov w0 B B' := ⟨fun k hk => .inl (by rw [← h.keys]; exact hk), fun k hk => by rw [h.keys]; exact hk⟩

theorem Upd.ex {b : Nat} {o : Obj} (o' : Obj) : ∀ {B : GH}, (b, o) ∈ B → ∃ B', Upd B b o' B'
  | x :: B, h => by
    rcases List.mem_cons.1 h with h | h
    · subst h; exact ⟨_, .here b o o' B⟩
    · obtain ⟨B', hB'⟩ := Upd.ex o' h
      exact ⟨x :: B', .there x _ _ _ _ hB'⟩
theorem Upd.left {b : Nat} {o : Obj} {B B' H : GH} (h : Upd B b o B') : Upd (B ++ H) b o (B' ++ H) := by
  induction h with
  | here b o o' t => exact .here b o o' _
  | there x t t' b o' h ih => exact .there x _ _ b o' ih
theorem Upd.isin {b : Nat} {o : Obj} {B B' : GH} (h : Upd B b o B') : (b, o) ∈ B' := by
  induction h with
  | here => exact List.mem_cons_self ..
  | there x t t' b o' h ih => exact List.mem_cons_of_mem _ ih

/-- Where a segment, or a block, stands. -/
inductive Pull : GH → GH → GH → Prop
  | here (S R : GH) : Pull (S ++ R) S R
  | hereC (x : Nat × Obj) (R : GH) : Pull (x :: R) [x] R
  | there (A : GH) {H S R : GH} (h : Pull H S R) : Pull (A ++ H) S (A ++ R)
  | thereC (x : Nat × Obj) {H S R : GH} (h : Pull H S R) : Pull (x :: H) S (x :: R)
theorem Pull.perm {H S R : GH} (h : Pull H S R) : H.Perm (S ++ R) := by
  induction h with
  | here => exact List.Perm.refl _
  | hereC => exact List.Perm.refl _
  | @there A H S R h ih =>
    refine (List.Perm.append_left A ih).trans ?_
    rw [← List.append_assoc, ← List.append_assoc]
    exact List.Perm.append_right R List.perm_append_comm
  | @thereC x H S R h ih => exact (List.Perm.cons x ih).trans List.perm_middle.symm
theorem Pull.st {w0 w : World} {H S R : GH} (h : Pull H S R) (hs : St w0 H w) : St w0 (S ++ R) w := hs.perm h.perm
theorem Pull.push {w0 w : World} {H S R : GH} (h : Pull H S R) (hs : St w0 (S ++ R) w) : St w0 H w := hs.perm h.perm.symm
theorem Pull.sub {H S R : GH} (h : Pull H S R) : ∀ x ∈ S, x ∈ H := fun _ hx => h.perm.mem_iff.2 (List.mem_append_left _ hx)
theorem Pull.mem {H R : GH} {x : Nat × Obj} (h : Pull H [x] R) : x ∈ H := h.sub x (List.mem_singleton.2 rfl)

/-- All blocks are new. -/
def Fr (w0 : World) (H : GH) : Prop := ∀ k, k ∈ keys H → w0.heap.size ≤ k
theorem Fr.nil {w0 : World} : Fr w0 [] := fun _ h => by simp at h
theorem Fr.cons {w0 : World} {b : Nat} {o : Obj} {H : GH} (hb : w0.heap.size ≤ b) (h : Fr w0 H) : Fr w0 ((b, o) :: H) := fun k hk => by
  simp only [keys_cons, List.mem_cons] at hk
  exact hk.elim (fun e => e ▸ hb) (h k)
theorem Fr.seg {w0 : World} {B H : GH} (hb : Cov w0 [] B) (h : Fr w0 H) : Fr w0 (B ++ H) := fun k hk => by
  simp only [keys_append, List.mem_append] at hk
  exact hk.elim (hb.fresh k) (h k)

/-! ### Slices -/
def OJ {α : Type} (T : TypeId) (s : Nat) (c : α → Nat → Value) (B : GH) (v : Value) (l : List α) : Prop :=
  (v = .slice none 0 0 ∧ l = []) ∨ ∃ b o cap N F, (b, BK N F T) ∈ B ∧ v = .slice (some ⟨b, o, none⟩) l.length cap ∧ l.length ≤ cap ∧ o + cap * s ≤ N ∧ cap ≤ maxLen ∧ ∀ i, i < l.length * s → F (o + i) = eG s c l i

section
variable {α : Type} {w0 w : World} {T : TypeId} {s : Nat} {c : α → Nat → Value} {B H R : GH} {v : Value} {l : List α}

theorem OJ.nil : OJ T s c B (.slice none 0 0) ([] : List α) := .inl ⟨rfl, rfl⟩
theorem OJ.mono {B' : GH} (h : OJ T s c B v l) (hB : ∀ x ∈ B, x ∈ B') : OJ T s c B' v l := by
  rcases h with h | ⟨b, o, cp, N, F, h1, h2⟩
  · exact .inl h
  · exact .inr ⟨b, o, cp, N, F, hB _ h1, h2⟩
theorem OJ.val (h : OJ T s c B v l) : ∃ p cap, v = .slice p l.length cap := by
  rcases h with ⟨rfl, rfl⟩ | ⟨b, o, cp, N, F, h1, h2, h3⟩
  · exact ⟨none, 0, rfl⟩
  · exact ⟨_, _, h2⟩
theorem OJ.sl (h : OJ T s c B v l) (hs : St w0 H w) (hB : ∀ x ∈ B, x ∈ H) : SL w s c v l := by
  rcases h with ⟨rfl, rfl⟩ | ⟨b, o, cp, N, F, h1, h2, h3, h4, h5, h6⟩
  · exact SL.nil
  · refine ⟨_, _, h2, h3, h5, fun h => (by cases h), SrcAt.own hs (hB _ h1) ?_ h6⟩
    have := Nat.mul_le_mul_right s h3
    omega
theorem OJ.lit {b n N : Nat} {F : Nat → Value} (hm : (b, BK N F T) ∈ B) (hl : n = l.length) (hN : n * s ≤ N) (hmx : n ≤ maxLen) (hF : ∀ i, i < n * s → F i = eG s c l i) : OJ T s c B (.slice (some ⟨b, 0, none⟩) n n) l := by
  subst hl
  exact .inr ⟨b, 0, _, N, F, hm, rfl, Nat.le_refl _, by omega, hmx, fun i hi => by rw [Nat.zero_add]; exact hF i hi⟩

theorem eG_drop {lo : Nat} (hlo : lo ≤ l.length) (hs : 0 < s) (i : Nat) : eG s c (l.drop lo) i = eG s c l (lo * s + i) := by
  simp only [eG, List.getElem?_drop]
  rw [Nat.mul_comm lo s, Nat.mul_add_div hs, Nat.mul_add_mod]
theorem eG_take {hi i : Nat} (h : i < (l.take hi).length * s) (hs : 0 < s) : eG s c (l.take hi) i = eG s c l i := by
  have h1 : i / s < (l.take hi).length := by rw [Nat.div_lt_iff_lt_mul hs]; exact h
  simp only [eG]
  rw [List.getElem?_take_of_lt (by simp at h1; omega)]

/-- What a slice of a slice is. -/
def cutV (v : Value) (s lo hi : Nat) : Value := match v with
  | .slice p _ cap => .slice (if cap = lo then p else p.map (·.add (lo * s))) (hi - lo) (cap - lo)
  | v => v

theorem OJ.cut {lo hi : Nat} (h : OJ T s c B v l) (hlo : lo ≤ hi) (hhi : hi ≤ l.length) (hs : 0 < s) : OJ T s c B (cutV v s lo hi) ((l.take hi).drop lo) := by
  rcases h with ⟨rfl, rfl⟩ | ⟨b, o, cp, N, F, h1, rfl, h3, h4, h5, h6⟩
  · simp at hhi
    subst hhi
    obtain rfl : lo = 0 := by omega
    exact .inl ⟨rfl, rfl⟩
  · have hlen : ((l.take hi).drop lo).length = hi - lo := by simp; omega
    have key : ∀ i, i < (hi - lo) * s → eG s c ((l.take hi).drop lo) i = eG s c l (lo * s + i) := by
      intro i hi'
      rw [eG_drop (by simp; omega) hs]
      refine eG_take ?_ hs
      rw [List.length_take, Nat.min_eq_left hhi]
      have : (hi - lo) * s + lo * s = hi * s := by rw [← Nat.add_mul]; congr 1; omega
      omega
    have hhs := Nat.mul_le_mul_right s hhi
    have hcs := Nat.mul_le_mul_right s h3
    have hls := Nat.mul_le_mul_right s hlo
    by_cases hcl : cp = lo
    · refine .inr ⟨b, o, cp - lo, N, F, h1, by simp [cutV, hcl, hlen], by rw [hlen]; omega, ?_, by omega, ?_⟩
      · subst hcl; simp; omega
      · intro i hi'
        rw [hlen] at hi'
        have : hi - lo = 0 := by omega
        rw [this] at hi'
        omega
    · refine .inr ⟨b, o + lo * s, cp - lo, N, F, h1, by simp [cutV, hcl, hlen, Addr.add_lit], by rw [hlen]; omega, ?_, by omega, ?_⟩
      · rw [Nat.sub_mul]
        have := Nat.mul_le_mul_right s (show lo ≤ cp by omega)
        omega
      · intro i hi'
        rw [hlen] at hi'
        rw [key i hi', Nat.add_assoc]
        refine h6 _ ?_
        have : (hi - lo) * s + lo * s = hi * s := by rw [← Nat.add_mul]; congr 1; omega
        omega

theorem SL.cut {lo hi : Nat} (h : SL w s c v l) (hlo : lo ≤ hi) (hhi : hi ≤ l.length) (hs : 0 < s) : SL w s c (cutV v s lo hi) ((l.take hi).drop lo) := by
  obtain ⟨p, cp, rfl, h3, h5, h6, h7⟩ := h
  have hlen : ((l.take hi).drop lo).length = hi - lo := by simp; omega
  have key : ∀ i, i < (hi - lo) * s → eG s c ((l.take hi).drop lo) i = eG s c l (lo * s + i) := by
    intro i hi'
    rw [eG_drop (by simp; omega) hs]
    refine eG_take ?_ hs
    rw [List.length_take, Nat.min_eq_left hhi]
    have : (hi - lo) * s + lo * s = hi * s := by rw [← Nat.add_mul]; congr 1; omega
    omega
  have hsum : (hi - lo) * s + lo * s = hi * s := by rw [← Nat.add_mul]; congr 1; omega
  have hhs := Nat.mul_le_mul_right s hhi
  refine ⟨if cp = lo then p else p.map (·.add (lo * s)), cp - lo, by rw [hlen]; rfl, by rw [hlen]; omega, by omega, ?_, ?_⟩
  · intro hp
    split at hp
    · omega
    · cases p with
      | none => have := h6 rfl; omega
      | some a => simp at hp
  · rw [hlen]
    rcases Nat.eq_zero_or_pos ((hi - lo) * s) with h0 | h0
    · exact .inl h0
    · rcases h7 with h7 | ⟨b, o, rfl, hc⟩
      · omega
      · have hpos : 0 < hi - lo := Nat.pos_of_mul_pos_right h0
        rw [if_neg (by omega)]
        refine .inr ⟨b, o + lo * s, by simp [Addr.add_lit], fun i hi' => ?_⟩
        rw [Nat.add_assoc, hc _ (by omega), key i hi']

/-- Where element k of a slice's cells lies. -/
def sadr (v : Value) (k : Nat) : Addr := match v with
  | .slice (some a) _ _ => a.add k
  | _ => ⟨0, k, none⟩

theorem SL.place {j : Nat} (h : SL w s c v l) (hj : j < l.length) (hs : 0 < s) : ∃ b o cap, v = .slice (some ⟨b, o, none⟩) l.length cap ∧ ∀ k, k < s → w.cell? ⟨b, o + (j * s + k), none⟩ = some (c l[j] k) := by
  obtain ⟨b, o, cp, hv, _, _, _, hc⟩ := Sl.at h hj hs
  refine ⟨b, o, cp, hv, fun k hk => ?_⟩
  have : j * s + k < l.length * s := by
    have := Nat.mul_le_mul_right s (show j + 1 ≤ l.length by omega)
    rw [Nat.add_mul, Nat.one_mul] at this
    omega
  rw [hc _ this, eG_at hj hk]
end

def errV (T : TypeId) (c : Int) : Value := if c = 0 then .nilIface else .iface T (.int .i64 c)

section
variable {α : Type} {P : Program} {n : Nat} {w0 : World} {env : Env} {H R : GH} {Q : Exit → Act → World → Prop} {ops : Array Oper} {rest : List Oper}
variable {ty : TypeId} {pos : String} {af : Array Edge} {g : Option (Nat × Bool)}
variable {t yt : TypeId} {x y : Operand} {b o N s : Nat} {T : TypeId} {c : α → Nat → Value} {v : Value} {l : List α} {B : GH}

/-- len, of a list -/
theorem o_lenL {d : Option Nat} {e : TypeId} {ts : Array TypeId} (ht : ts = #[t]) (he : P.underlying t = some (.slice e)) {args : Array Operand} (hargs : evL env args.toList = some [v]) (hv : ∃ p cap, v = .slice p l.length cap) :
    OT P w0 env H ⟨d, .call ⟨.builtin .len, args, ts⟩, ty, pos, af, g⟩ (Is (.int .i64 (l.length : Int)) H) := o_lenS ht he hargs hv

theorem o_ixL {d : Option Nat} {e : TypeId} {ag : Bool} {k : IntKind} {i : Int} (he : Elm P t e s ag) (hx : ev env x = some v) (hs0 : Nat.blt 0 s = true) (hv : ∀ w, St w0 H w → SL w s c v l) (hy : ev env y = some (.int k i)) (h0 : 0 ≤ i ∧ i < l.length) :
    OT P w0 env H ⟨d, .indexAddr t x y, ty, pos, af, g⟩ (Is (.pointer (some (sadr v (i.toNat * s)))) H) := by
  intro a w ha hst
  have hspos : 0 < s := by simpa [Nat.blt_eq] using hs0
  obtain ⟨b, o, cp, rfl, _⟩ := (hv w hst).place (j := i.toNat) (by omega) hspos
  simp only [sadr, Addr.add_lit]
  exact o_ixs (w0 := w0) (H := H) he hx hy h0 rfl a w ha hst

theorem o_ldL1 [Inhabited α] {d : Option Nat} {k j off q : Nat} {u : Value} (hx : ev env x = some (.pointer (some (sadr v k)))) (ht : TyS P t q false) (hs0 : Nat.blt off s = true) (hv : ∀ w, St w0 H w → SL w s c v l) (hj : j < l.length) (hk : k = j * s + off) (hu : c l[j]! off = u) :
    OT P w0 env H ⟨d, .load t x, ty, pos, af, g⟩ (Is u H) := by
  subst hk hu
  refine OT.val fun a w ha hs => ?_
  have hso : off < s := by simpa [Nat.blt_eq] using hs0
  obtain ⟨b, o, cp, rfl, hc⟩ := (hv w hs).place hj (by omega)
  rw [getElem!_pos l j hj]
  refine ⟨_, w, H, run_load1 (b := b) (o := o + (j * s + off)) ?_ ht (hc off hso), hs, rfl, rfl⟩
  rw [ha.ev hx]; simp [sadr, Addr.add_lit]

theorem o_ldLA [Inhabited α] {d : Option Nat} {k j off q : Nat} {f : Nat → Value} (hx : ev env x = some (.pointer (some (sadr v k)))) (ht : TyS P t q true) (hq : Nat.ble (off + q) s = true) (hq0 : Nat.blt 0 q = true) (hv : ∀ w, St w0 H w → SL w s c v l) (hj : j < l.length) (hk : k = j * s + off) (hu : ∀ i, i < q → c l[j]! (off + i) = f i) :
    OT P w0 env H ⟨d, .load t x, ty, pos, af, g⟩ (Is (AG q f) H) := by
  subst hk
  have hle := Nat.le_of_ble_eq_true hq
  have hq0' : 0 < q := by simpa [Nat.blt_eq] using hq0
  refine OT.val fun a w ha hs => ?_
  obtain ⟨b, o, cp, rfl, hc⟩ := (hv w hs).place hj (by omega)
  refine ⟨_, w, H, run_loadA (b := b) (o := o + (j * s + off)) (f := f) ?_ ht (fun i hi => ?_), hs, rfl, rfl⟩
  · rw [ha.ev hx]; simp [sadr, Addr.add_lit]
  · have := hc (off + i) (by omega)
    rw [show o + (j * s + off) + i = o + (j * s + (off + i)) by omega, this, ← hu i hi, getElem!_pos l j hj]
/-- A whole element that is a flat struct. -/
theorem o_ldLI {d : Option Nat} {l : List (Nat → Int)} {k j : Nat} (hx : ev env x = some (.pointer (some (sadr v k)))) (ht : TyS P t s true) (hs0 : Nat.blt 0 s = true) (hv : ∀ w, St w0 H w → SL w s iv v l) (hj : j < l.length) (hk : k = j * s) :
    OT P w0 env H ⟨d, .load t x, ty, pos, af, g⟩ (Is (AI s l[j]!) H) :=
  o_ldLA (off := 0) hx ht (by simp) hs0 hv hj hk (fun i _ => by rw [Nat.zero_add])

/-! Errors -/
theorem o_eqE {d : Option Nat} {ds : TypeDesc} {r : Int} (ht : P.underlying t = some ds) (hz : nilOf ds = some .nilIface) (hk : ∀ u, sameKind ds (.iface u (.int .i64 r)) = true) (hk0 : sameKind ds .nilIface = true) (hx : ev env x = some (errV T r)) :
    OT P w0 env H ⟨d, .binOp .eql t x (.const .nilIface) yt, ty, pos, af, g⟩ (Is (.bool (decide (r = 0))) H) := by
  refine o_eqn (r := decide (r = 0)) ht hz hx ?_ ?_
  · unfold errV; split
    · exact hk0
    · exact hk _
  · unfold errV; split
    · rename_i h; simp [isNilV, h]
    · rename_i h; simp [isNilV, h]
theorem o_neE {d : Option Nat} {ds : TypeDesc} {r : Int} (ht : P.underlying t = some ds) (hz : nilOf ds = some .nilIface) (hk : ∀ u, sameKind ds (.iface u (.int .i64 r)) = true) (hk0 : sameKind ds .nilIface = true) (hx : ev env x = some (errV T r)) :
    OT P w0 env H ⟨d, .binOp .neq t x (.const .nilIface) yt, ty, pos, af, g⟩ (Is (.bool (!decide (r = 0))) H) := by
  refine o_nen (r := decide (r = 0)) ht hz hx ?_ ?_
  · unfold errV; split
    · exact hk0
    · exact hk _
  · unfold errV; split
    · rename_i h; simp [isNilV, h]
    · rename_i h; simp [isNilV, h]

end
end Go.E

/- The engine, part 10: append to a slice whose segment may hold more; stores through places of elements. -/
namespace Go.E
open Go

/-- A slice in a segment: nil, or of n elements with cells G. -/
def Oj (T : TypeId) (s : Nat) (B : GH) (v : Value) (n : Nat) (G : Nat → Value) : Prop :=
  (v = .slice none 0 0 ∧ n = 0) ∨ ∃ b o c N F, (b, BK N F T) ∈ B ∧ v = .slice (some ⟨b, o, none⟩) n c ∧ n ≤ c ∧ o + c * s ≤ N ∧ c ≤ maxLen ∧ ∀ i, i < n * s → F (o + i) = G i
theorem Oj.val {T : TypeId} {s n : Nat} {B : GH} {v : Value} {G : Nat → Value} (h : Oj T s B v n G) : ∃ p c, v = .slice p n c ∧ n ≤ c ∧ c ≤ maxLen ∧ (p = none → c = 0) := by
  rcases h with ⟨h2, h3⟩ | ⟨b, o, c, N, F, h1, h3, h4, h5, h6, h7⟩
  · subst h3; exact ⟨none, 0, h2, Nat.le_refl _, Nat.zero_le _, fun _ => rfl⟩
  · exact ⟨_, c, h3, h4, h6, fun h => by cases h⟩
theorem Oj.ext {T : TypeId} {s n : Nat} {B : GH} {v : Value} {G G' : Nat → Value} (h : Oj T s B v n G) (hG : ∀ i, i < n * s → G i = G' i) : Oj T s B v n G' := by
  rcases h with h | ⟨b, o, c, N, F, h1, h3, h4, h5, h6, h7⟩
  · exact .inl h
  · exact .inr ⟨b, o, c, N, F, h1, h3, h4, h5, h6, fun i hi => (h7 i hi).trans (hG i hi)⟩

section
variable {P : Program} {n : Nat} {w0 : World} {env : Env} {H : GH} {Q : Exit → Act → World → Prop} {ops : Array Oper} {rest : List Oper}
variable {d : Option Nat} {op : Op} {ty : TypeId} {pos : String} {af : Array Edge} {g : Option (Nat × Bool)}
variable {t yt : TypeId} {x y : Operand} {b o N s : Nat} {F : Nat → Value} {m k : Nat → Int} {T : TypeId}

theorem o_appj {e : TypeId} {by_ : Nat} {z : Value} {B : GH} {v : Value} {n m c2 : Nat} {G S : Nat → Value} {q : Option Addr} {ts : Array TypeId} {args : Array Operand} (ht : App P t e s by_ z) (hts : ts = #[t, t])
    (hargs : evL env args.toList = some [v, .slice q m c2]) (hown : Oj e s B v n G) (hsrc : ∀ w, St w0 (B ++ H) w → SrcAt w q (m * s) S) (h1 : ∀ i, i < m * s → (S i).oneCell' = true) (hmax : n + m ≤ maxLen) (hby : (n + m) * by_ ≤ 140737488355328) :
    OT P w0 env (B ++ H) ⟨d, .call ⟨.builtin .append, args, ts⟩, ty, pos, af, g⟩ (fun v' H' => ∃ B', H' = B' ++ H ∧ Cov w0 B B' ∧ Oj e s B' v' (n + m) (app G (n * s) S)) :=
  OT.val fun a w ha hs => by
    subst hts
    have e1 : args.map a.eval = #[v, .slice q m c2] := Array.toList_inj.1 (by simpa using evL_spec ha _ _ hargs)
    have hexec : (execOp a.eval ⟨d, .call ⟨.builtin .append, args, #[t, t]⟩, ty, pos, af, g⟩).run P w = ((Builtin.append_ #[t, t] ty #[v, .slice q m c2]).run P w).andThen fun u w' => .ok (.value u) w' := by
      simp [execOp, resolve, invoke, builtin, e1]
    obtain ⟨i, hi, hi'⟩ := Option.map_eq_some_iff.1 ht.i
    simp only [Prod.mk.injEq] at hi'
    obtain ⟨hi1, hi2, hi3⟩ := hi'
    have hspos : 0 < s := by simpa [Nat.blt_eq] using ht.pos
    have hmx : maxLen = 9223372036854775807 := by decide
    have hsrc' := hsrc w hs
    -- the case of nothing to put
    rcases Nat.eq_zero_or_pos m with hm0 | hmpos
    · subst hm0
      obtain ⟨p, c, hv, hnc, hcm, hpn⟩ := hown.val
      have hr : (Builtin.append_ #[t, t] ty #[v, .slice q 0 c2]).run P w = .ok v w := by
        rw [hv]
        cases q <;> cases p <;> simp [Builtin.append_, run_underlying ht.u, Go.sizeOf, typeInfo, hi, Builtin.lenOf, hnc, Builtin.firstCells, loadCells, loadCellsFrom, storeCells]
      refine ⟨v, w, B ++ H, by rw [hexec, hr]; rfl, hs, B, rfl, Cov.refl B, ?_⟩
      rw [Nat.add_zero]
      exact hown.ext fun i hi => by simp [app, hi]
    · have hms : m * s ≠ 0 := Nat.mul_ne_zero (by omega) (by omega)
      rcases hsrc' with h0 | ⟨b2, o2, hq, hcells⟩
      · exact absurd h0 hms
      · subst hq
        have hl : ((List.range (m * s)).map S).length = m * i.size := by rw [hi1]; simp
        have hnews := list_src hcells
        have hoc : ∀ u ∈ (List.range (m * s)).map S, u.oneCell' = true := by
          intro u hu
          obtain ⟨j, hj, rfl⟩ := List.mem_map.1 hu
          exact h1 j (List.mem_range.1 hj)
        rcases hown with ⟨hv, hn0⟩ | ⟨b, o, c, N, F, hB, hv, hnc, hoN, hcm, hF⟩
        · subst hv hn0
          simp only [Nat.zero_add] at hmax hby
          have hr := run_append_nil (P := P) w t ty e i z ht.u hi hi3 ⟨b2, o2, none⟩ m c2 _ hl hnews hmpos (by omega) (by rw [hi2]; omega)
          have hgc := grownCap_ge w m 0 e
          have hgm := grownCap_le_maxLen w m 0 e (by omega)
          have hobj : Obj.cells (((List.range (m * s)).map S).toArray ++ Builtin.zeroCells z.cells (grownCap w m 0 e - m)) e = BK (grownCap w m 0 e * s) (fun j => (((List.range (m * s)).map S).toArray ++ Builtin.zeroCells z.cells (grownCap w m 0 e - m)).getD j undef) e := by
            unfold BK
            congr 1
            refine CV_eq ?_ fun j hj => ?_
            · simp only [Array.size_append, List.size_toArray, List.length_map, List.length_range, size_zeroCells, ht.z, ← Nat.add_mul]
              congr 1; omega
            · have hsz : (((List.range (m * s)).map S).toArray ++ Builtin.zeroCells z.cells (grownCap w m 0 e - m)).size = grownCap w m 0 e * s := by
                simp only [Array.size_append, List.size_toArray, List.length_map, List.length_range, size_zeroCells, ht.z, ← Nat.add_mul]
                congr 1; omega
              simp only [Array.getD_eq_getD_getElem?]
              rw [Array.getElem?_eq_getElem (by rw [hsz]; exact hj)]
              rfl
          have hst := (hs.drew).alloc (Obj.cells (((List.range (m * s)).map S).toArray ++ Builtin.zeroCells z.cells (grownCap w m 0 e - m)) e)
          refine ⟨_, _, _, by rw [hexec, hr]; rfl, hst, (w.heap.size, BK (grownCap w m 0 e * s) (fun j => (((List.range (m * s)).map S).toArray ++ Builtin.zeroCells z.cells (grownCap w m 0 e - m)).getD j undef) e) :: B, by rw [hobj]; rfl, Cov.new hs.size, ?_⟩
          refine .inr ⟨w.heap.size, 0, grownCap w m 0 e, _, _, List.mem_cons_self .., by rw [Nat.zero_add], by omega, by omega, hgm, fun j hj => ?_⟩
          simp only [Nat.zero_add] at hj ⊢
          simp only [app, Nat.zero_mul, Nat.not_lt_zero, if_false, Nat.sub_zero]
          rw [Array.getD_eq_getD_getElem?, Array.getElem?_append_left (by simpa using hj)]
          simp [hj]
        · subst hv
          by_cases hroom : n + m ≤ c
          · -- there is room
            have hbk : w.heap[b]? = some (BK N F e) := hs.own _ _ (List.mem_append_left _ hB)
            have hcs : (n + m) * s ≤ c * s := Nat.mul_le_mul_right _ hroom
            rw [Nat.add_mul] at hcs
            have hfc := run_firstCells_some (P := P) w i.size m ⟨b2, o2, none⟩ m c2 _ hl hnews
            have hst := run_storeCells_at P b (o + n * s) e ((List.range (m * s)).map S) 0 (CV N F) w hbk (by simp; omega) hoc
            simp only [Nat.add_zero] at hst
            have hr : (Builtin.append_ #[t, t] ty #[.slice (some ⟨b, o, none⟩) n c, .slice (some ⟨b2, o2, none⟩) m c2]).run P w = .ok (.slice (some ⟨b, o, none⟩) (n + m) c) (w.setRow b ((CV N F).toList.take (o + n * s) ++ (List.range (m * s)).map S ++ (CV N F).toList.drop (o + n * s + ((List.range (m * s)).map S).length)).toArray) := by
              subst hi1
              simp [Builtin.append_, run_underlying ht.u, Go.sizeOf, typeInfo, hi, Builtin.lenOf, hroom, hfc, Addr.add_lit]
              simp at hst
              rw [hst]
              rfl
            have hsp : ((CV N F).toList.take (o + n * s) ++ (List.range (m * s)).map S ++ (CV N F).toList.drop (o + n * s + ((List.range (m * s)).map S).length)).toArray = CV N (updR F (o + n * s) (m * s) S) :=
              splice_CV (by simp; omega) (fun j hj => by
                have hj' : j < m * s := by simpa using hj
                simp only [updR]
                rw [if_pos (by omega)]
                simp [hj']) (fun j _ hh => by
                simp only [List.length_map, List.length_range] at hh
                simp only [updR]; rw [if_neg (by omega)])
            obtain ⟨B', hB'⟩ := Upd.ex (BK N (updR F (o + n * s) (m * s) S) e) hB
            refine ⟨_, _, _, by rw [hexec, hr]; rfl, hs.setRow (N := N) (F := F) (T := e) (b := b) (f' := updR F (o + n * s) (m * s) S) (List.mem_append_left _ hB) hsp hB'.left, B', rfl, Cov.upd hB', ?_⟩
            refine .inr ⟨b, o, c, N, _, hB'.isin, rfl, hroom, hoN, hcm, fun j hj => ?_⟩
            rw [Nat.add_mul] at hj
            simp only [updR, app]
            by_cases hjn : j < n * s
            · rw [if_neg (by omega), if_pos hjn, hF j hjn]
            · rw [if_pos (by omega), if_neg hjn]; congr 1; omega
          · -- it grows
            have hns : n * s ≤ c * s := Nat.mul_le_mul_right _ hnc
            have hbk : w.heap[b]? = some (BK N F e) := hs.own _ _ (List.mem_append_left _ hB)
            have holds : ∀ j u, ((List.range (n * s)).map G)[j]? = some u → w.cell? ((⟨b, o, none⟩ : Addr).add j) = some u :=
              list_src fun j hj => by rw [cell_BK hbk (by omega), hF j hj]
            have hr := run_append_grow (P := P) w t ty e i z ht.u hi hi3 ⟨b, o, none⟩ n c ((List.range (n * s)).map G) (by rw [hi1]; simp) holds ⟨b2, o2, none⟩ m c2 _ hl hnews (by omega) (by omega) (growslice_fits (by omega) (by rw [hi2]; exact hby))
            have hgc := grownCap_ge w (n + m) c e
            have hgm := grownCap_le_maxLen w (n + m) c e hmax
            have hsz : (((List.range (n * s)).map G).toArray ++ ((List.range (m * s)).map S).toArray ++ Builtin.zeroCells z.cells (grownCap w (n + m) c e - (n + m))).size = grownCap w (n + m) c e * s := by
              simp only [Array.size_append, List.size_toArray, List.length_map, List.length_range, size_zeroCells, ht.z, ← Nat.add_mul]
              congr 1; omega
            have hobj : Obj.cells (((List.range (n * s)).map G).toArray ++ ((List.range (m * s)).map S).toArray ++ Builtin.zeroCells z.cells (grownCap w (n + m) c e - (n + m))) e =
                BK (grownCap w (n + m) c e * s) (fun j => (((List.range (n * s)).map G).toArray ++ ((List.range (m * s)).map S).toArray ++ Builtin.zeroCells z.cells (grownCap w (n + m) c e - (n + m))).getD j undef) e := by
              unfold BK
              congr 1
              refine CV_eq hsz fun j hj => ?_
              simp only [Array.getD_eq_getD_getElem?]
              rw [Array.getElem?_eq_getElem (by rw [hsz]; exact hj)]
              rfl
            have hst := (hs.drew).alloc (Obj.cells (((List.range (n * s)).map G).toArray ++ ((List.range (m * s)).map S).toArray ++ Builtin.zeroCells z.cells (grownCap w (n + m) c e - (n + m))) e)
            refine ⟨_, _, _, by rw [hexec, hr]; rfl, hst, (w.heap.size, BK (grownCap w (n + m) c e * s) (fun j => (((List.range (n * s)).map G).toArray ++ ((List.range (m * s)).map S).toArray ++ Builtin.zeroCells z.cells (grownCap w (n + m) c e - (n + m))).getD j undef) e) :: B, by rw [hobj]; rfl, Cov.new hs.size, ?_⟩
            refine .inr ⟨w.heap.size, 0, grownCap w (n + m) c e, _, _, List.mem_cons_self .., rfl, hgc, by omega, hgm, fun j hj => ?_⟩
            rw [Nat.add_mul] at hj
            simp only [Nat.zero_add, app]
            rw [Array.getD_eq_getD_getElem?, Array.getElem?_append_left (by simp; omega)]
            by_cases hjn : j < n * s
            · rw [if_pos hjn, Array.getElem?_append_left (by simpa using hjn)]
              simp [hjn]
            · rw [if_neg hjn, Array.getElem?_append_right (by simp; omega)]
              simp [show j - n * s < m * s by omega]


end
section
variable {α : Type} {P : Program} {w0 : World} {env : Env} {H : GH}
variable {d : Option Nat} {ty : TypeId} {pos : String} {af : Array Edge} {g : Option (Nat × Bool)} {t : TypeId} {s : Nat} {c : α → Nat → Value}

/-- append, of lists. -/
theorem o_appJ {e : TypeId} {by_ : Nat} {z : Value} {B : GH} {v u : Value} {l l' : List α} {ts : Array TypeId} {args : Array Operand} (ht : App P t e s by_ z) (hts : ts = #[t, t])
    (hargs : evL env args.toList = some [v, u]) (hown : OJ e s c B v l) (hsrc : ∀ w, St w0 (B ++ H) w → SL w s c u l') (h1 : ∀ (a : α) (i : Nat), (c a i).oneCell' = true) (hby : (l.length + l'.length) * by_ ≤ 140737488355328) (hmax : l.length + l'.length ≤ maxLen) :
    OT P w0 env (B ++ H) ⟨d, .call ⟨.builtin .append, args, ts⟩, ty, pos, af, g⟩ (fun v' H' => ∃ B', H' = B' ++ H ∧ Cov w0 B B' ∧ OJ e s c B' v' (l ++ l')) := by
  intro a w ha hs
  obtain ⟨p, cap, hu, _, _, hpn, hsrc0⟩ := hsrc w hs
  subst hu
  have hspos : 0 < s := by simpa [Nat.blt_eq] using ht.pos
  have hsrc2 : ∀ w', St w0 (B ++ H) w' → SrcAt w' p (l'.length * s) (eG s c l') := by
    intro w' hs'
    obtain ⟨p', cap', hu', _, _, _, h⟩ := hsrc w' hs'
    cases hu'
    exact h
  have h1' : ∀ i, i < l'.length * s → (eG s c l' i).oneCell' = true := by
    intro i hi
    have : i / s < l'.length := by rw [Nat.div_lt_iff_lt_mul hspos]; exact hi
    simp only [eG, List.getElem?_eq_getElem this, Option.elim_some, h1]
  have hj : Oj e s B v l.length (eG s c l) := by
    rcases hown with ⟨h1, h2⟩ | h
    · exact .inl ⟨h1, by rw [h2]; rfl⟩
    · exact .inr h
  have := o_appj (d := d) (ty := ty) (pos := pos) (af := af) (g := g) (B := B) (H := H) (n := l.length) (m := l'.length) ht hts hargs hj hsrc2 h1' hmax hby a w ha hs
  refine wp_mono2 ?_ (fun _ _ _ h => h.elim) this
  rintro a' w' ⟨v', H', rfl, hs', B', rfl, hcov, hown'⟩
  refine ⟨v', _, rfl, hs', B', rfl, hcov, ?_⟩
  have hx := hown'.ext (eG_app hspos c l l')
  rcases hx with ⟨h1, h2⟩ | ⟨b, o, cp, N, F, h1, h2⟩
  · exact .inl ⟨h1, by rw [← List.length_append] at h2; exact List.length_eq_zero_iff.1 h2⟩
  · exact .inr ⟨b, o, cp, N, F, h1, by rw [List.length_append]; exact h2⟩

/-- A store into an element. -/
theorem eG_set {l : List α} {j : Nat} (e : α) (hj : j < l.length) (hs : 0 < s) (i : Nat) : eG s c (l.set j e) i = if j * s ≤ i ∧ i < j * s + s then c e (i - j * s) else eG s c l i := by
  simp only [eG, List.getElem?_set]
  have hdm := Nat.div_add_mod i s
  have hml := Nat.mod_lt i hs
  by_cases h : j = i / s
  · subst h
    rw [Nat.mul_comm] at hdm
    rw [if_pos rfl, if_pos hj, if_pos (by omega)]
    simp only [Option.elim_some]
    congr 1; omega
  · rw [if_neg h, if_neg]
    intro hh
    apply h
    have h1 : j ≤ i / s := (Nat.le_div_iff_mul_le hs).2 hh.1
    have h2 : i / s < j + 1 := by rw [Nat.div_lt_iff_lt_mul hs, Nat.add_mul, Nat.one_mul]; exact hh.2
    omega

theorem OJ.set {T : TypeId} {B : GH} {v : Value} {l : List α} {j : Nat} (h : OJ T s c B v l) (hj : j < l.length) (hs : 0 < s) (e : α) : ∃ b o cap N F, v = .slice (some ⟨b, o, none⟩) l.length cap ∧ (b, BK N F T) ∈ B ∧ o + (j * s + s) ≤ N ∧
    ∀ B', Upd B b (BK N (updR F (o + j * s) s (c e)) T) B' → OJ T s c B' v (l.set j e) := by
  rcases h with ⟨_, rfl⟩ | ⟨b, o, cap, N, F, h1, h2, h3, h4, h5, h6⟩
  · simp at hj
  · have hle := Nat.mul_le_mul_right s (show j + 1 ≤ l.length by omega)
    have hle2 := Nat.mul_le_mul_right s h3
    rw [Nat.add_mul, Nat.one_mul] at hle
    refine ⟨b, o, cap, N, F, h2, h1, by omega, fun B' hu => .inr ⟨b, o, cap, N, _, hu.isin, by rw [List.length_set]; exact h2, by rw [List.length_set]; exact h3, h4, h5, fun i hi => ?_⟩⟩
    rw [List.length_set] at hi
    rw [eG_set e hj hs]
    simp only [updR]
    by_cases hh : j * s ≤ i ∧ i < j * s + s
    · rw [if_pos (by omega), if_pos hh]; congr 1; omega
    · rw [if_neg (by omega), if_neg hh, h6 i hi]

end
end Go.E
namespace Go.E
open Go
section
variable {P : Program} {n : Nat} {w0 : World} {env : Env} {H : GH} {o : Oper}
theorem OT.st {H1 : GH} {R : Value → GH → Prop} (hh : ∀ w, St w0 H w → St w0 H1 w) (h : OT P w0 env H1 o R) : OT P w0 env H o R := fun a w ha hs => h a w ha (hh w hs)
end
end Go.E
namespace Go.E
open Go
section
variable {P : Program} {n : Nat} {w0 : World} {ops : Array Oper} {KS : List Nat} {env0 env : Env} {dn : List Nat} {H RS : GH} {Q : Exit → Act → World → Prop}
end
end Go.E

/- The engine, part 11: small things that the printed walks use. -/
namespace Go.E
open Go
theorem toNat_lt {i : Int} {n : Nat} (h : 0 ≤ i ∧ i < n) : i.toNat < n := by omega
theorem oneOf {v : Value} {n : Nat} (h : ∃ p c, v = .slice p n c) : v.oneCell' = true := by obtain ⟨p, c, rfl⟩ := h; rfl
theorem len_max {k b : Nat} (h : k * b ≤ 140737488355328) (hb : 0 < b) : k ≤ maxLen := by
  have : k * 1 ≤ k * b := Nat.mul_le_mul_left k hb
  have e : maxLen = 9223372036854775807 := by decide
  omega
theorem bnT {b : Bool} (h : (!b) = true) : b = false := by simpa using h
theorem bnF {b : Bool} (h : (!b) = false) : b = true := by simpa using h
theorem bne' {b : Bool} (h : b = false) : ¬ b = true := by simp [h]
section
variable {P : Program} {n : Nat} {w0 : World} {env : Env} {H : GH} {Q : Exit → Act → World → Prop} {ops : Array Oper} {rest : List Oper}
variable {ty : TypeId} {pos : String} {af : Array Edge} {g : Option (Nat × Bool)} {t : TypeId} {x y : Operand}
theorem o_mkE {d : Option Nat} {i : Int} {ds : TypeDesc} (hx : ev env x = some (.int .i64 i)) (h1 : P.underlying t = some ds) (h2 : (match ds with | .interface _ => false | _ => true) = true) (hi : i ≠ 0) :
    OT P w0 env H ⟨d, .makeInterface t x, ty, pos, af, g⟩ (Is (errV t i) H) := by
  rw [show errV t i = .iface t (.int .i64 i) from if_neg hi]
  exact o_mki hx h1 h2
end
end Go.E

/- The engine, part 12: calls entered in place; loops taken apart round by round; results that lie in memory; blocks that are given; permuted lists of blocks. -/
namespace Go.E
open Go

section
variable {P : Program} {n : Nat} {w0 : World} {env : Env} {H : GH} {Q : Exit → Act → World → Prop} {ops : Array Oper} {rest : List Oper}
variable {ty : TypeId} {pos : String} {af : Array Edge} {g : Option (Nat × Bool)}

/-! ### A loop, one round at a time -/
/-! ### A call entered in place -/
theorem calls_in {f : FuncId} {fn : Func} {c : Code} {vs : List Value} {l : Env} {m : Nat} {w : World} {R : Value → GH → Prop} (hf : P.funcs[f]? = some fn) (hb : fn.body = some c) (hm : fn.ntmps = m) (hsz : Nat.ble vs.length m = true) (hl : LiveA vs l)
    (h : XW P m w0 l H c (bodyPost P fn (GoodEnd w0 R))) (hs : St w0 H w) : Calls P f vs.toArray w (GoodEnd w0 R) := by
  refine calls_of_wp hf hb (h _ w ⟨?_, rfl, ?_⟩ hs)
  · have := Nat.le_of_ble_eq_true hsz
    simp only [Array.size_append, Array.size_replicate, hm, List.size_toArray]
    omega
  · intro t v ht
    have h1 : vs.toArray[t]? = some v := by rw [List.getElem?_toArray]; exact hl.get t v ht
    have hlt := (Array.getElem?_eq_some_iff.1 h1).1
    simp only [Array.getD_eq_getD_getElem?]
    rw [Array.getElem?_append_left hlt, h1]
    rfl
theorem ot_enter {o : Oper} {f : FuncId} {fn : Func} {c : Code} {vs : List Value} {l : Env} {m : Nat} {R : Value → GH → Prop}
    (hrun : ∀ a w, AgV env a → (execOp a.eval o).run P w = .ok (.enter f vs.toArray) w)
    (hf : P.funcs[f]? = some fn) (hb : fn.body = some c) (hm : fn.ntmps = m) (hsz : Nat.ble vs.length m = true) (hl : LiveA vs l)
    (h : XW P m w0 l H c (bodyPost P fn (GoodEnd w0 R))) : OT P w0 env H o R := by
  intro a w ha hs
  unfold Oper.wp
  rw [hrun a w ha, Oper.upon_enter]
  refine Calls.mono (calls_in hf hb hm hsz hl h hs) ?_
  rintro e w' ⟨v, F, rfl, hst, hR⟩
  exact ⟨v, F, rfl, hst, hR⟩
/-- A function by its name. -/
theorem ot_in {d : Option Nat} {f : FuncId} {fn : Func} {c : Code} {vs : List Value} {l : Env} {m : Nat} {R : Value → GH → Prop} {args : Array Operand} {ts : Array TypeId} (hk : IsFn P f) (hargs : evL env args.toList = some vs)
    (hf : P.funcs[f]? = some fn) (hb : fn.body = some c) (hm : fn.ntmps = m) (hsz : Nat.ble vs.length m = true) (hl : LiveA vs l)
    (h : XW P m w0 l H c (bodyPost P fn (GoodEnd w0 R))) : OT P w0 env H ⟨d, .call ⟨.value (.func f), args, ts⟩, ty, pos, af, g⟩ R := by
  refine ot_enter (fun a w ha => ?_) hf hb hm hsz hl h
  cases d with
  | some d => exact run_call hk hargs a w ha
  | none =>
    have hm : args.map a.eval = vs.toArray := Array.toList_inj.1 (by simpa using evL_spec ha _ _ hargs)
    simp only [execOp, resolve, Sem.run_bind, Act.eval, Deferred.ofValue, Sem.run_pure, Result.andThen_ok, invoke, hm]
    simpa using run_callFunc hk vs.toArray w
/-- One operation, whatever it may answer: what comes behind it stands in R. -/
theorem xoR {d : Nat} {op : Op} (hd : Nat.blt d n = true) (hw : Wt ops env g) (h : OT P w0 env H ⟨some d, op, ty, pos, af, g⟩ (fun v H' => XO P n w0 ((d, v) :: env) H' ops rest Q)) : XO P n w0 env H ops (⟨some d, op, ty, pos, af, g⟩ :: rest) Q :=
  xo hd hw h fun _ _ hr => hr
/-! ### Results -/
inductive ResV (P : Program) (env : Env) (H : GH) : List ResultVar → List Value → Prop
  | nil : ResV P env H [] []
  | tmp {t : Nat} {v : Value} {l : List ResultVar} {vs : List Value} (h : lk t env = some v) (k : ResV P env H l vs) : ResV P env H (.tmp t :: l) (v :: vs)
  | cell {t b s : Nat} {ty T : TypeId} {F : Nat → Value} {l : List ResultVar} {vs : List Value} (h : lk t env = some (.pointer (some ⟨b, 0, none⟩))) (ht : TyS P ty s true) (hm : (b, BK s F T) ∈ H) (k : ResV P env H l vs) : ResV P env H (.cell t ty :: l) (AG s F :: vs)
  | cell1 {t b q : Nat} {ty T : TypeId} {v : Value} {l : List ResultVar} {vs : List Value} (h : lk t env = some (.pointer (some ⟨b, 0, none⟩))) (ht : TyS P ty q false) (hm : (b, BK 1 (fun _ => v) T) ∈ H) (k : ResV P env H l vs) : ResV P env H (.cell t ty :: l) (v :: vs)
theorem ResV.run {l : List ResultVar} {vs : List Value} (h : ResV P env H l vs) {a : Act} (ha : AgV env a) {w : World} (hs : St w0 H w) :
    (l.mapM (m := Sem) fun | .tmp t => pure (a.tmps.getD t undef) | .cell b t => do loadVar t (← asAddr (a.tmps.getD b undef))).run P w = .ok vs w := by
  induction h with
  | nil => simp
  | @tmp t v l vs h k ih =>
    simp [ha t v h, ih, -Array.getD_eq_getD_getElem?]
  | @cell t b s ty T F l vs h ht hm k ih =>
    have hlo := run_loadCells (P := P) w ⟨b, 0, none⟩ s F (fun j hj => by rw [Addr.add_lit, Nat.zero_add]; exact cell_BK (hs.own _ _ hm) hj)
    have hv : (loadVar ty ⟨b, 0, none⟩).run P w = .ok (AG s F) w := by
      simp [loadVar, ht.isAgg, ht.sizeOf, hlo, AG, CV]
    have hA : (asAddr (a.tmps.getD t undef)).run P w = .ok ⟨b, 0, none⟩ w := by rw [ha t _ h]; rfl
    simp [hA, hv, ih, -Array.getD_eq_getD_getElem?]
  | @cell1 t b q ty T v l vs h ht hm k ih =>
    have hc := cell_BK (hs.own _ _ hm) (show 0 < 1 by omega)
    have hv : (loadVar ty ⟨b, 0, none⟩).run P w = .ok v w := by
      simp [loadVar, ht.isAgg, hc]
    have hA : (asAddr (a.tmps.getD t undef)).run P w = .ok ⟨b, 0, none⟩ w := by rw [ha t _ h]; rfl
    simp [hA, hv, ih, -Array.getD_eq_getD_getElem?]
def tupV : List Value → Value
  | [v] => v
  | l => .tuple l.toArray
theorem con_retN {fn : Func} {w : World} {G : Value → GH → Prop} {e : Exit} (he : e = .ret ∨ e = .normal) {l : List ResultVar} {vs : List Value} {v : Value} (hr : fn.results = l.toArray) (h : ResV P env H l vs) (hv : tupV vs = v)
    (F : GH) (hF : ∀ w', St w H w' → St w F w') (hG : G v F) : XQ n w env H e (bodyPost P fn (GoodEnd w G)) := by
  intro a w' ha hs
  have hrun : (results fn a.tmps).run P w' = .ok v w' := by
    have h1 := h.run ha.get hs
    simp only [results, hr, List.mapM_toArray]
    subst hv
    simp [-Array.getD_eq_getD_getElem?]
    refine Eq.trans (congrArg (fun r => Result.andThen r fun a w' => Result.ok (if h : a.length = 1 then a[0] else Value.tuple a.toArray) w') h1) ?_
    match vs with
    | [] => rfl
    | [v] => rfl
    | v :: u :: r => rfl
  rcases he with rfl | rfl <;> exact ⟨ha.defers, _, hrun, _, F, rfl, hF w' hs, hG⟩
end
end Go.E

/- The engine, part 13: blocks that are given, calls that change them, blocks of several kinds of cells. -/
namespace Go.E
open Go

/-! ### Lists of segments -/
def cat : List GH → GH
  | [] => []
  | S :: L => S ++ cat L
theorem cat_perm {L L' : List GH} (h : L.Perm L') : (cat L).Perm (cat L') := by
  induction h with
  | nil => exact List.Perm.refl _
  | cons x h ih => exact List.Perm.append_left x ih
  | swap x y l =>
    show (y ++ (x ++ cat l)).Perm (x ++ (y ++ cat l))
    rw [← List.append_assoc, ← List.append_assoc]
    exact List.Perm.append_right _ List.perm_append_comm
  | trans h1 h2 ih1 ih2 => exact ih1.trans ih2
theorem cat_append (L L' : List GH) : cat (L ++ L') = cat L ++ cat L' := by
  induction L with
  | nil => rfl
  | cons x L ih => show x ++ cat (L ++ L') = (x ++ cat L) ++ cat L'; rw [ih, List.append_assoc]
theorem map_getD_range (L : List GH) : (List.range L.length).map (fun i => L.getD i []) = L := by
  apply List.ext_getElem?
  intro i
  by_cases h : i < L.length
  · simp [h]
  · simp [h]
theorem St.permI {w0 w : World} (σ : List Nat) (L : List GH) (h : List.isPerm σ (List.range L.length) = true) (hs : St w0 (cat L) w) : St w0 (cat (σ.map fun i => L.getD i [])) w := by
  refine hs.perm ?_
  have h1 := (List.isPerm_iff.1 h).map (fun i => L.getD i [])
  rw [map_getD_range] at h1
  exact cat_perm h1.symm

theorem St.permJ {w0 w : World} (σ : List Nat) (L : List GH) (hs : St w0 (cat L) w) (h : List.isPerm σ (List.range L.length) = true := by kernel_rfl) : St w0 (cat (σ.map fun i => L.getD i [])) w := St.permI σ L h hs
/-! ### What is given -/
def Has (w : World) (C : GH) : Prop := (∀ b o, (b, o) ∈ C → w.heap[b]? = some o) ∧ (keys C).Nodup
theorem St.has {w0 w : World} {C R : GH} (h : St w0 (C ++ R) w) : Has w C := by
  refine ⟨fun b o hm => h.own b o (List.mem_append_left _ hm), ?_⟩
  have := h.nd
  rw [keys_append] at this
  exact (List.nodup_append.1 this).1
theorem St.hasC {w0 w : World} {Cs Rs : List GH} (h : St w0 (cat (Cs ++ Rs)) w) : Has w (cat Cs) := by
  rw [cat_append] at h; exact h.has
theorem Has.st {w w' : World} {C : GH} (h : Has w C) (hs : St w [] w') : St w C w' := by
  have hk : ∀ k, k < w.heap.size → w'.heap[k]? = w.heap[k]? := fun k hk => hs.keep k hk (by simp)
  refine ⟨hs.os, hs.tape, hs.out, hs.size, fun b o hm => ?_, h.2, fun k hlt _ => hk k hlt⟩
  have := h.1 b o hm
  rw [hk b (Array.getElem?_eq_some_iff.1 this).1]; exact this

section
variable {P : Program} {n : Nat} {w0 : World} {env : Env} {H : GH} {Q : Exit → Act → World → Prop} {ops : Array Oper} {rest : List Oper}
variable {ty : TypeId} {pos : String} {af : Array Edge} {g : Option (Nat × Bool)}
theorem xw_has {C : GH} {c : Code} (h : Has w0 C) (k : XW P n w0 env C c Q) : XW P n w0 env [] c Q := fun a w ha hs => k a w ha (h.st hs)

def CatG (G : Value → List GH → Prop) : Value → GH → Prop := fun v F => ∃ Ls, F = cat Ls ∧ G v Ls
/-- A call that is given blocks. -/
theorem ot_callG {Cs Rs : List GH} {o : Oper} {f : FuncId} {vs : List Value} {G : World → Value → List GH → Prop}
    (hrun : ∀ a w, AgV env a → (execOp a.eval o).run P w = .ok (.enter f vs.toArray) w)
    (h : ∀ w, St w0 (cat (Cs ++ Rs)) w → Con P f vs.toArray w (CatG (G w))) (hcov : ∀ w v Ls, G w v Ls → Cov w (cat Cs) (cat Ls)) :
    OT P w0 env (cat (Cs ++ Rs)) o (fun v H' => ∃ w Ls, H' = cat (Ls ++ Rs) ∧ w0.heap.size ≤ w.heap.size ∧ G w v Ls) := by
  intro a w ha hs
  unfold Oper.wp
  rw [hrun a w ha, Oper.upon_enter]
  refine Calls.mono (h w hs) ?_
  rintro e w' ⟨v, F, rfl, hst, Ls, rfl, hG⟩
  have hc := hcov w v Ls hG
  refine ⟨v, cat (Ls ++ Rs), rfl, ?_, w, Ls, rfl, hs.size, hG⟩
  rw [cat_append] at hs ⊢
  have hnd := hs.nd
  simp only [keys_append, List.nodup_append] at hnd
  refine hs.trans hst ?_ ?_ ?_ ?_
  · simp only [keys_append, List.nodup_append]
    refine ⟨hst.nd, hnd.2.1, ?_⟩
    intro a ha b hb e
    subst e
    rcases hc.1 a ha with h1 | h1
    · exact hnd.2.2 a h1 a hb rfl
    · have := hs.klt (b := a) (by simp [hb])
      omega
  · intro b o hm
    rcases List.mem_append.1 hm with hm | hm
    · exact .inl hm
    · refine .inr ⟨List.mem_append_right _ hm, fun hb => ?_⟩
      rcases hc.1 b hb with h1 | h1
      · exact hnd.2.2 b h1 b (mem_keys hm) rfl
      · have := hs.klt (b := b) (by simp [mem_keys hm])
        omega
  · intro b hb _
    simp [hb]
  · intro b hb _
    simp only [keys_append, List.mem_append] at hb ⊢
    exact hb.imp (hc.2 b) id
theorem ot_callF {Cs Rs : List GH} {d : Nat} {f : FuncId} {args : Array Operand} {ts : Array TypeId} {vs : List Value} {G : World → Value → List GH → Prop} (hk : IsFn P f) (hargs : evL env args.toList = some vs)
    (h : ∀ w, St w0 (cat (Cs ++ Rs)) w → Con P f vs.toArray w (CatG (G w))) (hcov : ∀ w v Ls, G w v Ls → Cov w (cat Cs) (cat Ls)) :
    OT P w0 env (cat (Cs ++ Rs)) ⟨some d, .call ⟨.value (.func f), args, ts⟩, ty, pos, af, g⟩ (fun v H' => ∃ w Ls, H' = cat (Ls ++ Rs) ∧ w0.heap.size ≤ w.heap.size ∧ G w v Ls) :=
  ot_callG (run_call hk hargs) h hcov
/-! ### Cells of several kinds -/
def cl (l : List Value) : Nat → Value := fun i => l.getD i undef
variable {d : Option Nat} {t yt : TypeId} {x y : Operand} {b o N s : Nat} {T : TypeId} {l l' : List Value}
theorem o_stC {H' : GH} {v : Value} (hx : ev env x = some (.pointer (some ⟨b, o, none⟩))) (hy : ev env y = some v) (ht : TyS P t 1 false) (h1 : v.oneCell' = true) (hm : (b, BK N (cl l) T) ∈ H) (hN : l.length = N) (ho : o < N) (hl : l.set o v = l')
    (hu : Upd H b (BK N (cl l') T) H') : OT P w0 env H ⟨none, .store t x y, ty, pos, af, g⟩ (Is undef H') :=
  o_st hx hy ht h1 hm ho (by
    rw [BK_ext (g := cl l') (fun i hi => ?_)]
    · exact hu
    · subst hl
      simp only [upd, cl, List.getD_eq_getElem?_getD, List.getElem?_set]
      by_cases h : i = o
      · subst h; rw [if_pos rfl, if_pos rfl, if_pos (by omega)]; rfl
      · rw [if_neg h, if_neg (fun e => h e.symm)])
theorem o_stCA {H' : GH} {f : Nat → Value} (hx : ev env x = some (.pointer (some ⟨b, o, none⟩))) (hy : ev env y = some (AG s f)) (ht : TyS P t s true) (h1 : ∀ i, i < s → (f i).oneCell' = true) (hm : (b, BK N (cl l) T) ∈ H) (ho : o + s ≤ N) (hl : ∀ i, i < N → updR (cl l) o s f i = cl l' i)
    (hu : Upd H b (BK N (cl l') T) H') : OT P w0 env H ⟨none, .store t x y, ty, pos, af, g⟩ (Is undef H') :=
  o_stS hx hy ht h1 hm ho (by rw [BK_ext (g := cl l') hl]; exact hu)
end
end Go.E
namespace Go.E
open Go
section
variable {P : Program} {n : Nat} {w0 : World} {env : Env} {H : GH} {Q : Exit → Act → World → Prop} {ops : Array Oper} {rest : List Oper}
theorem Cov.more {w0 : World} {A B N : GH} (h : Cov w0 A B) (k : Cov w0 [] N) : Cov w0 A (B ++ N) := by
  have := h.app k
  rwa [List.append_nil] at this
theorem Cov.app0 {w0 : World} {N M : GH} (h : Cov w0 [] N) (k : Cov w0 [] M) : Cov w0 [] (N ++ M) := h.app k
theorem Cov.nil {w0 : World} : Cov w0 [] [] := Cov.refl _
/-- What is not given may be forgotten: a list of blocks that covers what was given. -/
theorem OJ.left {α : Type} {T : TypeId} {s : Nat} {c : α → Nat → Value} {B N : GH} {v : Value} {l : List α} (h : OJ T s c B v l) : OJ T s c (B ++ N) v l := h.mono fun _ hx => List.mem_append_left _ hx
theorem OJ.right {α : Type} {T : TypeId} {s : Nat} {c : α → Nat → Value} {B N : GH} {v : Value} {l : List α} (h : OJ T s c N v l) : OJ T s c (B ++ N) v l := h.mono fun _ hx => List.mem_append_right _ hx
variable {ty : TypeId} {pos : String} {af : Array Edge} {g : Option (Nat × Bool)} {d : Option Nat} {x : Operand}
theorem o_boxC {e : TypeId} {k : Nat} {f : Nat → Value} (l : List Value) (hx : ev env x = some (AG k f)) (hf : ∀ i, i < k → f i = cl l i) : OT P w0 env H ⟨d, .box e x, ty, pos, af, g⟩ (NewAt w0 (BK k (cl l) e) H) := by
  rw [AG_ext hf] at hx; exact o_boxA hx
theorem o_allocC {e : TypeId} {k : Nat} {f : Nat → Value} (l : List Value) (hz : ZeroT P e (AG k f)) (hf : ∀ i, i < k → f i = cl l i) : OT P w0 env H ⟨d, .alloc e, ty, pos, af, g⟩ (NewAt w0 (BK k (cl l) e) H) := by
  rw [AG_ext hf] at hz; exact o_alloc hz rfl
end
end Go.E
namespace Go.E
open Go
section
variable {P : Program} {w0 : World} {env : Env} {H : GH} {ty : TypeId} {pos : String} {af : Array Edge} {g : Option (Nat × Bool)} {d : Option Nat} {t : TypeId} {N : Nat}
theorem o_buildC {ps : Array (Nat × Operand)} {zf f : Nat → Value} (l : List Value) (hok : FldsOk P t) (hz : ZeroT P t (AG N zf)) (hf : Fill P t N env ps.toList zf f) (hl : ∀ i, i < N → f i = cl l i) : OT P w0 env H ⟨d, .build t ps, ty, pos, af, g⟩ (Is (AG N (cl l)) H) := by
  rw [← AG_ext hl]; exact o_build hok hz hf
end
end Go.E
namespace Go.E
open Go
theorem SL.nilOr {α : Type} {w : World} {s : Nat} {c : α → Nat → Value} {v : Value} {l : List α} (h : SL w s c v l) : ((isNilV v = some true ∧ ∀ e, sameKind (.slice e) v = true) ∧ l = []) ∨ (isNilV v = some false ∧ ∀ e, sameKind (.slice e) v = true) := by
  obtain ⟨p, cp, rfl, h2, h3, h4, h5⟩ := h
  cases p with
  | none => exact .inl ⟨⟨rfl, fun _ => rfl⟩, List.length_eq_zero_iff.1 (by have := h4 rfl; omega)⟩
  | some a => exact .inr ⟨rfl, fun _ => rfl⟩
theorem OJ.nilOr {α : Type} {T : TypeId} {s : Nat} {c : α → Nat → Value} {B : GH} {v : Value} {l : List α} (h : OJ T s c B v l) : ((isNilV v = some true ∧ ∀ e, sameKind (.slice e) v = true) ∧ l = []) ∨ (isNilV v = some false ∧ ∀ e, sameKind (.slice e) v = true) := by
  rcases h with ⟨rfl, rfl⟩ | ⟨b, o, cp, N, F, h1, rfl, h2⟩
  · exact .inl ⟨⟨rfl, fun _ => rfl⟩, rfl⟩
  · exact .inr ⟨rfl, fun _ => rfl⟩
end Go.E

/- The engine, part 14: shifts, bits, max and min, cut to its length. -/
namespace Go.E
open Go
section
variable {P : Program} {n : Nat} {w0 : World} {env : Env} {H : GH} {Q : Exit → Act → World → Prop} {ops : Array Oper} {rest : List Oper}
variable {ty : TypeId} {pos : String} {af : Array Edge} {g : Option (Nat × Bool)} {d : Option Nat} {t yt : TypeId} {x y : Operand} {i j : Int} {k' : IntKind}
end
end Go.E
namespace Go.E
open Go
def reach (ops : Array Oper) : Nat → Nat → List Nat
  | 0, i => aft ops i
  | f + 1, i => aft ops i ++ (aft ops i).flatMap (reach ops f)
section
variable {P : Program} {n : Nat} {w0 : World} {ops : Array Oper} {KS : List Nat} {env0 env : Env} {dn : List Nat} {H RS : GH} {Q : Exit → Act → World → Prop}
theorem reach_listed {listed : Array Bool} (hd : ∀ j, listed.getD j false = true → ∀ k ∈ aft ops j, listed.getD k false = true) : ∀ f i, (∀ k ∈ aft ops i, listed.getD k false = true) → ∀ k ∈ reach ops f i, listed.getD k false = true
  | 0, _, h, k, hk => h k hk
  | f + 1, i, h, k, hk => by
    rcases List.mem_append.1 hk with hk | hk
    · exact h k hk
    · obtain ⟨j, hj, hk⟩ := List.mem_flatMap.1 hk
      exact reach_listed hd f j (fun q hq => hd j (h j hj) q hq) k hk
def noRs (p : Rec) : Rec := ⟨p.i, p.l, [], p.v⟩
theorem map_noRs (dl : List Rec) : (dl.map noRs).map (·.i) = dl.map (·.i) := by simp [noRs]
theorem envOK_noRs {dl : List Rec} (h : EnvOK ops env0 dl env) : EnvOK ops env0 (dl.map noRs) env := by
  intro s v hs
  rcases h s v hs with ⟨p, hp, h1, h2⟩ | ⟨h1, h2⟩
  · exact .inl ⟨noRs p, List.mem_map_of_mem hp, h1, h2⟩
  · refine .inr ⟨fun p hp => ?_, h2⟩
    obtain ⟨q, hq, rfl⟩ := List.mem_map.1 hp
    exact h1 q hq
/-- One step of one that may write, when all else that was taken is done by then. -/
theorem xd_flush (hok : RegOK n ops = true) (f : Nat) (i : Nat) {o : Oper} (l : Env) (ho : ops[i]? = some o) (hf : front ops dn = [i]) (hcl : dn.all (reach ops f i).contains = true) (hl : Live env l) (hs : slotsOK ops dn i (l.map (·.1)) = true) (hw : Wt ops l o.guard) {R : Value → GH → Prop} (ht : OT P w0 l H o R)
    (k : ∀ v H', R v H' → (∀ k ∈ keys H', k ∈ KS ∨ w0.heap.size ≤ k) ∧ XD P n w0 ops KS env0 (i :: dn) (match o.dst with | some d => (d, v) :: env | none => env) H' [] Q) : XD P n w0 ops KS env0 dn env H RS Q := by
  intro a0 dl ha0 hdn hnd he hrs
  refine xd_rounds hok (by rw [hdn]; exact hnd) ?_ ?_
  · intro a w listed hr hinv
    exfalso
    have hi : i ∈ front ops dn := by rw [hf]; exact List.mem_singleton.2 rfl
    obtain ⟨h1, h2⟩ := List.mem_filter.1 hi
    have := all_listed hok hinv.lsize hr i (List.mem_range.1 h1)
    obtain ⟨p, hp, e⟩ := hinv.inn i this
    simp only [Bool.and_eq_true, Bool.not_eq_true', List.contains_eq_mem, decide_eq_false_iff_not] at h2
    exact h2.1 (by rw [← hdn]; exact List.mem_map.2 ⟨p, hp, e⟩)
  · intro fuel listed a w j hinv hr hni
    have hj := front_spec hinv.lsize hdn hinv.inn hr hni
    rw [hf] at hj
    obtain rfl := List.mem_singleton.1 hj
    obtain ⟨hlt, hl0, haft⟩ := (mem_ready' hinv.lsize).1 hr
    have hagv := hinv.agv hl0 haft (slots_spec ha0 he hdn hl hs)
    have hdst : dstOf ops j = o.dst := by simp [dstOf, ho]
    have hall : ∀ p ∈ dl, listed.getD p.i false = true := by
      intro p hp
      have h1 := List.all_eq_true.1 hcl p.i (by rw [← hdn]; exact List.mem_map.2 ⟨p, hp, rfl⟩)
      simp only [List.contains_eq_mem, decide_eq_true_eq] at h1
      exact reach_listed hinv.down f j haft _ h1
    unfold wpOp
    simp only [ho]
    rw [if_pos (hw.wanted hagv)]
    refine .inl (wp_mono2 ?_ (fun _ _ _ h => h.elim) (ht a w hagv hinv.st))
    rintro a' w' ⟨v, H', rfl, hst, hR⟩
    obtain ⟨k3, k2⟩ := k v H' hR
    have hlt' : j < listed.size := by rw [hinv.lsize]; exact hlt
    have hni2 : ∀ p ∈ dl.map noRs, p.i ≠ j := by
      intro p hp
      obtain ⟨q, hq, rfl⟩ := List.mem_map.1 hp
      exact hni q hq
    have hni' : j ∉ (dl.map noRs).map (·.i) := by
      simp only [List.mem_map, not_exists, not_and]
      rintro p ⟨q, hq, rfl⟩
      exact hni q hq
    have hinv2 : Inv P n ops w0 KS a0 (⟨j, l, [], v⟩ :: dl.map noRs) H' fuel (listed.setIfInBounds j true) (a.put o.dst v) w' := by
      rw [← hdst]
      refine ⟨by simpa using hinv.lsize, ?_, ?_, ?_, ?_, by rw [put_size]; exact hinv.size, by rw [put_defers]; exact hinv.defers, hst, k3, ?_, ?_⟩
      · intro q hq
        rw [getD_set hlt'] at hq
        by_cases e : q = j
        · exact ⟨⟨j, l, [], v⟩, List.mem_cons_self .., e.symm⟩
        · rw [if_neg e] at hq
          obtain ⟨p, hp, e⟩ := hinv.inn q hq
          exact ⟨noRs p, List.mem_cons_of_mem _ (List.mem_map.2 ⟨p, hp, rfl⟩), e⟩
      · intro q hq hq0
        exfalso
        rw [getD_set hlt'] at hq0
        rcases List.mem_cons.1 hq with rfl | hq
        · simp at hq0
        · obtain ⟨p, hp, rfl⟩ := List.mem_map.1 hq
          have hq1 : (if p.i = j then true else listed.getD p.i false) = false := hq0
          rw [if_neg (hni p hp), hall p hp] at hq1; cases hq1
      · intro q hq hq1 s hs'
        rcases List.mem_cons.1 hq with rfl | hq
        · have hs'' : dstOf ops j = some s := hs'
          rw [hs'', put_getD_self (by rw [hinv.size]; exact regOK_lt hok hs'')]
        · obtain ⟨p, hp, rfl⟩ := List.mem_map.1 hq
          have hne := hni p hp
          rw [put_getD (fun hh => hne (regOK_uniq hok hs' hh))]
          exact hinv.done p hp (hall p hp) s hs'
      · intro s hs'
        have hne : dstOf ops j ≠ some s := fun hh => by
          have := hs' j hh
          rw [getD_set hlt', if_pos rfl] at this
          cases this
        rw [put_getD hne]
        refine hinv.rest s fun q hq => ?_
        have := hs' q hq
        rw [getD_set hlt'] at this
        split at this
        · cases this
        · exact this
      · intro q hq k' hk
        rw [getD_set hlt'] at hq ⊢
        by_cases e : k' = j
        · rw [if_pos e]
        · rw [if_neg e]
          by_cases e2 : q = j
          · subst e2; exact haft k' hk
          · rw [if_neg e2] at hq; exact hinv.down q hq k' hk
      · rw [countP_set hlt' hl0 _ hlt]
        have := hinv.fuel
        omega
    have henv := envOK_cons (p := ⟨j, l, [], v⟩) hok (envOK_noRs he) hni'
    refine k2 a0 (⟨j, l, [], v⟩ :: dl.map noRs) ha0 (by simp only [List.map_cons, map_noRs, hdn]) (List.nodup_cons.2 ⟨by rw [← hdn, ← map_noRs]; exact hni', hnd⟩) ?_ ?_ _ _ _ _ hinv2
    · cases hd : o.dst with
      | none => exact henv.2 (by show dstOf ops j = none; rw [hdst, hd])
      | some d => exact henv.1 d (by show dstOf ops j = some d; rw [hdst, hd])
    · intro p hp x hx
      rcases List.mem_cons.1 hp with rfl | hp
      · cases hx
      · obtain ⟨q, hq, rfl⟩ := List.mem_map.1 hp
        cases hx
end
end Go.E
namespace Go.E
open Go
section
variable {P : Program} {n : Nat} {w0 : World} {ops : Array Oper} {KS : List Nat} {env0 env : Env} {dn : List Nat} {H RS : GH} {Q : Exit → Act → World → Prop}
theorem xd_fl (hok : RegOK n ops = true) (f : Nat) (i : Nat) {o : Oper} {d : Nat} (l : Env) (ho : ops[i]? = some o) (hd : o.dst = some d) (hf : front ops dn = [i]) (hcl : dn.all (reach ops f i).contains = true) (hl : Live env l) (hs : slotsOK ops dn i (l.map (·.1)) = true) (hw : Wt ops l o.guard) {R : Value → GH → Prop} (ht : OT P w0 l H o R)
    (k : ∀ v H', R v H' → (∀ k ∈ keys H', k ∈ KS ∨ w0.heap.size ≤ k) ∧ XD P n w0 ops KS env0 (i :: dn) ((d, v) :: env) H' [] Q) : XD P n w0 ops KS env0 dn env H RS Q :=
  xd_flush hok f i l ho hf hcl hl hs hw ht (fun v H' h => by rw [hd]; exact k v H' h)
theorem xd_fl0 (hok : RegOK n ops = true) (f : Nat) (i : Nat) {o : Oper} (l : Env) (ho : ops[i]? = some o) (hd : o.dst = none) (hf : front ops dn = [i]) (hcl : dn.all (reach ops f i).contains = true) (hl : Live env l) (hs : slotsOK ops dn i (l.map (·.1)) = true) (hw : Wt ops l o.guard) {R : Value → GH → Prop} (ht : OT P w0 l H o R)
    (k : ∀ v H', R v H' → (∀ k ∈ keys H', k ∈ KS ∨ w0.heap.size ≤ k) ∧ XD P n w0 ops KS env0 (i :: dn) env H' [] Q) : XD P n w0 ops KS env0 dn env H RS Q :=
  xd_flush hok f i l ho hf hcl hl hs hw ht (fun v H' h => by rw [hd]; exact k v H' h)
/-- The keys of what is given and of what is new. -/
def Ks (w0 : World) (KS : List Nat) (H : GH) : Prop := ∀ k ∈ keys H, k ∈ KS ∨ w0.heap.size ≤ k
theorem Ks.nil : Ks w0 KS [] := fun _ h => by simp at h
theorem Ks.consN {b : Nat} {o : Obj} (hb : w0.heap.size ≤ b) (h : Ks w0 KS H) : Ks w0 KS ((b, o) :: H) := fun k hk => by
  simp only [keys_cons, List.mem_cons] at hk
  exact hk.elim (fun e => .inr (e ▸ hb)) (h k)
theorem Ks.consK {b : Nat} {o : Obj} (hb : b ∈ KS) (h : Ks w0 KS H) : Ks w0 KS ((b, o) :: H) := fun k hk => by
  simp only [keys_cons, List.mem_cons] at hk
  exact hk.elim (fun e => .inl (e ▸ hb)) (h k)
theorem Ks.segN {B : GH} (hc : Cov w0 [] B) (h : Ks w0 KS H) : Ks w0 KS (B ++ H) := fun k hk => by
  simp only [keys_append, List.mem_append] at hk
  exact hk.elim (fun e => .inr (hc.fresh k e)) (h k)
theorem Ks.segK {B : GH} (hc : ∀ k ∈ keys B, k ∈ KS) (h : Ks w0 KS H) : Ks w0 KS (B ++ H) := fun k hk => by
  simp only [keys_append, List.mem_append] at hk
  exact hk.elim (fun e => .inl (hc k e)) (h k)
theorem Ks.segC {A B : GH} (hc : Cov w0 A B) (hA : ∀ k ∈ keys A, k ∈ KS) (h : Ks w0 KS H) : Ks w0 KS (B ++ H) := fun k hk => by
  simp only [keys_append, List.mem_append] at hk
  exact hk.elim (fun e => (hc.1 k e).imp (hA k) id) (h k)
theorem xd_show {H' : GH} (e : H = H') (h : XD P n w0 ops KS env0 dn env H' RS Q) : XD P n w0 ops KS env0 dn env H RS Q := e ▸ h
end
end Go.E
namespace Go.E
open Go
section
variable {P : Program} {n : Nat} {w0 : World} {ops : Array Oper} {KS : List Nat} {env0 env : Env} {dn : List Nat} {H RS : GH} {Q : Exit → Act → World → Prop}
theorem XD.more {RS' : GH} (h : XD P n w0 ops KS env0 dn env H RS' Q) (hs : ∀ x ∈ RS, x ∈ RS') : XD P n w0 ops KS env0 dn env H RS Q :=
  fun a0 dl h1 h2 h3 h4 h5 => h a0 dl h1 h2 h3 h4 fun p hp x hx => hs x (h5 p hp x hx)
end
/-- The laws of the two truth values, for a rewriting. -/
theorem bS : (∀ b : Bool, (true && b) = b) ∧ (∀ b : Bool, (b && true) = b) ∧ (∀ b : Bool, (false && b) = false) ∧ (∀ b : Bool, (b && false) = false) ∧ (∀ b : Bool, (b || true) = true) ∧ (∀ b : Bool, (true || b) = true) ∧ (∀ b : Bool, (b || false) = b) ∧
    (∀ b : Bool, (false || b) = b) ∧ ((!true) = false) ∧ ((!false) = true) ∧ (∀ (b c : Bool), cond true b c = b) ∧ (∀ (b c : Bool), cond false b c = c) := by simp
end Go.E

/- The engine, part 15: maps. -/
namespace Go.E
open Go

/-! ### Maps as lists of keys and values -/
section
variable {κ α : Type} (ke : κ → κ → Bool)
def mfind : List (κ × α) → κ → Option α
  | [], _ => none
  | p :: d, k => if ke k p.1 then some p.2 else mfind d k
def mget (d : List (κ × α)) (k : κ) (z : α) : α := (mfind ke d k).getD z
def mhas (d : List (κ × α)) (k : κ) : Bool := (mfind ke d k).isSome
def mset : List (κ × α) → κ → α → List (κ × α)
  | [], k, v => [(k, v)]
  | p :: d, k, v => if ke k p.1 then (p.1, v) :: d else p :: mset d k v
def mdel (d : List (κ × α)) (k : κ) : List (κ × α) := d.filter fun p => !ke k p.1
end
def ieq (a b : Int) : Bool := a == b
abbrev kI : Int → Value := fun x => .int .i64 x
/-- What the model asks of a map's keys, answered. -/
structure KeyT {κ : Type} (P : Program) (kt : TypeId) (ck : κ → Value) (ke : κ → κ → Bool) : Prop where
  check : ∀ (b : Bool) k w, (Instr.checkKey b 10000 kt (ck k)).run P w = .ok () w
  find : ∀ k (es : List MapEntry) (ks : List κ) w, es.map (·.key) = ks.map ck → (Instr.findKey kt (ck k) es).run P w = .ok ((ks.findIdx? (ke k)).bind fun i => (es[i]?).map fun e => (i, e.val)) w
  stays : ∀ a b w, ke a b = true → (Instr.keyThatStays (ck b) (ck a)).run P w = .ok (ck a) w
  same : ∀ a b, ke a b = true → ck a = ck b
  eqv : ∀ a b c, ke a b = true → ke a c = true → ke c b = true
  self : ∀ a, ke a a = true

/-- A map's block. -/
def MO {κ α : Type} (ck : κ → Value) (cv : α → Value) (ke : κ → κ → Bool) (d : List (κ × α)) (o : Obj) : Prop :=
  ∃ es clock, o = .map es clock ∧ es.toList.map (fun e => (e.key, e.val)) = d.map (fun p => (ck p.1, cv p.2)) ∧ (∀ e ∈ es.toList, e.born < clock) ∧ (es.toList.map (·.born)).Nodup ∧ d.Pairwise fun p q => ke q.1 p.1 = false
/-- A map in a segment. -/
def MJ {κ α : Type} (ck : κ → Value) (cv : α → Value) (ke : κ → κ → Bool) (B : GH) (v : Value) (d : List (κ × α)) : Prop := ∃ b o, B = [(b, o)] ∧ v = .map (some b) ∧ MO ck cv ke d o

section
variable {κ α : Type} {ke : κ → κ → Bool}
theorem find_none {d : List (κ × α)} {k : κ} (h : (d.map (·.1)).findIdx? (ke k) = none) : mfind ke d k = none ∧ (∀ v, mset ke d k v = d ++ [(k, v)]) ∧ mdel ke d k = d ∧ ∀ p ∈ d, ke k p.1 = false := by
  induction d with
  | nil => exact ⟨rfl, fun v => rfl, rfl, by simp⟩
  | cons p d ih =>
    simp only [List.map_cons, List.findIdx?_cons] at h
    split at h
    · cases h
    · rename_i hk
      have hk' : ke k p.1 = false := by simpa using hk
      obtain ⟨h1, h2, h3, h4⟩ := ih (by simpa using h)
      refine ⟨by simp [mfind, hk', h1], fun v => by simp [mset, hk', h2 v], ?_, ?_⟩
      · unfold mdel at h3 ⊢
        rw [List.filter_cons, hk', h3]; rfl
      · intro q hq
        rcases List.mem_cons.1 hq with rfl | hq
        · exact hk'
        · exact h4 q hq
theorem find_some {d : List (κ × α)} {k : κ} {i : Nat} (h : (d.map (·.1)).findIdx? (ke k) = some i) : ∃ hi : i < d.length, ke k d[i].1 = true ∧ mfind ke d k = some d[i].2 ∧ (∀ v, mset ke d k v = d.set i (d[i].1, v)) ∧
    ((∀ p q : κ × α, ke k p.1 = true → ke q.1 p.1 = false → ke k q.1 = false) → d.Pairwise (fun p q => ke q.1 p.1 = false) → mdel ke d k = d.eraseIdx i) := by
  induction d generalizing i with
  | nil => simp at h
  | cons p d ih =>
    simp only [List.map_cons, List.findIdx?_cons] at h
    split at h
    · rename_i hk
      cases h
      refine ⟨by simp, hk, by simp [mfind, hk], fun v => by simp [mset, hk], fun he hp => ?_⟩
      simp only [List.eraseIdx_zero, List.tail_cons, mdel]
      rw [List.filter_cons, hk]
      simp only [Bool.not_true, Bool.false_eq_true, if_false]
      rw [List.filter_eq_self]
      intro q hq
      have := he p q hk ((List.pairwise_cons.1 hp).1 q hq)
      simp [this]
    · rename_i hk
      have hk' : ke k p.1 = false := by simpa using hk
      obtain ⟨j, hj, rfl⟩ := Option.map_eq_some_iff.1 h
      obtain ⟨h1, h2, h3, h4, h5⟩ := ih hj
      refine ⟨by simp; omega, by simpa using h2, by simp [mfind, hk', h3], fun v => by simp [mset, hk', h4 v], fun he hp => ?_⟩
      have := h5 he (List.pairwise_cons.1 hp).2
      unfold mdel at this ⊢
      rw [List.filter_cons, hk', this]; rfl
end

section
variable {κ α : Type} {P : Program} {kt et : TypeId} {ck : κ → Value} {cv : α → Value} {ke : κ → κ → Bool}

/-- The search in a map's block. -/
theorem KeyT.look (hk : KeyT P kt ck ke) {d : List (κ × α)} {es : Array MapEntry} (he : es.toList.map (fun e => (e.key, e.val)) = d.map (fun p => (ck p.1, cv p.2))) (k : κ) (w : World) :
    (∃ i, (d.map (·.1)).findIdx? (ke k) = some i ∧ ∃ (hi : i < d.length) (hj : i < es.size), es[i].key = ck d[i].1 ∧ es[i].val = cv d[i].2 ∧ (Instr.findKey kt (ck k) es.toList).run P w = .ok (some (i, es[i].val)) w) ∨
    ((d.map (·.1)).findIdx? (ke k) = none ∧ (Instr.findKey kt (ck k) es.toList).run P w = .ok none w) := by
  have hkeys : es.toList.map (·.key) = (d.map (·.1)).map ck := by
    have := congrArg (List.map Prod.fst) he
    simpa [List.map_map, Function.comp_def] using this
  have hl : es.size = d.length := by simpa using congrArg List.length he
  have hf := hk.find k es.toList (d.map (·.1)) w hkeys
  cases hi : (d.map (·.1)).findIdx? (ke k) with
  | none => rw [hi] at hf; exact .inr ⟨rfl, hf⟩
  | some i =>
    obtain ⟨h1, _⟩ := find_some hi
    have h2 : i < es.size := by omega
    have h3 : es.toList[i]? = some es[i] := by simp [h2]
    have h4 := congrArg (fun l => l[i]?) he
    simp only [List.getElem?_map, h3, List.getElem?_eq_getElem h1, Option.map_some, Option.some.injEq, Prod.mk.injEq] at h4
    refine .inl ⟨i, rfl, h1, h2, h4.1, h4.2, ?_⟩
    rw [hf, hi]
    simp [h2]

theorem MO.upd {d : List (κ × α)} {es : Array MapEntry} {clock i : Nat} {f : MapEntry → MapEntry} {v : α} (he : es.toList.map (fun e => (e.key, e.val)) = d.map (fun p => (ck p.1, cv p.2))) (hb : ∀ e ∈ es.toList, e.born < clock) (hn : (es.toList.map (·.born)).Nodup)
    (hp : d.Pairwise fun p q => ke q.1 p.1 = false) (hi : i < d.length) (hf : ∀ e, (f e).born = e.born) (hj : i < es.size) (h1 : (f es[i]).key = ck d[i].1) (h2 : (f es[i]).val = cv v) : MO ck cv ke (d.set i (d[i].1, v)) (.map (es.modify i f) clock) := by
  have hl : es.size = d.length := by simpa using congrArg List.length he
  have hborn : (es.modify i f).toList.map (·.born) = es.toList.map (·.born) := by
    apply List.ext_getElem (by simp)
    intro n h3 h4
    simp only [Array.toList_modify, List.getElem_map, List.getElem_modify]
    split
    · rw [hf]
    · rfl
  refine ⟨_, _, rfl, ?_, ?_, by rw [hborn]; exact hn, ?_⟩
  · apply List.ext_getElem (by simp [hl])
    intro n h3 h4
    have hn1 : n < es.size := by simpa using h3
    have hn2 : n < d.length := by omega
    simp only [Array.toList_modify, List.getElem_map, List.getElem_modify, List.getElem_set, Array.getElem_toList]
    by_cases hin : i = n
    · subst hin
      simp only [if_pos]
      rw [h1, h2]
    · rw [if_neg hin, if_neg hin]
      have := congrArg (fun l => l[n]?) he
      simp only [List.getElem?_map, Array.getElem?_toList, Array.getElem?_eq_getElem hn1, List.getElem?_eq_getElem hn2, Option.map_some, Option.some.injEq] at this
      exact this
  · intro e hm
    have : e.born ∈ (es.modify i f).toList.map (·.born) := List.mem_map_of_mem hm
    rw [hborn] at this
    obtain ⟨e', h3, h4⟩ := List.mem_map.1 this
    rw [← h4]; exact hb e' h3
  · rw [List.pairwise_iff_getElem] at hp ⊢
    intro a b ha hb' hab
    simp only [List.length_set] at ha hb'
    have := hp a b ha hb' hab
    simp only [List.getElem_set]
    by_cases h3 : i = a <;> by_cases h4 : i = b <;> simp only [h3, h4, if_true, if_false] <;> first | (subst h3; subst h4; omega) | (subst h3; simp [h4]; exact this) | (subst h4; simp [h3]; exact this) | (simp [h3, h4]; exact this) | skip
    all_goals (try (subst h3)); (try (subst h4)); simp_all
theorem MO.push {d : List (κ × α)} {es : Array MapEntry} {clock : Nat} {k : κ} {v : α} (he : es.toList.map (fun e => (e.key, e.val)) = d.map (fun p => (ck p.1, cv p.2))) (hb : ∀ e ∈ es.toList, e.born < clock) (hn : (es.toList.map (·.born)).Nodup)
    (hp : d.Pairwise fun p q => ke q.1 p.1 = false) (hk : ∀ p ∈ d, ke k p.1 = false) : MO ck cv ke (d ++ [(k, v)]) (.map (es.push { key := ck k, val := cv v, born := clock }) (clock + 1)) := by
  refine ⟨_, _, rfl, by simp [he], ?_, ?_, ?_⟩
  · intro e hm
    simp only [Array.toList_push, List.mem_append, List.mem_singleton] at hm
    rcases hm with hm | rfl
    · have := hb e hm; omega
    · exact Nat.lt_succ_self _
  · simp only [Array.toList_push, List.map_append, List.map_cons, List.map_nil]
    rw [List.nodup_append]
    refine ⟨hn, by simp, fun a ha b hb' => ?_⟩
    obtain ⟨e, h1, rfl⟩ := List.mem_map.1 ha
    simp only [List.mem_singleton] at hb'
    have := hb e h1
    omega
  · rw [List.pairwise_append]
    refine ⟨hp, by simp, fun p hp' q hq => ?_⟩
    simp only [List.mem_singleton] at hq
    subst hq
    exact hk p hp'
theorem erase_map {α β : Type} (f : α → β) : ∀ (l : List α) (i : Nat), (l.eraseIdx i).map f = (l.map f).eraseIdx i
  | [], _ => rfl
  | _ :: _, 0 => rfl
  | a :: l, i + 1 => by simp [List.eraseIdx_cons_succ, erase_map f l i]
theorem MO.erase {d : List (κ × α)} {es : Array MapEntry} {clock i : Nat} (he : es.toList.map (fun e => (e.key, e.val)) = d.map (fun p => (ck p.1, cv p.2))) (hb : ∀ e ∈ es.toList, e.born < clock) (hn : (es.toList.map (·.born)).Nodup)
    (hp : d.Pairwise fun p q => ke q.1 p.1 = false) : MO ck cv ke (d.eraseIdx i) (.map (es.eraseIdxIfInBounds i) clock) := by
  have e1 : (es.eraseIdxIfInBounds i).toList = es.toList.eraseIdx i := by simp
  refine ⟨_, _, rfl, ?_, ?_, ?_, ?_⟩
  · rw [e1, erase_map, he, erase_map]
  · intro e hm
    rw [e1] at hm
    exact hb e (List.mem_of_mem_eraseIdx hm)
  · rw [e1, erase_map]
    exact hn.sublist (List.eraseIdx_sublist _ _)
  · exact hp.sublist (List.eraseIdx_sublist _ _)
end

section
variable {κ α : Type} {P : Program} {n : Nat} {w0 : World} {env : Env} {H R B : GH} {Q : Exit → Act → World → Prop} {ops : Array Oper} {rest : List Oper}
variable {d : Option Nat} {op : Op} {ty : TypeId} {pos : String} {af : Array Edge} {g : Option (Nat × Bool)}
variable {t kt et : TypeId} {x y u : Operand} {v : Value} {ck : κ → Value} {cv : α → Value} {ke : κ → κ → Bool} {m : List (κ × α)} {k : κ} {z e : α}

theorem gO_map {w : World} {b : Nat} {es : Array MapEntry} {clock : Nat} (hb : w.heap[b]? = some (.map es clock)) : (getObj b).run P w = .ok (.map es clock) w := by
  simp [getObj, Sem.run, hb]
theorem sO_map {w : World} {b : Nat} {es : Array MapEntry} {clock : Nat} (o' : Obj) (hb : w.heap[b]? = some (.map es clock)) : (setObj b o').run P w = .ok () { w with heap := w.heap.setIfInBounds b o' } := by
  simp [setObj, Sem.run, hb]
theorem MJ.val (h : MJ ck cv ke B v m) : ∃ b, v = .map (some b) := let ⟨b, _, _, h, _⟩ := h; ⟨b, h⟩
theorem MJ.one (h : MJ ck cv ke B v m) : v.oneCell' = true := by obtain ⟨b, rfl⟩ := h.val; rfl

theorem o_mkmap (_hk : KeyT P kt ck ke) (_hu : P.underlying t = some (.map kt et)) :
    OT P w0 env H ⟨d, .makeMap t none, ty, pos, af, g⟩ (fun v' H' => ∃ B', H' = B' ++ H ∧ Cov w0 [] B' ∧ MJ ck cv ke B' v' ([] : List (κ × α))) :=
  OT.val fun a w ha hs => by
    refine ⟨.map (some w.heap.size), w.alloc (.map #[] 0), (w.heap.size, .map #[] 0) :: H, by simp [execOp, Instr.makeMap, newObj, Sem.run], hs.alloc _, [(w.heap.size, .map #[] 0)], rfl, Cov.new hs.size, ?_⟩
    exact ⟨_, _, rfl, rfl, #[], 0, rfl, rfl, by simp, by simp, List.Pairwise.nil⟩

theorem run_look (hk : KeyT P kt ck ke) (hu : P.underlying t = some (.map kt et)) (hz : ZeroT P et (cv z)) {b : Nat} {es : Array MapEntry} {clock : Nat} {w : World} (hb : w.heap[b]? = some (.map es clock))
    (he : es.toList.map (fun e => (e.key, e.val)) = m.map (fun p => (ck p.1, cv p.2))) (ok : Bool) :
    (Instr.lookup t (.map (some b)) (ck k) ok).run P w = .ok (if ok then .tuple #[cv (mget ke m k z), .bool (mhas ke m k)] else cv (mget ke m k z)) w := by
  simp only [Instr.lookup, Sem.run_bind, run_underlying hu, Result.andThen_ok, gO_map hb, hk.check]
  rcases hk.look he k w with ⟨i, hi, h1, h2, h3, h4, h5⟩ | ⟨hi, h5⟩
  · obtain ⟨_, _, hf, _⟩ := find_some hi
    simp only [h5, Sem.run_bind, Result.andThen_ok, Sem.run_pure, mget, mhas, hf, Option.getD_some, Option.isSome_some, h4]
  · obtain ⟨hf, _⟩ := find_none hi
    simp only [h5, Sem.run_bind, Result.andThen_ok, Sem.run_pure, mget, mhas, hf, Option.getD_none, Option.isSome_none, hz.run]

theorem o_lk (hk : KeyT P kt ck ke) (hu : P.underlying t = some (.map kt et)) (hz : ZeroT P et (cv z)) (hx : ev env x = some v) (hy : ev env y = some (ck k)) (hJ : MJ ck cv ke B v m) (hB : ∀ q ∈ B, q ∈ H) :
    OT P w0 env H ⟨d, .lookup t x y false, ty, pos, af, g⟩ (Is (cv (mget ke m k z)) H) :=
  OT.val fun a w ha hs => by
    obtain ⟨b, o, rfl, rfl, es, clock, rfl, he, _⟩ := hJ
    have hb := hs.own b _ (hB _ (List.mem_singleton.2 rfl))
    exact ⟨_, w, H, by simp [execOp, ha.ev hx, ha.ev hy, run_look hk hu hz hb he], hs, rfl, rfl⟩
/-- The block of a map changes. -/
theorem St.map {w : World} {b : Nat} {o o' : Obj} (hs : St w0 ([(b, o)] ++ R) w) : St w0 ([(b, o')] ++ R) { w with heap := w.heap.setIfInBounds b o' } := by
  have hb := hs.own b o (by simp)
  have hlt : b < w.heap.size := (Array.getElem?_eq_some_iff.1 hb).1
  exact hs.upd (.here b o o' R) (by simp [hlt]) (fun k hk => by simp [Ne.symm hk]) rfl rfl rfl (by simp)

theorem run_mset (hk : KeyT P kt ck ke) (hu : P.underlying t = some (.map kt et)) {b : Nat} {o : Obj} {w : World} (hb : w.heap[b]? = some o) (hM : MO ck cv ke m o) :
    ∃ o', (Instr.mapUpdate t (.map (some b)) (ck k) (cv e)).run P w = .ok () { w with heap := w.heap.setIfInBounds b o' } ∧ MO ck cv ke (mset ke m k e) o' := by
  obtain ⟨es, clock, rfl, he, hborn, hn, hp⟩ := hM
  rcases hk.look he k w with ⟨i, hi, h1, h2, h3, h4, h5⟩ | ⟨hi, h5⟩
  · obtain ⟨_, hke, hf, hset, _⟩ := find_some hi
    refine ⟨.map (es.modify i fun q => { q with key := ck k, val := cv e }) clock, ?_, ?_⟩
    · have hst := hk.stays k m[i].1 w hke
      rw [← h3] at hst
      simp only [Instr.mapUpdate, Sem.run_bind, run_underlying hu, Result.andThen_ok, gO_map hb, hk.check, h5]
      simp only [Array.getElem?_eq_getElem h2, Option.map_some, Option.getD_some, hst, Result.andThen_ok, sO_map _ hb]
    · rw [hset]
      exact MO.upd he hborn hn hp h1 (fun _ => rfl) h2 (hk.same _ _ hke) rfl
  · obtain ⟨hf, hset, _, hno⟩ := find_none hi
    refine ⟨_, ?_, by rw [hset]; exact MO.push he hborn hn hp hno⟩
    simp only [Instr.mapUpdate, Sem.run_bind, run_underlying hu, Result.andThen_ok, gO_map hb, hk.check, h5, sO_map _ hb]

theorem o_mset (hk : KeyT P kt ck ke) (hu : P.underlying t = some (.map kt et)) (hx : ev env x = some v) (hy : ev env y = some (ck k)) (hz : ev env u = some (cv e)) (hJ : MJ ck cv ke B v m) :
    OT P w0 env (B ++ R) ⟨d, .mapUpdate t x y u, ty, pos, af, g⟩ (fun _ H' => ∃ B', H' = B' ++ R ∧ Cov w0 B B' ∧ MJ ck cv ke B' v (mset ke m k e)) :=
  OT.skip fun a w ha hs => by
    obtain ⟨b, o, rfl, rfl, hM⟩ := hJ
    obtain ⟨o', hr, hM'⟩ := run_mset (e := e) (k := k) hk hu (hs.own b o (by simp)) hM
    exact ⟨_, _, by simp [execOp, ha.ev hx, ha.ev hy, ha.ev hz, hr], hs.map, [(b, o')], rfl, Cov.cons (Cov.refl _), b, o', rfl, rfl, hM'⟩
/-- The segment that changed is put back where it stood. -/
theorem OT.push {Φ : Value → GH → Prop} {o : Oper} (F : GH → GH) (hF : ∀ C, Pull (F C) C R) (h : OT P w0 env H o (fun v H' => ∃ C, H' = C ++ R ∧ Φ v C)) : OT P w0 env H o (fun v H' => ∃ C, H' = F C ∧ Φ v C) := by
  intro a w ha hs
  refine wp_mono2 ?_ (fun _ _ _ h => h.elim) (h a w ha hs)
  rintro a' w' ⟨v, H', rfl, hst, C, rfl, hC⟩
  exact ⟨v, F C, rfl, (hF C).push hst, C, rfl, hC⟩
end
section
variable {P : Program} {n : Nat} {w0 : World} {ops : Array Oper} {KS : List Nat} {env0 env : Env} {dn : List Nat} {H RS A B : GH} {Q : Exit → Act → World → Prop}
theorem rsN : ∀ x ∈ ([] : GH), x ∈ H := fun _ h => absurd h List.not_mem_nil
theorem rsC {y : Nat × Obj} (h : y ∈ H) (k : ∀ x ∈ A, x ∈ H) : ∀ x ∈ y :: A, x ∈ H := fun x hx => (List.mem_cons.1 hx).elim (fun e => e ▸ h) (k x)
theorem rsA (h : ∀ x ∈ A, x ∈ H) (k : ∀ x ∈ B, x ∈ H) : ∀ x ∈ A ++ B, x ∈ H := fun x hx => (List.mem_append.1 hx).elim (h x) (k x)
theorem xd_sh1 {H' : GH} (e : H = H') (h : (∀ k ∈ keys H', k ∈ KS ∨ w0.heap.size ≤ k) ∧ XD P n w0 ops KS env0 dn env H' RS Q) : (∀ k ∈ keys H, k ∈ KS ∨ w0.heap.size ≤ k) ∧ XD P n w0 ops KS env0 dn env H RS Q := e ▸ h
theorem xd_sh2 {H' : GH} (e : H = H') (h : (∀ x ∈ RS, x ∈ H') ∧ (∀ k ∈ keys H', k ∈ KS ∨ w0.heap.size ≤ k) ∧ XD P n w0 ops KS env0 dn env H' RS Q) : (∀ x ∈ RS, x ∈ H) ∧ (∀ k ∈ keys H, k ∈ KS ∨ w0.heap.size ≤ k) ∧ XD P n w0 ops KS env0 dn env H RS Q := e ▸ h
/-- One that only reads, and rests on the blocks of rs alone. -/
theorem xd_b (hok : RegOK n ops = true) (i : Nat) {o : Oper} {d : Nat} {v : Value} (l : Env) (rs : GH) (hR : ∀ x ∈ rs, x ∈ H) (ho : ops[i]? = some o) (hd : o.dst = some d) (hn : dn.contains i = false) (hl : Live env l) (hs : slotsOK ops dn i (l.map (·.1)) = true) (hw : Wt ops l o.guard)
    (ht : ∀ H', (∀ x ∈ rs, x ∈ H') → (∀ k ∈ keys H', k ∈ KS ∨ w0.heap.size ≤ k) → OT P w0 l H' o (Is v H')) (k : XD P n w0 ops KS env0 (i :: dn) ((d, v) :: env) H (rs ++ RS) Q) : XD P n w0 ops KS env0 dn env H RS Q :=
  xd_take hok i l rs ho hd hn hl hs hR (fun H' h h2 => .inl ⟨hw, ht H' h h2⟩) k
end
section
variable {P : Program} {w0 : World} {env : Env} {H : GH} {d : Option Nat} {ty t : TypeId} {pos : String} {af : Array Edge} {g : Option (Nat × Bool)} {N s : Nat}
end
end Go.E

/- The engine, part 16: keys that are integers, and structs of integers; entries of maps. -/
namespace Go.E
open Go

section
variable {P : Program} {kt : TypeId}

theorem check_int (hu : P.underlying kt = some (.int .i64)) (b : Bool) (d : Nat) (k : Int) (w : World) : (Instr.checkKey b (d + 1) kt (.int .i64 k)).run P w = .ok () w := by
  simp [Instr.checkKey, run_underlying hu]

theorem keyT_int (hu : P.underlying kt = some (.int .i64)) : KeyT P kt (fun x => .int .i64 x) ieq := by
  refine ⟨fun b k w => ?_, fun k es ks w he => ?_, fun a b w h => ?_, fun a b h => ?_, fun a b c h1 h2 => ?_, fun a => by simp [ieq]⟩
  · exact check_int hu b 9999 k w
  · have key : ∀ (ks : List Int) (es : List MapEntry) (i : Nat), es.map (·.key) = ks.map (fun x => Value.int .i64 x) → Instr.findNow (.int .i64) (.int .i64 k) es i = some ((ks.findIdx? (ieq k)).bind fun j => (es[j]?).map fun e => (i + j, e.val)) := by
      intro ks
      induction ks with
      | nil => intro es i h; cases es with
        | nil => rfl
        | cons => simp at h
      | cons q ks ih =>
        intro es i h
        cases es with
        | nil => simp at h
        | cons e es =>
          simp only [List.map_cons, List.cons.injEq] at h
          simp only [Instr.findNow, h.1, Instr.sameNow, if_true, List.findIdx?_cons, ieq]
          by_cases hq : k = q
          · subst hq; simp
          · have hq' : (k == q) = false := by simpa using hq
            have e1 := ih es (i + 1) h.2
            simp only [hq', e1, Bool.false_eq_true, if_false, ieq]
            cases hf : ks.findIdx? fun b => k == b with
            | none =>
              have : ks.findIdx? (ieq k) = none := hf
              simp [this]
            | some j =>
              have : ks.findIdx? (ieq k) = some j := hf
              simp [this, Nat.add_assoc, Nat.add_comm 1 j]
    have := key ks es 0 he
    simp only [Nat.zero_add] at this
    simp only [Instr.findKey, Sem.run_bind, run_underlying hu, Result.andThen_ok, this, Sem.run_pure]
  · simp only [ieq, beq_iff_eq] at h
    subst h
    simp [Instr.keyThatStays, Instr.sameBits]
  · simp only [ieq, beq_iff_eq] at h
    rw [h]
  · simp only [ieq, beq_iff_eq] at h1 h2 ⊢
    omega

end
end Go.E

/- The engine, part 17: entries of maps. -/
namespace Go.E
open Go

section
variable {κ α : Type} {P : Program} {n : Nat} {w0 : World} {env : Env} {H R B : GH}
variable {d : Option Nat} {op : Op} {ty : TypeId} {pos : String} {af : Array Edge} {g : Option (Nat × Bool)}
variable {t kt et : TypeId} {x y u : Operand} {v : Value} {ck : κ → Value} {cv : α → Value} {ke : κ → κ → Bool} {m : List (κ × α)} {k : κ} {z e : α} {s : Nat}

end
end Go.E

/- The engine, part 18: what slices.Delete does: a slice's end is put onto its own beginning; what is behind is cleared. -/
namespace Go.E
open Go

/-- A slice in a segment, that may hold x more elements. -/
def RM {α : Type} (T : TypeId) (s : Nat) (c : α → Nat → Value) (B : GH) (v : Value) (l : List α) (x : Nat) : Prop :=
  ∃ b o cap N F, (b, BK N F T) ∈ B ∧ v = .slice (some ⟨b, o, none⟩) l.length cap ∧ l.length + x ≤ cap ∧ o + cap * s ≤ N ∧ cap ≤ maxLen ∧ ∀ i, i < l.length * s → F (o + i) = eG s c l i
section
variable {α : Type} {P : Program} {w0 : World} {env : Env} {H B : GH} {d : Option Nat} {ty t : TypeId} {pos : String} {af : Array Edge} {g : Option (Nat × Bool)}
variable {x : Operand} {s : Nat} {c : α → Nat → Value} {v : Value} {l : List α} {T e : TypeId}

theorem RM.oj {k : Nat} (h : RM T s c B v l k) : OJ T s c B v l := by
  obtain ⟨b, o, cap, N, F, h1, h2, h3, h4, h5, h6⟩ := h
  exact .inr ⟨b, o, cap, N, F, h1, h2, by omega, h4, h5, h6⟩

end
end Go.E

/- Loops in plain words: what relations of loops come to. -/
namespace Go.E
open Go

/-- A loop that counts up to n and leaves early where p fails. -/
theorem Wh.all {ρ : Type} {f : Int → Int ⊕ ρ → Prop} (n : Nat) (p : Nat → Bool) (rt rf : ρ) (hgo : ∀ k : Nat, k < n → p k = true → f k (.inl ((k : Int) + 1))) (hbad : ∀ k : Nat, k < n → p k = false → f k (.inr rf)) (hend : f n (.inr rt)) :
    Wh f 0 (if (List.range n).all p = true then rt else rf) := by
  have key : ∀ j k : Nat, k + j = n → Wh f (k : Int) (if (List.range' k j).all p = true then rt else rf) := by
    intro j
    induction j with
    | zero =>
      intro k hk
      obtain rfl : k = n := by omega
      simp only [List.range'_zero, List.all_nil, if_true]
      exact .out hend
    | succ j ih =>
      intro k hk
      simp only [List.range'_succ, List.all_cons, Bool.and_eq_true]
      by_cases hp : p k = true
      · have := ih (k + 1) (by omega)
        simp only [hp, true_and]
        exact .again (hgo k (by omega) hp) this
      · rw [if_neg (fun h => hp h.1)]
        exact .out (hbad k (by omega) (by simpa using hp))
  have := key n 0 (by omega)
  rwa [← List.range_eq_range'] at this

theorem ite_intro {c p q : Prop} [Decidable c] (h1 : c → p) (h2 : ¬ c → q) : if c then p else q := by
  by_cases h : c
  · rw [if_pos h]; exact h1 h
  · rw [if_neg h]; exact h2 h
end Go.E

/- Maps in plain words. -/
namespace Go.E
open Go

structure Eqk {κ : Type} (ke : κ → κ → Bool) : Prop where
  refl : ∀ a, ke a a = true
  symm : ∀ a b, ke a b = true → ke b a = true
  trans : ∀ a b c, ke a b = true → ke b c = true → ke a c = true
theorem eqk_int : Eqk ieq := ⟨fun a => by simp [ieq], fun a b h => by simp [ieq] at h ⊢; omega, fun a b c h k => by simp [ieq] at h k ⊢; omega⟩
section
variable {κ α : Type} {ke : κ → κ → Bool}
theorem mfind_mset (E : Eqk ke) (d : List (κ × α)) (k : κ) (v : α) (k' : κ) : mfind ke (mset ke d k v) k' = if ke k' k = true then some v else mfind ke d k' := by
  induction d with
  | nil => simp [mset, mfind]
  | cons p d ih =>
    simp only [mset]
    by_cases h : ke k p.1 = true
    · rw [if_pos h]
      simp only [mfind]
      have : ke k' p.1 = ke k' k := by
        rw [Bool.eq_iff_iff]
        exact ⟨fun h1 => E.trans _ _ _ h1 (E.symm _ _ h), fun h1 => E.trans _ _ _ h1 h⟩
      rw [this]
      by_cases h2 : ke k' k = true <;> simp [h2]
    · rw [if_neg h]
      simp only [mfind, ih]
      by_cases h2 : ke k' p.1 = true
      · have h3 : ¬ ke k' k = true := fun h3 => h (E.trans _ _ _ (E.symm _ _ h3) h2)
        simp [h2, h3]
      · simp [h2]
theorem mget_mset (E : Eqk ke) (d : List (κ × α)) (k : κ) (v : α) (k' : κ) (z : α) : mget ke (mset ke d k v) k' z = if ke k' k = true then v else mget ke d k' z := by
  unfold mget
  rw [mfind_mset E]
  split <;> rfl
theorem mhas_mset (E : Eqk ke) (d : List (κ × α)) (k : κ) (v : α) (k' : κ) : mhas ke (mset ke d k v) k' = (ke k' k || mhas ke d k') := by
  unfold mhas
  rw [mfind_mset E]
  by_cases h : ke k' k = true
  · simp [h]
  · have h' : ke k' k = false := by simpa using h
    simp [h']
end
end Go.E

/- Loops in plain words: searches. -/
namespace Go.E
open Go

/-- A loop that counts up to n and leaves at the first k where p holds. -/
theorem Wh.find {ρ : Type} {f : Int → Int ⊕ ρ → Prop} (n : Nat) (p : Nat → Bool) (rt : ρ) (rf : Nat → ρ) (hgo : ∀ k : Nat, k < n → p k = false → f k (.inl ((k : Int) + 1))) (hbad : ∀ k : Nat, k < n → p k = true → f k (.inr (rf k))) (hend : f n (.inr rt)) :
    ∃ r, Wh f 0 r ∧ ((r = rt ∧ (List.range n).any p = false) ∨ ∃ k, k < n ∧ r = rf k ∧ (List.range n).any p = true) := by
  have key : ∀ j k : Nat, k + j = n → ∃ r, Wh f (k : Int) r ∧ ((r = rt ∧ ∀ i, k ≤ i → i < n → p i = false) ∨ ∃ i, i < n ∧ r = rf i ∧ p i = true) := by
    intro j
    induction j with
    | zero =>
      intro k hk
      obtain rfl : k = n := by omega
      exact ⟨rt, .out hend, .inl ⟨rfl, fun i h1 h2 => by omega⟩⟩
    | succ j ih =>
      intro k hk
      by_cases hp : p k = true
      · exact ⟨rf k, .out (hbad k (by omega) hp), .inr ⟨k, by omega, rfl, hp⟩⟩
      · obtain ⟨r, h1, h2⟩ := ih (k + 1) (by omega)
        refine ⟨r, .again (hgo k (by omega) (by simpa using hp)) h1, ?_⟩
        rcases h2 with ⟨h2, h3⟩ | h2
        · refine .inl ⟨h2, fun i h4 h5 => ?_⟩
          by_cases hik : i = k
          · subst hik; simpa using hp
          · exact h3 i (by omega) h5
        · exact .inr h2
  obtain ⟨r, h1, h2⟩ := key n 0 (by omega)
  refine ⟨r, h1, ?_⟩
  rcases h2 with ⟨h2, h3⟩ | ⟨i, h2, h3, h4⟩
  · refine .inl ⟨h2, ?_⟩
    rw [← Bool.not_eq_true]
    intro h
    obtain ⟨i, hi, hp⟩ := List.any_eq_true.1 h
    rw [h3 i (by omega) (List.mem_range.1 hi)] at hp
    cases hp
  · exact .inr ⟨i, h2, h3, List.any_eq_true.2 ⟨i, List.mem_range.2 h2, h4⟩⟩

theorem step1 {k : Nat} (h : k < 9000000000000000000) : inI64 ((k : Int) + 1) := ⟨by omega, by omega⟩
end Go.E

/- Numbers as bytes. -/
namespace Go.E
open Go
end Go.E

/- Messages: what may be, as plain functions of a message's 28 numbers. -/
namespace Go.E
open Go

def inB (n a b : Int) : Bool := decide (a ≤ n) && decide (n ≤ b)
def txB (n : Int) : Bool := inB n 1 1048576
def shB (n : Int) : Bool := inB n 1 64
def endsB (m : Nat → Int) : Bool :=
  if m 0 = 11 then (if m 1 = 0 then shB (m 2) else shB (m 1) && decide (m 2 = 0))
  else if m 0 = 1 ∨ m 0 = 4 ∨ m 0 = 6 ∨ m 0 = 8 then decide (m 1 = 0) && shB (m 2)
  else shB (m 1) && decide (m 2 = 0)
def resB (t r : Int) : Bool := inB t 1 250 && inB r 0 250
/-- No step ahead of step i is of its transaction. -/
def newB (m : Nat → Int) (i j : Nat) : Bool := (List.range j).all fun k => !decide (m (12 + k * 2 + 0) = m (12 + (i * 2 + 0)))
/-- The step i of a message. -/
def stepB (m : Nat → Int) (i : Nat) : Bool :=
  if m 11 ≤ i then decide (m (12 + (i * 2 + 0)) = 0) && decide (m (12 + (i * 2 + 1)) = 0)
  else txB (m (12 + (i * 2 + 0))) && inB (m (12 + (i * 2 + 1))) 1 1048576 && newB m i i
def pathB (m : Nat → Int) : Bool := inB (m 11) 1 8 && txB (m 9) && inB (m 10) 0 1048576 && (List.range 8).all (stepB m)

def mayB (m : Nat → Int) : Bool :=
  if m 0 = 1 ∨ m 0 = 2 then resB (m 5) (m 6) && inB (m 7) 1 4 && inB (m 4) 1 1048576 && txB (m 3)
  else if m 0 = 3 then inB (m 4) 1 1048576 && inB (m 8) 1 15 && txB (m 3)
  else if m 0 = 5 ∨ m 0 = 6 then inB (m 8) 0 1 && txB (m 3)
  else if m 0 = 4 ∨ m 0 = 7 ∨ m 0 = 8 ∨ m 0 = 9 then txB (m 3)
  else if m 0 = 10 then txB (m 3) && txB (m 9) && decide (m 9 < m 3)
  else if m 0 = 11 then pathB m else false
/-- What a kind asks is taken out. -/
def mayZ (m : Nat → Int) : Nat → Int :=
  if m 0 = 1 ∨ m 0 = 2 then updI (updI (updI (updRI m 5 2 (fun _ => 0)) 7 0) 4 0) 3 0
  else if m 0 = 3 then updI (updI (updI (updI m 4 0) 8 0) 8 0) 3 0
  else if m 0 = 5 ∨ m 0 = 6 then updI (updI m 8 0) 3 0
  else if m 0 = 4 ∨ m 0 = 7 ∨ m 0 = 8 ∨ m 0 = 9 then updI m 3 0
  else if m 0 = 10 then updI (updI m 3 0) 9 0
  else if m 0 = 11 then updRI (updI (updI (updI m 11 0) 9 0) 10 0) 12 16 (fun _ => 0) else m
/-- The head of a message alone. -/
def headM (m : Nat → Int) : Nat → Int := updI (updI (updI (fun _ => 0) 0 (m 0)) 1 (m 1)) 2 (m 2)
def okB (m : Nat → Int) : Bool := endsB m && mayB m && eqN 28 (mayZ m) (headM m)
end Go.E

/- A message's bytes; of one that may be all numbers are in range. -/
namespace Go.E
open Go

end Go.E
