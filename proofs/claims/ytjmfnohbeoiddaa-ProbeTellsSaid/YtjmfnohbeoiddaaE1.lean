/- The engine, part 1: states as lists of slots and of blocks; the rules of control. No program in sight. -/
import Derived.WalkKit
namespace Go.E
open Go

abbrev Env := List (Nat × Value)
abbrev GH := List (Nat × Obj)

def lk (t : Nat) : Env → Option Value
  | [] => none
  | (s, v) :: e => bif Nat.beq s t then some v else lk t e

def ev (env : Env) : Operand → Option Value
  | .tmp t => lk t env
  | .const v => some v
  | .global g => some (.pointer (some ⟨g, 0, none⟩))
  | .func f => some (.func (.func f) #[] #[])

def keys (H : GH) : List Nat := H.map (·.1)

@[simp] theorem keys_nil : keys [] = [] := rfl
@[simp] theorem keys_cons (b : Nat) (o : Obj) (H : GH) : keys ((b, o) :: H) = b :: keys H := rfl

theorem mem_keys {H : GH} {b : Nat} {o : Obj} (h : (b, o) ∈ H) : b ∈ keys H := List.mem_map.2 ⟨(b, o), h, rfl⟩
theorem keys_mem {H : GH} {b : Nat} (h : b ∈ keys H) : ∃ o, (b, o) ∈ H := by
  obtain ⟨⟨b', o⟩, h1, h2⟩ := List.mem_map.1 h
  exact ⟨o, by subst h2; exact h1⟩

/-- The world w is as w0 was, but for the blocks of H, which hold what H says. -/
structure St (w0 : World) (H : GH) (w : World) : Prop where
  os : w.os = w0.os
  tape : w.tape = w0.tape
  out : w.output = w0.output
  size : w0.heap.size ≤ w.heap.size
  own : ∀ b o, (b, o) ∈ H → w.heap[b]? = some o
  nd : (keys H).Nodup
  keep : ∀ k, k < w0.heap.size → k ∉ keys H → w.heap[k]? = w0.heap[k]?

theorem St.refl (w : World) : St w [] w :=
  ⟨rfl, rfl, rfl, Nat.le_refl _, (fun _ _ h => absurd h (by simp)), List.nodup_nil, (fun _ _ _ => rfl)⟩

theorem St.lt {w0 w : World} {H : GH} (h : St w0 H w) {b : Nat} {o : Obj} (hb : (b, o) ∈ H) : b < w.heap.size :=
  (Array.getElem?_eq_some_iff.1 (h.own b o hb)).1

theorem St.klt {w0 w : World} {H : GH} (h : St w0 H w) {b : Nat} (hb : b ∈ keys H) : b < w.heap.size := by
  obtain ⟨o, ho⟩ := keys_mem hb
  exact h.lt ho

theorem St.drew {w0 w : World} {H : GH} (h : St w0 H w) : St w0 H w.drew := ⟨h.os, h.tape, h.out, h.size, h.own, h.nd, h.keep⟩

/-- A block that was there is taken into the list. -/
theorem St.take {w0 w : World} {H : GH} (h : St w0 H w) {b : Nat} {o : Obj} (hb : w0.heap[b]? = some o) (hn : b ∉ keys H) : St w0 ((b, o) :: H) w := by
  have hlt := (Array.getElem?_eq_some_iff.1 hb).1
  refine ⟨h.os, h.tape, h.out, h.size, ?_, List.nodup_cons.2 ⟨hn, h.nd⟩, fun k hk hkn => h.keep k hk (fun hh => hkn (List.mem_cons_of_mem _ hh))⟩
  intro b' o' hm
  rcases List.mem_cons.1 hm with hm | hm
  · cases hm
    rw [h.keep b hlt hn]; exact hb
  · exact h.own _ _ hm

/-- A new block. -/
theorem St.alloc {w0 w : World} {H : GH} (h : St w0 H w) (o : Obj) : St w0 ((w.heap.size, o) :: H) (w.alloc o) := by
  have hn : w.heap.size ∉ keys H := fun hh => Nat.lt_irrefl _ (h.klt hh)
  refine ⟨h.os, h.tape, h.out, Nat.le_trans h.size (by simp), ?_, List.nodup_cons.2 ⟨hn, h.nd⟩, ?_⟩
  · intro b' o' hm
    rcases List.mem_cons.1 hm with hm | hm
    · cases hm
      show (w.heap.push _)[w.heap.size]? = _
      rw [Array.getElem?_push, if_pos rfl]
    · have := h.lt hm
      simp only [World.alloc]
      rw [Array.getElem?_push, if_neg (by omega)]
      exact h.own _ _ hm
  · intro k hk hkn
    have := h.size
    simp only [World.alloc]
    rw [Array.getElem?_push, if_neg (by omega)]
    exact h.keep k hk (fun hh => hkn (List.mem_cons_of_mem _ hh))

/-- H with block b holding o. -/
inductive Upd : GH → Nat → Obj → GH → Prop
  | here (b : Nat) (o o' : Obj) (t : GH) : Upd ((b, o) :: t) b o' ((b, o') :: t)
  | there (x : Nat × Obj) (t t' : GH) (b : Nat) (o' : Obj) (h : Upd t b o' t') : Upd (x :: t) b o' (x :: t')

theorem Upd.keys {H H' : GH} {b : Nat} {o' : Obj} (h : Upd H b o' H') : keys H' = keys H := by
  induction h with
  | here => rfl
  | there x t t' b o' h ih => simp only [E.keys, List.map_cons] at *; rw [ih]

theorem Upd.mem {H H' : GH} {b : Nat} {o' : Obj} (h : Upd H b o' H') : b ∈ E.keys H := by
  induction h with
  | here => simp
  | there x t t' b o' h ih => exact List.mem_cons_of_mem _ ih

theorem Upd.spec {H H' : GH} {b : Nat} {o' : Obj} (h : Upd H b o' H') : (E.keys H).Nodup → ∀ k o, (k, o) ∈ H' → (k = b ∧ o = o') ∨ (k ≠ b ∧ (k, o) ∈ H) := by
  induction h with
  | here b o o' t =>
    intro hn k u hm
    simp only [keys_cons, List.nodup_cons] at hn
    rcases List.mem_cons.1 hm with hm | hm
    · cases hm; exact .inl ⟨rfl, rfl⟩
    · exact .inr ⟨fun e => hn.1 (e ▸ mem_keys hm), List.mem_cons_of_mem _ hm⟩
  | there x t t' b o' h ih =>
    intro hn k u hm
    obtain ⟨xb, xo⟩ := x
    simp only [keys_cons, List.nodup_cons] at hn
    rcases List.mem_cons.1 hm with hm | hm
    · cases hm
      exact .inr ⟨fun e => hn.1 (e ▸ h.mem), List.mem_cons_self ..⟩
    · rcases ih hn.2 k u hm with h1 | ⟨h1, h2⟩
      · exact .inl h1
      · exact .inr ⟨h1, List.mem_cons_of_mem _ h2⟩

/-- A block of the list changes. -/
theorem St.upd {w0 w w' : World} {H H' : GH} {b : Nat} {o' : Obj} (h : St w0 H w) (hu : Upd H b o' H') (hb : w'.heap[b]? = some o') (hk : ∀ k, k ≠ b → w'.heap[k]? = w.heap[k]?)
    (ho : w'.os = w.os) (ht : w'.tape = w.tape) (hout : w'.output = w.output) (hs : w'.heap.size = w.heap.size) : St w0 H' w' := by
  refine ⟨ho.trans h.os, ht.trans h.tape, hout.trans h.out, by rw [hs]; exact h.size, ?_, by rw [hu.keys]; exact h.nd, ?_⟩
  · intro k o hm
    rcases hu.spec h.nd k o hm with ⟨rfl, rfl⟩ | ⟨h1, h2⟩
    · exact hb
    · rw [hk k h1]; exact h.own _ _ h2
  · intro k hlt hn
    rw [hu.keys] at hn
    rw [hk k (fun e => hn (e ▸ hu.mem))]
    exact h.keep k hlt hn

/-- What is new may be forgotten; what is as it was may be forgotten. -/
theorem St.drop {w0 w : World} {H H' : GH} (h : St w0 H w) (hs : ∀ b o, (b, o) ∈ H' → (b, o) ∈ H) (hn : (keys H').Nodup)
    (hk : ∀ b o, (b, o) ∈ H → b ∈ keys H' ∨ w0.heap.size ≤ b ∨ w0.heap[b]? = some o) : St w0 H' w := by
  refine ⟨h.os, h.tape, h.out, h.size, fun b o hm => h.own _ _ (hs _ _ hm), hn, ?_⟩
  intro k hlt hkn
  by_cases hm : k ∈ keys H
  · obtain ⟨o, ho⟩ := keys_mem hm
    rcases hk k o ho with h1 | h1 | h1
    · exact absurd h1 hkn
    · omega
    · rw [h.own _ _ ho, h1]
  · exact h.keep k hlt hm

/-- Two stretches, one behind the other. -/
theorem St.trans {w0 w w' : World} {H F : GH} (h : St w0 H w) (k : St w F w') {H' : GH} (hn : (keys H').Nodup)
    (hm : ∀ b o, (b, o) ∈ H' → (b, o) ∈ F ∨ ((b, o) ∈ H ∧ b ∉ keys F))
    (hF : ∀ b, b ∈ keys F → b < w0.heap.size → b ∈ keys H')
    (hH : ∀ b, b ∈ keys H → b < w0.heap.size → b ∈ keys H') : St w0 H' w' := by
  refine ⟨k.os.trans h.os, k.tape.trans h.tape, k.out.trans h.out, Nat.le_trans h.size k.size, ?_, hn, ?_⟩
  · intro b o hb
    rcases hm b o hb with h1 | ⟨h1, h2⟩
    · exact k.own _ _ h1
    · rw [k.keep b (h.lt h1) h2]; exact h.own _ _ h1
  · intro b hlt hnb
    rw [k.keep b (Nat.lt_of_lt_of_le hlt h.size) (fun hf => hnb (hF b hf hlt))]
    exact h.keep b hlt (fun hh => hnb (hH b hh hlt))

/-! ### The frame -/
def AgV (env : Env) (a : Act) : Prop := ∀ t v, lk t env = some v → a.tmps.getD t undef = v

structure Ag (n : Nat) (env : Env) (a : Act) : Prop where
  size : a.tmps.size = n
  defers : a.defers = []
  get : AgV env a

theorem AgV.ev {env : Env} {a : Act} (h : AgV env a) {x : Operand} {v : Value} (hx : ev env x = some v) : a.eval x = v := by
  cases x with
  | tmp t => exact h t v hx
  | const u => simpa [E.ev, Act.eval] using hx
  | global g => simpa [E.ev, Act.eval] using hx
  | func f => simpa [E.ev, Act.eval] using hx

theorem lk_cons (t s : Nat) (v : Value) (env : Env) : lk t ((s, v) :: env) = if s = t then some v else lk t env := by
  by_cases h : s = t
  · subst h; simp [lk]
  · have : Nat.beq s t = false := by
      cases hb : Nat.beq s t
      · rfl
      · exact absurd (Nat.eq_of_beq_eq_true hb) h
    simp [lk, this, h]

theorem Ag.put {n : Nat} {env : Env} {a : Act} (h : Ag n env a) {d : Nat} (hd : d < n) (v : Value) : Ag n ((d, v) :: env) (a.put (some d) v) := by
  refine ⟨by simp [Act.put, h.size], by simp [Act.put, h.defers], ?_⟩
  intro t u ht
  rw [lk_cons] at ht
  by_cases hdt : d = t
  · rw [if_pos hdt] at ht
    cases ht
    subst hdt
    have hlt : d < a.tmps.size := by rw [h.size]; exact hd
    simp [Act.put, hlt]
  · rw [if_neg hdt] at ht
    have := h.get t u ht
    simp only [Act.put, Array.getD_eq_getD_getElem?] at *
    rw [Array.getElem?_setIfInBounds_ne hdt]
    exact this

/-- Every slot of l stands in env. -/
def Live : Env → Env → Prop
  | _, [] => True
  | env, (t, v) :: l => lk t env = some v ∧ Live env l

theorem ln {env : Env} : Live env [] := trivial
theorem lc {env l : Env} {t : Nat} {v : Value} (h : lk t env = some v) (k : Live env l) : Live env ((t, v) :: l) := ⟨h, k⟩

theorem Live.get {env l : Env} (h : Live env l) : ∀ t v, lk t l = some v → lk t env = some v := by
  induction l with
  | nil => intro t v ht; cases ht
  | cons x l ih =>
    obtain ⟨s, u⟩ := x
    intro t v ht
    rw [lk_cons] at ht
    by_cases hs : s = t
    · rw [if_pos hs] at ht
      cases ht
      subst hs
      exact h.1
    · rw [if_neg hs] at ht
      exact ih h.2 t v ht

theorem Ag.live {n : Nat} {env l : Env} {a : Act} (h : Ag n env a) (hl : Live env l) : Ag n l a := ⟨h.size, h.defers, fun t v ht => h.get t v (hl.get t v ht)⟩

/-! ### Goals -/
def XW (P : Program) (n : Nat) (w0 : World) (env : Env) (H : GH) (c : Code) (Q : Exit → Act → World → Prop) : Prop :=
  ∀ a w, Ag n env a → St w0 H w → c.wp P Q a w
def XQ (n : Nat) (w0 : World) (env : Env) (H : GH) (e : Exit) (Q : Exit → Act → World → Prop) : Prop :=
  ∀ a w, Ag n env a → St w0 H w → Q e a w
def XO (P : Program) (n : Nat) (w0 : World) (env : Env) (H : GH) (ops : Array Oper) (l : List Oper) (Q : Exit → Act → World → Prop) : Prop :=
  ∀ a w, Ag n env a → St w0 H w → wpList P ops Q l a w

/-- What one operation does, from what the slots and the blocks hold. -/
def OT (P : Program) (w0 : World) (env : Env) (H : GH) (o : Oper) (R : Value → GH → Prop) : Prop :=
  ∀ a w, AgV env a → St w0 H w → o.wp P a w (fun a' w' => ∃ v H', a' = a.put o.dst v ∧ St w0 H' w' ∧ R v H') (fun _ _ _ => False)

def Is (v : Value) (H : GH) : Value → GH → Prop := fun v' H' => v' = v ∧ H' = H

section
variable {P : Program} {n : Nat} {w0 : World} {env : Env} {H : GH} {Q : Exit → Act → World → Prop}

theorem wp_mono2 {o : Oper} {a : Act} {w : World} {K K' : Act → World → Prop} {Q Q' : Exit → Act → World → Prop} (h : ∀ a w, K a w → K' a w)
    (hq : ∀ e a w, Q e a w → Q' e a w) (hh : o.wp P a w K Q) : o.wp P a w K' Q' := by
  unfold Oper.wp at *
  generalize (execOp a.eval o).run P w = r at *
  cases r with
  | ok x w' =>
    cases x <;> simp only [Oper.upon] at hh ⊢
    case value => exact h _ _ hh
    case skip => exact h _ _ hh
    case defer => exact h _ _ hh
    case enter f args =>
      refine Calls.mono hh fun e w'' he => ?_
      cases e with
      | returned u => exact h _ _ he
      | panicked c => exact hq _ _ _ he
      | outgrown => exact ⟨he.choose, he.choose_spec.choose, hq _ _ _ he.choose_spec.choose_spec⟩
    case row => exact Rows.mono hh (fun _ _ he => h _ _ he)
  | halt x w' => cases x <;> simp only [Oper.upon] at hh ⊢ <;> exact hq _ _ _ hh

theorem xw_seq {x y : Code} (h : XW P n w0 env H x (Exit.then (y.wp P Q) Q)) : XW P n w0 env H (.seq x y) Q :=
  fun a w ha hs => wp_seq (h a w ha hs)
theorem xq_then {y : Code} (h : XW P n w0 env H y Q) : XQ n w0 env H .normal (Exit.then (y.wp P Q) Q) := h
theorem xq_thenI {y : Act → World → Prop} {e : Exit} (he : e ≠ .normal) (h : XQ n w0 env H e Q) : XQ n w0 env H e (Exit.then y Q) := by
  intro a w ha hs
  cases e <;> first | exact absurd rfl he | exact h a w ha hs
theorem xq_then_exit {y : Act → World → Prop} {i : Nat} (h : XQ n w0 env H (.exit i) Q) : XQ n w0 env H (.exit i) (Exit.then y Q) := h
theorem xq_then_ret {y : Act → World → Prop} (h : XQ n w0 env H .ret Q) : XQ n w0 env H .ret (Exit.then y Q) := h
theorem xw_skip (h : XQ n w0 env H .normal Q) : XW P n w0 env H .skip Q := fun a w ha hs => wp_skip (h a w ha hs)
theorem xw_exit {i : Nat} (h : XQ n w0 env H (.exit i) Q) : XW P n w0 env H (.exit i) Q := fun a w ha hs => wp_exit (h a w ha hs)
theorem xw_ret (h : XQ n w0 env H .ret Q) : XW P n w0 env H .ret Q := fun a w ha hs => wp_ret (h a w ha hs)
theorem xw_label {l : Nat} (h : XQ n w0 env H .normal Q) : XW P n w0 env H (.label l) Q := fun a w ha hs => wp_label (h a w ha hs)
theorem xw_block {i : Nat} {c : Code} (h : XW P n w0 env H c (Exit.inBlock i Q)) : XW P n w0 env H (.block i c) Q := fun a w ha hs => wp_block (h a w ha hs)
theorem xq_blk (i : Nat) (h : XQ n w0 env H .normal Q) : XQ n w0 env H .normal (Exit.inBlock i Q) := h
theorem xq_blk_ret {i : Nat} (h : XQ n w0 env H .ret Q) : XQ n w0 env H .ret (Exit.inBlock i Q) := h
theorem xq_blk_eq {i : Nat} (h : XQ n w0 env H .normal Q) : XQ n w0 env H (.exit i) (Exit.inBlock i Q) := by
  intro a w ha hs; simp only [Exit.inBlock, if_true]; exact h a w ha hs
theorem xq_blk_ne {i j : Nat} (hij : Nat.beq i j = false) (h : XQ n w0 env H (.exit i) Q) : XQ n w0 env H (.exit i) (Exit.inBlock j Q) := by
  have : i ≠ j := fun e => by subst e; simp at hij
  intro a w ha hs; simp only [Exit.inBlock, if_neg this]; exact h a w ha hs

theorem xw_cond {c : Operand} {x y : Code} {t : Bool} (hc : ev env c = some (.bool t)) (ht : t = true → XW P n w0 env H x Q) (hf : t = false → XW P n w0 env H y Q) :
    XW P n w0 env H (.cond c x y) Q := fun a w ha hs => by
  cases t
  · exact wp_cond (ha.get.ev hc) (hf rfl a w ha hs)
  · exact wp_cond (ha.get.ev hc) (ht rfl a w ha hs)
theorem xw_cond_t {c : Operand} {x y : Code} {t : Bool} (hc : ev env c = some (.bool t)) (ht : t = true) (h : XW P n w0 env H x Q) : XW P n w0 env H (.cond c x y) Q :=
  xw_cond hc (fun _ => h) (fun e => by rw [ht] at e; cases e)
theorem xw_cond_f {c : Operand} {x y : Code} {t : Bool} (hc : ev env c = some (.bool t)) (ht : t = false) (h : XW P n w0 env H y Q) : XW P n w0 env H (.cond c x y) Q :=
  xw_cond hc (fun e => by rw [ht] at e; cases e) (fun _ => h)

theorem xw_live {c : Code} (l : Env) (hl : Live env l) (h : XW P n w0 l H c Q) : XW P n w0 env H c Q := fun a w ha hs => h a w (ha.live hl) hs
theorem xq_live {e : Exit} (l : Env) (hl : Live env l) (h : XQ n w0 l H e Q) : XQ n w0 env H e Q := fun a w ha hs => h a w (ha.live hl) hs
theorem xo_live {ops : Array Oper} {r : List Oper} (l : Env) (hl : Live env l) (h : XO P n w0 l H ops r Q) : XO P n w0 env H ops r Q := fun a w ha hs => h a w (ha.live hl) hs

/-- The list of blocks is read otherwise. -/
theorem xw_st {c : Code} (H' : GH) (hh : ∀ w, St w0 H w → St w0 H' w) (h : XW P n w0 env H' c Q) : XW P n w0 env H c Q := fun a w ha hs => h a w ha (hh w hs)
theorem xq_st {e : Exit} (H' : GH) (hh : ∀ w, St w0 H w → St w0 H' w) (h : XQ n w0 env H' e Q) : XQ n w0 env H e Q := fun a w ha hs => h a w ha (hh w hs)
theorem xo_st {ops : Array Oper} {r : List Oper} (H' : GH) (hh : ∀ w, St w0 H w → St w0 H' w) (h : XO P n w0 env H' ops r Q) : XO P n w0 env H ops r Q := fun a w ha hs => h a w ha (hh w hs)
theorem xw_take {c : Code} {b : Nat} {o : Obj} (hb : w0.heap[b]? = some o) (hn : b ∉ keys H) (h : XW P n w0 env ((b, o) :: H) c Q) : XW P n w0 env H c Q :=
  xw_st _ (fun _ hs => hs.take hb hn) h
/-- Facts of some world at hand. -/
theorem xw_fact {c : Code} (h : ∀ w, St w0 H w → XW P n w0 env H c Q) : XW P n w0 env H c Q := fun a w ha hs => h w hs a w ha hs

/-- A loop: I m env H holds at each round's head, m falls. -/
theorem xw_loop {c : Code} (I : Nat → Env → GH → Prop) (m0 : Nat) (h0 : ∃ e1 H1, Live env e1 ∧ (∀ w, St w0 H w → St w0 H1 w) ∧ I m0 e1 H1)
    (round : ∀ m e H, I m e H → XW P n w0 e H c (Exit.then (fun a w => ∃ m' e' H', m' < m ∧ Ag n e' a ∧ St w0 H' w ∧ I m' e' H') Q)) :
    XW P n w0 env H (.loop c) Q := by
  intro a w ha hs
  obtain ⟨e1, H1, hl, hst, hi⟩ := h0
  intro b k cs
  have key : ∀ m, ∀ e H a w, I m e H → Ag n e a → St w0 H w →
      ∃ ex a' w', Q ex a' w' ∧ Arrives P (lone (b.at a (.code c :: .inLoop c :: k)) cs w) b k cs ex a' w' := by
    intro m
    induction m using Nat.strongRecOn with
    | _ m ih =>
      intro e H a w hI ha hs
      obtain ⟨ex, a₁, w₁, hq, harr⟩ := round m e H hI a w ha hs b (.inLoop c :: k) cs
      cases ex with
      | normal =>
        obtain ⟨m', e', H', hlt, ha', hs', hI'⟩ := hq
        obtain ⟨ex₂, a₂, w₂, hq₂, harr₂⟩ := ih m' hlt e' H' a₁ w₁ hI' ha' hs'
        exact ⟨ex₂, a₂, w₂, hq₂, .of_steps (Steps.trans harr (.one step_inLoop)) harr₂⟩
      | exit id => exact ⟨_, a₁, w₁, hq, .pass (x := .inLoop c) rfl (fun _ _ => .inl (by simp)) harr⟩
      | goto l => exact ⟨_, a₁, w₁, hq, .pass (x := .inLoop c) rfl (fun _ _ => .inl (by simp)) harr⟩
      | ret => exact ⟨_, a₁, w₁, hq, .pass (x := .inLoop c) rfl (fun _ _ => .inl (by simp)) harr⟩
      | panic ch => exact ⟨_, a₁, w₁, hq, .pass (x := .inLoop c) rfl (fun _ _ => .inl (by simp)) harr⟩
      | outgrown => exact ⟨_, a₁, w₁, hq, .pass (x := .inLoop c) rfl (fun _ _ => .inl (by simp)) harr⟩
  obtain ⟨ex, a', w', hq, harr⟩ := key m0 e1 H1 a w hi (ha.live hl) (hst w hs)
  exact ⟨ex, a', w', hq, .of_steps (.one step_loop) harr⟩
/-- The end of a round. -/
theorem xq_round {I : Nat → Env → GH → Prop} {m : Nat} (h : ∃ m' e' H', m' < m ∧ Live env e' ∧ (∀ w, St w0 H w → St w0 H' w) ∧ I m' e' H') :
    XQ n w0 env H .normal (Exit.then (fun a w => ∃ m' e' H', m' < m ∧ Ag n e' a ∧ St w0 H' w ∧ I m' e' H') Q) := by
  intro a w ha hs
  obtain ⟨m', e', H', h1, h2, h3, h4⟩ := h
  exact ⟨m', e', H', h1, ha.live h2, h3 w hs, h4⟩
end
end Go.E
