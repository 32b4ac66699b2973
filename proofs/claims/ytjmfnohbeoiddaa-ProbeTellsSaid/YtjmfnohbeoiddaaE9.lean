/- The engine, part 9: loops as relations; slices whose segment may hold more than they need; places of elements; errors as numbers. -/
import Derived.Test.YtjmfnohbeoiddaaE8
namespace Go.E
open Go

/-! ### Loops as relations -/
inductive Wh {σ ρ : Type} (f : σ → σ ⊕ ρ → Prop) : σ → ρ → Prop
  | out {s : σ} {r : ρ} (h : f s (.inr r)) : Wh f s r
  | again {s s' : σ} {r : ρ} (h : f s (.inl s')) (k : Wh f s' r) : Wh f s r

/-- A loop that goes through the states st 0, st 1, .., and leaves at the n-th. -/
theorem Wh.upto {σ ρ : Type} {f : σ → σ ⊕ ρ → Prop} (st : Nat → σ) (n : Nat) {r : ρ} (h : ∀ k, k < n → f (st k) (.inl (st (k + 1)))) (hn : f (st n) (.inr r)) : Wh f (st 0) r := by
  have key : ∀ j k, k + j = n → Wh f (st k) r := by
    intro j
    induction j with
    | zero => intro k hk; obtain rfl : k = n := (by omega); exact .out hn
    | succ j ih => intro k hk; exact .again (h k (by omega)) (ih (k + 1) (by omega))
  exact key n 0 (by omega)

/-- A loop, by an invariant and a measure. -/
theorem Wh.by {σ ρ : Type} {f : σ → σ ⊕ ρ → Prop} (I : σ → Prop) (m : σ → Nat) (R : ρ → Prop) {s : σ} (h0 : I s) (h : ∀ s, I s → (∃ s', f s (.inl s') ∧ I s' ∧ m s' < m s) ∨ ∃ r, f s (.inr r) ∧ R r) : ∃ r, Wh f s r ∧ R r := by
  have key : ∀ k s, m s = k → I s → ∃ r, Wh f s r ∧ R r := by
    intro k
    induction k using Nat.strongRecOn with
    | _ k ih =>
      intro s hk hi
      rcases h s hi with ⟨s', h1, h2, h3⟩ | ⟨r, h1, h2⟩
      · obtain ⟨r, h4, h5⟩ := ih (m s') (by omega) s' rfl h2
        exact ⟨r, .again h1 h4, h5⟩
      · exact ⟨r, .out h1, h2⟩
  exact key _ s rfl h0

def RQ {σ ρ : Type} (n : Nat) (w0 : World) (I : σ → Env → GH → Prop) (O : ρ → Exit → Env → GH → Prop) (o : σ ⊕ ρ) : Exit → Act → World → Prop :=
  fun ex a w => ∃ e' H', Ag n e' a ∧ St w0 H' w ∧ ((∃ s', o = .inl s' ∧ ex = .normal ∧ I s' e' H') ∨ ∃ r, o = .inr r ∧ ex ≠ .normal ∧ O r ex e' H')

section
variable {P : Program} {n : Nat} {w0 : World} {env : Env} {H : GH} {Q : Exit → Act → World → Prop} {ops : Array Oper} {rest : List Oper}

theorem xw_wh {σ ρ : Type} {f : σ → σ ⊕ ρ → Prop} {c : Code} (I : σ → Env → GH → Prop) (O : ρ → Exit → Env → GH → Prop) {s0 : σ} {x : ρ} (hw : Wh f s0 x)
    (h0 : ∃ e1 H1, Live env e1 ∧ (∀ w, St w0 H w → St w0 H1 w) ∧ I s0 e1 H1)
    (round : ∀ s o e H, I s e H → f s o → XW P n w0 e H c (RQ n w0 I O o))
    (out : ∀ ex e' H', O x ex e' H' → XQ n w0 e' H' ex Q) : XW P n w0 env H (.loop c) Q := by
  intro a w ha hs
  obtain ⟨e1, H1, hl, hst, hi⟩ := h0
  intro b k cs
  have key : ∀ s, Wh f s x → ∀ e H a w, I s e H → Ag n e a → St w0 H w → ∃ ex a' w', Q ex a' w' ∧ Arrives P (lone (b.at a (.code c :: .inLoop c :: k)) cs w) b k cs ex a' w' := by
    intro s hw
    induction hw with
    | @out s r h =>
      intro e H a w hI ha hs
      obtain ⟨ex, a₁, w₁, hq, harr⟩ := round s _ e H hI h a w ha hs b (.inLoop c :: k) cs
      obtain ⟨e', H', ha', hs', hq | hq⟩ := hq
      · obtain ⟨s', h1, _⟩ := hq; cases h1
      · obtain ⟨r', h1, hne, hO⟩ := hq
        cases h1
        have hQ := out ex e' H' hO a₁ w₁ ha' hs'
        cases ex with
        | normal => exact absurd rfl hne
        | exit id => exact ⟨_, a₁, w₁, hQ, .pass (x := .inLoop c) rfl (fun _ _ => .inl (by simp)) harr⟩
        | goto l => exact ⟨_, a₁, w₁, hQ, .pass (x := .inLoop c) rfl (fun _ _ => .inl (by simp)) harr⟩
        | ret => exact ⟨_, a₁, w₁, hQ, .pass (x := .inLoop c) rfl (fun _ _ => .inl (by simp)) harr⟩
        | panic ch => exact ⟨_, a₁, w₁, hQ, .pass (x := .inLoop c) rfl (fun _ _ => .inl (by simp)) harr⟩
        | outgrown => exact ⟨_, a₁, w₁, hQ, .pass (x := .inLoop c) rfl (fun _ _ => .inl (by simp)) harr⟩
    | @again s s' r h _ ih =>
      intro e H a w hI ha hs
      obtain ⟨ex, a₁, w₁, hq, harr⟩ := round s _ e H hI h a w ha hs b (.inLoop c :: k) cs
      obtain ⟨e', H', ha', hs', hq | hq⟩ := hq
      · obtain ⟨s'', h1, hex, hI'⟩ := hq
        cases h1
        subst hex
        obtain ⟨ex₂, a₂, w₂, hq₂, harr₂⟩ := ih (by assumption) out e' H' a₁ w₁ hI' ha' hs'
        exact ⟨ex₂, a₂, w₂, hq₂, .of_steps (Steps.trans harr (.one step_inLoop)) harr₂⟩
      · obtain ⟨r', h1, _⟩ := hq; cases h1
  obtain ⟨ex, a', w', hq, harr⟩ := key s0 hw e1 H1 a w hi (ha.live hl) (hst w hs)
  exact ⟨ex, a', w', hq, .of_steps (.one step_loop) harr⟩

theorem xq_next {σ ρ : Type} {I : σ → Env → GH → Prop} {O : ρ → Exit → Env → GH → Prop} {o : σ ⊕ ρ} {s' : σ} {e' : Env} (H' : GH) (hl : Live env e') (hst : ∀ w, St w0 H w → St w0 H' w) (ho : o = .inl s') (hI : I s' e' H') :
    XQ n w0 env H .normal (RQ n w0 I O o) := fun a w ha hs => ⟨e', H', ha.live hl, hst w hs, .inl ⟨s', ho, rfl, hI⟩⟩
theorem xq_out {σ ρ : Type} {I : σ → Env → GH → Prop} {O : ρ → Exit → Env → GH → Prop} {o : σ ⊕ ρ} {r : ρ} {ex : Exit} {e' : Env} (H' : GH) (hl : Live env e') (hst : ∀ w, St w0 H w → St w0 H' w) (ho : o = .inr r) (hne : ex ≠ .normal) (hO : O r ex e' H') :
    XQ n w0 env H ex (RQ n w0 I O o) := fun a w ha hs => ⟨e', H', ha.live hl, hst w hs, .inr ⟨r, ho, hne, hO⟩⟩
end

/-! ### Segments -/
/-- B' is what has become of B: its blocks are there still, and new ones may be. -/
def Cov (w0 : World) (B B' : GH) : Prop := (∀ k, k ∈ keys B' → k ∈ keys B ∨ w0.heap.size ≤ k) ∧ ∀ k, k ∈ keys B → k ∈ keys B'

theorem Cov.refl {w0 : World} (B : GH) : Cov w0 B B := ⟨fun _ h => .inl h, fun _ h => h⟩
theorem Cov.trans {w0 : World} {A B C : GH} (h : Cov w0 A B) (k : Cov w0 B C) : Cov w0 A C :=
  ⟨fun x hx => (k.1 x hx).elim (fun h' => h.1 x h') .inr, fun x hx => k.2 x (h.2 x hx)⟩
theorem Cov.fresh {w0 : World} {B : GH} (h : Cov w0 [] B) : ∀ k, k ∈ keys B → w0.heap.size ≤ k := fun k hk => (h.1 k hk).elim (fun h => by simp at h) id
theorem Cov.of_fresh {w0 : World} {B : GH} (h : ∀ k, k ∈ keys B → w0.heap.size ≤ k) : Cov w0 [] B := ⟨fun k hk => .inr (h k hk), fun _ h => by simp at h⟩
theorem Cov.base {w0 w1 : World} {A B : GH} (h : Cov w1 A B) (hw : w0.heap.size ≤ w1.heap.size) : Cov w0 A B := ⟨fun k hk => (h.1 k hk).imp id fun h => Nat.le_trans hw h, h.2⟩
theorem Cov.cons {w0 : World} {b : Nat} {o o' : Obj} {A B : GH} (h : Cov w0 A B) : Cov w0 ((b, o) :: A) ((b, o') :: B) :=
  ⟨fun k hk => by
    simp only [keys_cons, List.mem_cons] at hk ⊢
    rcases hk with hk | hk
    · exact .inl (.inl hk)
    · exact (h.1 k hk).imp .inr id, fun k hk => by
    simp only [keys_cons, List.mem_cons] at hk ⊢
    exact hk.imp id (h.2 k)⟩
theorem Cov.app {w0 : World} {A A' B B' : GH} (h : Cov w0 A A') (k : Cov w0 B B') : Cov w0 (A ++ B) (A' ++ B') :=
  ⟨fun x hx => by
    simp only [keys_append, List.mem_append] at hx ⊢
    rcases hx with hx | hx
    · exact (h.1 x hx).imp .inl id
    · exact (k.1 x hx).imp .inr id, fun x hx => by
    simp only [keys_append, List.mem_append] at hx ⊢
    exact hx.imp (h.2 x) (k.2 x)⟩
theorem Cov.new {w0 : World} {b : Nat} {o : Obj} {B : GH} (hb : w0.heap.size ≤ b) : Cov w0 B ((b, o) :: B) :=
  ⟨fun k hk => by
    simp only [keys_cons, List.mem_cons] at hk
    rcases hk with hk | hk
    · exact .inr (hk ▸ hb)
    · exact .inl hk, fun k hk => by simp only [keys_cons, List.mem_cons]; exact .inr hk⟩
theorem Cov.upd {w0 : World} {b : Nat} {o : Obj} {B B' : GH} (h : Upd B b o B') : Cov w0 B B' := ⟨fun k hk => .inl (by rw [← h.keys]; exact hk), fun k hk => by rw [h.keys]; exact hk⟩

theorem Upd.ex {b : Nat} {o : Obj} (o' : Obj) : ∀ {B : GH}, (b, o) ∈ B → ∃ B', Upd B b o' B'
  | x :: B, h => by
    rcases List.mem_cons.1 h with h | h
    · subst h; exact ⟨_, .here b o o' B⟩
    · obtain ⟨B', hB'⟩ := Upd.ex o' h
      exact ⟨x :: B', .there x _ _ _ _ hB'⟩
theorem Upd.left {b : Nat} {o : Obj} {B B' H : GH} (h : Upd B b o B') : Upd (B ++ H) b o (B' ++ H) := by
  induction h with
  | here b o o' t => exact .here b o o' _
  | there x t t' b o' h ih => exact .there x _ _ b o' ih
theorem Upd.isin {b : Nat} {o : Obj} {B B' : GH} (h : Upd B b o B') : (b, o) ∈ B' := by
  induction h with
  | here => exact List.mem_cons_self ..
  | there x t t' b o' h ih => exact List.mem_cons_of_mem _ ih

/-- Where a segment, or a block, stands. -/
inductive Pull : GH → GH → GH → Prop
  | here (S R : GH) : Pull (S ++ R) S R
  | hereC (x : Nat × Obj) (R : GH) : Pull (x :: R) [x] R
  | there (A : GH) {H S R : GH} (h : Pull H S R) : Pull (A ++ H) S (A ++ R)
  | thereC (x : Nat × Obj) {H S R : GH} (h : Pull H S R) : Pull (x :: H) S (x :: R)
theorem Pull.perm {H S R : GH} (h : Pull H S R) : H.Perm (S ++ R) := by
  induction h with
  | here => exact List.Perm.refl _
  | hereC => exact List.Perm.refl _
  | @there A H S R h ih =>
    refine (List.Perm.append_left A ih).trans ?_
    rw [← List.append_assoc, ← List.append_assoc]
    exact List.Perm.append_right R List.perm_append_comm
  | @thereC x H S R h ih => exact (List.Perm.cons x ih).trans List.perm_middle.symm
theorem Pull.st {w0 w : World} {H S R : GH} (h : Pull H S R) (hs : St w0 H w) : St w0 (S ++ R) w := hs.perm h.perm
theorem Pull.push {w0 w : World} {H S R : GH} (h : Pull H S R) (hs : St w0 (S ++ R) w) : St w0 H w := hs.perm h.perm.symm
theorem Pull.sub {H S R : GH} (h : Pull H S R) : ∀ x ∈ S, x ∈ H := fun _ hx => h.perm.mem_iff.2 (List.mem_append_left _ hx)
theorem Pull.mem {H R : GH} {x : Nat × Obj} (h : Pull H [x] R) : x ∈ H := h.sub x (List.mem_singleton.2 rfl)

/-- All blocks are new. -/
def Fr (w0 : World) (H : GH) : Prop := ∀ k, k ∈ keys H → w0.heap.size ≤ k
theorem Fr.nil {w0 : World} : Fr w0 [] := fun _ h => by simp at h
theorem Fr.cons {w0 : World} {b : Nat} {o : Obj} {H : GH} (hb : w0.heap.size ≤ b) (h : Fr w0 H) : Fr w0 ((b, o) :: H) := fun k hk => by
  simp only [keys_cons, List.mem_cons] at hk
  exact hk.elim (fun e => e ▸ hb) (h k)
theorem Fr.seg {w0 : World} {B H : GH} (hb : Cov w0 [] B) (h : Fr w0 H) : Fr w0 (B ++ H) := fun k hk => by
  simp only [keys_append, List.mem_append] at hk
  exact hk.elim (hb.fresh k) (h k)

/-! ### Slices -/
def OJ {α : Type} (T : TypeId) (s : Nat) (c : α → Nat → Value) (B : GH) (v : Value) (l : List α) : Prop :=
  (v = .slice none 0 0 ∧ l = []) ∨ ∃ b o cap N F, (b, BK N F T) ∈ B ∧ v = .slice (some ⟨b, o, none⟩) l.length cap ∧ l.length ≤ cap ∧ o + cap * s ≤ N ∧ cap ≤ maxLen ∧ ∀ i, i < l.length * s → F (o + i) = eG s c l i

section
variable {α : Type} {w0 w : World} {T : TypeId} {s : Nat} {c : α → Nat → Value} {B H R : GH} {v : Value} {l : List α}

theorem OJ.nil : OJ T s c B (.slice none 0 0) ([] : List α) := .inl ⟨rfl, rfl⟩
theorem OJ.ofOL (h : OL w0 T s c B v l) : OJ T s c B v l := by
  rcases h with ⟨h1, h2, h3⟩ | ⟨b, o, cp, N, F, h1, h2, h3, h4, h5, h6, h7⟩
  · exact .inl ⟨h2, List.length_eq_zero_iff.1 h3⟩
  · exact .inr ⟨b, o, cp, N, F, by rw [h1]; exact List.mem_singleton.2 rfl, h3, h4, h5, h6, h7⟩
theorem OJ.covOL (h : OL w0 T s c B v l) : Cov w0 [] B := .of_fresh h.fresh
theorem OJ.mono {B' : GH} (h : OJ T s c B v l) (hB : ∀ x ∈ B, x ∈ B') : OJ T s c B' v l := by
  rcases h with h | ⟨b, o, cp, N, F, h1, h2⟩
  · exact .inl h
  · exact .inr ⟨b, o, cp, N, F, hB _ h1, h2⟩
theorem OJ.val (h : OJ T s c B v l) : ∃ p cap, v = .slice p l.length cap := by
  rcases h with ⟨rfl, rfl⟩ | ⟨b, o, cp, N, F, h1, h2, h3⟩
  · exact ⟨none, 0, rfl⟩
  · exact ⟨_, _, h2⟩
theorem OJ.sl (h : OJ T s c B v l) (hs : St w0 H w) (hB : ∀ x ∈ B, x ∈ H) : SL w s c v l := by
  rcases h with ⟨rfl, rfl⟩ | ⟨b, o, cp, N, F, h1, h2, h3, h4, h5, h6⟩
  · exact SL.nil
  · refine ⟨_, _, h2, h3, h5, fun h => (by cases h), SrcAt.own hs (hB _ h1) ?_ h6⟩
    have := Nat.mul_le_mul_right s h3
    omega
theorem OJ.lit {b n N : Nat} {F : Nat → Value} (hm : (b, BK N F T) ∈ B) (hl : n = l.length) (hN : n * s ≤ N) (hmx : n ≤ maxLen) (hF : ∀ i, i < n * s → F i = eG s c l i) : OJ T s c B (.slice (some ⟨b, 0, none⟩) n n) l := by
  subst hl
  exact .inr ⟨b, 0, _, N, F, hm, rfl, Nat.le_refl _, by omega, hmx, fun i hi => by rw [Nat.zero_add]; exact hF i hi⟩

theorem eG_drop {lo : Nat} (hlo : lo ≤ l.length) (hs : 0 < s) (i : Nat) : eG s c (l.drop lo) i = eG s c l (lo * s + i) := by
  simp only [eG, List.getElem?_drop]
  rw [Nat.mul_comm lo s, Nat.mul_add_div hs, Nat.mul_add_mod]
theorem eG_take {hi i : Nat} (h : i < (l.take hi).length * s) (hs : 0 < s) : eG s c (l.take hi) i = eG s c l i := by
  have h1 : i / s < (l.take hi).length := by rw [Nat.div_lt_iff_lt_mul hs]; exact h
  simp only [eG]
  rw [List.getElem?_take_of_lt (by simp at h1; omega)]

/-- What a slice of a slice is. -/
def cutV (v : Value) (s lo hi : Nat) : Value := match v with
  | .slice p _ cap => .slice (if cap = lo then p else p.map (·.add (lo * s))) (hi - lo) (cap - lo)
  | v => v

theorem OJ.cut {lo hi : Nat} (h : OJ T s c B v l) (hlo : lo ≤ hi) (hhi : hi ≤ l.length) (hs : 0 < s) : OJ T s c B (cutV v s lo hi) ((l.take hi).drop lo) := by
  rcases h with ⟨rfl, rfl⟩ | ⟨b, o, cp, N, F, h1, rfl, h3, h4, h5, h6⟩
  · simp at hhi
    subst hhi
    obtain rfl : lo = 0 := by omega
    exact .inl ⟨rfl, rfl⟩
  · have hlen : ((l.take hi).drop lo).length = hi - lo := by simp; omega
    have key : ∀ i, i < (hi - lo) * s → eG s c ((l.take hi).drop lo) i = eG s c l (lo * s + i) := by
      intro i hi'
      rw [eG_drop (by simp; omega) hs]
      refine eG_take ?_ hs
      rw [List.length_take, Nat.min_eq_left hhi]
      have : (hi - lo) * s + lo * s = hi * s := by rw [← Nat.add_mul]; congr 1; omega
      omega
    have hhs := Nat.mul_le_mul_right s hhi
    have hcs := Nat.mul_le_mul_right s h3
    have hls := Nat.mul_le_mul_right s hlo
    by_cases hcl : cp = lo
    · refine .inr ⟨b, o, cp - lo, N, F, h1, by simp [cutV, hcl, hlen], by rw [hlen]; omega, ?_, by omega, ?_⟩
      · subst hcl; simp; omega
      · intro i hi'
        rw [hlen] at hi'
        have : hi - lo = 0 := by omega
        rw [this] at hi'
        omega
    · refine .inr ⟨b, o + lo * s, cp - lo, N, F, h1, by simp [cutV, hcl, hlen, Addr.add_lit], by rw [hlen]; omega, ?_, by omega, ?_⟩
      · rw [Nat.sub_mul]
        have := Nat.mul_le_mul_right s (show lo ≤ cp by omega)
        omega
      · intro i hi'
        rw [hlen] at hi'
        rw [key i hi', Nat.add_assoc]
        refine h6 _ ?_
        have : (hi - lo) * s + lo * s = hi * s := by rw [← Nat.add_mul]; congr 1; omega
        omega

theorem SL.cut {lo hi : Nat} (h : SL w s c v l) (hlo : lo ≤ hi) (hhi : hi ≤ l.length) (hs : 0 < s) : SL w s c (cutV v s lo hi) ((l.take hi).drop lo) := by
  obtain ⟨p, cp, rfl, h3, h5, h6, h7⟩ := h
  have hlen : ((l.take hi).drop lo).length = hi - lo := by simp; omega
  have key : ∀ i, i < (hi - lo) * s → eG s c ((l.take hi).drop lo) i = eG s c l (lo * s + i) := by
    intro i hi'
    rw [eG_drop (by simp; omega) hs]
    refine eG_take ?_ hs
    rw [List.length_take, Nat.min_eq_left hhi]
    have : (hi - lo) * s + lo * s = hi * s := by rw [← Nat.add_mul]; congr 1; omega
    omega
  have hsum : (hi - lo) * s + lo * s = hi * s := by rw [← Nat.add_mul]; congr 1; omega
  have hhs := Nat.mul_le_mul_right s hhi
  refine ⟨if cp = lo then p else p.map (·.add (lo * s)), cp - lo, by rw [hlen]; rfl, by rw [hlen]; omega, by omega, ?_, ?_⟩
  · intro hp
    split at hp
    · omega
    · cases p with
      | none => have := h6 rfl; omega
      | some a => simp at hp
  · rw [hlen]
    rcases Nat.eq_zero_or_pos ((hi - lo) * s) with h0 | h0
    · exact .inl h0
    · rcases h7 with h7 | ⟨b, o, rfl, hc⟩
      · omega
      · have hpos : 0 < hi - lo := Nat.pos_of_mul_pos_right h0
        rw [if_neg (by omega)]
        refine .inr ⟨b, o + lo * s, by simp [Addr.add_lit], fun i hi' => ?_⟩
        rw [Nat.add_assoc, hc _ (by omega), key i hi']

/-- Where element k of a slice's cells lies. -/
def sadr (v : Value) (k : Nat) : Addr := match v with
  | .slice (some a) _ _ => a.add k
  | _ => ⟨0, k, none⟩

theorem SL.place {j : Nat} (h : SL w s c v l) (hj : j < l.length) (hs : 0 < s) : ∃ b o cap, v = .slice (some ⟨b, o, none⟩) l.length cap ∧ ∀ k, k < s → w.cell? ⟨b, o + (j * s + k), none⟩ = some (c l[j] k) := by
  obtain ⟨b, o, cp, hv, _, _, _, hc⟩ := Sl.at h hj hs
  refine ⟨b, o, cp, hv, fun k hk => ?_⟩
  have : j * s + k < l.length * s := by
    have := Nat.mul_le_mul_right s (show j + 1 ≤ l.length by omega)
    rw [Nat.add_mul, Nat.one_mul] at this
    omega
  rw [hc _ this, eG_at hj hk]
end

def errV (T : TypeId) (c : Int) : Value := if c = 0 then .nilIface else .iface T (.int .i64 c)

section
variable {α : Type} {P : Program} {n : Nat} {w0 : World} {env : Env} {H R : GH} {Q : Exit → Act → World → Prop} {ops : Array Oper} {rest : List Oper}
variable {ty : TypeId} {pos : String} {af : Array Edge} {g : Option (Nat × Bool)}
variable {t yt : TypeId} {x y : Operand} {b o N s : Nat} {T : TypeId} {c : α → Nat → Value} {v : Value} {l : List α} {B : GH}

/-- len, of a list -/
theorem o_lenL {d : Option Nat} {e : TypeId} {ts : Array TypeId} (ht : ts = #[t]) (he : P.underlying t = some (.slice e)) {args : Array Operand} (hargs : evL env args.toList = some [v]) (hv : ∃ p cap, v = .slice p l.length cap) :
    OT P w0 env H ⟨d, .call ⟨.builtin .len, args, ts⟩, ty, pos, af, g⟩ (Is (.int .i64 (l.length : Int)) H) := o_lenS ht he hargs hv

theorem o_ixL {d : Option Nat} {e : TypeId} {ag : Bool} {k : IntKind} {i : Int} (he : Elm P t e s ag) (hx : ev env x = some v) (hs0 : Nat.blt 0 s = true) (hv : ∀ w, St w0 H w → SL w s c v l) (hy : ev env y = some (.int k i)) (h0 : 0 ≤ i ∧ i < l.length) :
    OT P w0 env H ⟨d, .indexAddr t x y, ty, pos, af, g⟩ (Is (.pointer (some (sadr v (i.toNat * s)))) H) := by
  intro a w ha hst
  have hspos : 0 < s := by simpa [Nat.blt_eq] using hs0
  obtain ⟨b, o, cp, rfl, _⟩ := (hv w hst).place (j := i.toNat) (by omega) hspos
  simp only [sadr, Addr.add_lit]
  exact o_ixs (w0 := w0) (H := H) he hx hy h0 rfl a w ha hst

theorem o_faL {d : Option Nat} {f off k j : Nat} {s' : Nat} {ag : Bool} (hf : Fld P t f off s' ag) (hx : ev env x = some (.pointer (some (sadr v k)))) (hs0 : Nat.blt 0 s = true) (hv : ∀ w, St w0 H w → SL w s c v l) (hj : j < l.length) :
    OT P w0 env H ⟨d, .fieldAddr t x f, ty, pos, af, g⟩ (Is (.pointer (some (sadr v (k + off)))) H) := by
  intro a w ha hst
  obtain ⟨b, o, cp, rfl, _⟩ := (hv w hst).place hj (by simpa [Nat.blt_eq] using hs0)
  simp only [sadr, Addr.add_lit, ← Nat.add_assoc] at hx ⊢
  exact o_fa (w0 := w0) (H := H) hf hx a w ha hst

theorem o_ldL1 [Inhabited α] {d : Option Nat} {k j off q : Nat} {u : Value} (hx : ev env x = some (.pointer (some (sadr v k)))) (ht : TyS P t q false) (hs0 : Nat.blt off s = true) (hv : ∀ w, St w0 H w → SL w s c v l) (hj : j < l.length) (hk : k = j * s + off) (hu : c l[j]! off = u) :
    OT P w0 env H ⟨d, .load t x, ty, pos, af, g⟩ (Is u H) := by
  subst hk hu
  refine OT.val fun a w ha hs => ?_
  have hso : off < s := by simpa [Nat.blt_eq] using hs0
  obtain ⟨b, o, cp, rfl, hc⟩ := (hv w hs).place hj (by omega)
  rw [getElem!_pos l j hj]
  refine ⟨_, w, H, run_load1 (b := b) (o := o + (j * s + off)) ?_ ht (hc off hso), hs, rfl, rfl⟩
  rw [ha.ev hx]; simp [sadr, Addr.add_lit]

theorem o_ldLA [Inhabited α] {d : Option Nat} {k j off q : Nat} {f : Nat → Value} (hx : ev env x = some (.pointer (some (sadr v k)))) (ht : TyS P t q true) (hq : Nat.ble (off + q) s = true) (hq0 : Nat.blt 0 q = true) (hv : ∀ w, St w0 H w → SL w s c v l) (hj : j < l.length) (hk : k = j * s + off) (hu : ∀ i, i < q → c l[j]! (off + i) = f i) :
    OT P w0 env H ⟨d, .load t x, ty, pos, af, g⟩ (Is (AG q f) H) := by
  subst hk
  have hle := Nat.le_of_ble_eq_true hq
  have hq0' : 0 < q := by simpa [Nat.blt_eq] using hq0
  refine OT.val fun a w ha hs => ?_
  obtain ⟨b, o, cp, rfl, hc⟩ := (hv w hs).place hj (by omega)
  refine ⟨_, w, H, run_loadA (b := b) (o := o + (j * s + off)) (f := f) ?_ ht (fun i hi => ?_), hs, rfl, rfl⟩
  · rw [ha.ev hx]; simp [sadr, Addr.add_lit]
  · have := hc (off + i) (by omega)
    rw [show o + (j * s + off) + i = o + (j * s + (off + i)) by omega, this, ← hu i hi, getElem!_pos l j hj]
/-- A whole element that is a flat struct. -/
theorem o_ldLI {d : Option Nat} {l : List (Nat → Int)} {k j : Nat} (hx : ev env x = some (.pointer (some (sadr v k)))) (ht : TyS P t s true) (hs0 : Nat.blt 0 s = true) (hv : ∀ w, St w0 H w → SL w s iv v l) (hj : j < l.length) (hk : k = j * s) :
    OT P w0 env H ⟨d, .load t x, ty, pos, af, g⟩ (Is (AI s l[j]!) H) :=
  o_ldLA (off := 0) hx ht (by simp) hs0 hv hj hk (fun i _ => by rw [Nat.zero_add])

/-- Cut, of lists: [:h], [l:], [l:h]. -/
theorem run_cut {d : Option Nat} {a : Act} {w : World} {e : TypeId} {ag : Bool} {lo hi : Option Operand} {m h : Nat} (he : Elm P t e s ag) (hx : a.eval x = v) (hv : ∃ p cap, v = .slice p l.length cap ∧ l.length ≤ cap)
    (hlo : ∀ o, lo = some o → ∃ k, a.eval o = .int k (m : Int)) (hlo' : lo = none → m = 0) (hhi : ∀ o, hi = some o → ∃ k, a.eval o = .int k (h : Int)) (hhi' : hi = none → h = l.length) (hlh : m ≤ h) (hhc : h ≤ l.length) :
    (execOp a.eval ⟨d, .slice t x lo hi none, ty, pos, af, g⟩).run P w = .ok (.value (cutV v s m h)) w := by
  obtain ⟨p, cap, rfl, hc⟩ := hv
  exact run_slice he hx hlo hlo' hhi hhi' hlh (Nat.le_trans hhc hc)
theorem o_cutH {d : Option Nat} {e : TypeId} {ag : Bool} {o2 : Operand} {k : IntKind} {j : Int} (he : Elm P t e s ag) (hx : ev env x = some v) (hv : ∀ w, St w0 H w → SL w s c v l) (h2 : ev env o2 = some (.int k j)) (hj : 0 ≤ j ∧ j ≤ l.length) :
    OT P w0 env H ⟨d, .slice t x none (some o2) none, ty, pos, af, g⟩ (Is (cutV v s 0 j.toNat) H) :=
  OT.val fun a w ha hs => ⟨_, w, H, run_cut (l := l) he (ha.ev hx) (let ⟨p, cp, h, h', _⟩ := hv w hs; ⟨p, cp, h, h'⟩) (fun o ho => by cases ho) (fun _ => rfl) (fun o ho => by cases ho; exact ⟨k, by rw [ha.ev h2, Int.toNat_of_nonneg hj.1]⟩) (fun h => by cases h) (Nat.zero_le _) (by omega), hs, rfl, rfl⟩
theorem o_cutL {d : Option Nat} {e : TypeId} {ag : Bool} {o1 : Operand} {k : IntKind} {i : Int} (he : Elm P t e s ag) (hx : ev env x = some v) (hv : ∀ w, St w0 H w → SL w s c v l) (h1 : ev env o1 = some (.int k i)) (hi : 0 ≤ i ∧ i ≤ l.length) :
    OT P w0 env H ⟨d, .slice t x (some o1) none none, ty, pos, af, g⟩ (Is (cutV v s i.toNat l.length) H) :=
  OT.val fun a w ha hs => ⟨_, w, H, run_cut (l := l) he (ha.ev hx) (let ⟨p, cp, h, h', _⟩ := hv w hs; ⟨p, cp, h, h'⟩) (fun o ho => by cases ho; exact ⟨k, by rw [ha.ev h1, Int.toNat_of_nonneg hi.1]⟩) (fun h => by cases h) (fun o ho => by cases ho) (fun _ => rfl) (by omega) (by omega), hs, rfl, rfl⟩
theorem o_cutLH {d : Option Nat} {e : TypeId} {ag : Bool} {o1 o2 : Operand} {k k' : IntKind} {i j : Int} (he : Elm P t e s ag) (hx : ev env x = some v) (hv : ∀ w, St w0 H w → SL w s c v l) (h1 : ev env o1 = some (.int k i)) (h2 : ev env o2 = some (.int k' j)) (hi : 0 ≤ i ∧ i ≤ j ∧ j ≤ l.length) :
    OT P w0 env H ⟨d, .slice t x (some o1) (some o2) none, ty, pos, af, g⟩ (Is (cutV v s i.toNat j.toNat) H) :=
  OT.val fun a w ha hs => ⟨_, w, H, run_cut (l := l) he (ha.ev hx) (let ⟨p, cp, h, h', _⟩ := hv w hs; ⟨p, cp, h, h'⟩) (fun o ho => by cases ho; exact ⟨k, by rw [ha.ev h1, Int.toNat_of_nonneg hi.1]⟩) (fun h => by cases h) (fun o ho => by cases ho; exact ⟨k', by rw [ha.ev h2, Int.toNat_of_nonneg (by omega)]⟩) (fun h => by cases h) (by omega) (by omega), hs, rfl, rfl⟩

/-! Errors -/
theorem o_eqE {d : Option Nat} {ds : TypeDesc} {r : Int} (ht : P.underlying t = some ds) (hz : nilOf ds = some .nilIface) (hk : ∀ u, sameKind ds (.iface u (.int .i64 r)) = true) (hk0 : sameKind ds .nilIface = true) (hx : ev env x = some (errV T r)) :
    OT P w0 env H ⟨d, .binOp .eql t x (.const .nilIface) yt, ty, pos, af, g⟩ (Is (.bool (decide (r = 0))) H) := by
  refine o_eqn (r := decide (r = 0)) ht hz hx ?_ ?_
  · unfold errV; split
    · exact hk0
    · exact hk _
  · unfold errV; split
    · rename_i h; simp [isNilV, h]
    · rename_i h; simp [isNilV, h]
theorem o_neE {d : Option Nat} {ds : TypeDesc} {r : Int} (ht : P.underlying t = some ds) (hz : nilOf ds = some .nilIface) (hk : ∀ u, sameKind ds (.iface u (.int .i64 r)) = true) (hk0 : sameKind ds .nilIface = true) (hx : ev env x = some (errV T r)) :
    OT P w0 env H ⟨d, .binOp .neq t x (.const .nilIface) yt, ty, pos, af, g⟩ (Is (.bool (!decide (r = 0))) H) := by
  refine o_nen (r := decide (r = 0)) ht hz hx ?_ ?_
  · unfold errV; split
    · exact hk0
    · exact hk _
  · unfold errV; split
    · rename_i h; simp [isNilV, h]
    · rename_i h; simp [isNilV, h]

/-- A call that is given the blocks C and leaves F for them. -/
theorem xcallJ {d : Nat} {f : FuncId} {args : Array Operand} {ts : Array TypeId} {vs : List Value} {C : GH} {G : World → Value → GH → Prop} (hd : Nat.blt d n = true) (hw : Wt ops env g) (hf : IsFn P f) (hargs : evL env args.toList = some vs)
    (h : ∀ w, St w0 (C ++ R) w → Con P f vs.toArray w (G w)) (k : ∀ w v F, St w0 (C ++ R) w → G w v F → Cov w C F ∧ XO P n w0 ((d, v) :: env) (F ++ R) ops rest Q) :
    XO P n w0 env (C ++ R) ops (⟨some d, .call ⟨.value (.func f), args, ts⟩, ty, pos, af, g⟩ :: rest) Q := by
  refine xo hd hw (R := fun v H' => XO P n w0 ((d, v) :: env) H' ops rest Q) ?_ fun _ _ hh => hh
  intro a w ha hs
  unfold Oper.wp
  rw [run_call hf hargs a w ha, Oper.upon_enter]
  refine Calls.mono (h w hs) ?_
  rintro e w' ⟨v, F, rfl, hst, hG⟩
  obtain ⟨hc, hX⟩ := k w v F hs hG
  refine ⟨v, F ++ R, rfl, ?_, hX⟩
  have hnd := hs.nd
  simp only [keys_append, List.nodup_append] at hnd
  refine hs.trans hst ?_ ?_ ?_ ?_
  · simp only [keys_append, List.nodup_append]
    refine ⟨hst.nd, hnd.2.1, ?_⟩
    intro a ha b hb e
    subst e
    rcases hc.1 a ha with h1 | h1
    · exact hnd.2.2 a h1 a hb rfl
    · have := hs.klt (b := a) (by simp [hb])
      omega
  · intro b o hm
    rcases List.mem_append.1 hm with hm | hm
    · exact .inl hm
    · refine .inr ⟨List.mem_append_right _ hm, fun hb => ?_⟩
      rcases hc.1 b hb with h1 | h1
      · exact hnd.2.2 b h1 b (mem_keys hm) rfl
      · have := hs.klt (b := b) (by simp [mem_keys hm])
        omega
  · intro b hb _
    simp [hb]
  · intro b hb _
    simp only [keys_append, List.mem_append] at hb ⊢
    exact hb.imp (hc.2 b) id
end
end Go.E
