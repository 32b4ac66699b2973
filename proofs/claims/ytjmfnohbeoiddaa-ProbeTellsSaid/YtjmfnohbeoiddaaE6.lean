/- The engine, part 6: a region whose order is drawn. What only reads is taken when it can be; what writes comes one by one. -/
import Derived.Test.YtjmfnohbeoiddaaE5
namespace Go.E
open Go

structure Rec where
  i : Nat
  l : Env
  rs : GH
  v : Value

def dstOf (ops : Array Oper) (i : Nat) : Option Nat := (ops[i]?).bind (·.dst)
def aft (ops : Array Oper) (i : Nat) : List Nat :=
  match ops[i]? with
  | some o => (o.after.toList.filter (Region.binds .any ·)).map (·.on)
  | none => []

/-- No slot is written twice; each edge leads back; all slots are there. -/
def RegOK (n : Nat) (ops : Array Oper) : Bool :=
  ((List.range ops.size).filterMap (dstOf ops)).all (fun d => Nat.blt d n) &&
  (List.range ops.size).all (fun i => (aft ops i).all (fun j => Nat.blt j i)) &&
  (List.range ops.size).all (fun i => (List.range i).all fun j => match dstOf ops i, dstOf ops j with
    | some a, some b => !Nat.beq a b
    | _, _ => true)

theorem nokey {w0 : World} {KS : List Nat} {H' : GH} {b : Nat} (h : ∀ k ∈ keys H', k ∈ KS ∨ w0.heap.size ≤ k) (hb : b < w0.heap.size) (hn : b ∉ KS) : b ∉ keys H' := fun hk => (h b hk).elim hn fun h => by omega

/-- What is at its turn, of those that are not done. -/
def front (ops : Array Oper) (dn : List Nat) : List Nat :=
  (List.range ops.size).filter fun i => !dn.contains i && (aft ops i).all dn.contains

/-- The slots at which an operation looks hold what they are to hold, whenever it comes. -/
def slotsOK (ops : Array Oper) (dn : List Nat) (i : Nat) (l : List Nat) : Bool :=
  l.all fun s => (List.range ops.size).all fun j => match dstOf ops j with
    | some d => !Nat.beq d s || (if dn.contains j then (aft ops i).contains j else (aft ops j).contains i)
    | none => true

def OTg (P : Program) (ops : Array Oper) (w0 : World) (env : Env) (H : GH) (o : Oper) (v : Value) : Prop :=
  (Wt ops env o.guard ∧ OT P w0 env H o (Is v H)) ∨ (WtNot ops env o.guard ∧ v = undef)

section
variable {P : Program} {n : Nat} {w0 : World} {ops : Array Oper} {KS : List Nat}

structure Inv (P : Program) (n : Nat) (ops : Array Oper) (w0 : World) (KS : List Nat) (a0 : Act) (dl : List Rec) (H : GH) (fuel : Nat) (listed : Array Bool) (a : Act) (w : World) : Prop where
  lsize : listed.size = ops.size
  inn : ∀ i, listed.getD i false = true → ∃ p ∈ dl, p.i = i
  pend : ∀ p ∈ dl, listed.getD p.i false = false → (∃ o, ops[p.i]? = some o ∧ ∀ H', (∀ x ∈ p.rs, x ∈ H') → (∀ k ∈ keys H', k ∈ KS ∨ w0.heap.size ≤ k) → OTg P ops w0 p.l H' o p.v) ∧ (∀ x ∈ p.rs, x ∈ H) ∧
    (∀ s u, lk s p.l = some u → (∃ q ∈ dl, dstOf ops q.i = some s ∧ q.i ∈ aft ops p.i ∧ q.v = u) ∨ ((∀ j, dstOf ops j = some s → p.i ∈ aft ops j) ∧ a0.tmps.getD s undef = u))
  done : ∀ p ∈ dl, listed.getD p.i false = true → ∀ s, dstOf ops p.i = some s → a.tmps.getD s undef = p.v
  rest : ∀ s, (∀ j, dstOf ops j = some s → listed.getD j false = false) → a.tmps.getD s undef = a0.tmps.getD s undef
  size : a.tmps.size = n
  defers : a.defers = []
  st : St w0 H w
  ks : ∀ k ∈ keys H, k ∈ KS ∨ w0.heap.size ≤ k
  down : ∀ j, listed.getD j false = true → ∀ k ∈ aft ops j, listed.getD k false = true
  fuel : ops.size ≤ fuel + (List.range ops.size).countP (fun i => listed.getD i false)

theorem regOK_lt {n : Nat} (h : RegOK n ops = true) {i d : Nat} (hd : dstOf ops i = some d) : d < n := by
  simp only [RegOK, Bool.and_eq_true, List.all_eq_true] at h
  have hi : i < ops.size := by
    rcases Nat.lt_or_ge i ops.size with h' | h'
    · exact h'
    · simp [dstOf, Array.getElem?_eq_none h'] at hd
  have := h.1.1 d (List.mem_filterMap.2 ⟨i, List.mem_range.2 hi, hd⟩)
  simpa [Nat.blt_eq] using this
theorem regOK_edge {n : Nat} (h : RegOK n ops = true) {i j : Nat} (hj : j ∈ aft ops i) : j < i := by
  simp only [RegOK, Bool.and_eq_true, List.all_eq_true] at h
  have hi : i < ops.size := by
    rcases Nat.lt_or_ge i ops.size with h' | h'
    · exact h'
    · simp [aft, Array.getElem?_eq_none h'] at hj
  have := h.1.2 i (List.mem_range.2 hi) j hj
  simpa [Nat.blt_eq] using this
theorem regOK_uniq {n : Nat} (h : RegOK n ops = true) {i j d : Nat} (hi : dstOf ops i = some d) (hj : dstOf ops j = some d) : i = j := by
  simp only [RegOK, Bool.and_eq_true, List.all_eq_true] at h
  have hlt : ∀ k, dstOf ops k = some d → k < ops.size := by
    intro k hk
    rcases Nat.lt_or_ge k ops.size with h' | h'
    · exact h'
    · simp [dstOf, Array.getElem?_eq_none h'] at hk
  rcases Nat.lt_trichotomy i j with hlt' | heq | hgt
  · have := h.2 j (List.mem_range.2 (hlt j hj)) i (List.mem_range.2 hlt')
    rw [hi, hj] at this
    simp at this
  · exact heq
  · have := h.2 i (List.mem_range.2 (hlt i hi)) j (List.mem_range.2 hgt)
    rw [hi, hj] at this
    simp at this

theorem mem_ready' {i : Nat} {listed : Array Bool} (hs : listed.size = ops.size) : i ∈ Region.ready .any ops listed ↔ i < ops.size ∧ listed.getD i false = false ∧ ∀ k ∈ aft ops i, listed.getD k false = true := by
  rw [mem_ready]
  constructor
  · rintro ⟨h1, o, ho, h2⟩
    have hlt := (Array.getElem?_eq_some_iff.1 ho).1
    refine ⟨hlt, ?_, ?_⟩
    · rw [Array.getD_eq_getD_getElem?] at h1 ⊢
      rw [Array.getElem?_eq_getElem (by omega)] at h1 ⊢
      simpa using h1
    · intro k hk
      simp only [aft, ho, List.mem_map, List.mem_filter] at hk
      obtain ⟨e, ⟨he, hb⟩, rfl⟩ := hk
      exact h2 e (by simpa using he) hb
  · rintro ⟨hlt, h1, h2⟩
    refine ⟨?_, ops[i], Array.getElem?_eq_getElem hlt, ?_⟩
    · rw [Array.getD_eq_getD_getElem?] at h1 ⊢
      rw [Array.getElem?_eq_getElem (by omega)] at h1 ⊢
      simpa using h1
    · intro e he hb
      refine h2 e.on ?_
      simp only [aft, Array.getElem?_eq_getElem hlt, List.mem_map, List.mem_filter]
      exact ⟨e, ⟨by simpa using he, hb⟩, rfl⟩

theorem getD_set {listed : Array Bool} {i k : Nat} (hi : i < listed.size) : (listed.setIfInBounds i true).getD k false = if k = i then true else listed.getD k false := by
  simp only [Array.getD_eq_getD_getElem?]
  by_cases h : k = i
  · subst h
    rw [if_pos rfl, Array.getElem?_setIfInBounds_self_of_lt hi]; rfl
  · rw [if_neg h, Array.getElem?_setIfInBounds_ne (fun e => h e.symm)]

theorem countP_set {listed : Array Bool} {i : Nat} (hi : i < listed.size) (h0 : listed.getD i false = false) (N : Nat) (hN : i < N) :
    (List.range N).countP (fun k => (listed.setIfInBounds i true).getD k false) = (List.range N).countP (fun k => listed.getD k false) + 1 := by
  induction N with
  | zero => omega
  | succ N ih =>
    rw [List.range_succ, List.countP_append, List.countP_append]
    by_cases h : i = N
    · subst h
      have : (List.range i).countP (fun k => (listed.setIfInBounds i true).getD k false) = (List.range i).countP (fun k => listed.getD k false) := by
        apply List.countP_congr
        intro k hk
        have := List.mem_range.1 hk
        rw [getD_set hi, if_neg (by omega)]
      rw [this]
      have e1 : (listed.setIfInBounds i true).getD i false = true := by rw [getD_set hi, if_pos rfl]
      simp only [List.countP_cons, List.countP_nil, e1, h0]
      simp
    · rw [ih (by omega)]
      have e1 : (listed.setIfInBounds i true).getD N false = listed.getD N false := by rw [getD_set hi, if_neg (fun e => h e.symm)]
      simp only [List.countP_cons, List.countP_nil, e1]
      omega

theorem put_getD {a : Act} {dst : Option Nat} {v : Value} {s : Nat} (h : dst ≠ some s) : (a.put dst v).tmps.getD s undef = a.tmps.getD s undef := by
  cases dst with
  | none => rfl
  | some d =>
    have : d ≠ s := fun e => h (by rw [e])
    simp only [Act.put, Array.getD_eq_getD_getElem?]
    rw [Array.getElem?_setIfInBounds_ne this]
theorem put_getD_self {a : Act} {s : Nat} {v : Value} (h : s < a.tmps.size) : (a.put (some s) v).tmps.getD s undef = v := by
  simp only [Act.put, Array.getD_eq_getD_getElem?]
  rw [Array.getElem?_setIfInBounds_self_of_lt h]; rfl
theorem put_size (a : Act) (dst : Option Nat) (v : Value) : (a.put dst v).tmps.size = a.tmps.size := by cases dst <;> simp [Act.put]
theorem put_defers (a : Act) (dst : Option Nat) (v : Value) : (a.put dst v).defers = a.defers := by cases dst <;> rfl

/-- What is listed next stands as one that is done. -/
theorem Inv.step {a0 a : Act} {dl : List Rec} {H H' : GH} {fuel : Nat} {listed : Array Bool} {w w' : World} (hok : RegOK n ops = true) (h : Inv P n ops w0 KS a0 dl H (fuel + 1) listed a w) {p : Rec} (hp : p ∈ dl)
    (hr : p.i ∈ Region.ready .any ops listed) (hst : St w0 H' w') (hks : ∀ k ∈ keys H', k ∈ KS ∨ w0.heap.size ≤ k) (hrs : ∀ q ∈ dl, listed.getD q.i false = false → q.i ≠ p.i → ∀ x ∈ q.rs, x ∈ H') (huni : ∀ q ∈ dl, q.i = p.i → q.v = p.v) :
    Inv P n ops w0 KS a0 dl H' fuel (listed.setIfInBounds p.i true) (a.put (dstOf ops p.i) p.v) w' := by
  obtain ⟨hlt, hl0, haft⟩ := (mem_ready' h.lsize).1 hr
  have hlt' : p.i < listed.size := by rw [h.lsize]; exact hlt
  refine ⟨by simpa using h.lsize, ?_, ?_, ?_, ?_, by rw [put_size]; exact h.size, by rw [put_defers]; exact h.defers, hst, hks, ?_, ?_⟩
  · intro i hi
    rw [getD_set hlt'] at hi
    by_cases e : i = p.i
    · exact ⟨p, hp, e.symm⟩
    · rw [if_neg e] at hi; exact h.inn i hi
  · intro q hq hq0
    rw [getD_set hlt'] at hq0
    by_cases e : q.i = p.i
    · rw [if_pos e] at hq0; cases hq0
    · rw [if_neg e] at hq0
      obtain ⟨h1, _, h3⟩ := h.pend q hq hq0
      exact ⟨h1, hrs q hq hq0 e, h3⟩
  · intro q hq hq1 s hs
    rw [getD_set hlt'] at hq1
    by_cases e : q.i = p.i
    · rw [e] at hs
      rw [hs, put_getD_self (by rw [h.size]; exact regOK_lt hok hs)]
      exact (huni q hq e).symm
    · rw [if_neg e] at hq1
      rw [put_getD (fun hh => e (regOK_uniq hok hs hh))]
      exact h.done q hq hq1 s hs
  · intro s hs
    have hne : dstOf ops p.i ≠ some s := fun hh => by
      have := hs p.i hh
      rw [getD_set hlt', if_pos rfl] at this
      cases this
    rw [put_getD hne]
    refine h.rest s fun j hj => ?_
    have := hs j hj
    rw [getD_set hlt'] at this
    split at this
    · cases this
    · exact this
  · intro j hj k hk
    rw [getD_set hlt'] at hj ⊢
    by_cases e : k = p.i
    · rw [if_pos e]
    · rw [if_neg e]
      by_cases e2 : j = p.i
      · subst e2; exact haft k hk
      · rw [if_neg e2] at hj; exact h.down j hj k hk
  · rw [countP_set hlt' hl0 _ hlt]
    have := h.fuel
    omega

/-- The slots of what is at its turn hold what was promised. -/
theorem Inv.agv {a0 a : Act} {dl : List Rec} {H : GH} {fuel : Nat} {listed : Array Bool} {w : World} (h : Inv P n ops w0 KS a0 dl H fuel listed a w) {i : Nat} {l : Env} (hi0 : listed.getD i false = false) (haft : ∀ k ∈ aft ops i, listed.getD k false = true)
    (hs : ∀ s u, lk s l = some u → (∃ q ∈ dl, dstOf ops q.i = some s ∧ q.i ∈ aft ops i ∧ q.v = u) ∨ ((∀ j, dstOf ops j = some s → i ∈ aft ops j) ∧ a0.tmps.getD s undef = u)) : AgV l a := by
  intro s u hl
  rcases hs s u hl with ⟨q, hq, h1, h2, h3⟩ | ⟨h1, h2⟩
  · rw [← h3]; exact h.done q hq (haft _ h2) s h1
  · rw [← h2]
    refine h.rest s fun j hj => ?_
    cases hlj : listed.getD j false
    · rfl
    · have := h.down j hlj i (h1 j hj)
      rw [hi0] at this
      cases this

def EnvOK (ops : Array Oper) (env0 : Env) (dl : List Rec) (env : Env) : Prop :=
  ∀ s v, lk s env = some v → (∃ p ∈ dl, dstOf ops p.i = some s ∧ p.v = v) ∨ ((∀ p ∈ dl, dstOf ops p.i ≠ some s) ∧ lk s env0 = some v)

/-- The region from here on: dn are done (or promised), the slots hold env then, the blocks H, and what was promised rests on RS. -/
def XD (P : Program) (n : Nat) (w0 : World) (ops : Array Oper) (KS : List Nat) (env0 : Env) (dn : List Nat) (env : Env) (H RS : GH) (Q : Exit → Act → World → Prop) : Prop :=
  ∀ (a0 : Act) (dl : List Rec), Ag n env0 a0 → dl.map (·.i) = dn → dn.Nodup → EnvOK ops env0 dl env → (∀ p ∈ dl, ∀ x ∈ p.rs, x ∈ RS) →
    ∀ fuel listed a w, Inv P n ops w0 KS a0 dl H fuel listed a w → wpAny P .any ops Q fuel listed a w

theorem all_listed {n : Nat} (hok : RegOK n ops = true) {listed : Array Bool} (hs : listed.size = ops.size) (hr : Region.ready .any ops listed = []) : ∀ i, i < ops.size → listed.getD i false = true := by
  intro i
  induction i using Nat.strongRecOn with
  | _ i ih =>
    intro hi
    cases hl : listed.getD i false
    · have : i ∈ Region.ready .any ops listed := (mem_ready' hs).2 ⟨hi, hl, fun k hk => ih k (regOK_edge hok hk) (Nat.lt_trans (regOK_edge hok hk) hi)⟩
      rw [hr] at this
      cases this
    · rfl

theorem nodup_val {dl : List Rec} (hn : (dl.map (·.i)).Nodup) {p q : Rec} (hp : p ∈ dl) (hq : q ∈ dl) (e : q.i = p.i) : q = p := by
  induction dl with
  | nil => cases hp
  | cons x dl ih =>
    simp only [List.map_cons, List.nodup_cons, List.mem_map, not_exists, not_and] at hn
    rcases List.mem_cons.1 hp with hp | hp <;> rcases List.mem_cons.1 hq with hq | hq
    · rw [hp, hq]
    · exact absurd (by rw [e, hp]) (hn.1 q hq)
    · exact absurd (by rw [← e, hq]) (hn.1 p hp)
    · exact ih hn.2 hp hq

/-- The fuel of a round: what is promised is done when its turn comes; else 'next' says. -/
theorem xd_rounds {Q : Exit → Act → World → Prop} {a0 : Act} {dl : List Rec} {H : GH} (hok : RegOK n ops = true) (hnd : (dl.map (·.i)).Nodup)
    (hend : ∀ a w listed, Region.ready .any ops listed = [] → Inv P n ops w0 KS a0 dl H 0 listed a w → Q .normal a w)
    (hnext : ∀ fuel listed a w i, Inv P n ops w0 KS a0 dl H (fuel + 1) listed a w → i ∈ Region.ready .any ops listed → (∀ p ∈ dl, p.i ≠ i) → wpOp P ops Q i (wpAny P .any ops Q fuel (listed.setIfInBounds i true)) a w) :
    ∀ fuel listed a w, Inv P n ops w0 KS a0 dl H fuel listed a w → wpAny P .any ops Q fuel listed a w := by
  intro fuel
  have weak : ∀ fuel listed a w, Inv P n ops w0 KS a0 dl H fuel listed a w → Region.ready .any ops listed = [] → Inv P n ops w0 KS a0 dl H 0 listed a w := by
    intro fuel listed a w h hr
    refine ⟨h.lsize, h.inn, h.pend, h.done, h.rest, h.size, h.defers, h.st, h.ks, h.down, ?_⟩
    have hall := all_listed hok h.lsize hr
    have : (List.range ops.size).countP (fun i => listed.getD i false) = (List.range ops.size).length := List.countP_eq_length.2 fun i hi => hall i (List.mem_range.1 hi)
    rw [this]; simp
  induction fuel with
  | zero =>
    intro listed a w h
    have hr : Region.ready .any ops listed = [] := by
      have hf := h.fuel
      simp only [Nat.zero_add] at hf
      have hle : (List.range ops.size).countP (fun i => listed.getD i false) ≤ (List.range ops.size).length := List.countP_le_length
      have heq : (List.range ops.size).countP (fun i => listed.getD i false) = (List.range ops.size).length := by simp only [List.length_range] at *; omega
      have hall := List.countP_eq_length.1 heq
      refine List.eq_nil_iff_forall_not_mem.2 fun i hi => ?_
      obtain ⟨h1, h2, _⟩ := (mem_ready' h.lsize).1 hi
      have := hall i (List.mem_range.2 h1)
      rw [h2] at this
      cases this
    exact ⟨hr, hend a w listed hr h⟩
  | succ fuel ih =>
    intro listed a w h
    refine ⟨fun hr => hend a w listed hr (weak _ _ _ _ h hr), fun i hi => ?_⟩
    by_cases hin : ∃ p ∈ dl, p.i = i
    · obtain ⟨p, hp, rfl⟩ := hin
      obtain ⟨hlt, hl0, haft⟩ := (mem_ready' h.lsize).1 hi
      obtain ⟨⟨o, ho, hot⟩, hrs, hsl⟩ := h.pend p hp hl0
      have hagv := h.agv hl0 haft hsl
      have hdst : dstOf ops p.i = o.dst := by simp [dstOf, ho]
      have hgo : ∀ w', St w0 H w' → wpAny P .any ops Q fuel (listed.setIfInBounds p.i true) (a.put o.dst p.v) w' := by
        intro w' hst
        rw [← hdst]
        exact ih _ _ _ (h.step hok hp hi hst h.ks (fun q hq hq0 _ => (h.pend q hq hq0).2.1) (fun q hq e => by rw [nodup_val hnd hp hq e]))
      unfold wpOp
      simp only [ho]
      rcases hot H hrs h.ks with ⟨hw, ht⟩ | ⟨hw, hv⟩
      · rw [if_pos (hw.wanted hagv)]
        refine .inl (wp_mono2 ?_ (fun _ _ _ h => h.elim) (ht a w hagv h.st))
        rintro a' w' ⟨v, H', rfl, hst, rfl, rfl⟩
        exact hgo w' hst
      · rw [if_neg (by rw [hw.wanted hagv]; simp), ← hv]
        exact hgo w h.st
    · exact hnext fuel listed a w i h hi (fun p hp e => hin ⟨p, hp, e⟩)

variable {env0 env : Env} {dn : List Nat} {H RS : GH} {Q : Exit → Act → World → Prop}

theorem envOK_cons {dl : List Rec} {p : Rec} (_hok : RegOK n ops = true) (h : EnvOK ops env0 dl env) (hp : p.i ∉ dl.map (·.i)) :
    (∀ d, dstOf ops p.i = some d → EnvOK ops env0 (p :: dl) ((d, p.v) :: env)) ∧ (dstOf ops p.i = none → EnvOK ops env0 (p :: dl) env) := by
  constructor
  · intro d hd s v hs
    rw [lk_cons] at hs
    by_cases e : d = s
    · rw [if_pos e] at hs
      cases hs
      exact .inl ⟨p, List.mem_cons_self .., by rw [hd, e], rfl⟩
    · rw [if_neg e] at hs
      rcases h s v hs with ⟨q, hq, h1, h2⟩ | ⟨h1, h2⟩
      · exact .inl ⟨q, List.mem_cons_of_mem _ hq, h1, h2⟩
      · refine .inr ⟨fun q hq => ?_, h2⟩
        rcases List.mem_cons.1 hq with rfl | hq
        · rw [hd]; exact fun hh => e (Option.some.inj hh)
        · exact h1 q hq
  · intro hd s v hs
    rcases h s v hs with ⟨q, hq, h1, h2⟩ | ⟨h1, h2⟩
    · exact .inl ⟨q, List.mem_cons_of_mem _ hq, h1, h2⟩
    · refine .inr ⟨fun q hq => ?_, h2⟩
      rcases List.mem_cons.1 hq with rfl | hq
      · rw [hd]; exact fun hh => by cases hh
      · exact h1 q hq

theorem slots_spec {dl : List Rec} {i : Nat} {l : Env} {a0 : Act} (ha0 : Ag n env0 a0) (he : EnvOK ops env0 dl env) (hdn : dl.map (·.i) = dn) (hl : Live env l) (hs : slotsOK ops dn i (l.map (·.1)) = true) :
    ∀ s u, lk s l = some u → (∃ q ∈ dl, dstOf ops q.i = some s ∧ q.i ∈ aft ops i ∧ q.v = u) ∨ ((∀ j, dstOf ops j = some s → i ∈ aft ops j) ∧ a0.tmps.getD s undef = u) := by
  intro s u hsu
  have hmem : s ∈ l.map (·.1) := by
    clear hl hs
    induction l with
    | nil => cases hsu
    | cons x l ih =>
      obtain ⟨t, y⟩ := x
      rw [lk_cons] at hsu
      by_cases e : t = s
      · simp [e]
      · rw [if_neg e] at hsu
        exact List.mem_cons_of_mem _ (ih hsu)
  simp only [slotsOK, List.all_eq_true] at hs
  have hj : ∀ j d, dstOf ops j = some d → d = s → (if dn.contains j then (aft ops i).contains j else (aft ops j).contains i) = true := by
    intro j d hd e
    have hlt : j < ops.size := by
      rcases Nat.lt_or_ge j ops.size with h' | h'
      · exact h'
      · simp [dstOf, Array.getElem?_eq_none h'] at hd
    have := hs s hmem j (List.mem_range.2 hlt)
    rw [hd] at this
    subst e
    simpa using this
  rcases he s u (hl.get s u hsu) with ⟨q, hq, h1, h2⟩ | ⟨h1, h2⟩
  · left
    refine ⟨q, hq, h1, ?_, h2⟩
    have := hj q.i s h1 rfl
    rw [if_pos (by rw [← hdn]; simp; exact ⟨q, hq, rfl⟩)] at this
    simpa using this
  · right
    refine ⟨fun j hd => ?_, ha0.get s u h2⟩
    have := hj j s hd rfl
    rw [if_neg (by
      rw [← hdn]
      simp only [List.contains_eq_mem, List.mem_map, decide_eq_true_eq, not_exists, not_and]
      exact fun q hq e => h1 q hq (by rw [e]; exact hd))] at this
    simpa using this

/-- One that leaves the blocks as they are, and whose answer is known: it may be thought of as done. -/
theorem xd_take (hok : RegOK n ops = true) (i : Nat) {o : Oper} {d : Nat} {v : Value} (l : Env) (rs : GH) (ho : ops[i]? = some o) (hd : o.dst = some d) (hn : dn.contains i = false) (hl : Live env l) (hs : slotsOK ops dn i (l.map (·.1)) = true)
    (hrs : ∀ x ∈ rs, x ∈ H) (ht : ∀ H', (∀ x ∈ rs, x ∈ H') → (∀ k ∈ keys H', k ∈ KS ∨ w0.heap.size ≤ k) → OTg P ops w0 l H' o v) (k : XD P n w0 ops KS env0 (i :: dn) ((d, v) :: env) H (rs ++ RS) Q) : XD P n w0 ops KS env0 dn env H RS Q := by
  intro a0 dl ha0 hdn hnd he hrs' fuel listed a w hinv
  have hni : i ∉ dn := by simpa using hn
  have hni' : i ∉ dl.map (·.i) := by rw [hdn]; exact hni
  have hdst : dstOf ops i = some d := by simp [dstOf, ho, hd]
  have hnl : listed.getD i false = false := by
    cases hh : listed.getD i false
    · rfl
    · obtain ⟨p, hp, e⟩ := hinv.inn i hh
      exact absurd (List.mem_map.2 ⟨p, hp, e⟩) hni'
  refine k a0 (⟨i, l, rs, v⟩ :: dl) ha0 (by simp [hdn]) (List.nodup_cons.2 ⟨hni, hnd⟩) ((envOK_cons (p := ⟨i, l, rs, v⟩) hok he hni').1 d hdst) ?_ fuel listed a w ?_
  · intro p hp x hx
    rcases List.mem_cons.1 hp with rfl | hp
    · exact List.mem_append_left _ hx
    · exact List.mem_append_right _ (hrs' p hp x hx)
  · refine ⟨hinv.lsize, fun j hj => (hinv.inn j hj).imp fun p hp => ⟨List.mem_cons_of_mem _ hp.1, hp.2⟩, ?_, ?_, hinv.rest, hinv.size, hinv.defers, hinv.st, hinv.ks, hinv.down, hinv.fuel⟩
    · intro p hp hp0
      have hmono : ∀ p' : Rec, (∀ s u, lk s p'.l = some u → (∃ q ∈ dl, dstOf ops q.i = some s ∧ q.i ∈ aft ops p'.i ∧ q.v = u) ∨ ((∀ j, dstOf ops j = some s → p'.i ∈ aft ops j) ∧ a0.tmps.getD s undef = u)) →
          (∀ s u, lk s p'.l = some u → (∃ q ∈ (⟨i, l, rs, v⟩ :: dl : List Rec), dstOf ops q.i = some s ∧ q.i ∈ aft ops p'.i ∧ q.v = u) ∨ ((∀ j, dstOf ops j = some s → p'.i ∈ aft ops j) ∧ a0.tmps.getD s undef = u)) :=
        fun p' h s u hu => (h s u hu).imp (fun ⟨q, hq, r⟩ => ⟨q, List.mem_cons_of_mem _ hq, r⟩) id
      rcases List.mem_cons.1 hp with rfl | hp
      · exact ⟨⟨o, ho, ht⟩, hrs, hmono ⟨i, l, rs, v⟩ (slots_spec ha0 he hdn hl hs)⟩
      · obtain ⟨h1, h2, h3⟩ := hinv.pend p hp hp0
        exact ⟨h1, h2, hmono p h3⟩
    · intro p hp hp1 s hs'
      rcases List.mem_cons.1 hp with rfl | hp
      · rw [hnl] at hp1; cases hp1
      · exact hinv.done p hp hp1 s hs'

theorem front_spec {i : Nat} {listed : Array Bool} {dl : List Rec} (hls : listed.size = ops.size) (hdn : dl.map (·.i) = dn) (hin : ∀ i, listed.getD i false = true → ∃ p ∈ dl, p.i = i) (hr : i ∈ Region.ready .any ops listed) (hni : ∀ p ∈ dl, p.i ≠ i) : i ∈ front ops dn := by
  obtain ⟨h1, _, h3⟩ := (mem_ready' hls).1 hr
  refine List.mem_filter.2 ⟨List.mem_range.2 h1, ?_⟩
  simp only [Bool.and_eq_true, Bool.not_eq_true', List.all_eq_true, List.contains_eq_mem, decide_eq_false_iff_not, decide_eq_true_eq]
  constructor
  · rw [← hdn]
    simp only [List.mem_map, not_exists, not_and]
    exact hni
  · intro k hk
    obtain ⟨p, hp, e⟩ := hin k (h3 k hk)
    rw [← hdn]
    exact List.mem_map.2 ⟨p, hp, e⟩

/-- One step of one that may write. -/
theorem xd_one (hok : RegOK n ops = true) {i : Nat} {o : Oper} (l : Env) (ho : ops[i]? = some o) (hl : Live env l) (hs : slotsOK ops dn i (l.map (·.1)) = true) (hw : Wt ops l o.guard) {R : Value → GH → Prop} (ht : OT P w0 l H o R)
    (k : ∀ v H', R v H' → (∀ x ∈ RS, x ∈ H') ∧ (∀ k ∈ keys H', k ∈ KS ∨ w0.heap.size ≤ k) ∧ XD P n w0 ops KS env0 (i :: dn) (match o.dst with | some d => (d, v) :: env | none => env) H' RS Q)
    {a0 : Act} {dl : List Rec} (ha0 : Ag n env0 a0) (hdn : dl.map (·.i) = dn) (hnd : dn.Nodup) (he : EnvOK ops env0 dl env) (hrs : ∀ p ∈ dl, ∀ x ∈ p.rs, x ∈ RS)
    {fuel : Nat} {listed : Array Bool} {a : Act} {w : World} (hinv : Inv P n ops w0 KS a0 dl H (fuel + 1) listed a w) (hr : i ∈ Region.ready .any ops listed) (hni : ∀ p ∈ dl, p.i ≠ i) :
    wpOp P ops Q i (wpAny P .any ops Q fuel (listed.setIfInBounds i true)) a w := by
  obtain ⟨hlt, hl0, haft⟩ := (mem_ready' hinv.lsize).1 hr
  have hagv := hinv.agv hl0 haft (slots_spec ha0 he hdn hl hs)
  have hdst : dstOf ops i = o.dst := by simp [dstOf, ho]
  have hni' : i ∉ dl.map (·.i) := by
    simp only [List.mem_map, not_exists, not_and]
    exact hni
  unfold wpOp
  simp only [ho]
  rw [if_pos (hw.wanted hagv)]
  refine .inl (wp_mono2 ?_ (fun _ _ _ h => h.elim) (ht a w hagv hinv.st))
  rintro a' w' ⟨v, H', rfl, hst, hR⟩
  obtain ⟨k1, k3, k2⟩ := k v H' hR
  have hinv2 : Inv P n ops w0 KS a0 (⟨i, l, [], v⟩ :: dl) H' fuel (listed.setIfInBounds i true) (a.put o.dst v) w' := by
    have hlt' : i < listed.size := by rw [hinv.lsize]; exact hlt
    rw [← hdst]
    refine ⟨by simpa using hinv.lsize, ?_, ?_, ?_, ?_, by rw [put_size]; exact hinv.size, by rw [put_defers]; exact hinv.defers, hst, k3, ?_, ?_⟩
    · intro j hj
      rw [getD_set hlt'] at hj
      by_cases e : j = i
      · exact ⟨⟨i, l, [], v⟩, List.mem_cons_self .., e.symm⟩
      · rw [if_neg e] at hj
        exact (hinv.inn j hj).imp fun p hp => ⟨List.mem_cons_of_mem _ hp.1, hp.2⟩
    · intro q hq hq0
      rw [getD_set hlt'] at hq0
      rcases List.mem_cons.1 hq with rfl | hq
      · simp at hq0
      · have hne := hni q hq
        rw [if_neg hne] at hq0
        obtain ⟨h1, _, h3⟩ := hinv.pend q hq hq0
        exact ⟨h1, fun x hx => k1 x (hrs q hq x hx), fun s u hu => (h3 s u hu).imp (fun ⟨r, hr, z⟩ => ⟨r, List.mem_cons_of_mem _ hr, z⟩) id⟩
    · intro q hq hq1 s hs'
      rcases List.mem_cons.1 hq with rfl | hq
      · have hs'' : dstOf ops i = some s := hs'
        rw [hs'', put_getD_self (by rw [hinv.size]; exact regOK_lt hok hs'')]
      · have hne := hni q hq
        rw [getD_set hlt', if_neg hne] at hq1
        rw [put_getD (fun hh => hne (regOK_uniq hok hs' hh))]
        exact hinv.done q hq hq1 s hs'
    · intro s hs'
      have hne : dstOf ops i ≠ some s := fun hh => by
        have := hs' i hh
        rw [getD_set hlt', if_pos rfl] at this
        cases this
      rw [put_getD hne]
      refine hinv.rest s fun j hj => ?_
      have := hs' j hj
      rw [getD_set hlt'] at this
      split at this
      · cases this
      · exact this
    · intro j hj k' hk
      rw [getD_set hlt'] at hj ⊢
      by_cases e : k' = i
      · rw [if_pos e]
      · rw [if_neg e]
        by_cases e2 : j = i
        · subst e2; exact haft k' hk
        · rw [if_neg e2] at hj; exact hinv.down j hj k' hk
    · rw [countP_set hlt' hl0 _ hlt]
      have := hinv.fuel
      omega
  have henv := envOK_cons (p := ⟨i, l, [], v⟩) hok he hni'
  refine k2 a0 (⟨i, l, [], v⟩ :: dl) ha0 (by simp [hdn]) (List.nodup_cons.2 ⟨by rw [← hdn]; exact hni', hnd⟩) ?_ ?_ _ _ _ _ hinv2
  · cases hd : o.dst with
    | none => exact henv.2 (by rw [hdst, hd])
    | some d => exact henv.1 d (by rw [hdst, hd])
  · intro p hp x hx
    rcases List.mem_cons.1 hp with rfl | hp
    · cases hx
    · exact hrs p hp x hx

/-- All that can come next is i. -/
theorem xd_step (hok : RegOK n ops = true) (i : Nat) {o : Oper} {d : Nat} (l : Env) (ho : ops[i]? = some o) (hd : o.dst = some d) (hf : front ops dn = [i]) (hl : Live env l) (hs : slotsOK ops dn i (l.map (·.1)) = true) (hw : Wt ops l o.guard) {R : Value → GH → Prop} (ht : OT P w0 l H o R)
    (k : ∀ v H', R v H' → (∀ x ∈ RS, x ∈ H') ∧ (∀ k ∈ keys H', k ∈ KS ∨ w0.heap.size ≤ k) ∧ XD P n w0 ops KS env0 (i :: dn) ((d, v) :: env) H' RS Q) : XD P n w0 ops KS env0 dn env H RS Q := by
  intro a0 dl ha0 hdn hnd he hrs
  refine xd_rounds hok (by rw [hdn]; exact hnd) ?_ ?_
  · intro a w listed hr hinv
    exfalso
    have hi : i ∈ front ops dn := by rw [hf]; exact List.mem_singleton.2 rfl
    obtain ⟨h1, h2⟩ := List.mem_filter.1 hi
    have := all_listed hok hinv.lsize hr i (List.mem_range.1 h1)
    obtain ⟨p, hp, e⟩ := hinv.inn i this
    simp only [Bool.and_eq_true, Bool.not_eq_true', List.contains_eq_mem, decide_eq_false_iff_not] at h2
    exact h2.1 (by rw [← hdn]; exact List.mem_map.2 ⟨p, hp, e⟩)
  · intro fuel listed a w j hinv hr hni
    have hj := front_spec hinv.lsize hdn hinv.inn hr hni
    rw [hf] at hj
    obtain rfl := List.mem_singleton.1 hj
    exact xd_one hok l ho hl hs hw ht (fun v H' hR => by rw [hd]; exact k v H' hR) ha0 hdn hnd he hrs hinv hr hni
theorem xd_step0 (hok : RegOK n ops = true) (i : Nat) {o : Oper} (l : Env) (ho : ops[i]? = some o) (hd : o.dst = none) (hf : front ops dn = [i]) (hl : Live env l) (hs : slotsOK ops dn i (l.map (·.1)) = true) (hw : Wt ops l o.guard) {R : Value → GH → Prop} (ht : OT P w0 l H o R)
    (k : ∀ v H', R v H' → (∀ x ∈ RS, x ∈ H') ∧ (∀ k ∈ keys H', k ∈ KS ∨ w0.heap.size ≤ k) ∧ XD P n w0 ops KS env0 (i :: dn) env H' RS Q) : XD P n w0 ops KS env0 dn env H RS Q := by
  intro a0 dl ha0 hdn hnd he hrs
  refine xd_rounds hok (by rw [hdn]; exact hnd) ?_ ?_
  · intro a w listed hr hinv
    exfalso
    have hi : i ∈ front ops dn := by rw [hf]; exact List.mem_singleton.2 rfl
    obtain ⟨h1, h2⟩ := List.mem_filter.1 hi
    have := all_listed hok hinv.lsize hr i (List.mem_range.1 h1)
    obtain ⟨p, hp, e⟩ := hinv.inn i this
    simp only [Bool.and_eq_true, Bool.not_eq_true', List.contains_eq_mem, decide_eq_false_iff_not] at h2
    exact h2.1 (by rw [← hdn]; exact List.mem_map.2 ⟨p, hp, e⟩)
  · intro fuel listed a w j hinv hr hni
    have hj := front_spec hinv.lsize hdn hinv.inn hr hni
    rw [hf] at hj
    obtain rfl := List.mem_singleton.1 hj
    exact xd_one hok l ho hl hs hw ht (fun v H' hR => by rw [hd]; exact k v H' hR) ha0 hdn hnd he hrs hinv hr hni
/-- Two can come next. -/
theorem xd_step2 (hok : RegOK n ops = true) (i j : Nat) {o o' : Oper} {d d' : Nat} (l l' : Env) (ho : ops[i]? = some o) (ho' : ops[j]? = some o') (hd : o.dst = some d) (hd' : o'.dst = some d') (hf : front ops dn = [i, j]) (hl : Live env l) (hl' : Live env l')
    (hs : slotsOK ops dn i (l.map (·.1)) = true) (hs' : slotsOK ops dn j (l'.map (·.1)) = true) (hw : Wt ops l o.guard) (hw' : Wt ops l' o'.guard) {R R' : Value → GH → Prop} (ht : OT P w0 l H o R) (ht' : OT P w0 l' H o' R')
    (k : ∀ v H', R v H' → (∀ x ∈ RS, x ∈ H') ∧ (∀ k ∈ keys H', k ∈ KS ∨ w0.heap.size ≤ k) ∧ XD P n w0 ops KS env0 (i :: dn) ((d, v) :: env) H' RS Q) (k' : ∀ v H', R' v H' → (∀ x ∈ RS, x ∈ H') ∧ (∀ k ∈ keys H', k ∈ KS ∨ w0.heap.size ≤ k) ∧ XD P n w0 ops KS env0 (j :: dn) ((d', v) :: env) H' RS Q) : XD P n w0 ops KS env0 dn env H RS Q := by
  intro a0 dl ha0 hdn hnd he hrs
  refine xd_rounds hok (by rw [hdn]; exact hnd) ?_ ?_
  · intro a w listed hr hinv
    exfalso
    have hi : i ∈ front ops dn := by rw [hf]; simp
    obtain ⟨h1, h2⟩ := List.mem_filter.1 hi
    have := all_listed hok hinv.lsize hr i (List.mem_range.1 h1)
    obtain ⟨p, hp, e⟩ := hinv.inn i this
    simp only [Bool.and_eq_true, Bool.not_eq_true', List.contains_eq_mem, decide_eq_false_iff_not] at h2
    exact h2.1 (by rw [← hdn]; exact List.mem_map.2 ⟨p, hp, e⟩)
  · intro fuel listed a w q hinv hr hni
    have hj := front_spec hinv.lsize hdn hinv.inn hr hni
    rw [hf] at hj
    simp only [List.mem_cons, List.not_mem_nil, or_false] at hj
    rcases hj with rfl | rfl
    · exact xd_one hok l ho hl hs hw ht (fun v H' hR => by rw [hd]; exact k v H' hR) ha0 hdn hnd he hrs hinv hr hni
    · exact xd_one hok l' ho' hl' hs' hw' ht' (fun v H' hR => by rw [hd']; exact k' v H' hR) ha0 hdn hnd he hrs hinv hr hni

/-- A slot's value, said otherwise. -/
theorem xd_val (s : Nat) {v v' : Value} (hs : lk s env = some v) (he : v = v') (k : XD P n w0 ops KS env0 dn ((s, v') :: env) H RS Q) : XD P n w0 ops KS env0 dn env H RS Q := by
  intro a0 dl ha0 hdn hnd henv
  refine k a0 dl ha0 hdn hnd fun t u hu => ?_
  rw [lk_cons] at hu
  by_cases h : s = t
  · rw [if_pos h] at hu; cases hu; subst h; subst he; exact henv _ _ hs
  · rw [if_neg h] at hu; exact henv _ _ hu
theorem xd_bool (s : Nat) {b : Bool} (hs : lk s env = some (.bool b)) (ht : b = true → XD P n w0 ops KS env0 dn ((s, .bool true) :: env) H RS Q) (hf : b = false → XD P n w0 ops KS env0 dn ((s, .bool false) :: env) H RS Q) : XD P n w0 ops KS env0 dn env H RS Q := by
  cases b
  · exact xd_val s hs rfl (hf rfl)
  · exact xd_val s hs rfl (ht rfl)
/-- One that reads no block. -/
theorem xd_pure (hok : RegOK n ops = true) (i : Nat) {o : Oper} {d : Nat} {v : Value} (l : Env) (ho : ops[i]? = some o) (hd : o.dst = some d) (hn : dn.contains i = false) (hl : Live env l) (hs : slotsOK ops dn i (l.map (·.1)) = true) (hw : Wt ops l o.guard)
    (ht : ∀ H', (∀ k ∈ keys H', k ∈ KS ∨ w0.heap.size ≤ k) → OT P w0 l H' o (Is v H')) (k : XD P n w0 ops KS env0 (i :: dn) ((d, v) :: env) H RS Q) : XD P n w0 ops KS env0 dn env H RS Q :=
  xd_take hok i l [] ho hd hn hl hs (by simp) (fun H' _ hk => .inl ⟨hw, ht H' hk⟩) k
theorem xd_skip (hok : RegOK n ops = true) (i : Nat) {o : Oper} {d : Nat} (l : Env) (ho : ops[i]? = some o) (hd : o.dst = some d) (hn : dn.contains i = false) (hl : Live env l) (hs : slotsOK ops dn i (l.map (·.1)) = true) (hw : WtNot ops l o.guard)
    (k : XD P n w0 ops KS env0 (i :: dn) ((d, undef) :: env) H RS Q) : XD P n w0 ops KS env0 dn env H RS Q :=
  xd_take hok i l [] ho hd hn hl hs (by simp) (fun _ _ _ => .inr ⟨hw, rfl⟩) k
/-- One that reads one block of the list. -/
theorem xd_rd (hok : RegOK n ops = true) (i : Nat) {o : Oper} {d : Nat} {v : Value} {y : Nat × Obj} (l : Env) (ho : ops[i]? = some o) (hd : o.dst = some d) (hn : dn.contains i = false) (hl : Live env l) (hs : slotsOK ops dn i (l.map (·.1)) = true) (hw : Wt ops l o.guard)
    (hm : y ∈ H) (ht : ∀ H', y ∈ H' → OT P w0 l H' o (Is v H')) (k : XD P n w0 ops KS env0 (i :: dn) ((d, v) :: env) H (y :: RS) Q) : XD P n w0 ops KS env0 dn env H RS Q :=
  xd_take hok i l [y] ho hd hn hl hs (fun x hx => by rw [List.mem_singleton.1 hx]; exact hm) (fun H' h _ => .inl ⟨hw, ht H' (h y (List.mem_singleton.2 rfl))⟩) k

theorem xd_end (hok : RegOK n ops = true) (hall : (List.range ops.size).all dn.contains = true) (k : XQ n w0 env H .normal Q) : XD P n w0 ops KS env0 dn env H RS Q := by
  intro a0 dl ha0 hdn hnd he hrs
  refine xd_rounds hok (by rw [hdn]; exact hnd) ?_ ?_
  · intro a w listed hr hinv
    have hlist := all_listed hok hinv.lsize hr
    refine k a w ⟨hinv.size, hinv.defers, fun s v hs => ?_⟩ hinv.st
    rcases he s v hs with ⟨p, hp, h1, h2⟩ | ⟨h1, h2⟩
    · have hlt : p.i < ops.size := by
        rcases Nat.lt_or_ge p.i ops.size with h' | h'
        · exact h'
        · simp [dstOf, Array.getElem?_eq_none h'] at h1
      rw [← h2]
      exact hinv.done p hp (hlist _ hlt) s h1
    · rw [hinv.rest s (fun j hj => ?_)]
      · exact ha0.get s v h2
      · exfalso
        have hlt : j < ops.size := by
          rcases Nat.lt_or_ge j ops.size with h' | h'
          · exact h'
          · simp [dstOf, Array.getElem?_eq_none h'] at hj
        obtain ⟨p, hp, e⟩ := hinv.inn j (hlist j hlt)
        exact h1 p hp (by rw [e]; exact hj)
  · intro fuel listed a w q hinv hr hni
    exfalso
    obtain ⟨h1, _, _⟩ := (mem_ready' hinv.lsize).1 hr
    simp only [List.all_eq_true, List.contains_eq_mem, decide_eq_true_eq] at hall
    have := hall q (List.mem_range.2 h1)
    rw [← hdn] at this
    obtain ⟨p, hp, e⟩ := List.mem_map.1 this
    exact hni p hp e

theorem xd_start {id : Nat} (hm : P.follows .mixedOrders = true) (hok : RegOK n ops = true) (k : RegOK n ops = true → XD P n w0 ops (keys H) env [] env H [] Q) : XW P n w0 env H (.region id ops true) Q := by
  intro a w ha hs
  refine wp_region_any hm (k hok a [] ha rfl List.nodup_nil (fun s v h => .inr ⟨(fun _ hp => absurd hp (by simp)), h⟩) (fun _ hp => absurd hp (by simp)) _ _ _ _ ?_)
  have hrep : ∀ i, (Array.replicate ops.size false).getD i false = false := by
    intro i
    simp only [Array.getD_eq_getD_getElem?, Array.getElem?_replicate]
    split <;> rfl
  exact {
    lsize := by simp
    inn := fun i hi => by rw [hrep] at hi; cases hi
    pend := fun _ hp => absurd hp (by simp)
    done := fun _ hp => absurd hp (by simp)
    rest := fun _ _ => rfl
    size := ha.size
    defers := ha.defers
    st := hs.drew
    ks := fun k hk => .inl hk
    down := fun j hj => by rw [hrep] at hj; cases hj
    fuel := by omega }
end
end Go.E
