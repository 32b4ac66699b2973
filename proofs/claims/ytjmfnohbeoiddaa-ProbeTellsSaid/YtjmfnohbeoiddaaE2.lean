/- The engine, part 2: regions, calls, returns. -/
import Derived.Test.YtjmfnohbeoiddaaE1
namespace Go.E
open Go

def Wt (ops : Array Oper) (env : Env) : Option (Nat × Bool) → Prop
  | none => True
  | some (j, want) => ∃ s, (ops[j]?).bind (·.dst) = some s ∧ lk s env = some (.bool want)
def isWant : Value → Bool → Bool
  | .bool b, w => b == w
  | _, _ => false
def WtNot (ops : Array Oper) (env : Env) : Option (Nat × Bool) → Prop
  | none => False
  | some (j, want) => ∃ s v, (ops[j]?).bind (·.dst) = some s ∧ lk s env = some v ∧ isWant v want = false

theorem getD_some {a : Act} {s : Nat} {v : Value} (h : a.tmps.getD s undef = v) (hv : v ≠ undef) : a.tmps[s]? = some v := by
  rcases Nat.lt_or_ge s a.tmps.size with hlt | hge
  · rw [Array.getD_eq_getD_getElem?, Array.getElem?_eq_getElem hlt] at h
    rw [Array.getElem?_eq_getElem hlt]
    simpa using h
  · rw [Array.getD_eq_getD_getElem?, Array.getElem?_eq_none hge] at h
    exact absurd h.symm (by simpa using hv)

theorem yielded_of {ops : Array Oper} {env : Env} {a : Act} (ha : AgV env a) {j s : Nat} {b : Bool} (hs : (ops[j]?).bind (·.dst) = some s) (hl : lk s env = some (.bool b)) :
    yielded ops a.tmps j = some b := by
  have := getD_some (ha s _ hl) (by simp [undef])
  simp [yielded, hs, this]

theorem Wt.wanted {ops : Array Oper} {env : Env} {a : Act} {o : Oper} (ha : AgV env a) (h : Wt ops env o.guard) : Region.wanted o (yielded ops a.tmps) = true := by
  unfold Region.wanted
  cases hg : o.guard with
  | none => rfl
  | some x =>
    obtain ⟨j, want⟩ := x
    rw [hg] at h
    obtain ⟨s, h1, h2⟩ := h
    simp [yielded_of ha h1 h2]
theorem WtNot.wanted {ops : Array Oper} {env : Env} {a : Act} {o : Oper} (ha : AgV env a) (h : WtNot ops env o.guard) : Region.wanted o (yielded ops a.tmps) = false := by
  unfold Region.wanted
  cases hg : o.guard with
  | none => rw [hg] at h; exact h.elim
  | some x =>
    obtain ⟨j, want⟩ := x
    rw [hg] at h
    obtain ⟨s, v, h1, h2, h3⟩ := h
    have hv := ha s v h2
    show (yielded ops a.tmps j == some want) = false
    unfold yielded
    rw [h1]
    simp only [Option.bind_some]
    rw [Array.getD_eq_getD_getElem?] at hv
    cases ht : a.tmps[s]? with
    | none => rfl
    | some u =>
      rw [ht] at hv
      simp only [Option.getD_some] at hv
      subst hv
      cases u <;> first | rfl | (simpa [isWant] using h3)

section
variable {P : Program} {n : Nat} {w0 : World} {env : Env} {H : GH} {Q : Exit → Act → World → Prop} {ops : Array Oper} {rest : List Oper}
variable {d : Nat} {op : Op} {ty : TypeId} {pos : String} {af : Array Edge} {g : Option (Nat × Bool)}

theorem xo_nil (h : XQ n w0 env H .normal Q) : XO P n w0 env H ops [] Q := fun a w ha hs => h a w ha hs

theorem xw_region {id : Nat} {l : List Oper} (h : XO P n w0 env H l.toArray l Q) : XW P n w0 env H (.region id l.toArray false) Q :=
  fun a w ha hs => wp_region_lit (h a w ha hs)

theorem xo_of {o : Oper} (hw : Wt ops env o.guard) {R : Value → GH → Prop} (h : OT P w0 env H o R)
    (k : ∀ a w v H', Ag n env a → St w0 H' w → R v H' → wpList P ops Q rest (a.put o.dst v) w) : XO P n w0 env H ops (o :: rest) Q := by
  intro a w ha hs
  refine wpList_step fun K hK => ?_
  rw [if_pos (hw.wanted ha.get)]
  refine wp_mono2 ?_ (fun _ _ _ h => h.elim) (h a w ha.get hs)
  rintro a' w' ⟨v, H', rfl, hs', hr⟩
  exact hK _ _ (k a w' v H' ha hs' hr)

/-- One operation, whatever it may answer. -/
theorem xo (hd : Nat.blt d n = true) (hw : Wt ops env g) {R : Value → GH → Prop} (h : OT P w0 env H ⟨some d, op, ty, pos, af, g⟩ R)
    (k : ∀ v H', R v H' → XO P n w0 ((d, v) :: env) H' ops rest Q) : XO P n w0 env H ops (⟨some d, op, ty, pos, af, g⟩ :: rest) Q :=
  xo_of (o := ⟨some d, op, ty, pos, af, g⟩) hw h fun _ w v H' ha hs hr => k v H' hr _ w (ha.put (by simpa [Nat.blt_eq] using hd) v) hs
theorem xo0 (hw : Wt ops env g) {R : Value → GH → Prop} (h : OT P w0 env H ⟨none, op, ty, pos, af, g⟩ R)
    (k : ∀ v H', R v H' → XO P n w0 env H' ops rest Q) : XO P n w0 env H ops (⟨none, op, ty, pos, af, g⟩ :: rest) Q :=
  xo_of (o := ⟨none, op, ty, pos, af, g⟩) hw h fun a w v H' ha hs hr => k v H' hr a w ha hs
/-- One operation whose answer is known. -/
theorem xq (hd : Nat.blt d n = true) (hw : Wt ops env g) {v : Value} {H' : GH} (h : OT P w0 env H ⟨some d, op, ty, pos, af, g⟩ (Is v H'))
    (k : XO P n w0 ((d, v) :: env) H' ops rest Q) : XO P n w0 env H ops (⟨some d, op, ty, pos, af, g⟩ :: rest) Q :=
  xo hd hw h (by rintro _ _ ⟨rfl, rfl⟩; exact k)
theorem xq0 (hw : Wt ops env g) {v : Value} {H' : GH} (h : OT P w0 env H ⟨none, op, ty, pos, af, g⟩ (Is v H'))
    (k : XO P n w0 env H' ops rest Q) : XO P n w0 env H ops (⟨none, op, ty, pos, af, g⟩ :: rest) Q :=
  xo0 hw h (by rintro _ _ ⟨rfl, rfl⟩; exact k)
/-- One that is passed over. -/
theorem xs (hd : Nat.blt d n = true) (hw : WtNot ops env g) (k : XO P n w0 ((d, undef) :: env) H ops rest Q) : XO P n w0 env H ops (⟨some d, op, ty, pos, af, g⟩ :: rest) Q := by
  intro a w ha hs
  unfold wpList
  rw [if_neg (by rw [WtNot.wanted (o := ⟨some d, op, ty, pos, af, g⟩) ha.get hw]; simp)]
  exact k _ w (ha.put (by simpa [Nat.blt_eq] using hd) undef) hs
theorem xs0 (hw : WtNot ops env g) (k : XO P n w0 env H ops rest Q) : XO P n w0 env H ops (⟨none, op, ty, pos, af, g⟩ :: rest) Q := by
  intro a w ha hs
  unfold wpList
  rw [if_neg (by rw [WtNot.wanted (o := ⟨none, op, ty, pos, af, g⟩) ha.get hw]; simp)]
  exact k a w ha hs

/-- A slot's bool, whichever it is. -/
theorem xo_bool (s : Nat) {b : Bool} (hs : lk s env = some (.bool b)) (ht : b = true → XO P n w0 ((s, .bool true) :: env) H ops rest Q)
    (hf : b = false → XO P n w0 ((s, .bool false) :: env) H ops rest Q) : XO P n w0 env H ops rest Q := by
  intro a w ha hst
  have hput : ∀ v, lk s env = some v → Ag n ((s, v) :: env) a := fun v hv => ⟨ha.size, ha.defers, fun t u hu => by
    rw [lk_cons] at hu
    by_cases h : s = t
    · rw [if_pos h] at hu; cases hu; subst h; exact ha.get _ _ hv
    · rw [if_neg h] at hu; exact ha.get _ _ hu⟩
  cases b
  · exact hf rfl a w (hput _ hs) hst
  · exact ht rfl a w (hput _ hs) hst
/-- A slot's value, said otherwise. -/
theorem xo_val (s : Nat) {v v' : Value} (hs : lk s env = some v) (he : v = v') (k : XO P n w0 ((s, v') :: env) H ops rest Q) : XO P n w0 env H ops rest Q := by
  intro a w ha hst
  refine k a w ⟨ha.size, ha.defers, fun t u hu => ?_⟩ hst
  rw [lk_cons] at hu
  by_cases h : s = t
  · rw [if_pos h] at hu; cases hu; subst h; rw [← he]; exact ha.get _ _ hs
  · rw [if_neg h] at hu; exact ha.get _ _ hu
theorem xw_val {c : Code} (s : Nat) {v v' : Value} (hs : lk s env = some v) (he : v = v') (k : XW P n w0 ((s, v') :: env) H c Q) : XW P n w0 env H c Q := by
  intro a w ha hst
  refine k a w ⟨ha.size, ha.defers, fun t u hu => ?_⟩ hst
  rw [lk_cons] at hu
  by_cases h : s = t
  · rw [if_pos h] at hu; cases hu; subst h; rw [← he]; exact ha.get _ _ hs
  · rw [if_neg h] at hu; exact ha.get _ _ hu
theorem xw_bool {c : Code} (s : Nat) {b : Bool} (hs : lk s env = some (.bool b)) (ht : b = true → XW P n w0 ((s, .bool true) :: env) H c Q)
    (hf : b = false → XW P n w0 ((s, .bool false) :: env) H c Q) : XW P n w0 env H c Q := by
  cases b
  · exact hf rfl |> fun h => xw_val s hs rfl h
  · exact ht rfl |> fun h => xw_val s hs rfl h

/-- The ways through a piece meet again: slot s holds v then, and what else is needed stands in l. -/
def CutQ (n : Nat) (w0 : World) (e : Env) (H : GH) : Exit → Act → World → Prop := fun ex a w => ex = .normal ∧ Ag n e a ∧ St w0 H w
theorem xw_cut {c : Code} (k : Env) (_hk : Live env k) (l : Env) (h1 : XW P n w0 env H c (CutQ n w0 (l ++ k) H)) (h2 : XQ n w0 (l ++ k) H .normal Q) : XW P n w0 env H c Q :=
  fun a w ha hs => wp_mono (h1 a w ha hs) fun e a' w' ⟨he, ha', hs'⟩ => by subst he; exact h2 a' w' ha' hs'
theorem xw_cutH {c : Code} (k : Env) (_hk : Live env k) (l : Env) (H' : GH) (h1 : XW P n w0 env H c (CutQ n w0 (l ++ k) H')) (h2 : XQ n w0 (l ++ k) H' .normal Q) : XW P n w0 env H c Q :=
  fun a w ha hs => wp_mono (h1 a w ha hs) fun e a' w' ⟨he, ha', hs'⟩ => by subst he; exact h2 a' w' ha' hs'
theorem xq_cut {l : Env} {H' : GH} (hl : Live env l) (hH : ∀ w, St w0 H w → St w0 H' w) : XQ n w0 env H .normal (CutQ n w0 l H') :=
  fun a w ha hs => ⟨rfl, ha.live hl, hH w hs⟩
theorem lce {env l : Env} {t : Nat} {v v' : Value} (h : lk t env = some v) (he : v = v') (k : Live env l) : Live env ((t, v') :: l) := ⟨by rw [h, he], k⟩

/-! ### How an operation's triple is shown -/
theorem OT.val {o : Oper} {R : Value → GH → Prop}
    (h : ∀ a w, AgV env a → St w0 H w → ∃ v w' H', (execOp a.eval o).run P w = .ok (.value v) w' ∧ St w0 H' w' ∧ R v H') : OT P w0 env H o R := by
  intro a w ha hs
  obtain ⟨v, w', H', hr, hs', hR⟩ := h a w ha hs
  unfold Oper.wp
  rw [hr, Oper.upon_value]
  exact ⟨v, H', rfl, hs', hR⟩
theorem OT.skip {o : Oper} {R : Value → GH → Prop}
    (h : ∀ a w, AgV env a → St w0 H w → ∃ w' H', (execOp a.eval o).run P w = .ok .skip w' ∧ St w0 H' w' ∧ R undef H') : OT P w0 env H o R := by
  intro a w ha hs
  obtain ⟨w', H', hr, hs', hR⟩ := h a w ha hs
  unfold Oper.wp
  rw [hr, Oper.upon_skip]
  exact ⟨_, H', rfl, hs', hR⟩
/-- An answer that does not hang on the world. -/
theorem OT.pure {o : Oper} {v : Value} (h : ∀ a w, AgV env a → (execOp a.eval o).run P w = .ok (.value v) w) : OT P w0 env H o (Is v H) :=
  OT.val fun a w ha hs => ⟨v, w, H, h a w ha, hs, rfl, rfl⟩

/-! ### Contracts -/
def Con (P : Program) (f : FuncId) (args : Array Value) (w : World) (G : Value → GH → Prop) : Prop :=
  Calls P f args w fun e w' => ∃ v F, e = .returned v ∧ St w F w' ∧ G v F

theorem Con.mono {f : FuncId} {args : Array Value} {w : World} {G G' : Value → GH → Prop} (h : Con P f args w G) (hg : ∀ v F, G v F → G' v F) : Con P f args w G' :=
  Calls.mono h fun _ _ ⟨v, F, he, hs, hG⟩ => ⟨v, F, he, hs, hg v F hG⟩

def LiveA (args : List Value) : Env → Prop
  | [] => True
  | (t, v) :: l => args[t]? = some v ∧ LiveA args l

theorem lan {args : List Value} : LiveA args [] := trivial
theorem lac {args : List Value} {l : Env} {t : Nat} {v : Value} (h : args[t]? = some v) (k : LiveA args l) : LiveA args ((t, v) :: l) := ⟨h, k⟩

theorem LiveA.get {args : List Value} {l : Env} (h : LiveA args l) : ∀ t v, lk t l = some v → args[t]? = some v := by
  induction l with
  | nil => intro t v ht; cases ht
  | cons x l ih =>
    obtain ⟨s, u⟩ := x
    intro t v ht
    rw [lk_cons] at ht
    by_cases hs : s = t
    · rw [if_pos hs] at ht; cases ht; subst hs; exact h.1
    · rw [if_neg hs] at ht; exact ih h.2 t v ht

def GoodEnd (w : World) (G : Value → GH → Prop) : Ending → World → Prop := fun e w' => ∃ v F, e = .returned v ∧ St w F w' ∧ G v F

theorem con_enter {f : FuncId} {fn : Func} {c : Code} {args : List Value} {w : World} {G : Value → GH → Prop} (l : Env)
    (hf : P.funcs[f]? = some fn) (hb : fn.body = some c) (hn : fn.ntmps = n) (hsz : Nat.ble args.length n = true) (hl : LiveA args l)
    (h : XW P n w l [] c (bodyPost P fn (GoodEnd w G))) : Con P f args.toArray w G := by
  refine calls_of_wp hf hb (h _ w ⟨?_, rfl, ?_⟩ (St.refl w))
  · have := Nat.le_of_ble_eq_true hsz
    simp only [Array.size_append, Array.size_replicate, hn, List.size_toArray]
    omega
  · intro t v ht
    have h1 : args.toArray[t]? = some v := by rw [List.getElem?_toArray]; exact hl.get t v ht
    have hlt := (Array.getElem?_eq_some_iff.1 h1).1
    simp only [Array.getD_eq_getD_getElem?]
    rw [Array.getElem?_append_left hlt, h1]
    rfl

/-- Results. -/
theorem con_ret0 {fn : Func} {w : World} {G : Value → GH → Prop} {e : Exit} (he : e = .ret ∨ e = .normal) (hr : fn.results = #[]) (F : GH) (hF : ∀ w', St w H w' → St w F w') (hG : G (.tuple #[]) F) :
    XQ n w env H e (bodyPost P fn (GoodEnd w G)) := by
  intro a w' ha hs
  rcases he with rfl | rfl <;> exact ⟨ha.defers, _, results_none hr _ _ _, _, F, rfl, hF w' hs, hG⟩
theorem con_ret1 {fn : Func} {w : World} {G : Value → GH → Prop} {t : Nat} {v : Value} {e : Exit} (he : e = .ret ∨ e = .normal) (hr : fn.results = #[.tmp t]) (hv : lk t env = some v)
    (F : GH) (hF : ∀ w', St w H w' → St w F w') (hG : G v F) : XQ n w env H e (bodyPost P fn (GoodEnd w G)) := by
  intro a w' ha hs
  have h1 := ha.get t v hv
  rcases he with rfl | rfl <;> exact ⟨ha.defers, _, by rw [results_tmp hr, h1], _, F, rfl, hF w' hs, hG⟩
theorem con_ret2 {fn : Func} {w : World} {G : Value → GH → Prop} {t u : Nat} {v x : Value} {e : Exit} (he : e = .ret ∨ e = .normal) (hr : fn.results = #[.tmp t, .tmp u]) (hv : lk t env = some v) (hx : lk u env = some x)
    (F : GH) (hF : ∀ w', St w H w' → St w F w') (hG : G (.tuple #[v, x]) F) : XQ n w env H e (bodyPost P fn (GoodEnd w G)) := by
  intro a w' ha hs
  have h1 := ha.get t v hv
  have h2 := ha.get u x hx
  rcases he with rfl | rfl <;> exact ⟨ha.defers, _, by rw [results_tmp2 hr, h1, h2], _, F, rfl, hF w' hs, hG⟩
theorem con_ret3 {fn : Func} {w : World} {G : Value → GH → Prop} {t u s : Nat} {v x y : Value} {e : Exit} (he : e = .ret ∨ e = .normal) (hr : fn.results = #[.tmp t, .tmp u, .tmp s]) (hv : lk t env = some v) (hx : lk u env = some x) (hy : lk s env = some y)
    (F : GH) (hF : ∀ w', St w H w' → St w F w') (hG : G (.tuple #[v, x, y]) F) : XQ n w env H e (bodyPost P fn (GoodEnd w G)) := by
  intro a w' ha hs
  have h1 := ha.get t v hv
  have h2 := ha.get u x hx
  have h3 := ha.get s y hy
  have hrun : (results fn a.tmps).run P w' = .ok (.tuple #[v, x, y]) w' := by
    simp only [results, hr, List.mapM_toArray]
    simp [← h1, ← h2, ← h3]
  rcases he with rfl | rfl <;> exact ⟨ha.defers, _, hrun, _, F, rfl, hF w' hs, hG⟩

/-! ### A call: the blocks behind it -/
inductive Swp : GH → Nat → Nat × Obj → GH → Prop
  | here (b : Nat) (o : Obj) (x : Nat × Obj) (t : GH) : Swp ((b, o) :: t) b x (x :: t)
  | there (y : Nat × Obj) (t t' : GH) (b : Nat) (x : Nat × Obj) (h : Swp t b x t') : Swp (y :: t) b x (y :: t')

theorem Swp.mem {T T' : GH} {b : Nat} {x : Nat × Obj} (h : Swp T b x T') : ∀ y, y ∈ T' → y = x ∨ y ∈ T := by
  induction h with
  | here b o x t => intro y hy; rcases List.mem_cons.1 hy with h | h; exact .inl h; exact .inr (List.mem_cons_of_mem _ h)
  | there z t t' b x h ih =>
    intro y hy
    rcases List.mem_cons.1 hy with h | h
    · exact .inr (h ▸ List.mem_cons_self ..)
    · rcases ih y h with h | h
      · exact .inl h
      · exact .inr (List.mem_cons_of_mem _ h)
theorem Swp.memb {T T' : GH} {b : Nat} {x : Nat × Obj} (h : Swp T b x T') : b ∈ E.keys T := by
  induction h with
  | here => simp
  | there z t t' b x h ih => exact List.mem_cons_of_mem _ ih
theorem Swp.isin {T T' : GH} {b : Nat} {x : Nat × Obj} (h : Swp T b x T') : x ∈ T' := by
  induction h with
  | here => exact List.mem_cons_self ..
  | there y t t' b x h ih => exact List.mem_cons_of_mem _ ih
/-- The key b goes, the key of x comes. -/
theorem Swp.keys {T T' : GH} {b : Nat} {x : Nat × Obj} (h : Swp T b x T') : ∀ k, k ∈ E.keys T' ↔ k = x.1 ∨ (k ∈ E.keys T ∧ (k ≠ b ∨ 1 < (E.keys T).count b)) := by
  induction h with
  | here b o x t =>
    intro k
    obtain ⟨xb, xo⟩ := x
    by_cases hkb : k = b
    · subst hkb
      simp only [keys_cons, List.mem_cons, List.count_cons_self, ne_eq, not_true_eq_false, false_or]
      have : k ∈ E.keys t ↔ 0 < (E.keys t).count k := List.count_pos_iff.symm
      rw [this]
      omega
    · simp [hkb]
  | there y t t' b x h ih =>
    intro k
    obtain ⟨yb, yo⟩ := y
    simp only [keys_cons, List.mem_cons, ih k]
    have hm : 0 < (E.keys t).count b := List.count_pos_iff.2 h.memb
    by_cases hyb : yb = b
    · subst hyb
      simp only [List.count_cons_self]
      constructor
      · rintro (h1 | h1 | ⟨h1, h2⟩)
        · exact .inr ⟨.inl h1, .inr (by omega)⟩
        · exact .inl h1
        · exact .inr ⟨.inr h1, .inr (by omega)⟩
      · rintro (h1 | ⟨h1 | h1, h2⟩)
        · exact .inr (.inl h1)
        · exact .inl h1
        · by_cases hk : k = yb
          · exact .inl hk
          · exact .inr (.inr ⟨h1, .inl hk⟩)
    · rw [List.count_cons_of_ne hyb]
      constructor
      · rintro (h1 | h1 | ⟨h1, h2⟩)
        · exact .inr ⟨.inl h1, .inl (h1 ▸ hyb)⟩
        · exact .inl h1
        · exact .inr ⟨.inr h1, h2⟩
      · rintro (h1 | ⟨h1 | h1, h2⟩)
        · exact .inr (.inl h1)
        · exact .inl h1
        · exact .inr (.inr ⟨h1, h2⟩)
theorem Swp.nodup {T T' : GH} {b : Nat} {x : Nat × Obj} (h : Swp T b x T') (hn : (E.keys T).Nodup) (hx : x.1 = b ∨ x.1 ∉ E.keys T) : (E.keys T').Nodup := by
  induction h with
  | here b o x t =>
    obtain ⟨xb, xo⟩ := x
    simp only [keys_cons, List.nodup_cons] at *
    refine ⟨?_, hn.2⟩
    rcases hx with h | h
    · have h' : xb = b := h
      rw [h']; exact hn.1
    · exact fun hh => h (List.mem_cons_of_mem _ hh)
  | there y t t' b x h ih =>
    obtain ⟨yb, yo⟩ := y
    simp only [keys_cons, List.nodup_cons] at *
    refine ⟨?_, ih hn.2 (hx.imp id fun h hh => h (List.mem_cons_of_mem _ hh))⟩
    intro hh
    rcases (h.keys yb).1 hh with h1 | ⟨h1, _⟩
    · rcases hx with h2 | h2
      · exact hn.1 (by rw [h1, h2]; exact h.memb)
      · exact h2 (by rw [← h1]; exact List.mem_cons_self ..)
    · exact hn.1 h1

/-- H, and behind it what a call says in F: H'. -/
inductive Mg (w0 w : World) : GH → GH → GH → Prop
  | nil (H : GH) : Mg w0 w H [] H
  | new {H F H' : GH} {b : Nat} {o : Obj} (hb : w.heap.size ≤ b) (h : Mg w0 w H F H') : Mg w0 w H ((b, o) :: F) ((b, o) :: H')
  | old {H F H' : GH} {b : Nat} {o : Obj} (hb : b < w.heap.size) (hn : b ∉ keys H) (h : Mg w0 w H F H') : Mg w0 w H ((b, o) :: F) ((b, o) :: H')
  | upd {H F H' H'' : GH} {b : Nat} {o : Obj} (hu : Swp H' b (b, o) H'') (hb : b ∈ keys H) (h : Mg w0 w H F H') : Mg w0 w H ((b, o) :: F) H''
  | swp {H F H' H'' : GH} {b b' : Nat} {o : Obj} (h0 : w0.heap.size ≤ b) (hb' : b' = b ∨ w.heap.size ≤ b') (hu : Swp H' b (b', o) H'') (hb : b ∈ keys H) (hF : b ∉ keys F) (h : Mg w0 w H F H') : Mg w0 w H ((b', o) :: F) H''

theorem Mg.keysIn {w0 w : World} {H F H' : GH} (h : Mg w0 w H F H') : ∀ k, k ∈ keys H' → k ∈ keys H ∨ k ∈ keys F := by
  induction h with
  | nil => exact fun k hk => .inl hk
  | new hb h ih => intro k hk; simp only [keys_cons, List.mem_cons] at hk ⊢; rcases hk with hk | hk; exact .inr (.inl hk); exact (ih k hk).imp id .inr
  | old hb hn h ih => intro k hk; simp only [keys_cons, List.mem_cons] at hk ⊢; rcases hk with hk | hk; exact .inr (.inl hk); exact (ih k hk).imp id .inr
  | upd hu hb h ih => intro k hk; simp only [keys_cons, List.mem_cons]; rcases (hu.keys k).1 hk with hk | ⟨hk, _⟩; exact .inr (.inl hk); exact (ih k hk).imp id .inr
  | swp h0 hb' hu hb hF h ih => intro k hk; simp only [keys_cons, List.mem_cons]; rcases (hu.keys k).1 hk with hk | ⟨hk, _⟩; exact .inr (.inl hk); exact (ih k hk).imp id .inr

theorem Mg.sound {w0 w : World} {H F H' : GH} (h : Mg w0 w H F H') (hlt : ∀ k, k ∈ keys H → k < w.heap.size) (hnH : (keys H).Nodup) : (keys F).Nodup →
    (keys H').Nodup ∧ (∀ b o, (b, o) ∈ H' → (b, o) ∈ F ∨ ((b, o) ∈ H ∧ b ∉ keys F)) ∧ (∀ b, b ∈ keys F → b ∈ keys H') ∧ (∀ b, b ∈ keys H → b < w0.heap.size → b ∈ keys H') := by
  induction h with
  | nil => exact fun _ => ⟨hnH, fun b o hm => .inr ⟨hm, by simp⟩, fun b hb => absurd hb (by simp), fun b hb _ => hb⟩
  | @new F H' b o hb h ih =>
    intro hn
    simp only [keys_cons, List.nodup_cons] at hn
    obtain ⟨i1, i2, i3, i4⟩ := ih hn.2
    have hbH : b ∉ keys H := fun hh => by have := hlt b hh; omega
    refine ⟨List.nodup_cons.2 ⟨fun hh => (h.keysIn b hh).elim hbH hn.1, i1⟩, ?_, ?_, fun k hk hk0 => List.mem_cons_of_mem _ (i4 k hk hk0)⟩
    · intro k u hm
      rcases List.mem_cons.1 hm with hm | hm
      · exact .inl (hm ▸ List.mem_cons_self ..)
      · rcases i2 k u hm with h1 | ⟨h1, h2⟩
        · exact .inl (List.mem_cons_of_mem _ h1)
        · refine .inr ⟨h1, ?_⟩
          simp only [keys_cons, List.mem_cons, not_or]
          exact ⟨fun e => hbH (e ▸ mem_keys h1), h2⟩
    · intro k hk
      simp only [keys_cons, List.mem_cons] at hk ⊢
      exact hk.imp id (i3 k)
  | @old F H' b o hb hbH h ih =>
    intro hn
    simp only [keys_cons, List.nodup_cons] at hn
    obtain ⟨i1, i2, i3, i4⟩ := ih hn.2
    refine ⟨List.nodup_cons.2 ⟨fun hh => (h.keysIn b hh).elim hbH hn.1, i1⟩, ?_, ?_, fun k hk hk0 => List.mem_cons_of_mem _ (i4 k hk hk0)⟩
    · intro k u hm
      rcases List.mem_cons.1 hm with hm | hm
      · exact .inl (hm ▸ List.mem_cons_self ..)
      · rcases i2 k u hm with h1 | ⟨h1, h2⟩
        · exact .inl (List.mem_cons_of_mem _ h1)
        · refine .inr ⟨h1, ?_⟩
          simp only [keys_cons, List.mem_cons, not_or]
          exact ⟨fun e => hbH (e ▸ mem_keys h1), h2⟩
    · intro k hk
      simp only [keys_cons, List.mem_cons] at hk ⊢
      exact hk.imp id (i3 k)
  | @upd F H' H'' b o hu hb h ih =>
    intro hn
    simp only [keys_cons, List.nodup_cons] at hn
    obtain ⟨i1, i2, i3, i4⟩ := ih hn.2
    have hone : ¬ 1 < (keys H').count b := by have := List.nodup_iff_count.1 i1 b; omega
    refine ⟨hu.nodup i1 (.inl rfl), ?_, ?_, ?_⟩
    · intro k u hm
      rcases hu.mem _ hm with h1 | h1
      · exact .inl (h1 ▸ List.mem_cons_self ..)
      · have hkb : k ≠ b ∨ (k, u) = (b, o) := by
          by_cases hkb : k = b
          · right
            subst hkb
            -- k stands once in the new list: it is the new entry
            have hnd := hu.nodup i1 (.inl rfl)
            have hin : (k, o) ∈ H'' := hu.isin
            have : ∀ (T : GH), (keys T).Nodup → ∀ k u v, (k, u) ∈ T → (k, v) ∈ T → u = v := by
              intro T
              induction T with
              | nil => intro _ k u v h; exact absurd h (by simp)
              | cons x T ihT =>
                obtain ⟨xb, xo⟩ := x
                intro hT k u v h1 h2
                simp only [keys_cons, List.nodup_cons] at hT
                rcases List.mem_cons.1 h1 with h1 | h1 <;> rcases List.mem_cons.1 h2 with h2 | h2
                · cases h1; cases h2; rfl
                · cases h1; exact absurd (mem_keys h2) hT.1
                · cases h2; exact absurd (mem_keys h1) hT.1
                · exact ihT hT.2 k u v h1 h2
            rw [this H'' hnd k u o hm hin]
          · exact .inl hkb
        rcases hkb with hkb | hkb
        · rcases i2 k u h1 with h2 | ⟨h2, h3⟩
          · exact .inl (List.mem_cons_of_mem _ h2)
          · refine .inr ⟨h2, ?_⟩
            simp only [keys_cons, List.mem_cons, not_or]
            exact ⟨hkb, h3⟩
        · exact .inl (hkb ▸ List.mem_cons_self ..)
    · intro k hk
      simp only [keys_cons, List.mem_cons] at hk
      refine (hu.keys k).2 ?_
      rcases hk with hk | hk
      · exact .inl hk
      · exact .inr ⟨i3 k hk, .inl (fun e => hn.1 (e ▸ hk))⟩
    · intro k hk hk0
      refine (hu.keys k).2 ?_
      by_cases hkb : k = b
      · exact .inl hkb
      · exact .inr ⟨i4 k hk hk0, .inl hkb⟩
  | @swp F H' H'' b b' o h0 hb' hu hb hF h ih =>
    intro hn
    simp only [keys_cons, List.nodup_cons] at hn
    obtain ⟨i1, i2, i3, i4⟩ := ih hn.2
    have hb'H : b' = b ∨ b' ∉ keys H' := by
      rcases hb' with e | e
      · exact .inl e
      · refine .inr fun hh => (h.keysIn b' hh).elim (fun hH => ?_) hn.1
        have := hlt b' hH; omega
    have hnd := hu.nodup i1 hb'H
    have huniq : ∀ (T : GH), (keys T).Nodup → ∀ k u v, (k, u) ∈ T → (k, v) ∈ T → u = v := by
      intro T
      induction T with
      | nil => intro _ k u v h; exact absurd h (by simp)
      | cons x T ihT =>
        obtain ⟨xb, xo⟩ := x
        intro hT k u v h1 h2
        simp only [keys_cons, List.nodup_cons] at hT
        rcases List.mem_cons.1 h1 with h1 | h1 <;> rcases List.mem_cons.1 h2 with h2 | h2
        · cases h1; cases h2; rfl
        · cases h1; exact absurd (mem_keys h2) hT.1
        · cases h2; exact absurd (mem_keys h1) hT.1
        · exact ihT hT.2 k u v h1 h2
    have hin : (b', o) ∈ H'' := hu.isin
    refine ⟨hnd, ?_, ?_, ?_⟩
    · intro k u hm
      by_cases hkb : k = b'
      · subst hkb
        rw [huniq H'' hnd k u o hm hin]
        exact .inl (List.mem_cons_self ..)
      · rcases hu.mem _ hm with h1 | h1
        · cases h1; exact absurd rfl hkb
        · rcases i2 k u h1 with h2 | ⟨h2, h3⟩
          · exact .inl (List.mem_cons_of_mem _ h2)
          · refine .inr ⟨h2, ?_⟩
            simp only [keys_cons, List.mem_cons, not_or]
            exact ⟨hkb, h3⟩
    · intro k hk
      simp only [keys_cons, List.mem_cons] at hk
      refine (hu.keys k).2 ?_
      rcases hk with hk | hk
      · exact .inl hk
      · exact .inr ⟨i3 k hk, .inl (fun e => hF (e ▸ hk))⟩
    · intro k hk hk0
      exact (hu.keys k).2 (.inr ⟨i4 k hk hk0, .inl (fun e => by subst e; omega)⟩)

theorem Mg.st {w0 w w' : World} {H F H' : GH} (h : Mg w0 w H F H') (hs : St w0 H w) (hf : St w F w') : St w0 H' w' := by
  obtain ⟨h1, h2, h3, h4⟩ := h.sound (fun k hk => hs.klt hk) hs.nd hf.nd
  exact hs.trans hf h1 h2 (fun b hb _ => h3 b hb) h4

/-! ### Calls -/
def evL (env : Env) : List Operand → Option (List Value)
  | [] => some []
  | x :: r => match ev env x, evL env r with
    | some v, some vs => some (v :: vs)
    | _, _ => none

theorem evL_spec {a : Act} (ha : AgV env a) : ∀ (l : List Operand) (vs : List Value), evL env l = some vs → l.map a.eval = vs := by
  intro l
  induction l with
  | nil => intro vs h; cases h; rfl
  | cons x l ih =>
    intro vs h
    simp only [evL] at h
    split at h
    · rename_i v vs' h1 h2
      cases h
      simp [ha.ev h1, ih vs' h2]
    · cases h

def IsFn (P : Program) (f : FuncId) : Prop := ∃ fn, P.funcs[f]? = some fn ∧ (fn.name == "runtime.NumGoroutine") = false ∧ fn.body.isNone = false

theorem run_callFunc {f : FuncId} (h : IsFn P f) (args : Array Value) (w : World) : (callFunc f args).run P w = .ok (.enter f args) w := by
  obtain ⟨fn, h1, h2, h3⟩ := h
  have h4 : fn.name ≠ "runtime.NumGoroutine" := by simpa using h2
  have h5 : ¬ fn.body = none := fun e => by rw [e] at h3; simp at h3
  simp [callFunc, h1, h4, h5]

/-- A call of a function by its name or through a value. -/
theorem o_enter {o : Oper} {f : FuncId} {args : Array Value} {G : World → Value → GH → Prop} {R : Value → GH → Prop}
    (hrun : ∀ a w, AgV env a → (execOp a.eval o).run P w = .ok (.enter f args) w)
    (h : ∀ w, St w0 H w → Con P f args w (G w)) (k : ∀ w v F, St w0 H w → G w v F → ∃ H', Mg w0 w H F H' ∧ R v H') : OT P w0 env H o R := by
  intro a w ha hs
  unfold Oper.wp
  rw [hrun a w ha, Oper.upon_enter]
  refine Calls.mono (h w hs) ?_
  rintro e w' ⟨v, F, rfl, hst, hG⟩
  obtain ⟨H', hm, hR⟩ := k w v F hs hG
  exact ⟨v, H', rfl, hm.st hs hst, hR⟩

theorem run_call {f : FuncId} {args : Array Operand} {ts : Array TypeId} {vs : List Value} (hf : IsFn P f) (hargs : evL env args.toList = some vs) :
    ∀ a w, AgV env a → (execOp a.eval ⟨some d, .call ⟨.value (.func f), args, ts⟩, ty, pos, af, g⟩).run P w = .ok (.enter f vs.toArray) w := by
  intro a w ha
  have hm : args.map a.eval = vs.toArray := by
    have := evL_spec ha _ _ hargs
    apply Array.toList_inj.1
    simpa using this
  simp only [execOp, resolve, Sem.run_bind, Act.eval, Deferred.ofValue, Sem.run_pure, Result.andThen_ok, invoke, hm]
  simpa using run_callFunc hf vs.toArray w

/-- A closure's call: what it has caught comes behind the arguments. -/
theorem run_callv {f : FuncId} {x : Operand} {first cap : List Value} {args : Array Operand} {ts : Array TypeId} {vs : List Value} (hx : ev env x = some (.func (.func f) first.toArray cap.toArray)) (hf : IsFn P f) (hargs : evL env args.toList = some vs) :
    ∀ a w, AgV env a → (execOp a.eval ⟨some d, .call ⟨.value x, args, ts⟩, ty, pos, af, g⟩).run P w = .ok (.enter f (first ++ vs ++ cap).toArray) w := by
  intro a w ha
  have hm : args.map a.eval = vs.toArray := by
    have := evL_spec ha _ _ hargs
    apply Array.toList_inj.1
    simpa using this
  simp only [execOp, resolve, Sem.run_bind, ha.ev hx, Deferred.ofValue, Sem.run_pure, Result.andThen_ok, invoke, hm]
  have := run_callFunc hf (first ++ vs ++ cap).toArray w
  simpa using this

theorem xcall {f : FuncId} {args : Array Operand} {ts : Array TypeId} {vs : List Value} {G : World → Value → GH → Prop} (hd : Nat.blt d n = true) (hw : Wt ops env g) (hf : IsFn P f) (hargs : evL env args.toList = some vs)
    (h : ∀ w, St w0 H w → Con P f vs.toArray w (G w)) (k : ∀ w v F, St w0 H w → G w v F → ∃ H', Mg w0 w H F H' ∧ XO P n w0 ((d, v) :: env) H' ops rest Q) :
    XO P n w0 env H ops (⟨some d, .call ⟨.value (.func f), args, ts⟩, ty, pos, af, g⟩ :: rest) Q :=
  xo hd hw (o_enter (R := fun v H' => XO P n w0 ((d, v) :: env) H' ops rest Q) (run_call hf hargs) h k) fun _ _ hh => hh
theorem xcallv {f : FuncId} {x : Operand} {first cap : List Value} {args : Array Operand} {ts : Array TypeId} {vs : List Value} {G : World → Value → GH → Prop} (hd : Nat.blt d n = true) (hw : Wt ops env g) (hx : ev env x = some (.func (.func f) first.toArray cap.toArray)) (hf : IsFn P f) (hargs : evL env args.toList = some vs)
    (h : ∀ w, St w0 H w → Con P f (first ++ vs ++ cap).toArray w (G w)) (k : ∀ w v F, St w0 H w → G w v F → ∃ H', Mg w0 w H F H' ∧ XO P n w0 ((d, v) :: env) H' ops rest Q) :
    XO P n w0 env H ops (⟨some d, .call ⟨.value x, args, ts⟩, ty, pos, af, g⟩ :: rest) Q :=
  xo hd hw (o_enter (R := fun v H' => XO P n w0 ((d, v) :: env) H' ops rest Q) (run_callv hx hf hargs) h k) fun _ _ hh => hh
/-- A call that leaves nothing behind, and whose answer is known. -/
theorem xcallq {f : FuncId} {args : Array Operand} {ts : Array TypeId} {vs : List Value} {v : Value} (hd : Nat.blt d n = true) (hw : Wt ops env g) (hf : IsFn P f) (hargs : evL env args.toList = some vs)
    (h : ∀ w, St w0 H w → Con P f vs.toArray w (Is v [])) (k : XO P n w0 ((d, v) :: env) H ops rest Q) :
    XO P n w0 env H ops (⟨some d, .call ⟨.value (.func f), args, ts⟩, ty, pos, af, g⟩ :: rest) Q :=
  xcall hd hw hf hargs h fun _ _ _ _ ⟨e1, e2⟩ => by subst e1 e2; exact ⟨H, .nil H, k⟩

theorem o_callq {f : FuncId} {args : Array Operand} {ts : Array TypeId} {vs : List Value} {v : Value} {d : Nat} (hf : IsFn P f) (hargs : evL env args.toList = some vs) (h : ∀ w, St w0 H w → Con P f vs.toArray w (Is v [])) :
    OT P w0 env H ⟨some d, .call ⟨.value (.func f), args, ts⟩, ty, pos, af, g⟩ (Is v H) :=
  o_enter (run_call hf hargs) h fun _ _ _ _ ⟨e1, e2⟩ => by subst e1 e2; exact ⟨H, .nil H, rfl, rfl⟩

/-! ### What is forgotten at the end -/
inductive Kp (w0 : World) : GH → GH → Prop
  | nil : Kp w0 [] []
  | keep {x : Nat × Obj} {H F : GH} (h : Kp w0 H F) : Kp w0 (x :: H) (x :: F)
  | new {b : Nat} {o : Obj} {H F : GH} (hb : w0.heap.size ≤ b) (h : Kp w0 H F) : Kp w0 ((b, o) :: H) F
  | same {b : Nat} {o : Obj} {H F : GH} (hb : w0.heap[b]? = some o) (h : Kp w0 H F) : Kp w0 ((b, o) :: H) F

theorem Kp.sub {H F : GH} (h : Kp w0 H F) : List.Sublist F H := by
  induction h with
  | nil => exact List.Sublist.slnil
  | keep h ih => exact ih.cons_cons _
  | new hb h ih => exact ih.cons _
  | same hb h ih => exact ih.cons _
theorem Kp.all {H F : GH} (h : Kp w0 H F) : ∀ b o, (b, o) ∈ H → b ∈ keys F ∨ w0.heap.size ≤ b ∨ w0.heap[b]? = some o := by
  induction h with
  | nil => intro b o h; exact absurd h (by simp)
  | @keep x H F h ih =>
    obtain ⟨xb, xo⟩ := x
    intro b o hm
    rcases List.mem_cons.1 hm with hm | hm
    · cases hm; exact .inl (by simp)
    · exact (ih b o hm).imp (fun h => by simp [h]) id
  | new hb h ih =>
    intro b o hm
    rcases List.mem_cons.1 hm with hm | hm
    · cases hm; exact .inr (.inl hb)
    · exact ih b o hm
  | same hb h ih =>
    intro b o hm
    rcases List.mem_cons.1 hm with hm | hm
    · cases hm; exact .inr (.inr hb)
    · exact ih b o hm
theorem Kp.st {H F : GH} (h : Kp w0 H F) : ∀ w, St w0 H w → St w0 F w := fun _ hs =>
  hs.drop (fun _ _ hm => h.sub.subset hm) ((h.sub.map _).nodup hs.nd) h.all
end
end Go.E
