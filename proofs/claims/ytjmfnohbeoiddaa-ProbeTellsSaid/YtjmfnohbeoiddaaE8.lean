/- The engine, part 8: slices as lists; segments of the list of blocks. -/
import Derived.Test.YtjmfnohbeoiddaaE7
namespace Go.E
open Go

/-- The cells of a list's elements, s to each. -/
def eG {α : Type} (s : Nat) (c : α → Nat → Value) (l : List α) : Nat → Value := fun i => (l[i / s]?).elim undef (fun a => c a (i % s))
def u8c (x : Int) : Nat → Value := fun _ => .int .u8 x
def ic (x : Int) : Nat → Value := fun _ => .int .i64 x

theorem eG_at {α : Type} {s j k : Nat} {c : α → Nat → Value} {l : List α} (hj : j < l.length) (hk : k < s) : eG s c l (j * s + k) = c l[j] k := by
  have h1 : (j * s + k) / s = j := by rw [Nat.mul_comm, Nat.mul_add_div (by omega), Nat.div_eq_of_lt hk, Nat.add_zero]
  have h2 : (j * s + k) % s = k := by rw [Nat.mul_comm, Nat.mul_add_mod, Nat.mod_eq_of_lt hk]
  simp only [eG, h1, h2, List.getElem?_eq_getElem hj, Option.elim_some]
theorem eG_one {α : Type} {j : Nat} {c : α → Nat → Value} {l : List α} (hj : j < l.length) : eG 1 c l j = c l[j] 0 := by
  have := eG_at (c := c) (s := 1) (k := 0) hj (by omega)
  simpa using this
theorem eG_app {α : Type} {s : Nat} (hs : 0 < s) (c : α → Nat → Value) (l l' : List α) : ∀ i, i < (l.length + l'.length) * s → app (eG s c l) (l.length * s) (eG s c l') i = eG s c (l ++ l') i := by
  intro i _
  simp only [app, eG]
  by_cases h : i < l.length * s
  · rw [if_pos h, List.getElem?_append_left (by rw [Nat.div_lt_iff_lt_mul hs]; exact h)]
  · rw [if_neg h]
    have hle : l.length * s ≤ i := Nat.le_of_not_lt h
    have h1 : (i - l.length * s) / s = i / s - l.length := by
      rw [Nat.mul_comm, Nat.sub_mul_div]
    have h2 : (i - l.length * s) % s = i % s := by
      rw [Nat.mul_comm, Nat.sub_mul_mod]; rw [Nat.mul_comm]; exact hle
    rw [h1, h2, List.getElem?_append_right (by rw [Nat.le_div_iff_mul_le hs]; exact hle)]

def OL {α : Type} (w0 : World) (T : TypeId) (s : Nat) (c : α → Nat → Value) (B : GH) (v : Value) (l : List α) : Prop := Own w0 T s B v l.length (eG s c l)
def SL {α : Type} (w : World) (s : Nat) (c : α → Nat → Value) (v : Value) (l : List α) : Prop := Sl w s v l.length (eG s c l)

section
variable {α : Type} {w0 w : World} {T : TypeId} {s : Nat} {c : α → Nat → Value} {B H A C : GH} {v : Value} {l : List α}

theorem OL.nil : OL w0 T s c [] (.slice none 0 0) ([] : List α) := Own.nil _
theorem SL.nil : SL w s c (.slice none 0 0) ([] : List α) := Sl.nil _
theorem OL.fresh (h : OL w0 T s c B v l) : ∀ b, b ∈ keys B → w0.heap.size ≤ b := Own.fresh h
theorem OL.val (h : OL w0 T s c B v l) : ∃ p cap, v = .slice p l.length cap := (Own.val h).imp fun _ h => h.imp fun _ h => h.1
theorem OL.src (h : OL w0 T s c B v l) (hs : St w0 H w) (hB : ∀ x ∈ B, x ∈ H) : SL w s c v l := Own.src h hs hB
theorem SL.keep (h : SL w0 s c v l) (hs : St w0 H w) (hn : ∀ b, b ∈ keys H → w0.heap.size ≤ b) : SL w s c v l := Sl.keep h hs hn
theorem SL.val (h : SL w s c v l) : ∃ p cap, v = .slice p l.length cap := let ⟨p, cap, h, _⟩ := h; ⟨p, cap, h⟩
theorem OL.base {w1 : World} (h : OL w1 T s c B v l) (hw : w0.heap.size ≤ w1.heap.size) : OL w0 T s c B v l := by
  rcases h with h | ⟨b, o, cp, N, F, h1, h2, h3⟩
  · exact .inl h
  · exact .inr ⟨b, o, cp, N, F, h1, Nat.le_trans hw h2, h3⟩
theorem OL.clip {p : Option Addr} {cap : Nat} (h : OL w0 T s c B (.slice p l.length cap) l) : OL w0 T s c B (.slice p l.length l.length) l := by
  rcases h with ⟨h1, h2, h3⟩ | ⟨b, o, cp, N, F, h1, h2, h3, h4, h5, h6, h7⟩
  · injection h2 with e1 e2 e3
    subst e1
    exact .inl ⟨h1, by rw [h3], h3⟩
  · cases h3
    refine .inr ⟨b, o, l.length, N, F, h1, h2, rfl, Nat.le_refl _, ?_, by omega, h7⟩
    have := Nat.mul_le_mul_right s h4
    omega
theorem OL.new {b n : Nat} {F : Nat → Value} (hb : w0.heap.size ≤ b) (hl : n = l.length) (hm : Nat.ble n 4611686018427387904 = true) (hF : ∀ i, i < n * s → F i = eG s c l i) : OL w0 T s c [(b, BK (n * s) F T)] (.slice (some ⟨b, 0, none⟩) n n) l := by
  subst hl
  exact Own.mk hb (Nat.le_refl _) (by omega) (by have := Nat.le_of_ble_eq_true hm; unfold maxLen; omega) (fun i hi => by rw [Nat.zero_add]; exact hF i hi)

/-- A literal, or whatever lies whole in one block of the list. -/
theorem SL.lit {w' : World} {b n N : Nat} {F : Nat → Value} (hs : St w0 H w') (hm : (b, BK N F T) ∈ H) (hl : n = l.length) (hN : n * s ≤ N) (hmx : n ≤ maxLen) (hF : ∀ i, i < n * s → F i = eG s c l i) : SL w' s c (.slice (some ⟨b, 0, none⟩) n n) l := by
  subst hl
  exact ⟨_, _, rfl, Nat.le_refl _, hmx, (fun h => by cases h), SrcAt.own hs hm (by omega) fun i hi => by rw [Nat.zero_add]; exact hF i hi⟩

theorem SL.sub {w' : World} {b o n cap N : Nat} {F : Nat → Value} (hs : St w0 H w') (hm : (b, BK N F T) ∈ H) (hl : n = l.length) (hcap : n ≤ cap) (hmx : cap ≤ maxLen) (hN : o + n * s ≤ N) (hF : ∀ i, i < n * s → F (o + i) = eG s c l i) : SL w' s c (.slice (some ⟨b, o, none⟩) n cap) l := by
  subst hl
  exact ⟨_, _, rfl, hcap, hmx, (fun h => by cases h), SrcAt.own hs hm hN hF⟩

/-! ### Segments -/
@[simp] theorem keys_append (A B : GH) : keys (A ++ B) = keys A ++ keys B := List.map_append

theorem St.perm {H' : GH} (h : St w0 H w) (hp : H.Perm H') : St w0 H' w :=
  ⟨h.os, h.tape, h.out, h.size, fun b o hm => h.own b o (hp.mem_iff.2 hm), (hp.map _).nodup_iff.1 h.nd, fun k hk hkn => h.keep k hk fun hh => hkn ((hp.map (·.1)).mem_iff.1 hh)⟩
theorem St.rot (h : St w0 (A ++ (B ++ C)) w) : St w0 (B ++ (A ++ C)) w := h.perm (by
  rw [← List.append_assoc, ← List.append_assoc]; exact List.Perm.append_right C List.perm_append_comm)
theorem St.rot1 {x : Nat × Obj} (h : St w0 (x :: (B ++ C)) w) : St w0 (B ++ (x :: C)) w := h.perm List.perm_middle.symm
theorem St.unrot1 {x : Nat × Obj} (h : St w0 (B ++ (x :: C)) w) : St w0 (x :: (B ++ C)) w := h.perm List.perm_middle
/-- A segment of new blocks is forgotten. -/
theorem St.dropSeg (h : St w0 (A ++ (B ++ C)) w) (hB : ∀ b, b ∈ keys B → w0.heap.size ≤ b) : St w0 (A ++ C) w :=
  h.drop (fun b o hm => by
      rcases List.mem_append.1 hm with hm | hm
      · exact List.mem_append_left _ hm
      · exact List.mem_append_right _ (List.mem_append_right _ hm))
    (by
      have := h.nd
      simp only [keys_append] at this ⊢
      exact this.sublist (List.Sublist.append_left (List.sublist_append_right _ _) _))
    (fun b o hm => by
      rcases List.mem_append.1 hm with hm | hm
      · exact .inl (by rw [keys_append]; exact List.mem_append_left _ (mem_keys hm))
      · rcases List.mem_append.1 hm with hm | hm
        · exact .inr (.inl (hB b (mem_keys hm)))
        · exact .inl (by rw [keys_append]; exact List.mem_append_right _ (mem_keys hm)))
theorem St.dropHead (h : St w0 (B ++ C) w) (hB : ∀ b, b ∈ keys B → w0.heap.size ≤ b) : St w0 C w := St.dropSeg (A := []) h hB
theorem Mg.news {w1 : World} {F H' : GH} (hB : ∀ k, k ∈ keys B → w1.heap.size ≤ k) (h : Mg w0 w1 H F H') : Mg w0 w1 H (B ++ F) (B ++ H') := by
  induction B with
  | nil => exact h
  | cons x B ih =>
    obtain ⟨b, o⟩ := x
    exact .new (hB b (by simp)) (ih fun k hk => hB k (by simp [hk]))
theorem Upd.seg {b : Nat} {o : Obj} {H' : GH} (h : Upd H b o H') : Upd (A ++ H) b o (A ++ H') := by
  induction A with
  | nil => exact h
  | cons x A ih => exact .there x _ _ b o ih
theorem Swp.seg {b : Nat} {x : Nat × Obj} {H' : GH} (h : Swp H b x H') : Swp (A ++ H) b x (A ++ H') := by
  induction A with
  | nil => exact h
  | cons y A ih => exact .there y _ _ b x ih
theorem Kp.segNew {F : GH} (hB : ∀ b, b ∈ keys B → w0.heap.size ≤ b) (h : Kp w0 H F) : Kp w0 (B ++ H) F := by
  induction B with
  | nil => exact h
  | cons x B ih =>
    obtain ⟨b, o⟩ := x
    exact .new (hB b (by simp)) (ih fun k hk => hB k (by simp [hk]))
theorem Kp.segKeep {F : GH} (h : Kp w0 H F) : Kp w0 (B ++ H) (B ++ F) := by
  induction B with
  | nil => exact h
  | cons x B ih => exact .keep ih
end

section
variable {α : Type} {P : Program} {w0 : World} {env : Env} {H : GH}
variable {d : Option Nat} {ty : TypeId} {pos : String} {af : Array Edge} {g : Option (Nat × Bool)} {t : TypeId} {s : Nat} {c : α → Nat → Value}

theorem o_shl {yt : TypeId} {x y : Operand} {i j z : Int} {k' : IntKind} (hx : ev env x = some (.int .i64 i)) (hy : ev env y = some (.int k' j)) (hj : 0 ≤ j ∧ j < 64) (hz : i * 2 ^ j.toNat = z) (hb : inI64 z) :
    OT P w0 env H ⟨d, .binOp .shl t x y yt, ty, pos, af, g⟩ (Is (.int .i64 z) H) :=
  OT.pure fun a w ha => by
    have h1 : ¬ j < 0 := by omega
    have h2 : min j.toNat IntKind.i64.bits = j.toNat := by simp only [IntKind.bits]; omega
    have hs : (binOp .shl t (.int .i64 i) (.int k' j)).run P w = .ok (.int .i64 z) w := by
      show (Op.shift .shl .i64 i k' j).run P w = _
      unfold Op.shift
      rw [if_neg h1]
      simp only [h2, hz, wrap_id hb, Sem.run_pure]
    simp [execOp, ha.ev hx, ha.ev hy, eqGuard]
    rw [hs]
    rfl
theorem o_shr {yt : TypeId} {x y : Operand} {i j : Int} {k' : IntKind} {q : Nat} (hx : ev env x = some (.int .i64 i)) (hy : ev env y = some (.int k' j)) (hj : 0 ≤ j ∧ j < 64) (hq : j.toNat = q) :
    OT P w0 env H ⟨d, .binOp .shr t x y yt, ty, pos, af, g⟩ (Is (.int .i64 (i / 2 ^ q)) H) :=
  OT.pure fun a w ha => by
    subst hq
    have h1 : ¬ j < 0 := by omega
    have h2 : min j.toNat IntKind.i64.bits = j.toNat := by simp only [IntKind.bits]; omega
    have hs : (binOp .shr t (.int .i64 i) (.int k' j)).run P w = .ok (.int .i64 (i / 2 ^ j.toNat)) w := by
      show (Op.shift .shr .i64 i k' j).run P w = _
      unfold Op.shift
      rw [if_neg h1]
      simp only [h2, Sem.run_pure]
      rw [Int.fdiv_eq_ediv_of_nonneg i (Int.pow_nonneg (by omega))]
    simp [execOp, ha.ev hx, ha.ev hy, eqGuard]
    rw [hs]
    rfl
/-- x[:h:h], all of x. -/
theorem o_clip {e : TypeId} {ag : Bool} {x o2 o3 : Operand} {n cap : Nat} {p : Option Addr} {k k' : IntKind} (he : Elm P t e s ag) (hx : ev env x = some (.slice p n cap)) (h2 : ev env o2 = some (.int k (n : Int))) (h3 : ev env o3 = some (.int k' (n : Int))) (hn : n ≤ cap) (hsp : ∀ a, p = some a → a.spot = none) :
    OT P w0 env H ⟨d, .slice t x none (some o2) (some o3), ty, pos, af, g⟩ (Is (.slice p n n) H) :=
  OT.pure fun a w ha => by
    have hp : ∀ q : Addr, p = some q → q.add 0 = q := fun q _ => by simp [Addr.add]
    cases p with
    | none => simp [execOp, ha.ev hx, ha.ev h2, ha.ev h3, Instr.sliceAt, Instr.slice, run_underlying he.1, Instr.sliceBounds, Instr.sliceBound, asIntOf, he.2.sizeOf, hn]
    | some q => simp [execOp, ha.ev hx, ha.ev h2, ha.ev h3, Instr.sliceAt, Instr.slice, run_underlying he.1, Instr.sliceBounds, Instr.sliceBound, asIntOf, he.2.sizeOf, hn, Addr.add]
/-- append, of lists. -/
theorem o_appL {e : TypeId} {by_ : Nat} {z : Value} (B : GH) {v u : Value} {l l' : List α} {ts : Array TypeId} {args : Array Operand} (ht : App P t e s by_ z) (hts : ts = #[t, t])
    (hargs : evL env args.toList = some [v, u]) (hown : OL w0 e s c B v l) (hsrc : ∀ w, St w0 (B ++ H) w → SL w s c u l') (h1 : ∀ (a : α) (i : Nat), (c a i).oneCell' = true) (hby : (l.length + l'.length) * by_ ≤ 140737488355328) (hmax : l.length + l'.length ≤ maxLen) :
    OT P w0 env (B ++ H) ⟨d, .call ⟨.builtin .append, args, ts⟩, ty, pos, af, g⟩ (fun v' H' => ∃ B', H' = B' ++ H ∧ OL w0 e s c B' v' (l ++ l')) := by
  intro a w ha hs
  obtain ⟨p, cap, hu, _, _, hpn, hsrc0⟩ := hsrc w hs
  subst hu
  have hspos : 0 < s := by simpa [Nat.blt_eq] using ht.pos
  have hsrc2 : ∀ w', St w0 (B ++ H) w' → SrcAt w' p (l'.length * s) (eG s c l') := by
    intro w' hs'
    obtain ⟨p', cap', hu', _, _, _, h⟩ := hsrc w' hs'
    cases hu'
    exact h
  have h1' : ∀ i, i < l'.length * s → (eG s c l' i).oneCell' = true := by
    intro i hi
    have : i / s < l'.length := by rw [Nat.div_lt_iff_lt_mul hspos]; exact hi
    simp only [eG, List.getElem?_eq_getElem this, Option.elim_some, h1]
  have := o_app (d := d) (ty := ty) (pos := pos) (af := af) (g := g) (B := B) (H := H) (n := l.length) (m := l'.length) ht hts hargs hown hsrc2 h1' hmax hby a w ha hs
  refine wp_mono2 ?_ (fun _ _ _ h => h.elim) this
  rintro a' w' ⟨v', H', rfl, hs', B', rfl, hown'⟩
  refine ⟨v', _, rfl, hs', B', rfl, ?_⟩
  unfold OL
  rw [List.length_append]
  exact hown'.ext (eG_app hspos c l l')
end
end Go.E
