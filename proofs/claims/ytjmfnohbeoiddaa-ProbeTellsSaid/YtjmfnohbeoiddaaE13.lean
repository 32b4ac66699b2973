/- The engine, part 13: blocks that are given, calls that change them, blocks of several kinds of cells. -/
import Derived.Test.YtjmfnohbeoiddaaE12
namespace Go.E
open Go

/-! ### Lists of segments -/
def cat : List GH → GH
  | [] => []
  | S :: L => S ++ cat L
theorem cat_perm {L L' : List GH} (h : L.Perm L') : (cat L).Perm (cat L') := by
  induction h with
  | nil => exact List.Perm.refl _
  | cons x h ih => exact List.Perm.append_left x ih
  | swap x y l =>
    show (y ++ (x ++ cat l)).Perm (x ++ (y ++ cat l))
    rw [← List.append_assoc, ← List.append_assoc]
    exact List.Perm.append_right _ List.perm_append_comm
  | trans h1 h2 ih1 ih2 => exact ih1.trans ih2
theorem cat_append (L L' : List GH) : cat (L ++ L') = cat L ++ cat L' := by
  induction L with
  | nil => rfl
  | cons x L ih => show x ++ cat (L ++ L') = (x ++ cat L) ++ cat L'; rw [ih, List.append_assoc]
theorem map_getD_range (L : List GH) : (List.range L.length).map (fun i => L.getD i []) = L := by
  apply List.ext_getElem?
  intro i
  by_cases h : i < L.length
  · simp [h]
  · simp [h]
theorem St.permI {w0 w : World} (σ : List Nat) (L : List GH) (h : List.isPerm σ (List.range L.length) = true) (hs : St w0 (cat L) w) : St w0 (cat (σ.map fun i => L.getD i [])) w := by
  refine hs.perm ?_
  have h1 := (List.isPerm_iff.1 h).map (fun i => L.getD i [])
  rw [map_getD_range] at h1
  exact cat_perm h1.symm

/-! ### What is given -/
def Has (w : World) (C : GH) : Prop := (∀ b o, (b, o) ∈ C → w.heap[b]? = some o) ∧ (keys C).Nodup
theorem St.has {w0 w : World} {C R : GH} (h : St w0 (C ++ R) w) : Has w C := by
  refine ⟨fun b o hm => h.own b o (List.mem_append_left _ hm), ?_⟩
  have := h.nd
  rw [keys_append] at this
  exact (List.nodup_append.1 this).1
theorem St.hasC {w0 w : World} {Cs Rs : List GH} (h : St w0 (cat (Cs ++ Rs)) w) : Has w (cat Cs) := by
  rw [cat_append] at h; exact h.has
theorem Has.st {w w' : World} {C : GH} (h : Has w C) (hs : St w [] w') : St w C w' := by
  have hk : ∀ k, k < w.heap.size → w'.heap[k]? = w.heap[k]? := fun k hk => hs.keep k hk (by simp)
  refine ⟨hs.os, hs.tape, hs.out, hs.size, fun b o hm => ?_, h.2, fun k hlt _ => hk k hlt⟩
  have := h.1 b o hm
  rw [hk b (Array.getElem?_eq_some_iff.1 this).1]; exact this

section
variable {P : Program} {n : Nat} {w0 : World} {env : Env} {H : GH} {Q : Exit → Act → World → Prop} {ops : Array Oper} {rest : List Oper}
variable {ty : TypeId} {pos : String} {af : Array Edge} {g : Option (Nat × Bool)}
theorem xw_has {C : GH} {c : Code} (h : Has w0 C) (k : XW P n w0 env C c Q) : XW P n w0 env [] c Q := fun a w ha hs => k a w ha (h.st hs)

def CatG (G : Value → List GH → Prop) : Value → GH → Prop := fun v F => ∃ Ls, F = cat Ls ∧ G v Ls
/-- A call that is given blocks. -/
theorem ot_callG {Cs Rs : List GH} {o : Oper} {f : FuncId} {vs : List Value} {G : World → Value → List GH → Prop}
    (hrun : ∀ a w, AgV env a → (execOp a.eval o).run P w = .ok (.enter f vs.toArray) w)
    (h : ∀ w, St w0 (cat (Cs ++ Rs)) w → Con P f vs.toArray w (CatG (G w))) (hcov : ∀ w v Ls, G w v Ls → Cov w (cat Cs) (cat Ls)) :
    OT P w0 env (cat (Cs ++ Rs)) o (fun v H' => ∃ w Ls, H' = cat (Ls ++ Rs) ∧ w0.heap.size ≤ w.heap.size ∧ G w v Ls) := by
  intro a w ha hs
  unfold Oper.wp
  rw [hrun a w ha, Oper.upon_enter]
  refine Calls.mono (h w hs) ?_
  rintro e w' ⟨v, F, rfl, hst, Ls, rfl, hG⟩
  have hc := hcov w v Ls hG
  refine ⟨v, cat (Ls ++ Rs), rfl, ?_, w, Ls, rfl, hs.size, hG⟩
  rw [cat_append] at hs ⊢
  have hnd := hs.nd
  simp only [keys_append, List.nodup_append] at hnd
  refine hs.trans hst ?_ ?_ ?_ ?_
  · simp only [keys_append, List.nodup_append]
    refine ⟨hst.nd, hnd.2.1, ?_⟩
    intro a ha b hb e
    subst e
    rcases hc.1 a ha with h1 | h1
    · exact hnd.2.2 a h1 a hb rfl
    · have := hs.klt (b := a) (by simp [hb])
      omega
  · intro b o hm
    rcases List.mem_append.1 hm with hm | hm
    · exact .inl hm
    · refine .inr ⟨List.mem_append_right _ hm, fun hb => ?_⟩
      rcases hc.1 b hb with h1 | h1
      · exact hnd.2.2 b h1 b (mem_keys hm) rfl
      · have := hs.klt (b := b) (by simp [mem_keys hm])
        omega
  · intro b hb _
    simp [hb]
  · intro b hb _
    simp only [keys_append, List.mem_append] at hb ⊢
    exact hb.imp (hc.2 b) id
theorem ot_callF {Cs Rs : List GH} {d : Nat} {f : FuncId} {args : Array Operand} {ts : Array TypeId} {vs : List Value} {G : World → Value → List GH → Prop} (hk : IsFn P f) (hargs : evL env args.toList = some vs)
    (h : ∀ w, St w0 (cat (Cs ++ Rs)) w → Con P f vs.toArray w (CatG (G w))) (hcov : ∀ w v Ls, G w v Ls → Cov w (cat Cs) (cat Ls)) :
    OT P w0 env (cat (Cs ++ Rs)) ⟨some d, .call ⟨.value (.func f), args, ts⟩, ty, pos, af, g⟩ (fun v H' => ∃ w Ls, H' = cat (Ls ++ Rs) ∧ w0.heap.size ≤ w.heap.size ∧ G w v Ls) :=
  ot_callG (run_call hk hargs) h hcov
theorem ot_callV {Cs Rs : List GH} {d : Nat} {f : FuncId} {x : Operand} {first cap : List Value} {args : Array Operand} {ts : Array TypeId} {vs : List Value} {G : World → Value → List GH → Prop} (hx : ev env x = some (.func (.func f) first.toArray cap.toArray)) (hk : IsFn P f) (hargs : evL env args.toList = some vs)
    (h : ∀ w, St w0 (cat (Cs ++ Rs)) w → Con P f (first ++ vs ++ cap).toArray w (CatG (G w))) (hcov : ∀ w v Ls, G w v Ls → Cov w (cat Cs) (cat Ls)) :
    OT P w0 env (cat (Cs ++ Rs)) ⟨some d, .call ⟨.value x, args, ts⟩, ty, pos, af, g⟩ (fun v H' => ∃ w Ls, H' = cat (Ls ++ Rs) ∧ w0.heap.size ≤ w.heap.size ∧ G w v Ls) :=
  ot_callG (run_callv hx hk hargs) h hcov
theorem OT.conv {o : Oper} {R R' : Value → GH → Prop} (h : OT P w0 env H o R) (hr : ∀ v H', R v H' → R' v H') : OT P w0 env H o R' := by
  intro a w ha hs
  refine wp_mono2 ?_ (fun _ _ _ h => h) (h a w ha hs)
  rintro a' w' ⟨v, H', h1, h2, h3⟩
  exact ⟨v, H', h1, h2, hr v H' h3⟩

/-! ### Cells of several kinds -/
def cl (l : List Value) : Nat → Value := fun i => l.getD i undef
variable {d : Option Nat} {t yt : TypeId} {x y : Operand} {b o N s : Nat} {T : TypeId} {l l' : List Value}
theorem o_stC {H' : GH} {v : Value} (hx : ev env x = some (.pointer (some ⟨b, o, none⟩))) (hy : ev env y = some v) (ht : TyS P t 1 false) (h1 : v.oneCell' = true) (hm : (b, BK N (cl l) T) ∈ H) (hN : l.length = N) (ho : o < N) (hl : l.set o v = l')
    (hu : Upd H b (BK N (cl l') T) H') : OT P w0 env H ⟨none, .store t x y, ty, pos, af, g⟩ (Is undef H') :=
  o_st hx hy ht h1 hm ho (by
    rw [BK_ext (g := cl l') (fun i hi => ?_)]
    · exact hu
    · subst hl
      simp only [upd, cl, List.getD_eq_getElem?_getD, List.getElem?_set]
      by_cases h : i = o
      · subst h; rw [if_pos rfl, if_pos rfl, if_pos (by omega)]; rfl
      · rw [if_neg h, if_neg (fun e => h e.symm)])
theorem o_stCA {H' : GH} {f : Nat → Value} (hx : ev env x = some (.pointer (some ⟨b, o, none⟩))) (hy : ev env y = some (AG s f)) (ht : TyS P t s true) (h1 : ∀ i, i < s → (f i).oneCell' = true) (hm : (b, BK N (cl l) T) ∈ H) (ho : o + s ≤ N) (hl : ∀ i, i < N → updR (cl l) o s f i = cl l' i)
    (hu : Upd H b (BK N (cl l') T) H') : OT P w0 env H ⟨none, .store t x y, ty, pos, af, g⟩ (Is undef H') :=
  o_stS hx hy ht h1 hm ho (by rw [BK_ext (g := cl l') hl]; exact hu)
end
end Go.E
namespace Go.E
open Go
section
variable {P : Program} {n : Nat} {w0 : World} {env : Env} {H : GH} {Q : Exit → Act → World → Prop} {ops : Array Oper} {rest : List Oper}
theorem xo_cat {A B : List GH} (h : XO P n w0 env (cat (A ++ B)) ops rest Q) : XO P n w0 env (cat A ++ cat B) ops rest Q := by rw [← cat_append]; exact h
theorem St.join {w0 w : World} (L1 L2 : List GH) (S N : GH) (h : St w0 (cat (L1 ++ (S :: N :: L2))) w) : St w0 (cat (L1 ++ ((S ++ N) :: L2))) w := by
  rw [cat_append] at h ⊢
  show St w0 (cat L1 ++ ((S ++ N) ++ cat L2)) w
  rw [List.append_assoc]; exact h
theorem Cov.more {w0 : World} {A B N : GH} (h : Cov w0 A B) (k : Cov w0 [] N) : Cov w0 A (B ++ N) := by
  have := h.app k
  rwa [List.append_nil] at this
theorem Cov.app0 {w0 : World} {N M : GH} (h : Cov w0 [] N) (k : Cov w0 [] M) : Cov w0 [] (N ++ M) := h.app k
theorem Cov.nil {w0 : World} : Cov w0 [] [] := Cov.refl _
/-- What is not given may be forgotten: a list of blocks that covers what was given. -/
theorem OJ.left {α : Type} {T : TypeId} {s : Nat} {c : α → Nat → Value} {B N : GH} {v : Value} {l : List α} (h : OJ T s c B v l) : OJ T s c (B ++ N) v l := h.mono fun _ hx => List.mem_append_left _ hx
theorem OJ.right {α : Type} {T : TypeId} {s : Nat} {c : α → Nat → Value} {B N : GH} {v : Value} {l : List α} (h : OJ T s c N v l) : OJ T s c (B ++ N) v l := h.mono fun _ hx => List.mem_append_right _ hx
variable {ty : TypeId} {pos : String} {af : Array Edge} {g : Option (Nat × Bool)} {d : Option Nat} {x : Operand}
theorem o_boxC {e : TypeId} {k : Nat} {f : Nat → Value} (l : List Value) (hx : ev env x = some (AG k f)) (hf : ∀ i, i < k → f i = cl l i) : OT P w0 env H ⟨d, .box e x, ty, pos, af, g⟩ (NewAt w0 (BK k (cl l) e) H) := by
  rw [AG_ext hf] at hx; exact o_boxA hx
theorem o_allocC {e : TypeId} {k : Nat} {f : Nat → Value} (l : List Value) (hz : ZeroT P e (AG k f)) (hf : ∀ i, i < k → f i = cl l i) : OT P w0 env H ⟨d, .alloc e, ty, pos, af, g⟩ (NewAt w0 (BK k (cl l) e) H) := by
  rw [AG_ext hf] at hz; exact o_alloc hz rfl
end
end Go.E
namespace Go.E
open Go
section
variable {P : Program} {w0 : World} {env : Env} {H : GH} {ty : TypeId} {pos : String} {af : Array Edge} {g : Option (Nat × Bool)} {d : Option Nat} {t : TypeId} {N : Nat}
theorem o_buildC {ps : Array (Nat × Operand)} {zf f : Nat → Value} (l : List Value) (hok : FldsOk P t) (hz : ZeroT P t (AG N zf)) (hf : Fill P t N env ps.toList zf f) (hl : ∀ i, i < N → f i = cl l i) : OT P w0 env H ⟨d, .build t ps, ty, pos, af, g⟩ (Is (AG N (cl l)) H) := by
  rw [← AG_ext hl]; exact o_build hok hz hf
end
end Go.E
namespace Go.E
open Go
theorem SL.nilOr {α : Type} {w : World} {s : Nat} {c : α → Nat → Value} {v : Value} {l : List α} (h : SL w s c v l) : ((isNilV v = some true ∧ ∀ e, sameKind (.slice e) v = true) ∧ l = []) ∨ (isNilV v = some false ∧ ∀ e, sameKind (.slice e) v = true) := by
  obtain ⟨p, cp, rfl, h2, h3, h4, h5⟩ := h
  cases p with
  | none => exact .inl ⟨⟨rfl, fun _ => rfl⟩, List.length_eq_zero_iff.1 (by have := h4 rfl; omega)⟩
  | some a => exact .inr ⟨rfl, fun _ => rfl⟩
theorem OJ.nilOr {α : Type} {T : TypeId} {s : Nat} {c : α → Nat → Value} {B : GH} {v : Value} {l : List α} (h : OJ T s c B v l) : ((isNilV v = some true ∧ ∀ e, sameKind (.slice e) v = true) ∧ l = []) ∨ (isNilV v = some false ∧ ∀ e, sameKind (.slice e) v = true) := by
  rcases h with ⟨rfl, rfl⟩ | ⟨b, o, cp, N, F, h1, rfl, h2⟩
  · exact .inl ⟨⟨rfl, fun _ => rfl⟩, rfl⟩
  · exact .inr ⟨rfl, fun _ => rfl⟩
end Go.E
