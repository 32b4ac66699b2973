/- Opening the arguments; the last step, common to all laws. -/
import Derived.Test.YtljklmlodfbdnaaGreatEB
import Derived.WalkKit
import Derived.ProofKit
import Derived.OpenShut
import Derived.SizedLaws
import Derived.Test.YtljklmlodfbdnaaGreatRows
import Derived.Test.YtljklmlodfbdnaaGreatEA
namespace Go.E
open Go

def kindsFs (P : Program) (rec : TypeId → Option (List IntKind)) : List Field → Nat → Option (List IntKind)
  | [], _ => some []
  | f :: fs, o => if f.offset = o then
    match rec f.type with
    | some ks => if P.cellsOf f.type = ks.length then (kindsFs P rec fs (o + ks.length)).map (ks ++ ·) else none
    | none => none
    else none
/-- The kinds of the cells of a type of integers. -/
def kinds (P : Program) : Nat → TypeId → Option (List IntKind)
  | 0, _ => none
  | k + 1, t => match P.underlying t with
    | some (.int q) => some [q]
    | some (.struct fs) => kindsFs P (kinds P k) fs.toList 0
    | some (.array len e) => match kinds P k e with
      | some ks => if P.cellsOf e = ks.length then some (List.replicate len ks).flatten else none
      | none => none
    | _ => none
/-- Cells that are integers of these kinds. -/
def Ints (ks : List IntKind) (cs : List Value) : Prop := cs.length = ks.length ∧ ∀ (i : Nat) (q : IntKind), ks[i]? = some q → ∃ n : Int, cs[i]? = some (Value.int q n) ∧ (Lit.int q n).wf = true

theorem Ints.nil : Ints [] [] := ⟨rfl, fun i q h => by simp at h⟩
theorem Ints.app {a b : List IntKind} {u v : List Value} (h1 : Ints a u) (h2 : Ints b v) : Ints (a ++ b) (u ++ v) := by
  refine ⟨by simp [h1.1, h2.1], fun i q h => ?_⟩
  by_cases hi : i < a.length
  · rw [List.getElem?_append_left hi] at h
    rw [List.getElem?_append_left (by rw [h1.1]; exact hi)]
    exact h1.2 i q h
  · rw [List.getElem?_append_right (by omega)] at h
    rw [List.getElem?_append_right (by rw [h1.1]; omega), h1.1]
    exact h2.2 _ q h

section
variable {H : Type} {enc : TypeId × Value → H} {P : Program} {w : World} {base : Nat} {sp : Nat → Bool} {held : Bool}

theorem trod_kinds : ∀ (k : Nat) (t : TypeId) (ks : List IntKind), kinds P k t = some ks → P.cellsOf t = ks.length → ∀ (fuel : Nat) (cs : List Value) (x : DataW H × List MemPlace),
    DataW.trod enc P w base sp held fuel t cs = some x → x.2 = [] ∧ Ints ks cs := by
  intro k
  induction k with
  | zero => intro t ks h; simp [kinds] at h
  | succ k ih =>
    intro t ks h hc fuel cs x hx
    simp only [kinds] at h
    split at h
    · rename_i q hu
      simp only [Option.some.injEq] at h
      subst h
      obtain ⟨n, rfl, rfl, hw⟩ := DataW.trod_int hu hx
      refine ⟨rfl, rfl, fun i q' hq => ?_⟩
      cases i with
      | zero => simp at hq; subst hq; exact ⟨n, rfl, hw⟩
      | succ i => simp at hq
    · rename_i fs hu
      obtain ⟨xs, n, rfl, rfl, hl, hn, he⟩ := DataW.trod_struct hu hx
      have key : ∀ (l : List Field) (o : Nat) (ks : List IntKind), kindsFs P (kinds P k) l o = some ks → (∀ f ∈ l, ∃ y, DataW.trod enc P w base sp held n f.type ((cs.drop f.offset).take (P.cellsOf f.type)) = some y) → Ints ks ((cs.drop o).take ks.length) := by
        intro l
        induction l with
        | nil => intro o ks h _; simp only [kindsFs, Option.some.injEq] at h; subst h; simpa using Ints.nil
        | cons f l ihl =>
          intro o ks h hy
          simp only [kindsFs] at h
          split at h
          · rename_i ho
            split at h
            · rename_i k1 hr
              split at h
              · rename_i hsz
                simp only [Option.map_eq_some_iff] at h
                obtain ⟨k2, hk, rfl⟩ := h
                obtain ⟨y, hy1⟩ := hy f List.mem_cons_self
                have i1 := (ih _ _ hr hsz _ _ _ hy1).2
                have i2 := ihl _ _ hk fun f hf => hy f (List.mem_cons_of_mem _ hf)
                rw [ho, hsz] at i1
                have := i1.app i2
                rwa [← List.drop_drop, ← List.take_add, ← List.length_append] at this
              · cases h
            · cases h
          · cases h
      have each : ∀ (i : Nat) (f : Field), fs[i]? = some f → ∃ y, DataW.trod enc P w base sp held n f.type ((cs.drop f.offset).take (P.cellsOf f.type)) = some y ∧ xs[i]? = some y := by
        intro i f hf
        have h1 := he i f hf
        have hi : i < xs.length := by rw [hn]; exact (Array.getElem?_eq_some_iff.1 hf).1
        exact ⟨xs[i], by rw [h1]; exact List.getElem?_eq_getElem hi, List.getElem?_eq_getElem hi⟩
      refine ⟨?_, ?_⟩
      · have kf : ∀ (l : List Field) (o : Nat) (ks : List IntKind), kindsFs P (kinds P k) l o = some ks → ∀ f ∈ l, ∃ kk, kinds P k f.type = some kk ∧ P.cellsOf f.type = kk.length := by
          intro l
          induction l with
          | nil => intro o ks _ f hf; simp at hf
          | cons f l ihl =>
            intro o ks h f' hf
            simp only [kindsFs] at h
            split at h
            · split at h
              · rename_i k1 hr
                split at h
                · rename_i hsz
                  simp only [Option.map_eq_some_iff] at h
                  obtain ⟨k2, hk, rfl⟩ := h
                  rcases List.mem_cons.1 hf with rfl | hf
                  · exact ⟨k1, hr, hsz⟩
                  · exact ihl _ _ hk f' hf
                · cases h
              · cases h
            · cases h
        simp only [List.flatMap_eq_nil_iff]
        intro y hy
        obtain ⟨i, hi⟩ := List.getElem?_of_mem hy
        have hlt : i < fs.size := by rw [← hn]; exact (List.getElem?_eq_some_iff.1 hi).1
        obtain ⟨y', h1, h2⟩ := each i fs[i] (Array.getElem?_eq_getElem hlt)
        rw [hi] at h2
        cases h2
        obtain ⟨kk, hk, hz⟩ := kf _ _ _ h fs[i] (by simp)
        exact (ih _ _ hk hz _ _ _ h1).1
      · have := key fs.toList 0 ks h fun f hf => by
          obtain ⟨i, hi⟩ := List.getElem?_of_mem hf
          obtain ⟨y, h1, _⟩ := each i f (by rw [← hi]; simp)
          exact ⟨y, h1⟩
        rwa [List.drop_zero, List.take_of_length_le (by omega)] at this
    · rename_i len e hu
      split at h
      · rename_i k1 hr
        split at h
        · rename_i hsz
          simp only [Option.some.injEq] at h
          subst h
          obtain ⟨xs, n, rfl, rfl, hl, hn, he⟩ := DataW.trod_array hu hx
          have each : ∀ i, i < len → ∃ y, DataW.trod enc P w base sp held n e ((cs.drop (i * P.cellsOf e)).take (P.cellsOf e)) = some y ∧ xs[i]? = some y := by
            intro i hi
            have hi' : i < xs.length := by omega
            exact ⟨xs[i], by rw [he i hi]; exact List.getElem?_eq_getElem hi', List.getElem?_eq_getElem hi'⟩
          refine ⟨?_, ?_⟩
          · simp only [List.flatMap_eq_nil_iff]
            intro y hy
            obtain ⟨i, hi⟩ := List.getElem?_of_mem hy
            obtain ⟨y', h1, h2⟩ := each i (by rw [← hn]; exact (List.getElem?_eq_some_iff.1 hi).1)
            rw [hi] at h2
            cases h2
            exact (ih _ _ hr hsz _ _ _ h1).1
          · have key : ∀ j, j ≤ len → Ints (List.replicate j k1).flatten (cs.take (j * k1.length)) := by
              intro j
              induction j with
              | zero => intro _; simpa using Ints.nil
              | succ j ihj =>
                intro hj
                obtain ⟨y, h1, _⟩ := each j (by omega)
                have i1 := (ih _ _ hr hsz _ _ _ h1).2
                rw [hsz] at i1
                have := (ihj (by omega)).app i1
                rw [← List.take_add] at this
                rw [List.replicate_succ', List.flatten_append, Nat.succ_mul]
                simpa using this
            have := key len (Nat.le_refl _)
            rwa [List.take_of_length_le (by rw [hl, hc]; simp)] at this
        · cases h
      · cases h
    · cases h

def intOf : Value → Int
  | .int _ n => n
  | _ => 0
/-- The cells of integers of these kinds. -/
def kc (ks : List IntKind) (m : Nat → Int) : Nat → Value := fun i => .int (ks.getD i .i64) (m i)
def wfs (ks : List IntKind) (m : Nat → Int) : Prop := ∀ (i : Nat) (q : IntKind), ks[i]? = some q → (Lit.int q (m i)).wf = true

theorem kc_i64 (n : Nat) (m : Nat → Int) : kc (List.replicate n .i64) m = iv m := by
  funext i
  simp only [kc, iv, List.getD_eq_getElem?_getD, List.getElem?_replicate]
  split <;> rfl

theorem Ints.fn {ks : List IntKind} {cs : List Value} (h : Ints ks cs) : ∃ m, wfs ks m ∧ (∀ i, i < ks.length → cs[i]? = some (kc ks m i)) ∧ cs = (List.range ks.length).map (kc ks m) := by
  have e : ∀ (i : Nat) (q : IntKind), ks[i]? = some q → cs[i]? = some (.int q (intOf (cs.getD i undef))) ∧ (Lit.int q (intOf (cs.getD i undef))).wf = true := by
    intro i q hq
    obtain ⟨n, h1, h2⟩ := h.2 i q hq
    have : intOf (cs.getD i undef) = n := by rw [List.getD_eq_getElem?_getD, h1]; rfl
    rw [this]; exact ⟨h1, h2⟩
  have f : ∀ i, i < ks.length → cs[i]? = some (kc ks (fun i => intOf (cs.getD i undef)) i) := by
    intro i hi
    have := (e i ks[i] (List.getElem?_eq_getElem hi)).1
    rw [this, kc]
    rw [show ks.getD i .i64 = ks[i] from by rw [List.getD_eq_getElem?_getD, List.getElem?_eq_getElem hi]; rfl]
  refine ⟨fun i => intOf (cs.getD i undef), fun i q hq => (e i q hq).2, f, ?_⟩
  apply List.ext_getElem?
  intro i
  by_cases hi : i < ks.length
  · rw [f i hi, List.getElem?_map, List.getElem?_range hi]; rfl
  · rw [List.getElem?_eq_none (by rw [h.1]; omega), List.getElem?_eq_none (by simp; omega)]

theorem open_flat {r : Reach} {b0 : Nat} {t : TypeId} {v : Value} {d : DataW H} {ps : List MemPlace} {ks : List IntKind} (ht : (P.underlying t).map isAggD = some true) (hk : kinds P 9 t = some ks) (hc : P.cellsOf t = ks.length)
    (hval : Value.okWide P w r b0 t v) (hd : DataW.Trod enc P w base sp held t v d ps) : ∃ m, v = AG ks.length (kc ks m) ∧ wfs ks m ∧ ps = [] := by
  obtain ⟨fuel, hx⟩ := hd
  obtain ⟨cs, rfl⟩ : ∃ cs, v = .agg cs := by
    unfold Value.okWide at hval
    split at hval
    · exact ⟨_, hval.choose_spec.1⟩
    · exact ⟨_, hval.choose_spec.1⟩
    · rename_i h1 h2
      exfalso
      cases hu : P.underlying t with
      | none => rw [hu] at ht; simp at ht
      | some u =>
        rw [hu] at ht
        cases u <;> simp [isAggD] at ht
        · exact h2 _ _ hu
        · exact h1 _ hu
  obtain ⟨h1, h2⟩ := trod_kinds 9 t ks hk hc _ _ _ hx
  obtain ⟨m, hm, _, he⟩ := h2.fn
  refine ⟨m, ?_, hm, h1⟩
  have : cs.toList = (List.range ks.length).map (kc ks m) := he
  show Value.agg cs = .agg (CV _ _)
  rw [show cs = CV ks.length (kc ks m) from by rw [CV, ← this]]

/-- One cell an element: a list of integers. -/
theorem SL.one {q : IntKind} {c : Int → Nat → Value} (hc : ∀ x, c x 0 = .int q x) {v : Value} {l : List (Nat → Int)} (h : SL w 1 (kc [q]) v l) : SL w 1 c v (l.map (· 0)) := by
  obtain ⟨p, cp, rfl, h2, h3, h4, h5⟩ := h
  refine ⟨p, cp, by simp, by simpa using h2, h3, h4, ?_⟩
  rcases h5 with h5 | ⟨b, o, rfl, h5⟩
  · exact .inl (by simpa using h5)
  · refine .inr ⟨b, o, rfl, fun i hi => ?_⟩
    have hi' : i < l.length := by simpa using hi
    rw [h5 i (by simpa using hi)]
    simp only [eG, Nat.div_one, Nat.mod_one, List.getElem?_map, List.getElem?_eq_getElem hi', Option.map_some, Option.elim, hc]
    rfl
theorem wfs_i64 {n : Nat} {m : Nat → Int} (h : wfs (List.replicate n .i64) m) : ∀ i, i < n → inI64 (m i) := fun i hi => bounds_i64 (h i .i64 (by simp [hi]))

theorem open_ints64 {r : Reach} {b0 : Nat} {t : TypeId} {v : Value} {d : DataW H} {ps : List MemPlace} (n : Nat) (ht : (P.underlying t).map isAggD = some true) (hk : kinds P 9 t = some (List.replicate n .i64)) (hc : P.cellsOf t = n)
    (hval : Value.okWide P w r b0 t v) (hd : DataW.Trod enc P w base sp held t v d ps) : ∃ m, v = AI n m ∧ (∀ i, i < n → inI64 (m i)) ∧ ps = [] := by
  obtain ⟨m, rfl, h2, h3⟩ := open_flat ht hk (by simpa using hc) hval hd
  refine ⟨m, ?_, wfs_i64 h2, h3⟩
  rw [List.length_replicate, kc_i64]

end
end Go.E
namespace Go.Proofs.YtljklmlodfbdnaaGreat
open Go Go.E Go.ChangeShapes Go.WideShapes Go.ChangeAt Go.RowKit

theorem st_below {w w' : World} (h : St w [] w') : Below w.heap.size w w' :=
  ⟨h.os, h.tape, h.out, h.size, fun k hk => h.keep k hk (by simp)⟩

theorem all_stay {H : Type} {enc : TypeId × Value → H} {P : Program} (hl : laidOutB P = true) {W W' : World} (hb : Below W.heap.size W W') :
    ∀ (ts : List TypeId) (vs : List Value) (ds : List (DataW H)) (p : List MemPlace), (∀ t ∈ ts, P.readableRec t = true ∧ t < P.types.size) → (∀ x ∈ p, x.block < W.heap.size) →
      DataW.TrodAll enc P W 0 (fun _ => true) true ts vs ds p → DataW.TrodAll enc P W' 0 (fun b => decide (b < W.heap.size)) true ts vs ds p
  | [], vs, ds, p, _, _, h => by
    obtain ⟨rfl, rfl, rfl⟩ := trodAll_nil h
    exact trodAll_mk0
  | t :: ts, vs, ds, p, hts, hp, h => by
    obtain ⟨v, vs', d, ds', a, b, rfl, rfl, rfl, h1, h2⟩ := trodAll_cons h
    have ht := hts t List.mem_cons_self
    exact trodAll_cons_mk (Below.trod hl ht.1 ht.2 h1 hb fun x hx => hp x (List.mem_append_left _ hx))
      (all_stay hl hb ts vs' ds' b (fun s hs => hts s (List.mem_cons_of_mem _ hs)) (fun x hx => hp x (List.mem_append_right _ hx)) h2)

theorem law_post {H : Type} {enc : TypeId × Value → H} {P : Program} (hl : laidOutB P = true) {f : Func} {s : ChangeSpec} {W W' : World} {args : Array Value} {ds gs : List (DataW H)} {before : List MemPlace} {tb : TypeId}
    (hW : DataW.Whole enc P f.params.toList s.vars false W args.toList ds gs before) (hvars : s.vars = []) (hfn : s.fn H (ds ++ gs) = { results := [.lit (.bool true)], args := ds }) (hres : f.resultTypes = #[tb]) (hb : P.underlying tb = some .bool)
    (hpar : f.params.toList.all (fun t => P.readableRec t && Nat.blt t P.types.size) = true) (hst : St W [] W') : s.post enc P f false true false false W args (.bool true) W' := by
  have hbel := st_below hst
  have hlt : ∀ p ∈ before, p.block < W.heap.size := fun p hp => by simpa using hW.lt p hp
  have hW1 := hW
  obtain ⟨p, q, hA, hV, e, _, _⟩ := hW
  rw [hvars] at hV
  obtain ⟨_, rfl⟩ := trodVars_none hV
  rw [List.append_nil] at e
  subst e
  refine ⟨ds, gs, before, [], before, [], hW1, ?_, ?_, ?_, hbel.frame _, fun h => by cases h⟩
  · rw [hfn, hres]
    exact trodAll_cons_mk (shut_bool hb true) trodAll_mk0
  · rw [hfn]
    refine all_stay hl hbel _ _ _ _ (fun t ht => ?_) hlt hA
    have := List.all_eq_true.1 hpar t ht
    rw [Bool.and_eq_true] at this
    exact ⟨this.1, Nat.le_of_ble_eq_true this.2⟩
  · rw [hfn, hvars]; rfl
end Go.Proofs.YtljklmlodfbdnaaGreat
