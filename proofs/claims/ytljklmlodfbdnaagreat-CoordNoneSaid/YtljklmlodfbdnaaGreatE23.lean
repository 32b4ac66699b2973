/- The engine, part 23: cells of a block, set in a row (for slices.Insert). -/
import Derived.Test.YtljklmlodfbdnaaGreatE21
import Derived.Laws.IdiomCopy
import Derived.Shelf.Spec.SlicesInsert
import Derived.Shelf.Spec.SlicesInsertGrow
namespace Go.E
open Go
set_option linter.unusedVariables false
set_option maxRecDepth 100000

/-- What stands in a block after a row of cells has been set. -/
def row (F : Nat → Value) (o : Nat) (vs : List Value) : Nat → Value := fun k => if o ≤ k ∧ k < o + vs.length then vs.getD (k - o) undef else F k
structure Same (b : Nat) (w w' : World) : Prop where
  os : w'.os = w.os
  tape : w'.tape = w.tape
  output : w'.output = w.output
  size : w'.heap.size = w.heap.size
  other : ∀ k, k ≠ b → w'.heap[k]? = w.heap[k]?
theorem Same.refl (b : Nat) (w : World) : Same b w w := ⟨rfl, rfl, rfl, rfl, fun _ _ => rfl⟩
theorem Same.trans {b : Nat} {u v w : World} (h : Same b u v) (k : Same b v w) : Same b u w :=
  ⟨k.os.trans h.os, k.tape.trans h.tape, k.output.trans h.output, k.size.trans h.size, fun i hi => (k.other i hi).trans (h.other i hi)⟩
theorem same_setCell (w : World) (b o : Nat) (v : Value) : Same b w (w.setCell ⟨b, o, none⟩ v) := by
  refine ⟨rfl, rfl, rfl, by simp [World.setCell], fun k hk => ?_⟩
  have : b ≠ k := fun e => hk e.symm
  simp [World.setCell, Array.getElem?_modify, this]
theorem setCell_BK {w : World} {b o N : Nat} {F : Nat → Value} {T : TypeId} {v : Value} (h : w.heap[b]? = some (BK N F T)) (ho : o < N) : (w.setCell ⟨b, o, none⟩ v).heap[b]? = some (BK N (upd F o v) T) := by
  have e : (CV N F).setIfInBounds o v = CV N (upd F o v) := by
    refine CV_eq (by simp) fun i hi => ?_
    rw [Array.getElem?_setIfInBounds]
    by_cases hio : o = i
    · subst hio
      simp [ho, upd]
    · rw [if_neg hio, CV_get hi]
      simp only [upd]
      rw [if_neg (fun e => hio e.symm)]
  simp only [World.setCell, Array.getElem?_modify, h, BK]
  simp [e]
theorem setCells_BK : ∀ (vs : List Value) {w : World} {b o N : Nat} {F : Nat → Value} {T : TypeId}, w.heap[b]? = some (BK N F T) → o + vs.length ≤ N → (w.setCells b o vs).heap[b]? = some (BK N (row F o vs) T) ∧ Same b w (w.setCells b o vs)
  | [], w, b, o, N, F, T, h, _ => ⟨by
      rw [show World.setCells w b o [] = w from rfl, h]
      refine congrArg some (BK_ext fun i hi => ?_)
      unfold row
      rw [if_neg (by simp)], Same.refl b w⟩
  | v :: vs, w, b, o, N, F, T, h, ho => by
    simp only [List.length_cons] at ho
    obtain ⟨h1, h2⟩ := setCells_BK vs (setCell_BK (v := v) (o := o) h (by omega)) (o := o + 1) (by omega)
    refine ⟨?_, (same_setCell w b o v).trans h2⟩
    show ((w.setCell ⟨b, o, none⟩ v).setCells b (o + 1) vs).heap[b]? = _
    rw [h1]
    refine congrArg some (BK_ext fun i hi => ?_)
    unfold row
    simp only [List.length_cons]
    by_cases h3 : o + 1 ≤ i ∧ i < o + 1 + vs.length
    · rw [if_pos h3, if_pos (by omega), show i - o = (i - (o + 1)) + 1 by omega]
      simp
    · rw [if_neg h3]
      by_cases h4 : i = o
      · subst h4
        rw [if_pos (by omega)]
        simp [upd]
      · rw [if_neg (by omega)]
        simp only [upd]
        rw [if_neg h4]
end Go.E
namespace Go.E
open Go Go.Proofs Go.Shelf Go.RowKit
set_option linter.unusedVariables false
set_option maxRecDepth 100000
section
variable {P : Program} {ρ : Ren}
def insL1 (l : List Int) (i : Nat) (x : Int) : List Int := l.take i ++ [x] ++ l.drop i
theorem insL1_len {l : List Int} {i : Nat} {x : Int} (hi : i ≤ l.length) : (insL1 l i x).length = l.length + 1 := by
  unfold insL1; simp; omega
theorem eG_insL1 {l : List Int} {i : Nat} {x : Int} (hi : i ≤ l.length) {k : Nat} (hk : k < l.length + 1) :
    eG 1 ic (insL1 l i x) k = if k < i then .int .i64 (l.getD k 0) else if k = i then .int .i64 x else .int .i64 (l.getD (k - 1) 0) := by
  have hlen := insL1_len (x := x) hi
  rw [eG_one (show k < (insL1 l i x).length by omega)]
  show Value.int .i64 ((insL1 l i x)[k]'(by omega)) = _
  have e : (insL1 l i x)[k]'(by omega) = if k < i then l.getD k 0 else if k = i then x else l.getD (k - 1) 0 := by
    unfold insL1
    by_cases h1 : k < i
    · rw [if_pos h1, List.getElem_append_left (by simp; omega), List.getElem_append_left (by simp; omega), List.getElem_take, List.getD_eq_getElem?_getD, List.getElem?_eq_getElem (by omega)]
      rfl
    · rw [if_neg h1]
      by_cases h2 : k = i
      · subst h2
        rw [if_pos rfl, List.getElem_append_left (by simp; omega), List.getElem_append_right (by simp; omega)]
        simp
      · rw [if_neg h2, List.getElem_append_right (by simp; omega), List.getElem_drop, List.getD_eq_getElem?_getD, List.getElem?_eq_getElem (by omega)]
        simp only [Option.getD_some]
        congr 1
        simp
        omega
  rw [e]
  split
  · rfl
  · split <;> rfl
/-- A call that hands back a new row. -/
theorem new_row {w w' : World} {B : GH} {T : TypeId} {l' : List Int} {C : Array Value} {n : Nat} (hB : Has w B) (os : w'.os = w.os) (tape : w'.tape = w.tape) (out : w'.output = w.output) (hs : w.heap.size ≤ w'.heap.size)
    (hn : w'.heap[w.heap.size]? = some (.cells C T (0, 0))) (ho : ∀ k, k < w.heap.size → w'.heap[k]? = w.heap[k]?) (hc : C.size = n) (hl : l'.length ≤ n) (hm : n ≤ maxLen) (hg : ∀ k, k < l'.length → C[k]? = some (eG 1 ic l' k)) :
    ∃ F, St w F w' ∧ OJ T 1 ic F (.slice (some ⟨w.heap.size, 0, none⟩) l'.length n) l' ∧ Cov w B F := by
  have hlt : ∀ k, k ∈ keys B → k < w.heap.size := fun k hk => by
    obtain ⟨⟨b, o⟩, hm, rfl⟩ := List.mem_map.1 hk
    exact (Array.getElem?_eq_some_iff.1 (hB.1 b o hm)).1
  have hBK : w'.heap[w.heap.size]? = some (BK n (fun k => C.getD k undef) T) := by
    rw [hn]
    unfold BK
    have := CV_of C
    rw [hc] at this
    rw [← this]
  refine ⟨(w.heap.size, BK n (fun k => C.getD k undef) T) :: B, ⟨os, tape, out, hs, fun b o hm => ?_, ?_, fun k hk _ => ho k hk⟩, ?_, ?_⟩
  · rcases List.mem_cons.1 hm with e | hm
    · cases e; exact hBK
    · have hx := hB.1 b o hm
      rw [ho b (Array.getElem?_eq_some_iff.1 hx).1]; exact hx
  · rw [keys_cons]
    exact List.nodup_cons.2 ⟨fun hh => Nat.lt_irrefl _ (hlt _ hh), hB.2⟩
  · refine .inr ⟨w.heap.size, 0, n, n, _, List.mem_cons_self, rfl, hl, by omega, hm, fun k hk => ?_⟩
    rw [Nat.zero_add, Array.getD_eq_getD_getElem?, hg k (by omega)]
    rfl
  · refine ⟨fun k hk => ?_, fun k hk => ?_⟩
    · rw [keys_cons] at hk
      rcases List.mem_cons.1 hk with rfl | hk
      · exact .inr (Nat.le_refl _)
      · exact .inl hk
    · rw [keys_cons]; exact List.mem_cons_of_mem _ hk
/-- A call that changes a row of ours in place. -/
theorem same_row {w w' : World} {B : GH} {T : TypeId} {l' : List Int} {b o cap N : Nat} {F F' : Nat → Value} (hB : Has w B) (hm : (b, BK N F T) ∈ B) (os : w'.os = w.os) (tape : w'.tape = w.tape) (out : w'.output = w.output) (hs : w'.heap.size = w.heap.size)
    (hn : w'.heap[b]? = some (BK N F' T)) (ho : ∀ k, k ≠ b → w'.heap[k]? = w.heap[k]?) (hl : l'.length ≤ cap) (hN : o + cap * 1 ≤ N) (hc : cap ≤ maxLen) (hg : ∀ k, k < l'.length → F' (o + k) = eG 1 ic l' k) :
    ∃ B', St w B' w' ∧ OJ T 1 ic B' (.slice (some ⟨b, o, none⟩) l'.length cap) l' ∧ Cov w B B' := by
  obtain ⟨B', hB'⟩ := Upd.ex (BK N F' T) hm
  have hst : St w B w := ⟨rfl, rfl, rfl, Nat.le_refl _, hB.1, hB.2, fun _ _ _ => rfl⟩
  exact ⟨B', hst.upd hB' hn ho os tape out hs, .inr ⟨b, o, cap, N, F', hB'.isin, rfl, hl, hN, hc, fun k hk => hg k (by omega)⟩, Cov.upd hB'⟩
theorem zero_size (n : Nat) : (Builtin.zeroCells (Value.int .i64 0).cells n).size = n := by
  simp [Builtin.zeroCells, Value.cells]
theorem heap_dalloc (w : World) (o : Obj) : (w.drew.alloc o).heap = w.heap.push o := rfl
theorem con_insert (L : Lays2.n21 P ρ) {w : World} {v : Value} {B : GH} {l : List Int} {i : Nat} {x : Int} {vb : Nat} {T' : TypeId} (hJ : OJ (ρ.t 3) 1 ic B v l) (hB : Has w B) (hvb : w.heap[vb]? = some (BK 1 (fun _ => .int .i64 x) T')) (hne : vb ∉ keys B) (hi : i ≤ l.length) (hl : l.length ≤ 1000000000000) :
    Con P (ρ.f 21) #[v, .int .i64 i, .slice (some ⟨vb, 0, none⟩) 1 1] w (fun u F => OJ (ρ.t 3) 1 ic F u (insL1 l i x) ∧ Cov w B F) := by
  have hlen := insL1_len (x := x) hi
  have hvs : ∀ j u, [Value.int .i64 x][j]? = some u → w.cell? ⟨vb, 0 + j, none⟩ = some u := by
    intro j u hj
    cases j with
    | zero =>
      simp only [List.getElem?_cons_zero, Option.some.injEq] at hj
      rw [← hj]
      exact cell_BK hvb (by omega)
    | succ j => simp at hj
  have h1v : ∀ u ∈ [Value.int .i64 x], u.oneCell' = true := fun u hu => by rw [List.mem_singleton.1 hu]; rfl
  have hmax : l.length + 1 ≤ maxLen := by simp [maxLen]; omega
  have endNew : ∀ {base : Option Addr} {c : Nat}, i = l.length → l.length ≤ c → c < l.length + 1 → (base = none → l.length = 0) → (∀ a, base = some a → ∀ j u, (l.map (Value.int .i64))[j]? = some u → w.cell? (a.add j) = some u) →
      Con P (ρ.f 21) #[.slice base l.length c, .int .i64 i, .slice (some ⟨vb, 0, none⟩) 1 1] w (fun u F => OJ (ρ.t 3) 1 ic F u (insL1 l i x) ∧ Cov w B F) := by
    intro base c he hc1 hc2 hnil hcs
    subst he
    refine Calls.mono (Any2.slices_Insert_int_end_grow L base l.length c vb 0 1 1 (l.map (Value.int .i64)) [Value.int .i64 x] w (by omega) hc1 hc2 (by omega) (by simp) rfl hnil hcs hvs h1v) ?_
    rintro e w' ⟨rfl, rfl⟩
    have hge := grownCap_ge w (l.length + 1) c (ρ.t 3)
    have hle := grownCap_le_maxLen w (l.length + 1) c (ρ.t 3) hmax
    generalize grownCap w (l.length + 1) c (ρ.t 3) = cap at hge hle ⊢
    obtain ⟨F, h1, h2, h3⟩ := new_row (w := w) (w' := w.drew.alloc (.cells ((l.map (Value.int .i64) ++ [Value.int .i64 x]).toArray ++ Builtin.zeroCells (Value.int .i64 0).cells (cap - (l.length + 1))) (ρ.t 3))) (T := ρ.t 3) (l' := insL1 l l.length x) (n := cap) hB rfl rfl rfl (by rw [heap_dalloc, Array.size_push]; omega) (by rw [heap_dalloc, Array.getElem?_push, if_pos rfl]) (fun k hk => by rw [heap_dalloc, Array.getElem?_push, if_neg (by omega)]) (by rw [Array.size_append, zero_size]; simp; omega) (by omega) hle (fun k hk => by
      rw [hlen] at hk
      rw [eG_insL1 hi hk, Array.getElem?_append_left (by simp; omega)]
      by_cases h1 : k < l.length
      · rw [if_pos h1]
        simp [List.getElem?_append_left, h1]
      · rw [if_neg h1, if_pos (by omega), show k = l.length by omega]
        simp)
    rw [hlen] at h2
    exact ⟨_, F, rfl, h1, h2, h3⟩
  rcases hJ with ⟨rfl, rfl⟩ | ⟨b, o, cap, N, F, hm, rfl, h1, h2, h3, h4⟩
  · exact endNew (by simpa using hi) (Nat.le_refl _) (by simp) (fun _ => rfl) (fun a ha => by cases ha)
  · have hb := hB.1 _ _ hm
    have hbs : b < w.heap.size := (Array.getElem?_eq_some_iff.1 hb).1
    have hcs : ∀ j u, (l.map (Value.int .i64))[j]? = some u → w.cell? ⟨b, o + j, none⟩ = some u := by
      intro j u hj
      rw [List.getElem?_map] at hj
      obtain ⟨z, hz, rfl⟩ := Option.map_eq_some_iff.1 hj
      obtain ⟨hjl, rfl⟩ := List.getElem?_eq_some_iff.1 hz
      rw [cell_BK hb (by omega), h4 j (by omega), eG_one hjl]
      rfl
    by_cases hroom : l.length + 1 ≤ cap
    · by_cases hie : i = l.length
      · subst hie
        refine Calls.mono (Any2.slices_Insert_int_end_room L b o l.length cap vb 0 1 1 [Value.int .i64 x] w (by omega) hroom (by simp [maxLen] at h3; omega) rfl (fun j hj => by rw [cell_BK hb (by omega)]; rfl) (fun j hj => by simp [World.frozen?, hb, BK]) hvs h1v) ?_
        rintro e w' ⟨rfl, rfl⟩
        obtain ⟨g1, g2⟩ := setCells_BK [Value.int .i64 x] (o := o + l.length) hb (by simp; omega)
        obtain ⟨B', s1, s2, s3⟩ := same_row (l' := insL1 l l.length x) (o := o) (cap := cap) hB hm g2.os g2.tape g2.output g2.size g1 g2.other (by omega) h2 h3 (fun k hk => by
          rw [hlen] at hk
          rw [eG_insL1 hi hk]
          unfold row
          simp only [List.length_singleton]
          by_cases hk2 : k < l.length
          · rw [if_neg (by omega), if_pos hk2, h4 k (by omega), eG_one hk2, List.getD_eq_getElem?_getD, List.getElem?_eq_getElem hk2]
            rfl
          · rw [if_pos (by omega), if_neg hk2, if_pos (by omega), show o + k - (o + l.length) = 0 by omega]
            rfl)
        rw [hlen] at s2
        exact ⟨_, B', rfl, s1, s2, s3⟩
      · have hil : i < l.length := by omega
        have hbk : b ∈ keys B := List.mem_map.2 ⟨_, hm, rfl⟩
        refine Calls.mono (Any2.slices_Insert_int_shift L b o l.length cap i vb 0 1 1 (l.map (Value.int .i64)) [Value.int .i64 x] w hil (by omega) hroom (by simp [maxLen] at h3; omega) (fun e => hne (e ▸ hbk)) (by simp) rfl hcs (fun j hj => by rw [cell_BK hb (by omega)]; rfl) (fun j hj => by simp [World.frozen?, hb, BK]) hvs
          (fun u hu => by obtain ⟨z, _, rfl⟩ := List.mem_map.1 hu; rfl) h1v T' (ρ.t 3) 1 N (by simp [World.shape?, hvb, BK]) (by simp [World.shape?, hb, BK]) (by omega) (by simp [World.frozen?, hvb, BK]) (by simp [World.frozen?, hvb, BK])) ?_
        rintro e w' ⟨rfl, rfl⟩
        obtain ⟨g1, g2⟩ := setCells_BK ((l.map (Value.int .i64)).drop i) (w := w.drew) (o := o + (i + 1)) (show w.drew.heap[b]? = _ from hb) (by simp; omega)
        obtain ⟨k1, k2⟩ := setCells_BK [Value.int .i64 x] (o := o + i) g1 (by simp; omega)
        have g := g2.trans k2
        obtain ⟨B', s1, s2, s3⟩ := same_row (l' := insL1 l i x) (o := o) (cap := cap) hB hm g.os g.tape g.output g.size k1 g.other (by omega) h2 h3 (fun k hk => by
          rw [hlen] at hk
          rw [eG_insL1 hi hk]
          unfold row
          simp only [List.length_singleton, List.length_drop, List.length_map]
          by_cases hk2 : k < i
          · rw [if_neg (by omega), if_neg (by omega), if_pos hk2, h4 k (by omega), eG_one (by omega), List.getD_eq_getElem?_getD, List.getElem?_eq_getElem (show k < l.length by omega)]
            rfl
          · by_cases hk3 : k = i
            · subst hk3
              rw [if_pos (by omega), if_neg hk2, if_pos rfl, Nat.sub_self]
              rfl
            · rw [if_neg (by omega), if_pos (by omega), if_neg hk2, if_neg hk3, show o + k - (o + (i + 1)) = k - (i + 1) by omega, List.getD_eq_getElem?_getD, List.getElem?_drop, show i + (k - (i + 1)) = k - 1 by omega, List.getElem?_map, List.getD_eq_getElem?_getD, List.getElem?_eq_getElem (show k - 1 < l.length by omega)]
              rfl)
        rw [hlen] at s2
        exact ⟨_, B', rfl, s1, s2, s3⟩
    · by_cases hie : i = l.length
      · exact endNew hie h1 (by omega) (fun h => by cases h) (fun a ha j u hj => by
          cases ha
          rw [Addr.add_lit]
          exact hcs j u hj)
      · have hil : i < l.length := by omega
        refine Calls.mono (Any2.slices_Insert_int_grow L b o l.length cap i vb 0 1 1 (l.map (Value.int .i64)) [Value.int .i64 x] w hil (by omega) h1 (by omega) (by omega) (by simp) rfl hcs hvs (fun u hu => by obtain ⟨z, _, rfl⟩ := List.mem_map.1 hu; rfl) h1v) ?_
        rintro e w' ⟨rfl, rfl⟩
        have hge := grownCap_ge w (l.length + 1) cap (ρ.t 3)
        have hle := grownCap_le_maxLen w (l.length + 1) cap (ρ.t 3) hmax
        generalize grownCap w (l.length + 1) cap (ρ.t 3) = cp at hge hle ⊢
        generalize hA : (((l.map (Value.int .i64)).take i).toArray ++ Builtin.zeroCells (Value.int .i64 0).cells (l.length + 1 - i) ++ Builtin.zeroCells (Value.int .i64 0).cells (cp - (l.length + 1))) = A
        have hAs : A.size = cp := by
          rw [← hA, Array.size_append, Array.size_append, zero_size, zero_size]
          simp
          omega
        have g0 : (w.alloc (.cells A (ρ.t 3))).drew.heap[w.heap.size]? = some (BK cp (fun k => A.getD k undef) (ρ.t 3)) := by
          show (w.heap.push _)[w.heap.size]? = _
          rw [Array.getElem?_push, if_pos rfl]
          have := CV_of A
          rw [hAs] at this
          unfold BK
          rw [← this]
        obtain ⟨g1, g2⟩ := setCells_BK [Value.int .i64 x] (o := i) g0 (by simp; omega)
        obtain ⟨k1, k2⟩ := setCells_BK ((l.map (Value.int .i64)).drop i) (w := ((w.alloc (.cells A (ρ.t 3))).drew.setCells w.heap.size i [Value.int .i64 x]).drew) (o := i + 1) (show ((w.alloc (.cells A (ρ.t 3))).drew.setCells w.heap.size i [Value.int .i64 x]).drew.heap[w.heap.size]? = _ from g1) (by simp; omega)
        obtain ⟨F2, s1, s2, s3⟩ := new_row (l' := insL1 l i x) (T := ρ.t 3) (n := cp) hB (k2.os.trans g2.os) (k2.tape.trans g2.tape) (k2.output.trans g2.output)
          (by
            have e1 := k2.size.trans g2.size
            rw [e1]
            show w.heap.size ≤ (w.heap.push _).size
            rw [Array.size_push]; omega) k1 (fun k hk => by
            rw [k2.other k (by omega)]
            show ((w.alloc (.cells A (ρ.t 3))).drew.setCells w.heap.size i [Value.int .i64 x]).heap[k]? = _
            rw [g2.other k (by omega)]
            show (w.heap.push _)[k]? = _
            rw [Array.getElem?_push, if_neg (by omega)]) (by simp) (by omega) hle (fun k hk => by
            rw [hlen] at hk
            rw [eG_insL1 hi hk, CV_get (by omega)]
            unfold row
            simp only [List.length_singleton, List.length_drop, List.length_map]
            by_cases hk2 : k < i
            · rw [if_neg (by omega), if_neg (by omega), if_pos hk2, ← hA, Array.getD_eq_getD_getElem?, Array.getElem?_append_left (by simp; omega), Array.getElem?_append_left (by simp; omega)]
              simp [List.getElem?_take, hk2, List.getElem?_eq_getElem (show k < l.length by omega)]
            · by_cases hk3 : k = i
              · subst hk3
                rw [if_neg (by omega), if_pos (by omega), if_neg hk2, if_pos rfl, Nat.sub_self]
                rfl
              · rw [if_pos (by omega), if_neg hk2, if_neg hk3, List.getD_eq_getElem?_getD, List.getElem?_drop, show i + (k - (i + 1)) = k - 1 by omega, List.getElem?_map, List.getD_eq_getElem?_getD, List.getElem?_eq_getElem (show k - 1 < l.length by omega)]
                rfl)
        rw [hlen] at s2
        exact ⟨_, F2, rfl, s1, s2, s3⟩
/-- The same, as a call that is given its segment. -/
theorem con_insertG (L : Lays2.n21 P ρ) {w : World} {v : Value} {B : GH} {l : List Int} {i x : Int} {vb : Nat} {T' : TypeId} (hJ : OJ (ρ.t 3) 1 ic B v l) (hB : Has w (cat [B])) (hvb : w.heap[vb]? = some (BK 1 (fun _ => .int .i64 x) T')) (hne : vb ∉ keys B) (h0 : 0 ≤ i ∧ i ≤ l.length) (hl : sortP l) :
    Con P (ρ.f 21) #[v, .int .i64 i, .slice (some ⟨vb, 0, none⟩) 1 1] w (CatG fun u Ls => Cov w (cat [B]) (cat Ls) ∧ ∃ C, Ls = [C] ∧ OJ (ρ.t 3) 1 ic C u (insL1 l i.toNat x) ∧ Cov w B C) := by
  have e : cat [B] = B := by simp [cat]
  rw [e] at hB ⊢
  have := con_insert L (i := i.toNat) (x := x) hJ hB hvb hne (by omega) hl
  rw [show ((i.toNat : Nat) : Int) = i by omega] at this
  refine this.mono fun u F ⟨h1, h2⟩ => ⟨[F], by simp [cat], ?_, F, rfl, h1, h2⟩
  show Cov w B (cat [F])
  simpa [cat] using h2
/-- The same, where the number lies in a block beside. -/
theorem con_insertR (L : Lays2.n21 P ρ) {w0 w : World} {v : Value} {B : GH} {Rs : List GH} {l : List Int} {i x : Int} {vb : Nat} {T' : TypeId} {G : Nat → Value} (hJ : OJ (ρ.t 3) 1 ic B v l) (hw : St w0 (cat ([B] ++ Rs)) w) (hm : (vb, BK 1 G T') ∈ cat Rs) (hG : G 0 = .int .i64 x) (h0 : 0 ≤ i ∧ i ≤ l.length) (hl : sortP l) :
    Con P (ρ.f 21) #[v, .int .i64 i, .slice (some ⟨vb, 0, none⟩) 1 1] w (CatG fun u Ls => Cov w (cat [B]) (cat Ls) ∧ ∃ C, Ls = [C] ∧ OJ (ρ.t 3) 1 ic C u (insL1 l i.toNat x) ∧ Cov w B C) := by
  have e : cat ([B] ++ Rs) = B ++ cat Rs := by simp [cat]
  have hw' := hw
  rw [e] at hw'
  have h1 := hw'.own _ _ (List.mem_append_right B hm)
  rw [BK_ext (g := fun _ => .int .i64 x) (fun k hk => by rw [show k = 0 by omega]; exact hG)] at h1
  refine con_insertG L hJ hw.hasC h1 ?_ h0 hl
  have := hw'.nd
  rw [keys_append] at this
  intro hh
  exact (List.nodup_append.1 this).2.2 _ hh _ (List.mem_map.2 ⟨_, hm, rfl⟩) rfl
end
end Go.E
