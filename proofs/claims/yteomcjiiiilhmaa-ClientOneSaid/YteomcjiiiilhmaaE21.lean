/- The engine, part 21: slices.Sort of ints, in place. -/
import Derived.Test.YteomcjiiiilhmaaE19
import Derived.Sort.OwnSortedInts
namespace Go.E
open Go Go.Proofs Go.Shelf Go.RowKit Go.Sort
set_option linter.unusedVariables false
set_option maxRecDepth 100000

section
variable {P : Program} {ρm : Ren}
/-- What slices.Sort does to a list that we own. -/
theorem con_sort (LM : SlLaysM.n5 P ρm) {w : World} {v : Value} {B : GH} {T : TypeId} {l : List Int} (hJ : OJ T 1 ic B v l) (hB : ∀ b o, (b, o) ∈ B → w.heap[b]? = some o) (hnd : (keys B).Nodup) (hl : l.length ≤ 1000000000000) :
    Con P (ρm.f 5) #[v] w (fun u F => u = .tuple #[] ∧ OJ T 1 ic F v (l.mergeSort leI) ∧ Cov w B F) := by
  have hst : St w B w := ⟨rfl, rfl, rfl, Nat.le_refl _, hB, hnd, fun _ _ _ => rfl⟩
  have hJ' := hJ
  rcases hJ with ⟨rfl, rfl⟩ | ⟨b, o, cap, N, F, hm, rfl, h1, h2, h3, h4⟩
  · refine Calls.mono (AnyM.slices_Sort_int_none LM none 0 w) ?_
    rintro e w' ⟨rfl, rfl⟩
    exact ⟨_, B, rfl, hst, rfl, by simpa using hJ', Cov.refl _⟩
  · have hb := hB _ _ hm
    have hbs : b < w.heap.size := (Array.getElem?_eq_some_iff.1 hb).1
    have hH : Holds (Value.int .i64) w b o l.toArray := by
      intro j hj
      have hj' : j < l.length := by simpa using hj
      refine ⟨?_, by simp [World.frozen?, hb, BK]⟩
      rw [cell_BK hb (by omega), h4 j (by omega), eG_one hj', getElem!_pos l.toArray j hj]
      rfl
    refine Calls.mono (AnyM.slices_Sort_int LM b o cap l w hH hbs (by omega)) ?_
    rintro e w' ⟨rfl, n, os, rfl⟩
    have hls : (l.mergeSort leI).length = l.length := List.length_mergeSort _
    generalize hd : (l.mergeSort fun x y => decide (x ≤ y)) = s
    have hs : l.mergeSort leI = s := hd
    rw [hs] at hls
    have hnew : (grow (putRow (Value.int .i64) (Sort.ahead w n) b o s.toArray) os).heap[b]? = some (.cells (putCells (Value.int .i64) o s.toArray (CV N F)) T (0, 0)) := by
      rw [heap_grow_old _ _ (by simpa using hbs)]
      simp [putRow, mapBlock, Sort.ahead, Array.getElem?_modify, hb, onCells, BK]
    have hsz : (putCells (Value.int .i64) o s.toArray (CV N F)).size = N := by simp [putCells]
    have hget : ∀ i, i < s.length → (putCells (Value.int .i64) o s.toArray (CV N F)).getD (o + i) undef = eG 1 ic s i := by
      intro i hi
      have hoi : o + i < N := by omega
      rw [eG_one hi, Array.getD_eq_getD_getElem?]
      simp [putCells, CV_get hoi, hoi, hi, ic]
    obtain ⟨B', hB'⟩ := Upd.ex (BK N (fun i => (putCells (Value.int .i64) o s.toArray (CV N F)).getD i undef) T) hm
    have hBK : (grow (putRow (Value.int .i64) (Sort.ahead w n) b o s.toArray) os).heap[b]? = some (BK N (fun i => (putCells (Value.int .i64) o s.toArray (CV N F)).getD i undef) T) := by
      rw [hnew]
      unfold BK
      have := CV_of (putCells (Value.int .i64) o s.toArray (CV N F))
      rw [hsz] at this
      rw [← this]
    have hold : ∀ k, k < w.heap.size → k ≠ b → (grow (putRow (Value.int .i64) (Sort.ahead w n) b o s.toArray) os).heap[k]? = w.heap[k]? := by
      intro k hk hne
      rw [heap_grow_old _ _ (by simpa using hk)]
      have : b ≠ k := fun e => hne e.symm
      simp [putRow, mapBlock, Sort.ahead, Array.getElem?_modify, this]
    refine ⟨_, B', rfl, ⟨rfl, rfl, rfl, by simp, fun k x hk => ?_, by rw [hB'.keys]; exact hnd, fun k hk hnk => hold k hk fun e => hnk (by rw [hB'.keys, e]; exact hB'.mem)⟩, rfl, ?_, Cov.upd hB'⟩
    · rcases hB'.spec hnd k x hk with ⟨rfl, rfl⟩ | ⟨hne, hk⟩
      · exact hBK
      · have hx := hB _ _ hk
        rw [hold k (Array.getElem?_eq_some_iff.1 hx).1 hne]
        exact hx
    · exact .inr ⟨b, o, cap, N, _, hB'.isin, by rw [hls], by omega, by omega, h3, fun i hi => by rw [hget i (by omega)]⟩
/-- The same, as a call that is given its segment. -/
def sortL (l : List Int) : List Int := l.mergeSort leI
def sortP (l : List Int) : Prop := l.length ≤ 1000000000000
theorem con_sortG (LM : SlLaysM.n5 P ρm) {w : World} {v : Value} {B : GH} {T : TypeId} {l : List Int} (hJ : OJ T 1 ic B v l) (hB : Has w (cat [B])) (hl : sortP l) :
    Con P (ρm.f 5) #[v] w (CatG fun u Ls => Cov w (cat [B]) (cat Ls) ∧ u = .tuple #[] ∧ ∃ C, Ls = [C] ∧ OJ T 1 ic C v (sortL l) ∧ Cov w B C) := by
  have e : cat [B] = B := by simp [cat]
  rw [e] at hB ⊢
  refine (con_sort LM hJ hB.1 hB.2 hl).mono fun u F ⟨h1, h2, h3⟩ => ⟨[F], by simp [cat], ?_, h1, F, rfl, h2, h3⟩
  show Cov w B (cat [F])
  simpa [cat] using h3
end
end Go.E
