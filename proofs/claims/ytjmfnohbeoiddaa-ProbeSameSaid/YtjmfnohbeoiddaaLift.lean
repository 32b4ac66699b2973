/- The last step, common to all laws: what the walk gives, and the arguments' reading, answer the row's statement. -/
import Derived.Test.YtjmfnohbeoiddaaRows
import Derived.Test.YtjmfnohbeoiddaaE2
import Derived.WalkKit
import Derived.ProofKit
import Derived.OpenShut
namespace Go.Proofs.Ytjmfnohbeoiddaa
open Go Go.E Go.ChangeShapes Go.WideShapes Go.ChangeAt Go.RowKit

theorem st_below {w w' : World} (h : St w [] w') : Below w.heap.size w w' :=
  ⟨h.os, h.tape, h.out, h.size, fun k hk => h.keep k hk (by simp)⟩

theorem all_stay {H : Type} {enc : TypeId × Value → H} {P : Program} (hl : laidOutB P = true) {W W' : World} (hb : Below W.heap.size W W') :
    ∀ (ts : List TypeId) (vs : List Value) (ds : List (DataW H)) (p : List MemPlace), (∀ t ∈ ts, P.readableRec t = true ∧ t < P.types.size) → (∀ x ∈ p, x.block < W.heap.size) →
      DataW.TrodAll enc P W 0 (fun _ => true) true ts vs ds p → DataW.TrodAll enc P W' 0 (fun b => decide (b < W.heap.size)) true ts vs ds p
  | [], vs, ds, p, _, _, h => by
    obtain ⟨rfl, rfl, rfl⟩ := trodAll_nil h
    exact trodAll_mk0
  | t :: ts, vs, ds, p, hts, hp, h => by
    obtain ⟨v, vs', d, ds', a, b, rfl, rfl, rfl, h1, h2⟩ := trodAll_cons h
    have ht := hts t List.mem_cons_self
    exact trodAll_cons_mk (Below.trod hl ht.1 ht.2 h1 hb fun x hx => hp x (List.mem_append_left _ hx))
      (all_stay hl hb ts vs' ds' b (fun s hs => hts s (List.mem_cons_of_mem _ hs)) (fun x hx => hp x (List.mem_append_right _ hx)) h2)

theorem law_post {H : Type} {enc : TypeId × Value → H} {P : Program} (hl : laidOutB P = true) {f : Func} {s : ChangeSpec} {W W' : World} {args : Array Value} {ds gs : List (DataW H)} {before : List MemPlace} {tb : TypeId}
    (hW : DataW.Whole enc P f.params.toList s.vars false W args.toList ds gs before) (hvars : s.vars = []) (hfn : s.fn H (ds ++ gs) = { results := [.lit (.bool true)], args := ds }) (hres : f.resultTypes = #[tb]) (hb : P.underlying tb = some .bool)
    (hpar : f.params.toList.all (fun t => P.readableRec t && Nat.blt t P.types.size) = true) (hst : St W [] W') : s.post enc P f false true false false W args (.bool true) W' := by
  have hbel := st_below hst
  have hlt : ∀ p ∈ before, p.block < W.heap.size := fun p hp => by simpa using hW.lt p hp
  have hW1 := hW
  obtain ⟨p, q, hA, hV, e, _, _⟩ := hW
  rw [hvars] at hV
  obtain ⟨_, rfl⟩ := trodVars_none hV
  rw [List.append_nil] at e
  subst e
  refine ⟨ds, gs, before, [], before, [], hW1, ?_, ?_, ?_, hbel.frame _, fun h => by cases h⟩
  · rw [hfn, hres]
    exact trodAll_cons_mk (shut_bool hb true) trodAll_mk0
  · rw [hfn]
    refine all_stay hl hbel _ _ _ _ (fun t ht => ?_) hlt hA
    have := List.all_eq_true.1 hpar t ht
    rw [Bool.and_eq_true] at this
    exact ⟨this.1, Nat.le_of_ble_eq_true this.2⟩
  · rw [hfn, hvars]; rfl
end Go.Proofs.Ytjmfnohbeoiddaa
