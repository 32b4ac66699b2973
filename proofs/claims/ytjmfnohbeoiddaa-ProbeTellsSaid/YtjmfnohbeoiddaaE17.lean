/- The engine, part 17: entries of maps. -/
import Derived.Test.YtjmfnohbeoiddaaE16
namespace Go.E
open Go
set_option linter.unusedVariables false
set_option linter.unusedSectionVars false

/-- A map of which the entry of key k has the mark s. -/
def MK {κ α : Type} (ck : κ → Value) (cv : α → Value) (ke : κ → κ → Bool) (B : GH) (v : Value) (d : List (κ × α)) (k : κ) (s : Nat) : Prop :=
  ∃ b es clock i, B = [(b, .map es clock)] ∧ v = .map (some b) ∧ MO ck cv ke d (.map es clock) ∧ (d.map (·.1)).findIdx? (ke k) = some i ∧ ((es[i]?).map (·.born)) = some s

section
variable {κ α : Type} {P : Program} {n : Nat} {w0 : World} {env : Env} {H R B : GH}
variable {d : Option Nat} {op : Op} {ty : TypeId} {pos : String} {af : Array Edge} {g : Option (Nat × Bool)}
variable {t kt et : TypeId} {x y u : Operand} {v : Value} {ck : κ → Value} {cv : α → Value} {ke : κ → κ → Bool} {m : List (κ × α)} {k : κ} {z e : α} {s : Nat}

theorem MK.mj (h : MK ck cv ke B v m k s) : MJ ck cv ke B v m := by
  obtain ⟨b, es, clock, i, h1, h2, h3, _⟩ := h
  exact ⟨b, _, h1, h2, h3⟩

theorem mset_self {i : Nat} (h : (m.map (·.1)).findIdx? (ke k) = some i) : mset ke m k (mget ke m k z) = m := by
  obtain ⟨hi, _, hf, hs, _⟩ := find_some h
  rw [hs, mget, hf]
  exact List.set_getElem_self hi

theorem run_ment (hk : KeyT P kt ck ke) (hu : P.underlying t = some (.map kt et)) (hz : ZeroT P et (cv z)) {b : Nat} {o : Obj} {w : World} (hb : w.heap[b]? = some o) (hM : MO ck cv ke m o) :
    ∃ o', ∃ s : Nat, (Instr.mapEntry t (.map (some b)) (ck k)).run P w = .ok (.tuple #[cv (mget ke m k z), goInt s]) { w with heap := w.heap.setIfInBounds b o' } ∧ MK ck cv ke [(b, o')] (.map (some b)) (mset ke m k (mget ke m k z)) k s := by
  obtain ⟨es, clock, rfl, he, hborn, hn, hp⟩ := hM
  have hl : es.size = m.length := by simpa using congrArg List.length he
  rcases hk.look he k w with ⟨i, hi, h1, h2, h3, h4, h5⟩ | ⟨hi, h5⟩
  · obtain ⟨_, hke, hf, hset, _⟩ := find_some hi
    refine ⟨.map (es.modify i fun q => { q with key := ck k }) clock, es[i].born, ?_, ?_⟩
    · have hst := hk.stays k m[i].1 w hke
      rw [← h3] at hst
      simp only [Instr.mapEntry, Sem.run_bind, run_underlying hu, Result.andThen_ok, gO_map hb, hk.check, h5]
      simp only [Array.getElem?_eq_getElem h2, Option.map_some, Option.getD_some, hst, Result.andThen_ok, sO_map _ hb, Sem.run_pure, mget, hf, h4]
    · have hM' : MO ck cv ke m (.map (es.modify i fun q => { q with key := ck k }) clock) := by
        have := MO.upd (v := m[i].2) (f := fun q : MapEntry => { q with key := ck k }) he hborn hn hp h1 (fun _ => rfl) h2 (hk.same _ _ hke) h4
        rwa [show m.set i (m[i].1, m[i].2) = m from List.set_getElem_self h1] at this
      refine ⟨b, _, _, i, rfl, rfl, ?_, ?_, ?_⟩
      · rw [mset_self hi]; exact hM'
      · rw [mset_self hi]; exact hi
      · simp [h2, Array.getElem_modify]
  · obtain ⟨hf, hset, _, hno⟩ := find_none hi
    refine ⟨.map (es.push { key := ck k, val := cv z, born := clock }) (clock + 1), clock, ?_, ?_⟩
    · simp only [Instr.mapEntry, Sem.run_bind, run_underlying hu, Result.andThen_ok, gO_map hb, hk.check, h5, hz.run, sO_map _ hb, Sem.run_pure, mget, hf, Option.getD_none]
    · refine ⟨b, _, _, m.length, rfl, rfl, ?_, ?_, ?_⟩
      · rw [hset, mget, hf]; exact MO.push he hborn hn hp hno
      · rw [hset]
        simp only [List.map_append, List.map_cons, List.map_nil, List.findIdx?_append, hi, List.findIdx?_cons, hk.self]
        simp
      · simp [← hl]

theorem o_ment (hk : KeyT P kt ck ke) (hu : P.underlying t = some (.map kt et)) (hz : ZeroT P et (cv z)) (hx : ev env x = some v) (hy : ev env y = some (ck k)) (hJ : MJ ck cv ke B v m) :
    OT P w0 env (B ++ R) ⟨d, .mapEntry t x y, ty, pos, af, g⟩ (fun v' H' => ∃ B' s, H' = B' ++ R ∧ Cov w0 B B' ∧ MK ck cv ke B' v (mset ke m k (mget ke m k z)) k s ∧ v' = .tuple #[cv (mget ke m k z), .int .i64 s]) :=
  OT.val fun a w ha hs => by
    obtain ⟨b, o, rfl, rfl, hM⟩ := hJ
    obtain ⟨o', s, hr, hM'⟩ := run_ment (z := z) (k := k) hk hu hz (hs.own b o (by simp)) hM
    exact ⟨_, _, _, by simp [execOp, ha.ev hx, ha.ev hy, hr, goInt], hs.map, [(b, o')], s, rfl, Cov.cons (Cov.refl _), hM', rfl⟩

theorem o_est (hx : ev env x = some v) (hy : ev env y = some (.int .i64 (s : Int))) (hz : ev env u = some (cv e)) (hJ : MK ck cv ke B v m k s) :
    OT P w0 env (B ++ R) ⟨d, .entryStore t x y u, ty, pos, af, g⟩ (fun _ H' => ∃ B', H' = B' ++ R ∧ Cov w0 B B' ∧ MJ ck cv ke B' v (mset ke m k e)) :=
  OT.skip fun a w ha hs => by
    obtain ⟨b, es, clock, i, rfl, rfl, hM, hi, hbs⟩ := hJ
    have hb := hs.own b _ (List.mem_append_left _ (List.mem_singleton.2 rfl))
    obtain ⟨es', clock', ho, he, hborn, hn, hp⟩ := hM
    cases ho
    obtain ⟨h1, hke, hf, hset, _⟩ := find_some hi
    have hl : es.size = m.length := by simpa using congrArg List.length he
    have h2 : i < es.size := by omega
    have hbi : es[i].born = s := by simpa [h2] using hbs
    have hfi : es.findIdx? (fun e => (e.born : Int) == (s : Int)) = some i := by
      rw [Array.findIdx?_eq_some_iff_getElem]
      refine ⟨h2, by simp [hbi], fun j hj => ?_⟩
      have : es[j].born ≠ s := by
        intro h
        rw [← hbi] at h
        have hp' := List.pairwise_iff_getElem.1 hn j i (by simp; omega) (by simpa using h2) hj
        exact hp' (by simpa using h)
      simp only [beq_eq_false_iff_ne, ne_eq, Bool.not_eq_true]
      omega
    have hkey := congrArg (fun l => l[i]?) he
    simp only [List.getElem?_map, Array.getElem?_toList, Array.getElem?_eq_getElem h2, List.getElem?_eq_getElem h1, Option.map_some, Option.some.injEq, Prod.mk.injEq] at hkey
    refine ⟨_, _, ?_, hs.map (o' := .map (es.modify i fun q => { q with val := cv e }) clock), [(b, _)], rfl, Cov.cons (Cov.refl _), b, _, rfl, rfl, ?_⟩
    · simp [execOp, ha.ev hx, ha.ev hy, ha.ev hz, Instr.entryStore, gO_map hb, asInt, asIntOf, hfi, sO_map _ hb]
    · rw [hset]
      exact MO.upd he hborn hn hp h1 (fun _ => rfl) h2 hkey.1 rfl
theorem mset_mset {e' : α} (hs : ke k k = true) : mset ke (mset ke m k e') k e = mset ke m k e := by
  induction m with
  | nil =>
    simp [mset, hs]
  | cons p m ih =>
    simp only [mset]
    split
    · rename_i h; simp [mset, h]
    · rename_i h; simp [mset, h, ih]
end
end Go.E
