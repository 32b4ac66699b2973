/- The engine, part 15: maps. -/
import Derived.Test.YtjmfnohbeoiddaaE14
import Derived.MapKept
namespace Go.E
open Go
set_option linter.unusedSectionVars false
set_option linter.unusedSimpArgs false
set_option linter.unusedVariables false

/-! ### Maps as lists of keys and values -/
section
variable {κ α : Type} (ke : κ → κ → Bool)
def mfind : List (κ × α) → κ → Option α
  | [], _ => none
  | p :: d, k => if ke k p.1 then some p.2 else mfind d k
def mget (d : List (κ × α)) (k : κ) (z : α) : α := (mfind ke d k).getD z
def mhas (d : List (κ × α)) (k : κ) : Bool := (mfind ke d k).isSome
def mset : List (κ × α) → κ → α → List (κ × α)
  | [], k, v => [(k, v)]
  | p :: d, k, v => if ke k p.1 then (p.1, v) :: d else p :: mset d k v
def mdel (d : List (κ × α)) (k : κ) : List (κ × α) := d.filter fun p => !ke k p.1
end
def ieq (a b : Int) : Bool := a == b
abbrev kI : Int → Value := fun x => .int .i64 x
abbrev kA (n : Nat) : (Nat → Int) → Value := fun m => AI n m
abbrev kB : Bool → Value := fun b => .bool b

/-- What the model asks of a map's keys, answered. -/
structure KeyT {κ : Type} (P : Program) (kt : TypeId) (ck : κ → Value) (ke : κ → κ → Bool) : Prop where
  check : ∀ (b : Bool) k w, (Instr.checkKey b 10000 kt (ck k)).run P w = .ok () w
  find : ∀ k (es : List MapEntry) (ks : List κ) w, es.map (·.key) = ks.map ck → (Instr.findKey kt (ck k) es).run P w = .ok ((ks.findIdx? (ke k)).bind fun i => (es[i]?).map fun e => (i, e.val)) w
  stays : ∀ a b w, ke a b = true → (Instr.keyThatStays (ck b) (ck a)).run P w = .ok (ck a) w
  same : ∀ a b, ke a b = true → ck a = ck b
  eqv : ∀ a b c, ke a b = true → ke a c = true → ke c b = true
  self : ∀ a, ke a a = true

/-- A map's block. -/
def MO {κ α : Type} (ck : κ → Value) (cv : α → Value) (ke : κ → κ → Bool) (d : List (κ × α)) (o : Obj) : Prop :=
  ∃ es clock, o = .map es clock ∧ es.toList.map (fun e => (e.key, e.val)) = d.map (fun p => (ck p.1, cv p.2)) ∧ (∀ e ∈ es.toList, e.born < clock) ∧ (es.toList.map (·.born)).Nodup ∧ d.Pairwise fun p q => ke q.1 p.1 = false
/-- A map in a segment. -/
def MJ {κ α : Type} (ck : κ → Value) (cv : α → Value) (ke : κ → κ → Bool) (B : GH) (v : Value) (d : List (κ × α)) : Prop := ∃ b o, B = [(b, o)] ∧ v = .map (some b) ∧ MO ck cv ke d o

section
variable {κ α : Type} {ke : κ → κ → Bool}
theorem find_none {d : List (κ × α)} {k : κ} (h : (d.map (·.1)).findIdx? (ke k) = none) : mfind ke d k = none ∧ (∀ v, mset ke d k v = d ++ [(k, v)]) ∧ mdel ke d k = d ∧ ∀ p ∈ d, ke k p.1 = false := by
  induction d with
  | nil => exact ⟨rfl, fun v => rfl, rfl, by simp⟩
  | cons p d ih =>
    simp only [List.map_cons, List.findIdx?_cons] at h
    split at h
    · cases h
    · rename_i hk
      have hk' : ke k p.1 = false := by simpa using hk
      obtain ⟨h1, h2, h3, h4⟩ := ih (by simpa using h)
      refine ⟨by simp [mfind, hk', h1], fun v => by simp [mset, hk', h2 v], ?_, ?_⟩
      · unfold mdel at h3 ⊢
        rw [List.filter_cons, hk', h3]; rfl
      · intro q hq
        rcases List.mem_cons.1 hq with rfl | hq
        · exact hk'
        · exact h4 q hq
theorem find_some {d : List (κ × α)} {k : κ} {i : Nat} (h : (d.map (·.1)).findIdx? (ke k) = some i) : ∃ hi : i < d.length, ke k d[i].1 = true ∧ mfind ke d k = some d[i].2 ∧ (∀ v, mset ke d k v = d.set i (d[i].1, v)) ∧
    ((∀ p q : κ × α, ke k p.1 = true → ke q.1 p.1 = false → ke k q.1 = false) → d.Pairwise (fun p q => ke q.1 p.1 = false) → mdel ke d k = d.eraseIdx i) := by
  induction d generalizing i with
  | nil => simp at h
  | cons p d ih =>
    simp only [List.map_cons, List.findIdx?_cons] at h
    split at h
    · rename_i hk
      cases h
      refine ⟨by simp, hk, by simp [mfind, hk], fun v => by simp [mset, hk], fun he hp => ?_⟩
      simp only [List.eraseIdx_zero, List.tail_cons, mdel]
      rw [List.filter_cons, hk]
      simp only [Bool.not_true, Bool.false_eq_true, if_false]
      rw [List.filter_eq_self]
      intro q hq
      have := he p q hk ((List.pairwise_cons.1 hp).1 q hq)
      simp [this]
    · rename_i hk
      have hk' : ke k p.1 = false := by simpa using hk
      obtain ⟨j, hj, rfl⟩ := Option.map_eq_some_iff.1 h
      obtain ⟨h1, h2, h3, h4, h5⟩ := ih hj
      refine ⟨by simp; omega, by simpa using h2, by simp [mfind, hk', h3], fun v => by simp [mset, hk', h4 v], fun he hp => ?_⟩
      have := h5 he (List.pairwise_cons.1 hp).2
      unfold mdel at this ⊢
      rw [List.filter_cons, hk', this]; rfl
end

section
variable {κ α : Type} {P : Program} {kt et : TypeId} {ck : κ → Value} {cv : α → Value} {ke : κ → κ → Bool}

/-- The search in a map's block. -/
theorem KeyT.look (hk : KeyT P kt ck ke) {d : List (κ × α)} {es : Array MapEntry} (he : es.toList.map (fun e => (e.key, e.val)) = d.map (fun p => (ck p.1, cv p.2))) (k : κ) (w : World) :
    (∃ i, (d.map (·.1)).findIdx? (ke k) = some i ∧ ∃ (hi : i < d.length) (hj : i < es.size), es[i].key = ck d[i].1 ∧ es[i].val = cv d[i].2 ∧ (Instr.findKey kt (ck k) es.toList).run P w = .ok (some (i, es[i].val)) w) ∨
    ((d.map (·.1)).findIdx? (ke k) = none ∧ (Instr.findKey kt (ck k) es.toList).run P w = .ok none w) := by
  have hkeys : es.toList.map (·.key) = (d.map (·.1)).map ck := by
    have := congrArg (List.map Prod.fst) he
    simpa [List.map_map, Function.comp_def] using this
  have hl : es.size = d.length := by simpa using congrArg List.length he
  have hf := hk.find k es.toList (d.map (·.1)) w hkeys
  cases hi : (d.map (·.1)).findIdx? (ke k) with
  | none => rw [hi] at hf; exact .inr ⟨rfl, hf⟩
  | some i =>
    obtain ⟨h1, _⟩ := find_some hi
    have h2 : i < es.size := by omega
    have h3 : es.toList[i]? = some es[i] := by simp [h2]
    have h4 := congrArg (fun l => l[i]?) he
    simp only [List.getElem?_map, h3, List.getElem?_eq_getElem h1, Option.map_some, Option.some.injEq, Prod.mk.injEq] at h4
    refine .inl ⟨i, rfl, h1, h2, h4.1, h4.2, ?_⟩
    rw [hf, hi]
    simp [h2]

theorem MO.upd {d : List (κ × α)} {es : Array MapEntry} {clock i : Nat} {f : MapEntry → MapEntry} {v : α} (he : es.toList.map (fun e => (e.key, e.val)) = d.map (fun p => (ck p.1, cv p.2))) (hb : ∀ e ∈ es.toList, e.born < clock) (hn : (es.toList.map (·.born)).Nodup)
    (hp : d.Pairwise fun p q => ke q.1 p.1 = false) (hi : i < d.length) (hf : ∀ e, (f e).born = e.born) (hj : i < es.size) (h1 : (f es[i]).key = ck d[i].1) (h2 : (f es[i]).val = cv v) : MO ck cv ke (d.set i (d[i].1, v)) (.map (es.modify i f) clock) := by
  have hl : es.size = d.length := by simpa using congrArg List.length he
  have hborn : (es.modify i f).toList.map (·.born) = es.toList.map (·.born) := by
    apply List.ext_getElem (by simp)
    intro n h3 h4
    simp only [Array.toList_modify, List.getElem_map, List.getElem_modify]
    split
    · rw [hf]
    · rfl
  refine ⟨_, _, rfl, ?_, ?_, by rw [hborn]; exact hn, ?_⟩
  · apply List.ext_getElem (by simp [hl])
    intro n h3 h4
    have hn1 : n < es.size := by simpa using h3
    have hn2 : n < d.length := by omega
    simp only [Array.toList_modify, List.getElem_map, List.getElem_modify, List.getElem_set, Array.getElem_toList]
    by_cases hin : i = n
    · subst hin
      simp only [if_pos]
      rw [h1, h2]
    · rw [if_neg hin, if_neg hin]
      have := congrArg (fun l => l[n]?) he
      simp only [List.getElem?_map, Array.getElem?_toList, Array.getElem?_eq_getElem hn1, List.getElem?_eq_getElem hn2, Option.map_some, Option.some.injEq] at this
      exact this
  · intro e hm
    have : e.born ∈ (es.modify i f).toList.map (·.born) := List.mem_map_of_mem hm
    rw [hborn] at this
    obtain ⟨e', h3, h4⟩ := List.mem_map.1 this
    rw [← h4]; exact hb e' h3
  · rw [List.pairwise_iff_getElem] at hp ⊢
    intro a b ha hb' hab
    simp only [List.length_set] at ha hb'
    have := hp a b ha hb' hab
    simp only [List.getElem_set]
    by_cases h3 : i = a <;> by_cases h4 : i = b <;> simp only [h3, h4, if_true, if_false] <;> first | (subst h3; subst h4; omega) | (subst h3; simp [h4]; exact this) | (subst h4; simp [h3]; exact this) | (simp [h3, h4]; exact this) | skip
    all_goals (try (subst h3)); (try (subst h4)); simp_all
theorem MO.push {d : List (κ × α)} {es : Array MapEntry} {clock : Nat} {k : κ} {v : α} (he : es.toList.map (fun e => (e.key, e.val)) = d.map (fun p => (ck p.1, cv p.2))) (hb : ∀ e ∈ es.toList, e.born < clock) (hn : (es.toList.map (·.born)).Nodup)
    (hp : d.Pairwise fun p q => ke q.1 p.1 = false) (hk : ∀ p ∈ d, ke k p.1 = false) : MO ck cv ke (d ++ [(k, v)]) (.map (es.push { key := ck k, val := cv v, born := clock }) (clock + 1)) := by
  refine ⟨_, _, rfl, by simp [he], ?_, ?_, ?_⟩
  · intro e hm
    simp only [Array.toList_push, List.mem_append, List.mem_singleton] at hm
    rcases hm with hm | rfl
    · have := hb e hm; omega
    · exact Nat.lt_succ_self _
  · simp only [Array.toList_push, List.map_append, List.map_cons, List.map_nil]
    rw [List.nodup_append]
    refine ⟨hn, by simp, fun a ha b hb' => ?_⟩
    obtain ⟨e, h1, rfl⟩ := List.mem_map.1 ha
    simp only [List.mem_singleton] at hb'
    have := hb e h1
    omega
  · rw [List.pairwise_append]
    refine ⟨hp, by simp, fun p hp' q hq => ?_⟩
    simp only [List.mem_singleton] at hq
    subst hq
    exact hk p hp'
theorem erase_map {α β : Type} (f : α → β) : ∀ (l : List α) (i : Nat), (l.eraseIdx i).map f = (l.map f).eraseIdx i
  | [], _ => rfl
  | _ :: _, 0 => rfl
  | a :: l, i + 1 => by simp [List.eraseIdx_cons_succ, erase_map f l i]
theorem MO.erase {d : List (κ × α)} {es : Array MapEntry} {clock i : Nat} (he : es.toList.map (fun e => (e.key, e.val)) = d.map (fun p => (ck p.1, cv p.2))) (hb : ∀ e ∈ es.toList, e.born < clock) (hn : (es.toList.map (·.born)).Nodup)
    (hp : d.Pairwise fun p q => ke q.1 p.1 = false) : MO ck cv ke (d.eraseIdx i) (.map (es.eraseIdxIfInBounds i) clock) := by
  have e1 : (es.eraseIdxIfInBounds i).toList = es.toList.eraseIdx i := by simp
  refine ⟨_, _, rfl, ?_, ?_, ?_, ?_⟩
  · rw [e1, erase_map, he, erase_map]
  · intro e hm
    rw [e1] at hm
    exact hb e (List.mem_of_mem_eraseIdx hm)
  · rw [e1, erase_map]
    exact hn.sublist (List.eraseIdx_sublist _ _)
  · exact hp.sublist (List.eraseIdx_sublist _ _)
end

section
variable {κ α : Type} {P : Program} {n : Nat} {w0 : World} {env : Env} {H R B : GH} {Q : Exit → Act → World → Prop} {ops : Array Oper} {rest : List Oper}
variable {d : Option Nat} {op : Op} {ty : TypeId} {pos : String} {af : Array Edge} {g : Option (Nat × Bool)}
variable {t kt et : TypeId} {x y u : Operand} {v : Value} {ck : κ → Value} {cv : α → Value} {ke : κ → κ → Bool} {m : List (κ × α)} {k : κ} {z e : α}

theorem gO_map {w : World} {b : Nat} {es : Array MapEntry} {clock : Nat} (hb : w.heap[b]? = some (.map es clock)) : (getObj b).run P w = .ok (.map es clock) w := by
  simp [getObj, Sem.run, hb]
theorem sO_map {w : World} {b : Nat} {es : Array MapEntry} {clock : Nat} (o' : Obj) (hb : w.heap[b]? = some (.map es clock)) : (setObj b o').run P w = .ok () { w with heap := w.heap.setIfInBounds b o' } := by
  simp [setObj, Sem.run, hb]
theorem MJ.val (h : MJ ck cv ke B v m) : ∃ b, v = .map (some b) := let ⟨b, _, _, h, _⟩ := h; ⟨b, h⟩
theorem MJ.one (h : MJ ck cv ke B v m) : v.oneCell' = true := by obtain ⟨b, rfl⟩ := h.val; rfl

theorem o_mkmap (_hk : KeyT P kt ck ke) (_hu : P.underlying t = some (.map kt et)) :
    OT P w0 env H ⟨d, .makeMap t none, ty, pos, af, g⟩ (fun v' H' => ∃ B', H' = B' ++ H ∧ Cov w0 [] B' ∧ MJ ck cv ke B' v' ([] : List (κ × α))) :=
  OT.val fun a w ha hs => by
    refine ⟨.map (some w.heap.size), w.alloc (.map #[] 0), (w.heap.size, .map #[] 0) :: H, by simp [execOp, Instr.makeMap, newObj, Sem.run], hs.alloc _, [(w.heap.size, .map #[] 0)], rfl, Cov.new hs.size, ?_⟩
    exact ⟨_, _, rfl, rfl, #[], 0, rfl, rfl, by simp, by simp, List.Pairwise.nil⟩

theorem run_look (hk : KeyT P kt ck ke) (hu : P.underlying t = some (.map kt et)) (hz : ZeroT P et (cv z)) {b : Nat} {es : Array MapEntry} {clock : Nat} {w : World} (hb : w.heap[b]? = some (.map es clock))
    (he : es.toList.map (fun e => (e.key, e.val)) = m.map (fun p => (ck p.1, cv p.2))) (ok : Bool) :
    (Instr.lookup t (.map (some b)) (ck k) ok).run P w = .ok (if ok then .tuple #[cv (mget ke m k z), .bool (mhas ke m k)] else cv (mget ke m k z)) w := by
  simp only [Instr.lookup, Sem.run_bind, run_underlying hu, Result.andThen_ok, gO_map hb, hk.check]
  rcases hk.look he k w with ⟨i, hi, h1, h2, h3, h4, h5⟩ | ⟨hi, h5⟩
  · obtain ⟨_, _, hf, _⟩ := find_some hi
    simp only [h5, Sem.run_bind, Result.andThen_ok, Sem.run_pure, mget, mhas, hf, Option.getD_some, Option.isSome_some, h4]
  · obtain ⟨hf, _⟩ := find_none hi
    simp only [h5, Sem.run_bind, Result.andThen_ok, Sem.run_pure, mget, mhas, hf, Option.getD_none, Option.isSome_none, hz.run]

theorem o_lk (hk : KeyT P kt ck ke) (hu : P.underlying t = some (.map kt et)) (hz : ZeroT P et (cv z)) (hx : ev env x = some v) (hy : ev env y = some (ck k)) (hJ : MJ ck cv ke B v m) (hB : ∀ q ∈ B, q ∈ H) :
    OT P w0 env H ⟨d, .lookup t x y false, ty, pos, af, g⟩ (Is (cv (mget ke m k z)) H) :=
  OT.val fun a w ha hs => by
    obtain ⟨b, o, rfl, rfl, es, clock, rfl, he, _⟩ := hJ
    have hb := hs.own b _ (hB _ (List.mem_singleton.2 rfl))
    exact ⟨_, w, H, by simp [execOp, ha.ev hx, ha.ev hy, run_look hk hu hz hb he], hs, rfl, rfl⟩
theorem o_lkok (hk : KeyT P kt ck ke) (hu : P.underlying t = some (.map kt et)) (hz : ZeroT P et (cv z)) (hx : ev env x = some v) (hy : ev env y = some (ck k)) (hJ : MJ ck cv ke B v m) (hB : ∀ q ∈ B, q ∈ H) :
    OT P w0 env H ⟨d, .lookup t x y true, ty, pos, af, g⟩ (Is (.tuple #[cv (mget ke m k z), .bool (mhas ke m k)]) H) :=
  OT.val fun a w ha hs => by
    obtain ⟨b, o, rfl, rfl, es, clock, rfl, he, _⟩ := hJ
    have hb := hs.own b _ (hB _ (List.mem_singleton.2 rfl))
    exact ⟨_, w, H, by simp [execOp, ha.ev hx, ha.ev hy, run_look hk hu hz hb he], hs, rfl, rfl⟩

/-- The block of a map changes. -/
theorem St.map {w : World} {b : Nat} {o o' : Obj} (hs : St w0 ([(b, o)] ++ R) w) : St w0 ([(b, o')] ++ R) { w with heap := w.heap.setIfInBounds b o' } := by
  have hb := hs.own b o (by simp)
  have hlt : b < w.heap.size := (Array.getElem?_eq_some_iff.1 hb).1
  exact hs.upd (.here b o o' R) (by simp [hlt]) (fun k hk => by simp [Ne.symm hk]) rfl rfl rfl (by simp)

theorem run_mset (hk : KeyT P kt ck ke) (hu : P.underlying t = some (.map kt et)) {b : Nat} {o : Obj} {w : World} (hb : w.heap[b]? = some o) (hM : MO ck cv ke m o) :
    ∃ o', (Instr.mapUpdate t (.map (some b)) (ck k) (cv e)).run P w = .ok () { w with heap := w.heap.setIfInBounds b o' } ∧ MO ck cv ke (mset ke m k e) o' := by
  obtain ⟨es, clock, rfl, he, hborn, hn, hp⟩ := hM
  rcases hk.look he k w with ⟨i, hi, h1, h2, h3, h4, h5⟩ | ⟨hi, h5⟩
  · obtain ⟨_, hke, hf, hset, _⟩ := find_some hi
    refine ⟨.map (es.modify i fun q => { q with key := ck k, val := cv e }) clock, ?_, ?_⟩
    · have hst := hk.stays k m[i].1 w hke
      rw [← h3] at hst
      simp only [Instr.mapUpdate, Sem.run_bind, run_underlying hu, Result.andThen_ok, gO_map hb, hk.check, h5]
      simp only [Array.getElem?_eq_getElem h2, Option.map_some, Option.getD_some, hst, Result.andThen_ok, sO_map _ hb]
    · rw [hset]
      exact MO.upd he hborn hn hp h1 (fun _ => rfl) h2 (hk.same _ _ hke) rfl
  · obtain ⟨hf, hset, _, hno⟩ := find_none hi
    refine ⟨_, ?_, by rw [hset]; exact MO.push he hborn hn hp hno⟩
    simp only [Instr.mapUpdate, Sem.run_bind, run_underlying hu, Result.andThen_ok, gO_map hb, hk.check, h5, sO_map _ hb]

theorem o_mlen {ts : Array TypeId} {args : Array Operand} (hu : P.underlying t = some (.map kt et)) (hts : ts = #[t]) (hargs : evL env args.toList = some [v]) (hJ : MJ ck cv ke B v m) (hB : ∀ q ∈ B, q ∈ H) :
    OT P w0 env H ⟨d, .call ⟨.builtin .len, args, ts⟩, ty, pos, af, g⟩ (Is (.int .i64 (m.length : Int)) H) :=
  OT.val fun a w ha hs => by
    subst hts
    have e1 : args.map a.eval = #[v] := Array.toList_inj.1 (by simpa using evL_spec ha _ _ hargs)
    obtain ⟨b, o, rfl, rfl, es, clock, rfl, he, _⟩ := hJ
    have hb := hs.own b _ (hB _ (List.mem_singleton.2 rfl))
    have hl : es.size = m.length := by simpa using congrArg List.length he
    refine ⟨_, w, H, ?_, hs, rfl, rfl⟩
    simp [execOp, resolve, invoke, builtin, e1, Builtin.len_, run_underlying hu, gO_map hb, hl, goInt, Builtin.lenOf]

theorem o_mset (hk : KeyT P kt ck ke) (hu : P.underlying t = some (.map kt et)) (hx : ev env x = some v) (hy : ev env y = some (ck k)) (hz : ev env u = some (cv e)) (hJ : MJ ck cv ke B v m) :
    OT P w0 env (B ++ R) ⟨d, .mapUpdate t x y u, ty, pos, af, g⟩ (fun _ H' => ∃ B', H' = B' ++ R ∧ Cov w0 B B' ∧ MJ ck cv ke B' v (mset ke m k e)) :=
  OT.skip fun a w ha hs => by
    obtain ⟨b, o, rfl, rfl, hM⟩ := hJ
    obtain ⟨o', hr, hM'⟩ := run_mset (e := e) (k := k) hk hu (hs.own b o (by simp)) hM
    exact ⟨_, _, by simp [execOp, ha.ev hx, ha.ev hy, ha.ev hz, hr], hs.map, [(b, o')], rfl, Cov.cons (Cov.refl _), b, o', rfl, rfl, hM'⟩
theorem o_minsert (hk : KeyT P kt ck ke) (hu : P.underlying t = some (.map kt et)) (hx : ev env x = some v) (hy : ev env y = some (ck k)) (hz : ev env u = some (cv e)) (hJ : MJ ck cv ke B v m) :
    OT P w0 env (B ++ R) ⟨d, .insert t x y u, ty, pos, af, g⟩ (fun _ H' => ∃ B', H' = B' ++ R ∧ Cov w0 B B' ∧ MJ ck cv ke B' v (mset ke m k e)) :=
  OT.skip fun a w ha hs => by
    obtain ⟨b, o, rfl, rfl, hM⟩ := hJ
    obtain ⟨o', hr, hM'⟩ := run_mset (e := e) (k := k) hk hu (hs.own b o (by simp)) hM
    exact ⟨_, _, by simp [execOp, ha.ev hx, ha.ev hy, ha.ev hz, hr], hs.map, [(b, o')], rfl, Cov.cons (Cov.refl _), b, o', rfl, rfl, hM'⟩

theorem run_mdel (hk : KeyT P kt ck ke) (hu : P.underlying t = some (.map kt et)) {b : Nat} {o : Obj} {w : World} (hb : w.heap[b]? = some o) (hM : MO ck cv ke m o) (yt rt : TypeId) :
    ∃ o', (Builtin.delete_ #[t, yt] rt #[.map (some b), ck k]).run P w = .ok (.tuple #[]) { w with heap := w.heap.setIfInBounds b o' } ∧ MO ck cv ke (mdel ke m k) o' := by
  obtain ⟨es, clock, rfl, he, hborn, hn, hp⟩ := hM
  rcases hk.look he k w with ⟨i, hi, h1, h2, h3, h4, h5⟩ | ⟨hi, h5⟩
  · obtain ⟨_, hke, hf, _, hdel⟩ := find_some hi
    have hq : ∀ p q : κ × α, ke k p.1 = true → ke q.1 p.1 = false → ke k q.1 = false := fun p q hpk hqp => by
      cases hkq : ke k q.1 with
      | false => rfl
      | true =>
        have := hk.eqv k p.1 q.1 hpk hkq
        rw [hqp] at this; cases this
    refine ⟨.map (es.eraseIdxIfInBounds i) clock, ?_, ?_⟩
    · simp [Builtin.delete_, run_underlying hu, gO_map hb, hk.check, h5, sO_map _ hb]
    · rw [hdel hq hp]
      exact MO.erase he hborn hn hp
  · obtain ⟨hf, _, hdel, hno⟩ := find_none hi
    refine ⟨.map es clock, ?_, by rw [hdel]; exact ⟨es, clock, rfl, he, hborn, hn, hp⟩⟩
    simp [Builtin.delete_, run_underlying hu, gO_map hb, hk.check, h5, sO_map _ hb]

theorem o_mdel {ts : Array TypeId} {args : Array Operand} {yt : TypeId} (hk : KeyT P kt ck ke) (hu : P.underlying t = some (.map kt et)) (hts : ts = #[t, yt]) (hargs : evL env args.toList = some [v, ck k]) (hJ : MJ ck cv ke B v m) :
    OT P w0 env (B ++ R) ⟨d, .call ⟨.builtin .delete, args, ts⟩, ty, pos, af, g⟩ (fun v' H' => ∃ B', H' = B' ++ R ∧ Cov w0 B B' ∧ MJ ck cv ke B' v (mdel ke m k) ∧ v' = .tuple #[]) :=
  OT.val fun a w ha hs => by
    subst hts
    have e1 : args.map a.eval = #[v, ck k] := Array.toList_inj.1 (by simpa using evL_spec ha _ _ hargs)
    obtain ⟨b, o, rfl, rfl, hM⟩ := hJ
    obtain ⟨o', hr, hM'⟩ := run_mdel (k := k) hk hu (hs.own b o (by simp)) hM yt ty
    exact ⟨_, _, _, by simp [execOp, resolve, invoke, builtin, e1, hr], hs.map, [(b, o')], rfl, Cov.cons (Cov.refl _), ⟨b, o', rfl, rfl, hM'⟩, rfl⟩
/-- The segment that changed is put back where it stood. -/
theorem OT.push {Φ : Value → GH → Prop} {o : Oper} (F : GH → GH) (hF : ∀ C, Pull (F C) C R) (h : OT P w0 env H o (fun v H' => ∃ C, H' = C ++ R ∧ Φ v C)) : OT P w0 env H o (fun v H' => ∃ C, H' = F C ∧ Φ v C) := by
  intro a w ha hs
  refine wp_mono2 ?_ (fun _ _ _ h => h.elim) (h a w ha hs)
  rintro a' w' ⟨v, H', rfl, hst, C, rfl, hC⟩
  exact ⟨v, F C, rfl, (hF C).push hst, C, rfl, hC⟩
end
section
variable {P : Program} {n : Nat} {w0 : World} {ops : Array Oper} {KS : List Nat} {env0 env : Env} {dn : List Nat} {H RS A B : GH} {Q : Exit → Act → World → Prop}
theorem rsN : ∀ x ∈ ([] : GH), x ∈ H := fun _ h => absurd h List.not_mem_nil
theorem rsC {y : Nat × Obj} (h : y ∈ H) (k : ∀ x ∈ A, x ∈ H) : ∀ x ∈ y :: A, x ∈ H := fun x hx => (List.mem_cons.1 hx).elim (fun e => e ▸ h) (k x)
theorem rsA (h : ∀ x ∈ A, x ∈ H) (k : ∀ x ∈ B, x ∈ H) : ∀ x ∈ A ++ B, x ∈ H := fun x hx => (List.mem_append.1 hx).elim (h x) (k x)
/-- One that only reads, and rests on the blocks of rs alone. -/
theorem xd_b (hok : RegOK n ops = true) (i : Nat) {o : Oper} {d : Nat} {v : Value} (l : Env) (rs : GH) (hR : ∀ x ∈ rs, x ∈ H) (ho : ops[i]? = some o) (hd : o.dst = some d) (hn : dn.contains i = false) (hl : Live env l) (hs : slotsOK ops dn i (l.map (·.1)) = true) (hw : Wt ops l o.guard)
    (ht : ∀ H', (∀ x ∈ rs, x ∈ H') → (∀ k ∈ keys H', k ∈ KS ∨ w0.heap.size ≤ k) → OT P w0 l H' o (Is v H')) (k : XD P n w0 ops KS env0 (i :: dn) ((d, v) :: env) H (rs ++ RS) Q) : XD P n w0 ops KS env0 dn env H RS Q :=
  xd_take hok i l rs ho hd hn hl hs hR (fun H' h h2 => .inl ⟨hw, ht H' h h2⟩) k
end
section
variable {P : Program} {w0 : World} {env : Env} {H : GH} {d : Option Nat} {ty t : TypeId} {pos : String} {af : Array Edge} {g : Option (Nat × Bool)} {N s : Nat}
/-- An array written as a literal. -/
theorem o_bldP {e : TypeId} {ag : Bool} {len : Nat} {ps : Array (Nat × Operand)} {f0 f : Nat → Value} (he : ElmA P t len e s ag) (hz : ZeroT P t (AG N f0)) (hf : FillS P s N env ps.toList f0 f) : OT P w0 env H ⟨d, .build t ps, ty, pos, af, g⟩ (Is (AG N f) H) :=
  OT.pure fun a w ha => by
    have hfill := hf.run ha
    have hm : (ps.map fun (p : Nat × Operand) => (p.1, a.eval p.2)).toList = ps.toList.map fun p => (p.1, a.eval p.2) := by simp
    simp only [execOp, Instr.build, Sem.run_bind, hz.run, Result.andThen_ok, run_underlying he.1, he.2.sizeOf, AG_cells, hm, hfill, Sem.run_pure]
    rfl
end
end Go.E
