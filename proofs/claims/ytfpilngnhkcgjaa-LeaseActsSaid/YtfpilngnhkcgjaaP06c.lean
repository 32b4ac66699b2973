/- Leases: what is asked of them. -/
import Derived.Test.YtfpilngnhkcgjaaC06S
namespace Go.E
open Go
set_option linter.unusedVariables false
set_option maxRecDepth 100000

theorem ltime_iff {n : Int} : ltime_F n = true ↔ 0 ≤ n ∧ n ≤ 1099511627776 := by unfold ltime_F; simp

/-! ### No leases -/
theorem none6_all (id now : Int) : none6_S id now true := by
  unfold none6_S
  refine ⟨alive06_p, ?_⟩
  rw [if_pos alive06_t, if_pos (by decide)]

/-! ### One lease -/
theorem span6_all (span at_ by_ id : Int) (h0 : 0 ≤ span ∧ span ≤ 65535) (h1 : 0 ≤ at_ ∧ at_ ≤ 4294967295) (h2 : 0 ≤ by_ ∧ by_ ≤ 4294967295) (h3 : 0 ≤ id ∧ id ≤ 4294967295) : span6_S span at_ by_ id true := by
  have w0 : IntKind.i64.wrap span = span := wrap_id ⟨by omega, by omega⟩
  have w1 : IntKind.i64.wrap at_ = at_ := wrap_id ⟨by omega, by omega⟩
  have w2 : IntKind.i64.wrap by_ = by_ := wrap_id ⟨by omega, by omega⟩
  have w3 : IntKind.i64.wrap id = id := wrap_id ⟨by omega, by omega⟩
  have hn : 1 ≤ 1 + span.tmod 1000 ∧ 1 + span.tmod 1000 ≤ 1000 := by
    rw [Int.tmod_eq_emod_of_nonneg h0.1]; omega
  unfold span6_S
  refine ⟨alive06_p, ?_⟩
  rw [if_pos alive06_t, w0, w1, w2, w3]
  generalize 1 + span.tmod 1000 = n at hn ⊢
  have e1 : renew_F n [] (1 + id) at_ = (0, [(1 + id, at_)]) := by
    rw [renew_new n (1 + id) at_ (by omega) (ltime_iff.2 (by omega))]
    by_cases h : 0 < at_
    · rw [if_pos h]
    · rw [if_neg h, show at_ = 0 by omega]
  have e2 : renew_F n [(1 + id, at_)] (1 + id) (at_ + n + by_) = (0, [(1 + id, at_ + n + by_)]) := by
    unfold renew_F
    rw [if_neg (by simp [ltime_iff.2 (show 0 ≤ at_ + n + by_ ∧ at_ + n + by_ ≤ 1099511627776 by omega)]; omega)]
    have hg : mget ieq [(1 + id, at_)] (1 + id) 0 = at_ := by simp [mget, mfind, ieq]
    rw [hg, if_pos (by omega)]
    simp [mset, ieq]
  have e3 : lend_F n [(1 + id, at_ + n + by_)] (1 + id) = (0, []) := by
    unfold lend_F
    rw [if_pos (by simp [mhas, mfind, ieq])]
    simp [mdel, ieq]
  have e4 : lall_F n ([] : List (Int × Int)) = [] := skeys_nil
  have e5 : ∀ x, due_F n [] x = [] := fun x => by unfold due_F; rw [skeys_nil]; rfl
  have p5 : ∀ x, due_P n [] x := fun x => ⟨skeysP_nil, fun p hp => by simp at hp⟩
  have hid : inI64 (1 + id) := ⟨by omega, by omega⟩
  rw [e1]
  simp only
  rw [e2]
  simp only
  rw [e3]
  simp only
  have pd : ∀ v x, 0 ≤ v ∧ v ≤ 1099511627776 → due_P n [(1 + id, v)] x := fun v x hv => due_pre_one hid hv
  have in1 : ∀ x, 0 ≤ x ∧ x ≤ 100000000000 → inI64 x := fun x h => ⟨by omega, by omega⟩
  have d1 : due_F n [(1 + id, at_)] (at_ + n - 1) = [] := by rw [due_one, if_neg (by omega)]
  have d2 : due_F n [(1 + id, at_)] (at_ + n + by_) = [1 + id] := by rw [due_one, if_pos ⟨ltime_iff.2 (by omega), by omega⟩]
  have d3 : due_F n [(1 + id, at_ + n + by_)] (at_ + n + by_) = [] := by rw [due_one, if_neg (by omega)]
  refine ⟨in1 _ (by omega), ?_⟩
  rw [if_neg (by simp; omega)]
  refine ⟨hid, ?_⟩
  rw [if_pos trivial]
  refine ⟨in1 _ (by omega), in1 _ (by omega), pd _ _ (by omega), ?_⟩
  rw [d1, if_pos (by simp)]
  refine ⟨in1 _ (by omega), in1 _ (by omega), pd _ _ (by omega), ?_⟩
  rw [d2]
  refine ⟨by unfold ints_P; simp, ?_⟩
  rw [if_pos (ints_self _)]
  refine ⟨in1 _ (by omega), in1 _ (by omega), ?_⟩
  rw [if_pos trivial]
  refine ⟨in1 _ (by omega), in1 _ (by omega), pd _ _ (by omega), ?_⟩
  rw [d3, if_pos (by simp), if_pos trivial]
  refine ⟨⟨skeysP_nil, trivial⟩, ?_⟩
  rw [e4, if_pos (by simp)]
  refine ⟨in1 _ (by omega), in1 _ (by omega), p5 _, ?_⟩
  rw [e5]
  simp

/-! ### In whatever order -/
def latest (l : List Int) : Int := l.foldl (fun a b => if a < b then b else a) 0
theorem latest_snoc (l : List Int) (x : Int) : latest (l ++ [x]) = if latest l < x then x else latest l := by
  unfold latest
  rw [List.foldl_append]
  rfl
theorem latest_spec (l : List Int) : 0 ≤ latest l ∧ (∀ x ∈ l, x ≤ latest l) ∧ (latest l = 0 ∨ latest l ∈ l) := by
  suffices h : ∀ r : List Int, 0 ≤ latest r.reverse ∧ (∀ x ∈ r.reverse, x ≤ latest r.reverse) ∧ (latest r.reverse = 0 ∨ latest r.reverse ∈ r.reverse) by
    have := h l.reverse
    rwa [List.reverse_reverse] at this
  intro r
  induction r with
  | nil => simp [latest]
  | cons x r ih =>
    obtain ⟨h0, h1, h2⟩ := ih
    rw [List.reverse_cons, latest_snoc]
    by_cases h : latest r.reverse < x
    · rw [if_pos h]
      refine ⟨by omega, fun y hy => ?_, .inr (by simp)⟩
      rcases List.mem_append.1 hy with hy | hy
      · have := h1 y hy; omega
      · rw [List.mem_singleton.1 hy]; exact Int.le_refl _
    · rw [if_neg h]
      refine ⟨h0, fun y hy => ?_, h2.imp id fun h => List.mem_append_left _ h⟩
      rcases List.mem_append.1 hy with hy | hy
      · exact h1 y hy
      · rw [List.mem_singleton.1 hy]; omega
theorem latest_congr {l l' : List Int} (h : ∀ x, x ∈ l ↔ x ∈ l') : latest l = latest l' := by
  have key : ∀ {l l' : List Int}, (∀ x, x ∈ l → x ∈ l') → latest l ≤ latest l' := by
    intro l l' h
    obtain ⟨_, _, h2⟩ := latest_spec l
    obtain ⟨g0, g1, _⟩ := latest_spec l'
    rcases h2 with h2 | h2
    · omega
    · exact g1 _ (h _ h2)
  exact Int.le_antisymm (key fun x => (h x).1) (key fun x => (h x).2)
theorem renew_some {span id now : Int} {d : List (Int × Int)} (h : ¬ id < 1) (ht : ltime_F now = true) : renew_F span d id now = (0, mset ieq d id (if mget ieq d id 0 < now then now else mget ieq d id 0)) := by
  unfold renew_F
  rw [if_neg (by simp [ht]; omega)]

/-- A map of times, as it is kept. -/
structure Kept (lo hi : Int) (n : Nat) (d : List (Int × Int)) : Prop where
  u : Uniq d
  k : ∀ p ∈ d, lo ≤ p.1 ∧ p.1 ≤ hi
  v : ∀ p ∈ d, 0 ≤ p.2 ∧ p.2 ≤ 1099511627776
  n : d.length ≤ n
theorem Kept.nil {lo hi : Int} {n : Nat} : Kept lo hi n [] := ⟨List.nodup_nil, fun p h => by simp at h, fun p h => by simp at h, by simp⟩
theorem Kept.mset {lo hi : Int} {n : Nat} {d : List (Int × Int)} (h : Kept lo hi n d) {k v : Int} (hk : lo ≤ k ∧ k ≤ hi) (hv : 0 ≤ v ∧ v ≤ 1099511627776) : Kept lo hi (n + 1) (mset ieq d k v) :=
  ⟨uniq_mset h.u k v, fun p hp => (mem_mset hp).elim (fun e => by rw [e]; exact hk) (h.k p), fun p hp => (mem_mset hp).elim (fun e => by rw [e]; exact hv) (h.v p), by have := len_mset d k v; have := h.n; omega⟩
theorem Kept.mdel {lo hi : Int} {n : Nat} {d : List (Int × Int)} (h : Kept lo hi n d) (k : Int) : Kept lo hi n (mdel ieq d k) :=
  ⟨uniq_mdel h.u k, fun p hp => h.k p (mem_mdel hp), fun p hp => h.v p (mem_mdel hp), by have := len_mdel d k; have := h.n; omega⟩
theorem Kept.more {lo hi lo' hi' : Int} {n n' : Nat} {d : List (Int × Int)} (h : Kept lo hi n d) (h1 : lo' ≤ lo) (h2 : hi ≤ hi') (h3 : n ≤ n') : Kept lo' hi' n' d :=
  ⟨h.u, fun p hp => by have := h.k p hp; omega, h.v, by have := h.n; omega⟩
theorem Kept.P {lo hi : Int} {n : Nat} {d : List (Int × Int)} (h : Kept lo hi n d) (h1 : -9223372036854775808 ≤ lo) (h2 : hi ≤ 9223372036854775807) (h3 : n ≤ 1000000) (span now : Int) : due_P span d now :=
  ⟨⟨fun p hp => by have := h.k p hp; exact ⟨by omega, by omega⟩, by have := h.n; omega⟩, h.v⟩
theorem Kept.get {lo hi : Int} {n : Nat} {d : List (Int × Int)} (h : Kept lo hi n d) (k : Int) : 0 ≤ mget ieq d k 0 ∧ mget ieq d k 0 ≤ 1099511627776 := mget_rng h.v k
theorem Kept.renew {lo hi : Int} {n : Nat} {d : List (Int × Int)} (h : Kept lo hi n d) {span id now : Int} (h1 : 1 ≤ id) (hk : lo ≤ id ∧ id ≤ hi) (ht : 0 ≤ now ∧ now ≤ 1099511627776) :
    renew_F span d id now = (0, Go.E.mset ieq d id (if mget ieq d id 0 < now then now else mget ieq d id 0)) ∧ Kept lo hi (n + 1) (Go.E.mset ieq d id (if mget ieq d id 0 < now then now else mget ieq d id 0)) := by
  refine ⟨renew_some (by omega) (ltime_iff.2 ht), h.mset hk ?_⟩
  have := h.get id
  split <;> omega

/-- The row of times, turned by some places. -/
def turnedT (times : List Int) (b : Int) (i : Nat) : List Int := (List.range i).map fun j : Nat => times[(((j : Int) + b).tmod (times.length : Int)).toNat]!
theorem turned_mem {times : List Int} {b : Int} (hb : 0 ≤ b) (h : 0 < times.length) (x : Int) : x ∈ times ↔ x ∈ turnedT times b times.length := by
  have hp : (0 : Int) < times.length := by omega
  unfold turnedT
  rw [List.mem_map]
  constructor
  · intro hx
    obtain ⟨m, hm, rfl⟩ := List.getElem_of_mem hx
    have g1 := Int.emod_nonneg ((m : Int) - b) (show (times.length : Int) ≠ 0 by omega)
    have g2 := Int.emod_lt_of_pos ((m : Int) - b) hp
    refine ⟨(((m : Int) - b) % (times.length : Int)).toNat, List.mem_range.2 (by omega), ?_⟩
    rw [Int.toNat_of_nonneg g1, Int.tmod_eq_emod_of_nonneg (by omega), Int.emod_add_emod, show (m : Int) - b + b = m by omega, Int.emod_eq_of_lt (by omega) (by omega), Int.toNat_natCast, getElem!_pos times m hm]
  · rintro ⟨j, hj, rfl⟩
    have g1 := Int.emod_nonneg ((j : Int) + b) (show (times.length : Int) ≠ 0 by omega)
    have g2 := Int.emod_lt_of_pos ((j : Int) + b) hp
    rw [Int.tmod_eq_emod_of_nonneg (by omega)]
    exact mem_at (by omega)
theorem turned_snoc (times : List Int) (b : Int) (i : Nat) : turnedT times b (i + 1) = turnedT times b i ++ [times[(((i : Int) + b).tmod (times.length : Int)).toNat]!] := by
  unfold turnedT
  rw [List.range_succ, List.map_append]; rfl

structure MaxI (times : List Int) (b : Int) (s : Int × List (Int × Int) × List (Int × Int)) : Prop where
  i0 : 0 ≤ s.1
  i1 : s.1 ≤ times.length
  ka : Kept 1 100 (2 * s.1.toNat) s.2.1
  kb : Kept 1 100 (2 * s.1.toNat) s.2.2
  fa : ∀ id, mfind ieq s.2.1 id = if id = 5 ∧ 0 < s.1 then some (latest (times.take s.1.toNat)) else none
  fb : mfind ieq s.2.2 5 = if 0 < s.1 then some (latest (turnedT times b s.1.toNat)) else none

theorem due_five {span now : Int} {d : List (Int × Int)} : (5 ∈ due_F span d now) ↔ mhas ieq d 5 = true ∧ isDue span d now 5 = true := by
  unfold due_F
  rw [List.mem_filter, mem_skeys]
theorem max6_due (span now : Int) (d : List (Int × Int)) (hl : (due_F (1 + (IntKind.i64.wrap span).tmod 1000) d (IntKind.i64.wrap now)).length ≤ 1000000) :
    Wh (fun (s : Bool × Int) (o : (Bool × Int) ⊕ (Bool)) => max6_l2 span now d s.1 s.2 o) ((false, 0) : Bool × Int) (decide (5 ∈ due_F (1 + (IntKind.i64.wrap span).tmod 1000) d (IntKind.i64.wrap now))) := by
  generalize hD : due_F (1 + (IntKind.i64.wrap span).tmod 1000) d (IntKind.i64.wrap now) = D at hl
  have := Wh.upto (f := fun (s : Bool × Int) (o : (Bool × Int) ⊕ (Bool)) => max6_l2 span now d s.1 s.2 o) (fun k : Nat => ((D.take k).any (fun x => decide (x = 5)), (k : Int))) D.length (r := D.any (fun x => decide (x = 5))) (fun k hk => by
      dsimp only
      unfold max6_l2
      rw [hD, if_pos (by omega), Int.toNat_natCast]
      refine ⟨fun _ => ⟨by omega, by omega⟩, ⟨by omega, by omega⟩, ?_⟩
      rw [List.take_add_one, List.getElem?_eq_getElem hk, List.any_append, getElem!_pos D k hk]
      simp) (by
      dsimp only
      unfold max6_l2
      rw [hD, if_neg (by omega), take_len])
  have e : D.any (fun x => decide (x = 5)) = decide (5 ∈ D) := by
    rw [Bool.eq_iff_iff, List.any_eq_true, decide_eq_true_eq]
    constructor
    · rintro ⟨x, hx, h⟩
      rw [decide_eq_true_eq] at h
      rw [← h]; exact hx
    · exact fun h => ⟨5, h, by simp⟩
  rw [e] at this
  simpa using this

theorem max6_all (span : Int) (times : List Int) (b now : Int) (h0 : 0 ≤ span ∧ span ≤ 65535) (ht : ∀ x ∈ times, 0 ≤ x ∧ x ≤ 65535) (hb : 0 ≤ b ∧ b ≤ 255) (hnow : 0 ≤ now ∧ now ≤ 4294967295) : max6_S span times b now true := by
  have w0 : IntKind.i64.wrap span = span := wrap_id ⟨by omega, by omega⟩
  have w1 : IntKind.i64.wrap b = b := wrap_id ⟨by omega, by omega⟩
  have w2 : IntKind.i64.wrap now = now := wrap_id ⟨by omega, by omega⟩
  have hn : 1 ≤ 1 + (IntKind.i64.wrap span).tmod 1000 ∧ 1 + (IntKind.i64.wrap span).tmod 1000 ≤ 1000 := by
    rw [w0, Int.tmod_eq_emod_of_nonneg h0.1]; omega
  unfold max6_S
  refine ⟨alive06_p, ?_⟩
  rw [if_pos alive06_t]
  refine ite_intro (fun _ => rfl) fun hlen => ?_
  refine ⟨⟨by omega, by omega⟩, ?_⟩
  rw [if_neg (by simp; omega)]
  suffices h : ∃ r, Wh (fun (s : Int × (List (Int × Int)) × (List (Int × Int))) (o : (Int × (List (Int × Int)) × (List (Int × Int))) ⊕ (((List (Int × Int)) × (List (Int × Int))) ⊕ ((List (Int × Int)) × (List (Int × Int))))) => max6_l1 span times b s.1 s.2.1 s.2.2 o) (0, [], []) r ∧ ∃ x y, r = .inl (y, x) ∧ MaxI times b ((times.length : Int), x, y) by
    obtain ⟨r, hr, x, y, rfl, hI⟩ := h
    refine ⟨.inl (y, x), hr, ?_⟩
    show max6_k1a span now y x true
    obtain ⟨_, _, ka, kb, fa, fb⟩ := hI
    simp only [Int.toNat_natCast, take_len] at ka kb fa fb
    have pa := ka.P (by omega) (by omega) (by omega)
    have pb := kb.P (by omega) (by omega) (by omega)
    have same : mfind ieq x 5 = mfind ieq y 5 := by
      rw [fa, fb]
      by_cases h : 0 < times.length
      · rw [if_pos ⟨rfl, by omega⟩, if_pos (by omega), latest_congr fun v => (turned_mem hb.1 h v).symm]
      · rw [if_neg (by omega), if_neg (by omega)]
    have hsince : ∀ s, since_F s x 5 = since_F s y 5 := fun s => by
      unfold since_F mhas mget
      rw [same]
    unfold max6_k1a
    refine ⟨pb _ _, _, max6_due span now y ?_, ?_⟩
    · refine Nat.le_trans (List.length_filter_le _ _) ?_
      rw [len_skeys]
      have := kb.n
      omega
    unfold max6_k2a
    rw [hsince, if_pos rfl, if_pos rfl]
    refine ⟨pa _ _, ?_⟩
    generalize 1 + (IntKind.i64.wrap span).tmod 1000 = n
    have e1 : (0 < ((due_F n x (IntKind.i64.wrap now)).length : Int)) ↔ 5 ∈ due_F n y (IntKind.i64.wrap now) := by
      rw [due_five]
      have e2 : isDue n y (IntKind.i64.wrap now) 5 = isDue n x (IntKind.i64.wrap now) 5 := by
        unfold isDue mget
        rw [same]
      have e3 : mhas ieq y 5 = mhas ieq x 5 := by unfold mhas; rw [same]
      rw [e2, e3, ← due_five]
      constructor
      · intro h
        obtain ⟨z, hz⟩ := List.exists_mem_of_length_pos (show 0 < (due_F n x (IntKind.i64.wrap now)).length by omega)
        have hz' := hz
        unfold due_F at hz'
        rw [List.mem_filter, mem_skeys] at hz'
        have := hz'.1
        rw [mhas_mfind, fa] at this
        by_cases h5 : z = 5
        · rw [← h5]; exact hz
        · rw [if_neg (fun h => h5 h.1)] at this; simp at this
      · intro h
        have := List.length_pos_of_mem h
        omega
    rw [Bool.eq_iff_iff.2 (show (decide (0 < ((due_F n x (IntKind.i64.wrap now)).length : Int)) = true ↔ decide (5 ∈ due_F n y (IntKind.i64.wrap now)) = true) by rw [decide_eq_true_eq, decide_eq_true_eq]; exact e1)]
    simp
  refine Wh.by (MaxI times b) (fun s => ((times.length : Int) - s.1).toNat) (fun (r : ((List (Int × Int)) × (List (Int × Int))) ⊕ ((List (Int × Int)) × (List (Int × Int)))) => ∃ x y, r = .inl (y, x) ∧ MaxI times b ((times.length : Int), x, y)) ⟨by simp, by simp, by simpa using Kept.nil, by simpa using Kept.nil, fun id => by simp [mfind], by simp [mfind]⟩ ?_
  rintro ⟨i, x, y⟩ ⟨i0, i1, ka, kb, fa, fb⟩
  simp only at i0 i1 ka kb fa fb
  by_cases hi : i < times.length
  · have hp : (0 : Int) < times.length := by omega
    have g1 := Int.emod_nonneg (i + b) (show (times.length : Int) ≠ 0 by omega)
    have g2 := Int.emod_lt_of_pos (i + b) hp
    have gm : (i + b).tmod (times.length : Int) = (i + b) % (times.length : Int) := Int.tmod_eq_emod_of_nonneg (by omega)
    have hkm : 0 ≤ (i + b).tmod (times.length : Int) ∧ (i + b).tmod (times.length : Int) < times.length := by rw [gm]; exact ⟨g1, g2⟩
    have t1 := ht _ (at_mem' ⟨i0, hi⟩)
    have t2 := ht _ (at_mem' hkm)
    have v1 : IntKind.i64.wrap (times[i.toNat]!) = times[i.toNat]! := wrap_id ⟨by omega, by omega⟩
    have v2 : IntKind.i64.wrap (times[((i + b).tmod (times.length : Int)).toNat]!) = times[((i + b).tmod (times.length : Int)).toNat]! := wrap_id ⟨by omega, by omega⟩
    have fa5 := fa 5
    generalize hA : times[i.toNat]! = A at t1 v1
    generalize hB : times[((i + b).tmod (times.length : Int)).toNat]! = Bv at t2 v2
    have r1 := ka.renew (span := 1 + (IntKind.i64.wrap span).tmod 1000) (id := 5) (now := A) (by omega) (by omega) (by omega)
    have r2 := kb.renew (span := 1 + (IntKind.i64.wrap span).tmod 1000) (id := 5) (now := Bv) (by omega) (by omega) (by omega)
    have r3 := r2.2.renew (span := 1 + (IntKind.i64.wrap span).tmod 1000) (id := 6 + i) (now := A) (by omega) (by omega) (by omega)
    have hti : times.take (i + 1).toNat = times.take i.toNat ++ [A] := by
      rw [show (i + 1).toNat = i.toNat + 1 by omega, List.take_add_one, List.getElem?_eq_getElem (show i.toNat < times.length by omega), ← hA, getElem!_pos times i.toNat (by omega)]; rfl
    have htu : turnedT times b (i + 1).toNat = turnedT times b i.toNat ++ [Bv] := by
      rw [show (i + 1).toNat = i.toNat + 1 by omega, turned_snoc, Int.toNat_of_nonneg i0, hB]
    have la : mget ieq x 5 0 = latest (times.take i.toNat) := by
      rw [mget_mfind, fa5]
      by_cases h : 0 < i
      · rw [if_pos ⟨rfl, h⟩]; rfl
      · rw [if_neg (fun g => h g.2), show i.toNat = 0 by omega]; simp [latest]
    have lb : mget ieq y 5 0 = latest (turnedT times b i.toNat) := by
      rw [mget_mfind, fb]
      by_cases h : 0 < i
      · rw [if_pos h]; rfl
      · rw [if_neg h, show i.toNat = 0 by omega]; simp [latest, turnedT]
    refine .inl ⟨(i + 1, _, _), ?_, ⟨by simp only; omega, by simp only; omega, r1.2.more (by omega) (by omega) (by simp only; omega), r3.2.more (by omega) (by omega) (by simp only; omega), fun id => ?_, ?_⟩, by simp only; omega⟩
    · show max6_l1 span times b i x y _
      unfold max6_l1
      rw [if_pos hi, w1, hA, hB, v1, v2]
      refine ⟨⟨by omega, by omega⟩, by omega, ⟨i0, hi⟩, ?_⟩
      rw [r1.1, if_pos rfl]
      refine ⟨hkm, ?_⟩
      rw [r2.1, if_pos rfl]
      refine ⟨⟨by omega, by omega⟩, ⟨i0, hi⟩, ?_⟩
      simp only
      rw [r3.1, if_pos rfl]
      exact ⟨⟨by omega, by omega⟩, rfl⟩
    · simp only
      rw [mfind_mset', hti, latest_snoc, la, fa id]
      by_cases h5 : id = 5
      · rw [if_pos h5, if_pos (c := id = 5 ∧ 0 < i + 1) ⟨h5, by omega⟩]
      · rw [if_neg h5, if_neg (fun h => h5 h.1), if_neg (fun h => h5 h.1)]
    · simp only
      rw [mfind_mset', if_neg (by omega), mfind_mset', if_pos rfl, if_pos (c := 0 < i + 1) (by omega), htu, latest_snoc, lb]
  · obtain rfl : i = times.length := by omega
    refine .inr ⟨.inl (y, x), ?_, x, y, rfl, i0, i1, ka, kb, fa, fb⟩
    show max6_l1 span times b (times.length : Int) x y _
    unfold max6_l1
    rw [if_neg (by omega)]
end Go.E
