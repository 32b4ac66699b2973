/- Graphs: what is asked of them. -/
import Derived.Test.YtdmibiefinhneaaD10S
namespace Go.E
open Go
set_option linter.unusedVariables false
set_option maxRecDepth 100000

/-! ### The example -/
def exL : List (Nat → Int) := [(updI (updI (fun _ => 0) 0 1) 2 2), (updI (updI (fun _ => 0) 0 2) 2 3), (updI (updI (fun _ => 0) 0 3) 2 1), (updI (updI (fun _ => 0) 0 4) 2 1)]
theorem exL_adj {a b : Int} : Adj exL a b ↔ (a = 1 ∧ b = 2) ∨ (a = 2 ∧ b = 3) ∨ (a = 3 ∧ b = 1) ∨ (a = 4 ∧ b = 1) := by
  unfold Adj exL
  constructor
  · rintro ⟨e, he, h1, h2⟩
    simp only [List.mem_cons, List.not_mem_nil, or_false] at he
    rcases he with rfl | rfl | rfl | rfl
    · exact .inl ⟨h1.symm, h2.symm⟩
    · exact .inr (.inl ⟨h1.symm, h2.symm⟩)
    · exact .inr (.inr (.inl ⟨h1.symm, h2.symm⟩))
    · exact .inr (.inr (.inr ⟨h1.symm, h2.symm⟩))
  · rintro (⟨rfl, rfl⟩ | ⟨rfl, rfl⟩ | ⟨rfl, rfl⟩ | ⟨rfl, rfl⟩)
    · exact ⟨_, List.mem_cons_self, rfl, rfl⟩
    · exact ⟨_, List.mem_cons_of_mem _ List.mem_cons_self, rfl, rfl⟩
    · exact ⟨_, List.mem_cons_of_mem _ (List.mem_cons_of_mem _ List.mem_cons_self), rfl, rfl⟩
    · exact ⟨_, List.mem_cons_of_mem _ (List.mem_cons_of_mem _ (List.mem_cons_of_mem _ List.mem_cons_self)), rfl, rfl⟩
theorem exL_E : Edges exL := ⟨by decide, by unfold exL; decide⟩
theorem exL_to {a x : Int} (h : Rt exL a x) : x = 1 ∨ x = 2 ∨ x = 3 := by
  cases h with
  | one e => have := exL_adj.1 e; omega
  | more _ e => have := exL_adj.1 e; omega
theorem exL_12 : Rt exL 1 2 := .one (exL_adj.2 (by omega))
theorem exL_23 : Rt exL 2 3 := .one (exL_adj.2 (by omega))
theorem exL_31 : Rt exL 3 1 := .one (exL_adj.2 (by omega))
theorem exL_41 : Rt exL 4 1 := .one (exL_adj.2 (by omega))
theorem exL_reach : greach_F exL 4 = [1, 2, 3] := by
  refine (greach_eq (by decide) fun x => ?_).symm
  constructor
  · intro h
    simp only [List.mem_cons, List.not_mem_nil, or_false] at h
    rcases h with rfl | rfl | rfl
    · exact exL_41
    · exact exL_41.trans exL_12
    · exact exL_41.trans (exL_12.trans exL_23)
  · intro h
    have := exL_to h
    simp only [List.mem_cons, List.not_mem_nil, or_false]
    exact this
theorem rising_gcirc (l : List (Nat → Int)) : (gcirc_F l).Pairwise fun a b => a < b := List.Pairwise.sublist List.filter_sublist (rising_rising _)
theorem exL_circ : gcirc_F exL = [1, 2, 3] := by
  refine rising_ext (rising_gcirc _) (by decide) fun x => ?_
  rw [mem_gcirc]
  constructor
  · intro h
    have := exL_to h
    simp only [List.mem_cons, List.not_mem_nil, or_false]
    exact this
  · intro h
    simp only [List.mem_cons, List.not_mem_nil, or_false] at h
    rcases h with rfl | rfl | rfl
    · exact exL_12.trans (exL_23.trans exL_31)
    · exact exL_23.trans (exL_31.trans exL_12)
    · exact exL_31.trans (exL_12.trans exL_23)
theorem exL_way : gway_F exL 4 3 = [4, 1, 2, 3] := by
  have hI := (gway_is exL 4 3 exL_E).1 (exL_41.trans (exL_12.trans exL_23))
  generalize gway_F exL 4 3 = w at hI
  obtain ⟨h2, h0, hl, ha, hm, _⟩ := hI
  have a0 := exL_adj.1 (show Adj exL (w[0]!) (w[1]!) from ha 0 (by omega))
  have n2 : w.length ≠ 2 := fun e => by rw [e] at hl; have hl : w[1]! = 3 := hl; omega
  have a1 := exL_adj.1 (show Adj exL (w[1]!) (w[2]!) from ha 1 (by omega))
  have n3 : w.length ≠ 3 := fun e => by rw [e] at hl; have hl : w[2]! = 3 := hl; omega
  have a2 := exL_adj.1 (show Adj exL (w[2]!) (w[3]!) from ha 2 (by omega))
  have n4 : w.length = 4 := by
    by_cases h : w.length = 4
    · exact h
    · exact absurd (by omega) (hm 3 (by omega) (by omega))
  refine List.ext_getElem (by rw [n4]; rfl) fun i h1 h3 => ?_
  have e : w[i] = w[i]! := (getElem!_pos w i h1).symm
  rw [e]
  have : i < 4 := by omega
  rcases (show i = 0 ∨ i = 1 ∨ i = 2 ∨ i = 3 by omega) with rfl | rfl | rfl | rfl
  · exact h0
  · show w[1]! = 1; omega
  · show w[2]! = 2; omega
  · show w[3]! = 3; omega
theorem alive10_t : alive10_F = true := by
  show (if ints_F (greach_F exL 4) [1, 2, 3] = true then if ints_F (gcirc_F exL) [1, 2, 3] = true then ints_F (gway_F exL 4 3) [4, 1, 2, 3] else false else false) = true
  rw [exL_reach, exL_circ, exL_way]
  decide
theorem alive10_p : alive10_P := by
  show greach_P exL 4 ∧ ints_P (greach_F exL 4) [1, 2, 3] ∧ if ints_F (greach_F exL 4) [1, 2, 3] = true then gcirc_P exL ∧ ints_P (gcirc_F exL) [1, 2, 3] ∧ if ints_F (gcirc_F exL) [1, 2, 3] = true then gway_P exL 4 3 ∧ ints_P (gway_F exL 4 3) [4, 1, 2, 3] ∧ True else True else True
  rw [exL_reach, exL_circ, exL_way, if_pos (ints_self _), if_pos (ints_self _)]
  exact ⟨exL_E, by unfold ints_P; decide, exL_E, by unfold ints_P; decide, exL_E, by unfold ints_P; decide, trivial⟩

theorem edges_of {l : List (Nat → Int)} {n : Nat} (hl : l.length ≤ n) (hn : n ≤ 100000) (hw : ∀ m ∈ l, ∀ i, i < 4 → inI64 (m i)) : Edges l := ⟨by omega, fun e he => ⟨hw e he 0 (by omega), hw e he 2 (by omega)⟩⟩

/-! ### The document's -/
theorem reach10_all (l : List (Nat → Int)) (a : Int) (hw : ∀ m ∈ l, ∀ i, i < 4 → inI64 (m i)) : reach10_S l a true := by
  unfold reach10_S
  refine ⟨alive10_p, ?_⟩
  rw [if_pos alive10_t]
  refine ite_intro (fun _ => rfl) fun hlen => ?_
  have hE := edges_of (n := 60) (by omega) (by omega) hw
  have e1 : reachR_F l a = greach_F l a := rfl
  have e2 : circR_F l = gcirc_F l := rfl
  rw [e1, e2, if_pos (ints_self _)]
  exact ⟨hE, by unfold reachR_P; omega, by unfold ints_P; have := len_greach l a; omega, hE, by unfold circR_P; omega, by unfold ints_P; have := len_gcirc l; omega, (ints_self _).symm⟩
theorem len_ordL {l : List (Nat → Int)} : ∀ (k : Nat) (left out : List Int) {o : List Int}, ordL l k left out = some o → o.length = out.length + k
  | 0, left, out, o, h => by unfold ordL at h; cases h; rfl
  | k + 1, left, out, o, h => by
    unfold ordL at h
    cases hf : left.find? (freeL l left) with
    | none => rw [hf] at h; cases h
    | some n =>
      rw [hf] at h
      have := len_ordL k _ _ h
      simp only [List.length_append, List.length_singleton] at this
      omega
theorem order10_all (l : List (Nat → Int)) (hw : ∀ m ∈ l, ∀ i, i < 4 → inI64 (m i)) : order10_S l true := by
  unfold order10_S
  refine ⟨alive10_p, ?_⟩
  rw [if_pos alive10_t]
  refine ite_intro (fun _ => rfl) fun hlen => ?_
  have hE := edges_of (n := 60) (by omega) (by omega) hw
  have hN := len_nodesL l
  refine ⟨hE, by unfold orderR_P; omega, ?_⟩
  unfold orderR_F gorder_F
  cases ho : ordL l (nodesL l).length (nodesL l) [] with
  | none =>
    simp only
    rw [if_neg (by decide)]
    decide
  | some o =>
    simp only
    have := len_ordL _ _ _ ho
    rw [if_pos trivial, ints_self]
    exact ⟨by unfold ints_P; simp only [List.length_nil] at this; omega, by decide⟩

/-! ### More edges, edges turned about -/
def turnE (e : Nat → Int) : Nat → Int := updI (updI (fun _ => 0) 0 (e 2)) 2 (e 0)
theorem turn_adj {l : List (Nat → Int)} {a b : Int} : Adj (l.map turnE) a b ↔ Adj l b a := by
  constructor
  · rintro ⟨e, he, h1, h2⟩
    obtain ⟨e', he', rfl⟩ := List.mem_map.1 he
    exact ⟨e', he', h2, h1⟩
  · rintro ⟨e, he, h1, h2⟩
    exact ⟨turnE e, List.mem_map.2 ⟨e, he, rfl⟩, h2, h1⟩
theorem turn_rt {l : List (Nat → Int)} {a b : Int} (h : Rt (l.map turnE) a b) : Rt l b a := by
  induction h with
  | one e => exact .one (turn_adj.1 e)
  | more _ e ih => exact (Rt.one (turn_adj.1 e)).trans ih
theorem rt_turn {l : List (Nat → Int)} {a b : Int} (h : Rt l a b) : Rt (l.map turnE) b a := by
  induction h with
  | one e => exact .one (turn_adj.2 e)
  | more _ e ih => exact (Rt.one (turn_adj.2 e)).trans ih
theorem turn_circ (l : List (Nat → Int)) : gcirc_F (l.map turnE) = gcirc_F l := by
  refine rising_ext (rising_gcirc _) (rising_gcirc _) fun x => ?_
  rw [mem_gcirc, mem_gcirc]
  exact ⟨turn_rt, rt_turn⟩
theorem setOf_set (l : List Int) : IsSet (setOf l) := by
  suffices h : ∀ r : List Int, IsSet (setOf r.reverse) by
    have := h l.reverse
    rwa [List.reverse_reverse] at this
  intro r
  induction r with
  | nil => exact ⟨List.nodup_nil, fun p hp => by simp [setOf] at hp⟩
  | cons x r ih =>
    rw [List.reverse_cons, setOf_snoc]
    exact ih.put x
theorem setOf_get (l : List Int) (x : Int) : mget ieq (setOf l) x false = decide (x ∈ l) := by
  rw [(setOf_set l).get, Bool.eq_iff_iff, (setOf_spec l).2.2.1, decide_eq_true_eq]
theorem more10_all (l more : List (Nat → Int)) (a : Int) (hw : ∀ m ∈ l, ∀ i, i < 4 → inI64 (m i)) (hw2 : ∀ m ∈ more, ∀ i, i < 4 → inI64 (m i)) : more10_S l more a true := by
  unfold more10_S
  refine ⟨alive10_p, ?_⟩
  rw [if_pos alive10_t]
  refine ite_intro (fun _ => rfl) fun hlen => ?_
  simp only [Bool.or_eq_true, decide_eq_true_eq, not_or, Int.not_lt] at hlen
  have hE := edges_of (n := 40) (by omega) (by omega) hw
  have hEb : Edges (l ++ more) := ⟨by simp only [List.length_append]; omega, fun e he => by
    rcases List.mem_append.1 he with he | he
    · exact ⟨hw e he 0 (by omega), hw e he 2 (by omega)⟩
    · exact ⟨hw2 e he 0 (by omega), hw2 e he 2 (by omega)⟩⟩
  have hEt : Edges (l.map turnE) := ⟨by simp only [List.length_map]; omega, fun e he => by
    obtain ⟨e', he', rfl⟩ := List.mem_map.1 he
    exact ⟨hw e' he' 2 (by omega), hw e' he' 0 (by omega)⟩⟩
  have hsub : ∀ e ∈ l, e ∈ l ++ more := fun e he => List.mem_append_left _ he
  have b1 := len_greach (l ++ more) a
  have b2 := len_greach l a
  have b3 := len_gcirc (l ++ more)
  have b4 := len_gcirc l
  have b5 := len_gcirc (l.map turnE)
  simp only [List.length_append, List.length_map] at b1 b3 b5
  rw [List.nil_append]
  refine ⟨by omega, by omega, l.map turnE, ?_, ?_⟩
  · have := Wh.upto (f := fun (s : (List (Nat → Int)) × Int) (o : ((List (Nat → Int)) × Int) ⊕ ((List (Nat → Int)))) => more10_l1 l s.1 s.2 o) (fun k : Nat => ((l.take k).map turnE, (k : Int))) l.length (r := l.map turnE) (fun k hk => by
      dsimp only
      unfold more10_l1
      rw [if_pos (by omega), Int.toNat_natCast, map_take _ _ _ hk]
      exact ⟨⟨by omega, by omega⟩, ⟨by omega, by omega⟩, by simp only [List.length_map, List.length_take]; omega, ⟨by omega, by omega⟩, rfl⟩) (by
      dsimp only
      unfold more10_l1
      rw [if_neg (by omega), take_len])
    simpa using this
  unfold more10_k1a
  rw [turn_circ, if_pos (ints_self _), List.nil_append]
  refine ⟨hEt, hE, by unfold ints_P; omega, hEb, setOf (greach_F (l ++ more) a), ?_, ?_⟩
  · have := Wh.upto (f := fun (s : (List (Int × Bool)) × Int) (o : ((List (Int × Bool)) × Int) ⊕ ((List (Int × Bool)))) => more10_l2 l more a s.1 s.2 o) (fun k : Nat => (setOf ((greach_F (l ++ more) a).take k), (k : Int))) (greach_F (l ++ more) a).length (r := setOf (greach_F (l ++ more) a)) (fun k hk => by
      have e : (greach_F (l ++ more) a).take (k + 1) = (greach_F (l ++ more) a).take k ++ [(greach_F (l ++ more) a)[k]!] := by
        rw [List.take_add_one, List.getElem?_eq_getElem hk, getElem!_pos _ k hk]; rfl
      dsimp only
      unfold more10_l2
      rw [List.nil_append, if_pos (by omega), Int.toNat_natCast, e, setOf_snoc]
      exact ⟨⟨by omega, by omega⟩, ⟨by omega, by omega⟩, rfl⟩) (by
      dsimp only
      unfold more10_l2
      rw [List.nil_append, if_neg (by omega), take_len])
    simpa [setOf] using this
  unfold more10_k2a
  refine ⟨hE, .inl (), ?_, ?_⟩
  · have := Wh.upto (f := fun (s : Int) (o : (Int) ⊕ ((Unit) ⊕ (Unit))) => more10_l3 l a (setOf (greach_F (l ++ more) a)) s o) (fun k : Nat => (k : Int)) (greach_F l a).length (r := .inl ()) (fun k hk => by
      unfold more10_l3
      rw [if_pos (by omega), Int.toNat_natCast, setOf_get, if_pos (decide_eq_true (mem_greach.2 (Rt.mono hsub (mem_greach.1 (mem_at hk)))))]
      exact ⟨⟨by omega, by omega⟩, ⟨by omega, by omega⟩, rfl⟩) (by
      unfold more10_l3
      rw [if_neg (by omega)])
    simpa using this
  show more10_k3a l more true
  unfold more10_k3a
  rw [List.nil_append]
  refine ⟨hEb, setOf (gcirc_F (l ++ more)), ?_, ?_⟩
  · have := Wh.upto (f := fun (s : (List (Int × Bool)) × Int) (o : ((List (Int × Bool)) × Int) ⊕ ((List (Int × Bool)))) => more10_l4 l more s.1 s.2 o) (fun k : Nat => (setOf ((gcirc_F (l ++ more)).take k), (k : Int))) (gcirc_F (l ++ more)).length (r := setOf (gcirc_F (l ++ more))) (fun k hk => by
      have e : (gcirc_F (l ++ more)).take (k + 1) = (gcirc_F (l ++ more)).take k ++ [(gcirc_F (l ++ more))[k]!] := by
        rw [List.take_add_one, List.getElem?_eq_getElem hk, getElem!_pos _ k hk]; rfl
      dsimp only
      unfold more10_l4
      rw [List.nil_append, if_pos (by omega), Int.toNat_natCast, e, setOf_snoc]
      exact ⟨⟨by omega, by omega⟩, ⟨by omega, by omega⟩, rfl⟩) (by
      dsimp only
      unfold more10_l4
      rw [List.nil_append, if_neg (by omega), take_len])
    simpa [setOf] using this
  unfold more10_k4a
  refine ⟨hE, .inl (), ?_, rfl⟩
  have := Wh.upto (f := fun (s : Int) (o : (Int) ⊕ ((Unit) ⊕ (Unit))) => more10_l5 l (setOf (gcirc_F (l ++ more))) s o) (fun k : Nat => (k : Int)) (gcirc_F l).length (r := .inl ()) (fun k hk => by
    unfold more10_l5
    rw [if_pos (by omega), Int.toNat_natCast, setOf_get, if_pos (decide_eq_true (mem_gcirc.2 (Rt.mono hsub (mem_gcirc.1 (mem_at hk)))))]
    exact ⟨⟨by omega, by omega⟩, ⟨by omega, by omega⟩, rfl⟩) (by
    unfold more10_l5
    rw [if_neg (by omega)])
  simpa using this
end Go.E
