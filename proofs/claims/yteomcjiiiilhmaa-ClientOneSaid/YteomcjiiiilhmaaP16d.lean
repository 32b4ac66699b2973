/- Clients: whatever is done, all is the document's. -/
import Derived.Test.YteomcjiiiilhmaaD16S
import Derived.Test.YteomcjiiiilhmaaP16c
namespace Go.E
open Go
set_option linter.unusedVariables false
set_option maxRecDepth 100000

theorem set_at {l : List (Nat → Int)} {k j : Nat} {x : Nat → Int} (hk : k < l.length) (hj : j < l.length) : (l.set k x)[j]! = if j = k then x else l[j]! := by
  rw [getElem!_pos _ j (by simpa using hj), List.getElem_set, getElem!_pos l j hj]
  by_cases h : k = j
  · rw [if_pos h, if_pos h.symm]
  · rw [if_neg h, if_neg (fun e => h e.symm)]
theorem ofR_spec (l : List (Nat → Int)) (tx : Int) : (ofR_F l tx = 0 ∧ ∀ j, j < l.length → 0 < tx → l[j]! 0 ≠ tx) ∨ ∃ j, j < l.length ∧ ofR_F l tx = (j : Int) + 1 ∧ 0 < tx ∧ l[j]! 0 = tx := by
  unfold ofR_F
  cases h : (List.range l.length).find? (hitR l tx) with
  | none =>
    refine .inl ⟨rfl, fun j hj h3 h4 => ?_⟩
    have := List.find?_eq_none.1 h j (List.mem_range.2 hj)
    exact this (by unfold hitR; simp only [Bool.and_eq_true, decide_eq_true_eq]; exact ⟨h3, h4⟩)
  | some j =>
    obtain ⟨h1, h2, _⟩ := List.find?_range_eq_some.1 h
    unfold hitR at h1
    simp only [Bool.and_eq_true, decide_eq_true_eq] at h1
    exact .inr ⟨j, List.mem_range.1 h2, rfl, h1.1, h1.2⟩

/-- The same clients. -/
structure Same16 (n : Int) (c : Nat → Int) (v : List (Nat → Int)) : Prop where
  i : Inv16 n c
  l : (v.length : Int) = n
  f : ∀ j : Nat, j < v.length → v[j]! 0 = c (1 + (j + 1) * 3) ∧ nz (v[j]! 1) = nz (c (1 + ((j + 1) * 3 + 2))) ∧ v[j]! 2 = c (1 + ((j + 1) * 3 + 1))
theorem Same16.of {n : Int} {c : Nat → Int} {v : List (Nat → Int)} (h : Same16 n c v) (tx : Int) : ofR_F v tx = cofI c tx := by
  have hl := h.l
  have hn := h.i.n1
  rcases ofR_spec v tx with ⟨h1, h2⟩ | ⟨j, hj, h1, h2, h3⟩
  · rcases h.i.of tx with ⟨h4, _⟩ | ⟨k, h4, h5, h6, h7⟩
    · rw [h1, h4]
    · have := h2 (k - 1) (by omega) (by omega)
      rw [(h.f (k - 1) (by omega)).1, show k - 1 + 1 = k by omega] at this
      exact absurd h7 this
  · rw [(h.f j hj).1] at h3
    rcases h.i.of tx with ⟨h4, h5⟩ | ⟨k, h4, h5, h6, h7⟩
    · exact absurd h3 (h5 (j + 1) (by omega) (by omega))
    · have := h.i.one (j + 1) k (by omega) (by omega) (by rw [h3, h7]) (by rw [h3]; omega)
      rw [h1, h4]
      omega
theorem lost_nodup {n : Int} {c : Nat → Int} (h : Inv16 n c) (now span : Int) : (lostL c now span 9).Nodup := by
  unfold lostL
  refine List.pairwise_map.2 ?_
  have : ((List.range 9).filter (lostB c now span)).Pairwise fun i j => i ≠ j := List.nodup_range.sublist List.filter_sublist
  refine (List.Pairwise.and_mem.1 this).imp ?_
  rintro i j ⟨hi, hj, hne⟩ he
  obtain ⟨hi, hi2⟩ := List.mem_filter.1 hi
  have hi := List.mem_range.1 hi
  have hj := List.mem_range.1 (List.mem_filter.1 hj).1
  unfold lostB at hi2
  simp only [Bool.and_eq_true, Bool.not_eq_true', decide_eq_false_iff_not] at hi2
  exact hne (h.one i j hi hj he hi2.1.2)
theorem mem_lost {c : Nat → Int} {now span x : Int} : x ∈ lostL c now span 9 ↔ ∃ j, j < 9 ∧ lostB c now span j = true ∧ c (1 + j * 3) = x := by
  unfold lostL
  rw [List.mem_map]
  constructor
  · rintro ⟨j, hj, rfl⟩
    obtain ⟨h1, h2⟩ := List.mem_filter.1 hj
    exact ⟨j, List.mem_range.1 h1, h2, rfl⟩
  · rintro ⟨j, h1, h2, rfl⟩
    exact ⟨j, List.mem_filter.2 ⟨List.mem_range.2 h1, h2⟩, rfl⟩
theorem lost_pos {n : Int} {c : Nat → Int} (h : Inv16 n c) {now span : Int} {j : Nat} (hj : j < 9) (hb : lostB c now span j = true) : 1 ≤ j ∧ (j : Int) ≤ n := by
  unfold lostB at hb
  simp only [Bool.and_eq_true] at hb
  rcases (show (j = 0 ∨ n < j) ∨ (1 ≤ j ∧ (j : Int) ≤ n) by omega) with h1 | h1
  · have := (h.out j hj h1).2
    rw [hb.1.1] at this; cases this
  · exact h1
theorem Same16.lost {n : Int} {c : Nat → Int} {v : List (Nat → Int)} (h : Same16 n c v) (now span : Int) : clost_F c now span = lostR_F v now span := by
  have hl := h.l
  have hn := h.i.n1
  unfold clost_F lostR_F
  have e : badT now span = !(timeR_F now && decide (0 ≤ span)) := by
    unfold badT timeR_F
    rw [Bool.eq_iff_iff]
    simp only [Bool.or_eq_true, decide_eq_true_eq, Bool.not_eq_true', Bool.and_eq_false_iff, decide_eq_false_iff_not]
    omega
  rw [e]
  by_cases ht : (timeR_F now && decide (0 ≤ span)) = true
  · rw [ht, if_neg (by decide), if_pos rfl]
    refine isort_rising (lost_nodup h.i now span) fun x => ?_
    rw [mem_lost, List.mem_map]
    constructor
    · rintro ⟨j, hj, hb, rfl⟩
      obtain ⟨h1, h2⟩ := lost_pos h.i hj hb
      have hjl : j - 1 < v.length := by omega
      obtain ⟨f0, f1, f2⟩ := h.f (j - 1) hjl
      rw [show j - 1 + 1 = j by omega] at f0 f1 f2
      refine ⟨v[j - 1]!, List.mem_filter.2 ⟨mem_at hjl, ?_⟩, f0⟩
      have := h.i.tx j hj
      unfold lostB at hb
      unfold lostQ
      simp only [Bool.and_eq_true, Bool.not_eq_true', decide_eq_false_iff_not, decide_eq_true_eq] at hb ⊢
      rw [f0, f1, f2]
      exact ⟨⟨hb.1.1, by omega⟩, hb.2⟩
    · rintro ⟨y, hy, rfl⟩
      obtain ⟨hy, hq⟩ := List.mem_filter.1 hy
      obtain ⟨j, hj, rfl⟩ := List.getElem_of_mem hy
      obtain ⟨f0, f1, f2⟩ := h.f j hj
      rw [getElem!_pos v j hj] at f0 f1 f2
      refine ⟨j + 1, by omega, ?_, f0.symm⟩
      unfold lostQ at hq
      unfold lostB
      simp only [Bool.and_eq_true, Bool.not_eq_true', decide_eq_false_iff_not, decide_eq_true_eq] at hq ⊢
      rw [f0, f1, f2] at hq
      exact ⟨⟨hq.1.1, by omega⟩, hq.2⟩
  · have ht' : (timeR_F now && decide (0 ≤ span)) = false := by simpa using ht
    rw [ht', if_pos (by decide), if_neg (by decide)]
theorem Same16.PR {n : Int} {c : Nat → Int} {v : List (Nat → Int)} (h : Same16 n c v) (now span : Int) : lostR_P v now span := by
  have hl := h.l
  have hn := h.i.n1
  refine ⟨by omega, fun x hx => ?_⟩
  obtain ⟨j, hj, rfl⟩ := List.getElem_of_mem hx
  have := (h.f j hj).2.2
  rw [getElem!_pos v j hj] at this
  rw [this]
  exact h.i.si (j + 1) (by omega)
theorem clost_len (c : Nat → Int) (now span : Int) : (clost_F c now span).length ≤ 9 := by
  unfold clost_F
  split
  · simp
  · rw [len_isort]; exact lostL_len c now span 9
theorem Same16.leaf {n : Int} {c : Nat → Int} {v : List (Nat → Int)} (h : Same16 n c v) (now span : Int) {i : Int} (hi : inI64 (i + 1)) {α : Type} {A B : α} :
    (clost_P c now span) ∧ ((lostR_P v now span) ∧ ((ints_P (clost_F c now span) (lostR_F v now span)) ∧ (if ((ints_F (clost_F c now span) (lostR_F v now span))) = true then (inI64 (i + 1)) ∧ (A = A) else A = B))) := by
  refine ⟨h.i.si, h.PR now span, by unfold ints_P; have := clost_len c now span; omega, ?_⟩
  rw [h.lost, if_pos (ints_self _)]
  exact ⟨hi, rfl⟩
theorem Same16.put {n : Int} {c : Nat → Int} {v : List (Nat → Int)} (h : Same16 n c v) {k : Nat} {x : Int} (hk : 1 ≤ k ∧ (k : Int) ≤ n) (hi : Inv16 n (updI c (1 + k * 3) x)) : Same16 n (updI c (1 + k * 3) x) (([] ++ v).set (k - 1) (updI (v[k - 1]!) 0 x)) := by
  have hl := h.l
  refine ⟨hi, by simpa using h.l, fun j hj => ?_⟩
  rw [List.nil_append] at hj ⊢
  rw [List.length_set] at hj
  rw [set_at (by omega) hj, up_tx, up_1, up_2]
  by_cases hjk : j = k - 1
  · obtain ⟨f0, f1, f2⟩ := h.f j hj
    rw [if_pos hjk, if_pos (by omega), ← hjk]
    exact ⟨rfl, f1, f2⟩
  · rw [if_neg hjk, if_neg (by omega)]
    exact h.f j hj
theorem Same16.dead {n : Int} {c : Nat → Int} {v : List (Nat → Int)} (h : Same16 n c v) {k : Nat} {now : Int} (hk : 1 ≤ k ∧ (k : Int) ≤ n) (hi : Inv16 n (deadC c k now)) : Same16 n (deadC c k now) (([] ++ v).set (k - 1) (updI (updI (v[k - 1]!) 1 (bI true)) 2 now)) := by
  have hl := h.l
  refine ⟨hi, by simpa using h.l, fun j hj => ?_⟩
  rw [List.nil_append] at hj ⊢
  rw [List.length_set] at hj
  rw [set_at (by omega) hj, dead_tx, dead_1, dead_2]
  by_cases hjk : j = k - 1
  · obtain ⟨f0, f1, f2⟩ := h.f j hj
    rw [if_pos hjk, if_pos (by omega), if_pos (by omega), ← hjk]
    exact ⟨f0, rfl, rfl⟩
  · rw [if_neg hjk, if_neg (by omega), if_neg (by omega)]
    exact h.f j hj
theorem Same16.start {n : Int} (h : 1 ≤ n ∧ n ≤ 8) : Same16 n (updI (fun _ => 0) 0 n) (List.replicate n.toNat (fun _ => 0)) := by
  have e : ∀ k, (updI (fun _ => 0) 0 n) (1 + k) = 0 := fun k => if_neg (by omega)
  refine ⟨Inv16.start h, by simp; omega, fun j hj => ?_⟩
  rw [e, e, e, getElem!_pos _ j hj, List.getElem_replicate]
  exact ⟨rfl, rfl, rfl⟩

theorem acts16_step (acts v : List (Nat → Int)) (now span n i : Int) (c : Nat → Int) (hi : 0 ≤ i ∧ i < acts.length) (hl : acts.length ≤ 100) (h : Same16 n c v) :
    ∃ v' c', acts16_l1 acts now span v i c (.inl (v', i + 1, c')) ∧ Same16 n c' v' := by
  have hn := h.i.n1
  have hlen := h.l
  have hin : inI64 (i + 1) := ⟨by omega, by omega⟩
  generalize ha : acts[i.toNat]! = a
  have hact := h.i.act a
  unfold acts16_l1
  simp only [ha, if_pos hi.2]
  by_cases k0 : a 0 = 0
  · simp only [if_pos k0]
    obtain ⟨_, hF⟩ := begin_eq h.i (a 1) (a 2)
    have hA : act16_F c a = (code_F (cbegin_F c (a 1) (a 2)).1, (cbegin_F c (a 1) (a 2)).2) := by
      unfold act16_F
      rw [if_pos k0]
    rw [hF] at hA
    by_cases h1 : a 1 < 1 ∨ n < a 1
    · rw [if_pos h1] at hA
      refine ⟨v, c, ⟨hi, ?_⟩, h⟩
      rw [if_pos (by simp only [Bool.or_eq_true, decide_eq_true_eq]; omega)]
      refine ⟨hact.1, ?_⟩
      rw [hA, if_pos (by rfl)]
      exact h.leaf now span hin
    · have h1' : ¬ ((decide (a 1 < 1)) || (decide ((v.length : Int) < a 1))) = true := by simp only [Bool.or_eq_true, decide_eq_true_eq]; omega
      rw [if_neg h1] at hA
      by_cases h2 : a 2 < 1 ∨ 1048576 < a 2
      · rw [if_pos h2] at hA
        refine ⟨v, c, ⟨hi, ?_⟩, h⟩
        rw [if_neg h1', if_pos (by simpa only [Bool.or_eq_true, decide_eq_true_eq] using h2)]
        refine ⟨hact.1, ?_⟩
        rw [hA, if_pos (by rfl)]
        exact h.leaf now span hin
      · have h2' : ¬ ((decide (a 2 < 1)) || (decide (1048576 < a 2))) = true := by simpa only [Bool.or_eq_true, decide_eq_true_eq] using h2
        rw [if_neg h2] at hA
        obtain ⟨hk, hk2⟩ := h.i.toN h1
        have hkm : (a 1 - 1).toNat = (a 1).toNat - 1 := by omega
        have hb : 0 ≤ a 1 - 1 ∧ a 1 - 1 < (v.length : Int) := ⟨by omega, by omega⟩
        have hb64 : inI64 (a 1 - 1) := ⟨by omega, by omega⟩
        obtain ⟨f0, f1, f2⟩ := h.f ((a 1).toNat - 1) (by omega)
        rw [show (a 1).toNat - 1 + 1 = (a 1).toNat by omega] at f0 f1 f2
        by_cases h3 : nz (c (1 + ((a 1).toNat * 3 + 2))) = true
        · rw [if_pos h3] at hA
          refine ⟨v, c, ⟨hi, ?_⟩, h⟩
          rw [if_neg h1', if_neg h2']
          refine ⟨hb64, hb, ?_⟩
          rw [hkm, if_pos (by rw [f1]; exact h3)]
          refine ⟨hact.1, ?_⟩
          rw [hA, if_pos (by rfl)]
          exact h.leaf now span hin
        · rw [if_neg h3] at hA
          have h3' : ¬ nz (v[(a 1).toNat - 1]! 1) = true := by rw [f1]; exact h3
          have htx := h.i.tx (a 1).toNat (by omega)
          by_cases h4 : c (1 + (a 1).toNat * 3) = 0
          · rw [if_pos h4] at hA
            by_cases h5 : cofI c (a 2) = 0
            · rw [if_pos h5] at hA
              have hS := h.put (x := a 2) hk (by have := hact.2; rw [hA] at this; exact this)
              refine ⟨_, _, ⟨hi, ?_⟩, hS⟩
              rw [if_neg h1', if_neg h2']
              refine ⟨hb64, hb, ?_⟩
              rw [hkm, if_neg h3', if_neg (by rw [f0]; omega)]
              refine ⟨by unfold ofR_P; omega, ?_⟩
              rw [h.of, if_neg (by omega)]
              refine ⟨by omega, hb64, by rw [List.nil_append]; exact hb, hact.1, ?_⟩
              rw [hA, if_pos (by rfl)]
              exact hS.leaf now span hin
            · rw [if_neg h5] at hA
              refine ⟨v, c, ⟨hi, ?_⟩, h⟩
              rw [if_neg h1', if_neg h2']
              refine ⟨hb64, hb, ?_⟩
              rw [hkm, if_neg h3', if_neg (by rw [f0]; omega)]
              refine ⟨by unfold ofR_P; omega, ?_⟩
              rw [h.of, if_pos (by rcases h.i.of (a 2) with ⟨g, _⟩ | ⟨j, g, _⟩ <;> omega)]
              refine ⟨hact.1, ?_⟩
              rw [hA, if_pos (by rfl)]
              exact h.leaf now span hin
          · rw [if_neg h4] at hA
            refine ⟨v, c, ⟨hi, ?_⟩, h⟩
            rw [if_neg h1', if_neg h2']
            refine ⟨hb64, hb, ?_⟩
            rw [hkm, if_neg h3', if_pos (by rw [f0]; omega)]
            refine ⟨hact.1, ?_⟩
            rw [hA, if_pos (by rfl)]
            exact h.leaf now span hin
  · simp only [if_neg k0]
    by_cases k1 : a 0 = 1
    · simp only [if_pos k1]
      obtain ⟨_, hF⟩ := end_eq h.i (a 2)
      have hA : act16_F c a = (code_F (cend_F c (a 2)).1, (cend_F c (a 2)).2) := by
        unfold act16_F
        rw [if_neg k0, if_pos k1]
      rw [hF] at hA
      rcases h.i.of (a 2) with ⟨h1, _⟩ | ⟨j, h1, h2, _⟩
      · rw [if_pos h1] at hA
        refine ⟨v, c, ⟨hi, by unfold ofR_P; omega, ?_⟩, h⟩
        rw [h.of, if_pos h1]
        refine ⟨hact.1, ?_⟩
        rw [hA, if_pos (by rfl)]
        exact h.leaf now span hin
      · have hne : ¬ cofI c (a 2) = 0 := by omega
        rw [if_neg hne, h1, Int.toNat_natCast] at hA
        have hS := h.put (x := 0) h2 (by have := hact.2; rw [hA] at this; exact this)
        refine ⟨_, _, ⟨hi, by unfold ofR_P; omega, ?_⟩, hS⟩
        rw [h.of, if_neg hne, h1, show ((j : Int) - 1).toNat = j - 1 by omega]
        have hb : 0 ≤ (j : Int) - 1 ∧ (j : Int) - 1 < (v.length : Int) := ⟨by omega, by omega⟩
        have hb64 : inI64 ((j : Int) - 1) := ⟨by omega, by omega⟩
        refine ⟨hb64, hb, by omega, hb64, by rw [List.nil_append]; exact hb, hact.1, ?_⟩
        rw [hA, if_pos (by rfl)]
        exact hS.leaf now span hin
    · simp only [if_neg k1]
      obtain ⟨_, hF⟩ := crash_eq h.i (a 1) (a 3)
      have hA : act16_F c a = (code_F (ccrash_F c (a 1) (a 3)).1, (ccrash_F c (a 1) (a 3)).2) := by
        unfold act16_F
        rw [if_neg k0, if_neg k1]
      rw [hF] at hA
      by_cases h1 : a 1 < 1 ∨ n < a 1
      · rw [if_pos h1] at hA
        refine ⟨v, c, ⟨hi, ?_⟩, h⟩
        rw [if_pos (by simp only [Bool.or_eq_true, decide_eq_true_eq]; omega)]
        refine ⟨hact.1, ?_⟩
        rw [hA, if_pos (by rfl)]
        exact h.leaf now span hin
      · have h1' : ¬ ((decide (a 1 < 1)) || (decide ((v.length : Int) < a 1))) = true := by simp only [Bool.or_eq_true, decide_eq_true_eq]; omega
        rw [if_neg h1] at hA
        obtain ⟨hk, hk2⟩ := h.i.toN h1
        by_cases h2 : a 3 < 0 ∨ 1099511627776 < a 3
        · rw [if_pos h2] at hA
          refine ⟨v, c, ⟨hi, ?_⟩, h⟩
          rw [if_neg h1', if_neg (by unfold timeR_F; simp only [Bool.and_eq_true, decide_eq_true_eq]; omega)]
          refine ⟨hact.1, ?_⟩
          rw [hA, if_pos (by rfl)]
          exact h.leaf now span hin
        · rw [if_neg h2] at hA
          have hT : timeR_F (a 3) = true := by unfold timeR_F; simp only [Bool.and_eq_true, decide_eq_true_eq]; omega
          have hkm : (a 1 - 1).toNat = (a 1).toNat - 1 := by omega
          have hb : 0 ≤ a 1 - 1 ∧ a 1 - 1 < (v.length : Int) := ⟨by omega, by omega⟩
          have hb64 : inI64 (a 1 - 1) := ⟨by omega, by omega⟩
          obtain ⟨f0, f1, f2⟩ := h.f ((a 1).toNat - 1) (by omega)
          rw [show (a 1).toNat - 1 + 1 = (a 1).toNat by omega] at f0 f1 f2
          by_cases h3 : nz (c (1 + ((a 1).toNat * 3 + 2))) = true
          · rw [if_pos h3] at hA
            refine ⟨v, c, ⟨hi, ?_⟩, h⟩
            rw [if_neg h1', if_pos hT]
            refine ⟨hb64, hb, ?_⟩
            rw [hkm, if_pos (by rw [f1]; exact h3)]
            refine ⟨hact.1, ?_⟩
            rw [hA, if_pos (by rfl)]
            exact h.leaf now span hin
          · rw [if_neg h3] at hA
            have hS := h.dead (now := a 3) hk (by have := hact.2; rw [hA] at this; exact this)
            refine ⟨_, _, ⟨hi, ?_⟩, hS⟩
            rw [if_neg h1', if_pos hT]
            refine ⟨hb64, hb, ?_⟩
            rw [hkm, if_neg (by rw [f1]; exact h3)]
            refine ⟨by omega, hb64, by rw [List.nil_append]; exact hb, hact.1, ?_⟩
            rw [hA, if_pos (by rfl)]
            exact hS.leaf now span hin

/-! ### What is asked at the end -/
theorem now_eq {n : Int} {c : Nat → Int} (h : Inv16 n c) (id : Int) : cnow_P c id ∧ cnow_F c id = if id < 1 ∨ n < id then (0, 10) else if c (1 + id.toNat * 3) = 0 then (0, 10) else (c (1 + id.toNat * 3), 0) := by
  have hn := h.n1
  unfold cnow_P cnow_F
  rw [h.c0]
  simp only [Bool.or_eq_true, decide_eq_true_eq]
  by_cases h1 : id < 1 ∨ n < id
  · rw [if_pos h1]; exact ⟨trivial, trivial⟩
  · rw [if_neg h1]
    exact ⟨⟨⟨by omega, by omega⟩, by split <;> trivial⟩, trivial⟩
theorem alive_eq {n : Int} {c : Nat → Int} (h : Inv16 n c) (id : Int) : calive_P c id ∧ calive_F c id = if id < 1 ∨ n < id then false else !(nz (c (1 + (id.toNat * 3 + 2)))) := by
  have hn := h.n1
  unfold calive_P calive_F
  rw [h.c0]
  simp only [Bool.or_eq_true, decide_eq_true_eq, Nat.add_assoc]
  by_cases h1 : id < 1 ∨ n < id
  · rw [if_pos h1]; exact ⟨trivial, trivial⟩
  · rw [if_neg h1]
    exact ⟨⟨⟨by omega, by omega⟩, trivial⟩, trivial⟩
theorem acts16_asks {n : Int} {c : Nat → Int} {v : List (Nat → Int)} (h : Same16 n c v) : Wh (fun (s : Int) (o : (Int) ⊕ ((Unit) ⊕ (Unit))) => acts16_l2 n v c s o) (0 : Int) (.inl ()) := by
  have hn := h.i.n1
  have hlen := h.l
  suffices hs : ∃ r, Wh (fun (s : Int) (o : (Int) ⊕ ((Unit) ⊕ (Unit))) => acts16_l2 n v c s o) (0 : Int) r ∧ r = .inl () by
    obtain ⟨_, hr, rfl⟩ := hs
    exact hr
  refine Wh.by (f := fun (s : Int) (o : (Int) ⊕ ((Unit) ⊕ (Unit))) => acts16_l2 n v c s o) (fun s => 0 ≤ s ∧ s ≤ n + 2) (fun s => (n + 2 - s).toNat) (fun r => r = .inl ()) ⟨by omega, by omega⟩ ?_
  rintro id ⟨i0, i1⟩
  by_cases he : id ≤ n + 1
  · refine .inl ⟨id + 1, ?_, ⟨by omega, by omega⟩, by omega⟩
    have hin : inI64 (id + 1) := ⟨by omega, by omega⟩
    obtain ⟨pN, fN⟩ := now_eq h.i id
    obtain ⟨pA, fA⟩ := alive_eq h.i id
    unfold acts16_l2
    refine ⟨⟨by omega, by omega⟩, ?_⟩
    rw [if_pos he]
    by_cases h1 : id < 1 ∨ n < id
    · rw [if_pos h1] at fN fA
      refine ⟨pN, fun hc => ?_, fun hc => ?_, ?_⟩
      · simp only [Bool.or_eq_false_iff, decide_eq_false_iff_not] at hc; omega
      · simp only [Bool.or_eq_false_iff, decide_eq_false_iff_not] at hc; omega
      rw [if_pos (by simp only [Bool.or_eq_true, decide_eq_true_eq]; exact .inl h1), fN, if_pos rfl, if_pos (by rfl)]
      by_cases h2 : id < 1
      · rw [if_pos h2]
        refine ⟨pA, ?_⟩
        rw [fA, if_neg (by decide), if_neg (by omega)]
        exact ⟨hin, rfl⟩
      · rw [if_neg h2, if_pos (by omega)]
        refine ⟨pA, ?_⟩
        rw [fA, if_neg (by decide), if_pos (by omega), if_neg (by omega)]
        exact ⟨hin, rfl⟩
    · rw [if_neg h1] at fN fA
      obtain ⟨hk, hk2⟩ := h.i.toN h1
      have hkm : (id - 1).toNat = id.toNat - 1 := by omega
      have hb : 0 ≤ id - 1 ∧ id - 1 < (v.length : Int) := ⟨by omega, by omega⟩
      have hb64 : inI64 (id - 1) := ⟨by omega, by omega⟩
      obtain ⟨f0, f1, f2⟩ := h.f (id.toNat - 1) (by omega)
      rw [show id.toNat - 1 + 1 = id.toNat by omega] at f0 f1 f2
      have hx : ∀ b : Bool, ¬ ((!b) == b) = true := fun b => by cases b <;> decide
      have hlast : (inI64 (id - 1)) ∧ (0 ≤ id - 1 ∧ id - 1 < v.length) ∧ (calive_P c id) ∧ (if ((((calive_F c id)) == ((nz ((v[(id - 1).toNat]!) 1))))) = true then (Sum.inl (id + 1) : (Int) ⊕ ((Unit) ⊕ (Unit))) = (.inr (.inr ())) else (inI64 (id + 1)) ∧ ((Sum.inl (id + 1) : (Int) ⊕ ((Unit) ⊕ (Unit))) = (.inl (id + 1)))) := by
        refine ⟨hb64, hb, pA, ?_⟩
        rw [hkm, fA, f1, if_neg (hx _)]
        exact ⟨hin, rfl⟩
      refine ⟨pN, fun _ => hb64, fun _ => hb, ?_⟩
      by_cases h2 : c (1 + id.toNat * 3) = 0
      · rw [if_pos h2] at fN
        rw [if_pos (by rw [hkm, f0, h2]; simp), fN, if_pos rfl, if_pos (by rfl), if_neg (by omega), if_neg (by omega), if_pos (by omega), if_pos (by omega)]
        exact hlast
      · rw [if_neg h2] at fN
        rw [if_neg (by
          rw [hkm, f0]
          simp only [Bool.or_eq_true, decide_eq_true_eq]
          omega)]
        refine ⟨hb64, hb, ?_⟩
        rw [fN, if_neg (by rw [hkm, f0]; simp), if_pos (by omega), if_pos (by omega)]
        exact hlast
  · refine .inr ⟨.inl (), ?_, rfl⟩
    unfold acts16_l2
    refine ⟨⟨by omega, by omega⟩, ?_⟩
    rw [if_neg he]

theorem acts16_all (n : Int) (acts : List (Nat → Int)) (now span tx : Int) : acts16_S n acts now span tx true := by
  unfold acts16_S
  refine ⟨alive16_p, ?_⟩
  rw [if_pos alive16_t]
  refine ite_intro (fun _ => rfl) fun hlen => ite_intro (fun _ => by decide) fun hn => ?_
  simp only [Bool.or_eq_true, decide_eq_true_eq, not_or, Int.not_lt] at hn
  refine ⟨by omega, by omega, by omega, ?_⟩
  suffices h : ∃ r, Wh (fun (s : (List (Nat → Int)) × Int × (Nat → Int)) (o : ((List (Nat → Int)) × Int × (Nat → Int)) ⊕ (((List (Nat → Int)) × (Nat → Int)) ⊕ ((Nat → Int)))) => acts16_l1 acts now span s.1 s.2.1 s.2.2 o) (((List.replicate n.toNat (fun _ => 0)), 0, (updI (fun _ => 0) 0 n)) : (List (Nat → Int)) × Int × (Nat → Int)) r ∧ ∃ v c, r = Sum.inl (v, c) ∧ Same16 n c v by
    obtain ⟨_, hr, v, c, rfl, hS⟩ := h
    refine ⟨_, hr, ?_⟩
    show acts16_k1a n now span tx v c true
    unfold acts16_k1a
    refine ⟨.inl (), acts16_asks hS, ?_⟩
    show acts16_k2a now span tx v c true
    unfold acts16_k2a
    have hl := hS.l
    obtain ⟨e1, e2⟩ := cof_eq c tx
    refine ⟨by unfold ofR_P; omega, ?_⟩
    have hlast : (clost_P c now span) ∧ ((lostR_P v now span) ∧ ((ints_P (clost_F c now span) (lostR_F v now span)) ∧ (true = ((ints_F (clost_F c now span) (lostR_F v now span)))))) := by
      refine ⟨hS.i.si, hS.PR now span, by unfold ints_P; have := clost_len c now span; omega, ?_⟩
      rw [hS.lost, ints_self]
    rw [e1, e2, hS.of, if_pos rfl]
    rcases hS.i.of tx with ⟨h1, _⟩ | ⟨j, h1, h2, _⟩
    · rw [h1, if_pos (c := (0 : Int) = 0) rfl, if_pos (by decide), if_neg (by decide), if_pos (by rfl)]
      exact hlast
    · have hne : ¬ cofI c tx = 0 := by omega
      rw [if_neg hne, if_pos (by rw [decide_eq_true (show (0 : Int) < cofI c tx by omega)]; rfl), if_pos rfl]
      exact hlast
  refine Wh.by (fun (s : (List (Nat → Int)) × Int × (Nat → Int)) => 0 ≤ s.2.1 ∧ s.2.1 ≤ acts.length ∧ Same16 n s.2.2 s.1) (fun s => ((acts.length : Int) - s.2.1).toNat) (fun r => ∃ v c, r = Sum.inl (v, c) ∧ Same16 n c v) ⟨by simp, by simp, Same16.start hn⟩ ?_
  rintro ⟨v, i, c⟩ ⟨i0, i1, hS⟩
  simp only at i0 i1 hS
  by_cases he : i = acts.length
  · refine .inr ⟨.inl (v, c), ?_, v, c, rfl, hS⟩
    show acts16_l1 acts now span v i c _
    unfold acts16_l1
    rw [if_neg (by omega)]
  · obtain ⟨v', c', h1, h2⟩ := acts16_step acts v now span n i c ⟨i0, by omega⟩ (by omega) hS
    exact .inl ⟨(v', i + 1, c'), h1, ⟨by simp only; omega, by simp only; omega, h2⟩, by simp only; omega⟩
end Go.E
