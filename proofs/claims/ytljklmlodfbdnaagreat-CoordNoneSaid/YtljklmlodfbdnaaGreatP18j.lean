/- The coordinator: clients ask, commit, abort, crash. -/
import Derived.Test.YtljklmlodfbdnaaGreatP18i
namespace Go.E
open Go
set_option linter.unusedVariables false
set_option linter.unusedSimpArgs false
set_option maxRecDepth 100000
section
variable {N : Int} {n : Nat} {s : KS}
theorem KI.now (h : KI N n s) {id : Int} (ha : aliveC N s.cl id = 0) (h0 : s.cl (1 + id.toNat * 3) ≠ 0) : 1 ≤ s.cl (1 + id.toNat * 3) ∧ s.cl (1 + id.toNat * 3) ≤ s.la := by
  have hN := h.hc.n1
  have := h.hc.toN (aliveC_0.1 ha).1
  have := h.hb id.toNat (by omega) h0
  exact ⟨this.1, this.2.1⟩
theorem KI.ext (h : KI N n s) (e : Nat → Int) : KI N (n + 1) { s with tr := s.tr ++ [e] } where
  hc := h.hc
  ht := by have := h.ht; show 0 ≤ s.ti ∧ s.ti ≤ _; omega
  hl := by have := h.hl; show 0 ≤ s.la ∧ s.la ≤ _; omega
  hu := h.hu
  hk := h.hk
  hT := fun k h1 h2 => ⟨(h.hT k h1 h2).1.mono (by omega), (h.hT k h1 h2).2⟩
  hb := h.hb
  hr := by have := h.hr; show (s.tr ++ [e]).length ≤ _; rw [List.length_append, List.length_singleton]; omega
/-- What is set: without what goes ahead of it into the trace. -/
theorem kset_is0 (h : KI N n s) (hn : n ≤ 100000) (c : Nat → Int) (t : TT) :
    (kset_P c s.cl s.ti s.la s.m s.tr t.1 t.2.1 t.2.2.1 t.2.2.2.1 t.2.2.2.2.1 t.2.2.2.2.2.1 t.2.2.2.2.2.2.1 t.2.2.2.2.2.2.2.1 t.2.2.2.2.2.2.2.2.1 t.2.2.2.2.2.2.2.2.2.1 t.2.2.2.2.2.2.2.2.2.2.1 t.2.2.2.2.2.2.2.2.2.2.2) ∧ (kset_F c s.cl s.ti s.la s.m s.tr t.1 t.2.1 t.2.2.1 t.2.2.2.1 t.2.2.2.2.1 t.2.2.2.2.2.1 t.2.2.2.2.2.2.1 t.2.2.2.2.2.2.2.1 t.2.2.2.2.2.2.2.2.1 t.2.2.2.2.2.2.2.2.2.1 t.2.2.2.2.2.2.2.2.2.2.1 t.2.2.2.2.2.2.2.2.2.2.2) = ((setK s t).m, (setK s t).tr, (setK s t).cl) := by
  have := kset_is h hn c t [] (by simp)
  rw [List.append_nil] at this
  exact this
theorem kset_is1 (h : KI N n s) (hn : n ≤ 100000) (c : Nat → Int) (t : TT) (e : Nat → Int) :
    (kset_P c s.cl s.ti s.la s.m (s.tr ++ [e]) t.1 t.2.1 t.2.2.1 t.2.2.2.1 t.2.2.2.2.1 t.2.2.2.2.2.1 t.2.2.2.2.2.2.1 t.2.2.2.2.2.2.2.1 t.2.2.2.2.2.2.2.2.1 t.2.2.2.2.2.2.2.2.2.1 t.2.2.2.2.2.2.2.2.2.2.1 t.2.2.2.2.2.2.2.2.2.2.2) ∧ (kset_F c s.cl s.ti s.la s.m (s.tr ++ [e]) t.1 t.2.1 t.2.2.1 t.2.2.2.1 t.2.2.2.2.1 t.2.2.2.2.2.1 t.2.2.2.2.2.2.1 t.2.2.2.2.2.2.2.1 t.2.2.2.2.2.2.2.2.1 t.2.2.2.2.2.2.2.2.2.1 t.2.2.2.2.2.2.2.2.2.2.1 t.2.2.2.2.2.2.2.2.2.2.2) = ((setK { s with tr := s.tr ++ [e] } t).m, (setK { s with tr := s.tr ++ [e] } t).tr, (setK { s with tr := s.tr ++ [e] } t).cl) :=
  kset_is h hn c t [e] (by simp)
theorem ask_tx (t : TT) (x : Int) (a : Nat → Int) (m : Int) : (askT t x a m).1.1 = t.1 := by
  unfold askT askC
  split
  · split
    · split
      · rfl
      · split <;> rfl
    · rfl
  · rfl
theorem klock_is (h : KI N n s) (hn : n ≤ 100000) (c : Nat → Int) (hc : 1 ≤ c 0 ∧ c 0 ≤ 64) (id : Int) (a : Nat → Int) (m : Int) : klock_P c s.cl s.ti s.la s.m s.tr id a m ∧
    klock_F c s.cl s.ti s.la s.m s.tr id a m = ((lockK (c 0) N s id a m).1, (lockK (c 0) N s id a m).2.1, (lockK (c 0) N s id a m).2.2.m, (lockK (c 0) N s id a m).2.2.tr, (lockK (c 0) N s id a m).2.2.cl) := by
  obtain ⟨a1, a2⟩ := kalive_is h.hc c id
  have hr := h.hr
  unfold klock_P klock_F lockK
  rw [a2]
  by_cases ha : aliveC N s.cl id = 0
  · simp only [if_pos ha]
    obtain ⟨n1, n2⟩ := cnow_is h.hc ha
    rw [n2]
    by_cases h0 : s.cl (1 + id.toNat * 3) = 0
    · simp only [if_pos h0]
      have hx : ¬ (10 : Int) = 0 := by decide
      rw [if_neg hx, if_neg hx]
      exact ⟨⟨a1, n1, trivial⟩, rfl⟩
    · simp only [if_neg h0]
      rw [if_pos trivial, if_pos trivial]
      have hw := h.now ha h0
      have hT := (h.hT _ hw.1 hw.2).1
      have hP : resShard_P a (c 0) := by
        unfold resShard_P
        refine ite_intro (fun hok => ite_intro (fun _ => trivial) fun _ => ?_) fun _ => trivial
        unfold resOk_F at hok
        simp only [Bool.and_eq_true, decide_eq_true_eq] at hok
        have h3 := Int.tmod_nonneg (c 0) (a := a 0 - 1) (by omega)
        have h4 := Int.tmod_lt_of_pos (a 0 - 1) (b := c 0) (by omega)
        exact ⟨by unfold inI64; omega, by omega, by unfold inI64; omega, trivial⟩
      by_cases hs : (resShard_F a (c 0)).2 = 0
      · simp only [if_pos hs]
        obtain ⟨t1, t2⟩ := task_is hT (by omega) (resShard_F a (c 0)).1 a m
        have e0 : (mget ieq s.m (s.cl (1 + id.toNat * 3)) (0, 0, 0, 0, false, 0, (fun _ => 0), 0, [], [], [], [])) = tAt s.m (s.cl (1 + id.toNat * 3)) := rfl
        rw [e0, t2]
        have e1 : (askC (tAt s.m (s.cl (1 + id.toNat * 3))).1 (tAt s.m (s.cl (1 + id.toNat * 3))).2.1 (tAt s.m (s.cl (1 + id.toNat * 3))).2.2.1 (tAt s.m (s.cl (1 + id.toNat * 3))).2.2.2.1 (tAt s.m (s.cl (1 + id.toNat * 3))).2.2.2.2.1 (tAt s.m (s.cl (1 + id.toNat * 3))).2.2.2.2.2.1 (tAt s.m (s.cl (1 + id.toNat * 3))).2.2.2.2.2.2.1 (tAt s.m (s.cl (1 + id.toNat * 3))).2.2.2.2.2.2.2.1 (tAt s.m (s.cl (1 + id.toNat * 3))).2.2.2.2.2.2.2.2.1 (tAt s.m (s.cl (1 + id.toNat * 3))).2.2.2.2.2.2.2.2.2.1 (tAt s.m (s.cl (1 + id.toNat * 3))).2.2.2.2.2.2.2.2.2.2.1 (tAt s.m (s.cl (1 + id.toNat * 3))).2.2.2.2.2.2.2.2.2.2.2) (resShard_F a (c 0)).1 a m = askT (tAt s.m (s.cl (1 + id.toNat * 3))) (resShard_F a (c 0)).1 a m := rfl
        rw [e1]
        by_cases hz : (askT (tAt s.m (s.cl (1 + id.toNat * 3))) (resShard_F a (c 0)).1 a m).2.2 = 0
        · simp only [if_pos hz]
          obtain ⟨k1, k2⟩ := kset_is1 h hn c (askT (tAt s.m (s.cl (1 + id.toNat * 3))) (resShard_F a (c 0)).1 a m).1 (askE (askT (tAt s.m (s.cl (1 + id.toNat * 3))) (resShard_F a (c 0)).1 a m).1.1 a m)
          refine ⟨⟨a1, n1, hP, t1, by omega, k1, trivial⟩, ?_⟩
          unfold askE at k2
          rw [k2]
          rfl
        · simp only [if_neg hz]
          exact ⟨⟨a1, n1, hP, t1, trivial⟩, trivial⟩
      · simp only [if_neg hs]
        exact ⟨⟨a1, n1, hP, trivial⟩, trivial⟩
  · simp only [if_neg ha]
    exact ⟨⟨a1, trivial⟩, trivial⟩
theorem lockK_KI (h : KI N n s) (sh id : Int) (a : Nat → Int) (m : Int) : KI N (n + 2) (lockK sh N s id a m).2.2 := by
  unfold lockK
  by_cases ha : aliveC N s.cl id = 0
  · rw [if_pos ha]
    by_cases h0 : s.cl (1 + id.toNat * 3) = 0
    · rw [if_pos h0]; exact h.mono (by omega)
    · rw [if_neg h0]
      by_cases hs : (resShard_F a sh).2 = 0
      · rw [if_pos hs]
        have hw := h.now ha h0
        obtain ⟨hT, hx⟩ := h.hT _ hw.1 hw.2
        have hq := askC_TI hT (resShard_F a sh).1 a m
        by_cases hz : (askT (tAt s.m (s.cl (1 + id.toNat * 3))) (resShard_F a sh).1 a m).2.2 = 0
        · rw [if_pos hz]
          have ht := ask_tx (tAt s.m (s.cl (1 + id.toNat * 3))) (resShard_F a sh).1 a m
          refine (h.ext _).put (TIT.mono hq (by omega)) ?_ ?_
          · show 1 ≤ (askT (tAt s.m (s.cl (1 + id.toNat * 3))) (resShard_F a sh).1 a m).1.1
            rw [ht, hx]; exact hw.1
          · show (askT (tAt s.m (s.cl (1 + id.toNat * 3))) (resShard_F a sh).1 a m).1.1 ≤ s.la
            rw [ht, hx]; exact hw.2
        · rw [if_neg hz]; exact h.mono (by omega)
      · rw [if_neg hs]; exact h.mono (by omega)
  · rw [if_neg ha]; exact h.mono (by omega)
theorem kcommit_is (h : KI N n s) (hn : n ≤ 100000) (c : Nat → Int) (id : Int) : kcommit_P c s.cl s.ti s.la s.m s.tr id ∧
    kcommit_F c s.cl s.ti s.la s.m s.tr id = ((commitK N s id).1, (commitK N s id).2.1, (commitK N s id).2.2.m, (commitK N s id).2.2.tr, (commitK N s id).2.2.cl) := by
  obtain ⟨a1, a2⟩ := kalive_is h.hc c id
  unfold kcommit_P kcommit_F commitK doneK
  rw [a2]
  by_cases ha : aliveC N s.cl id = 0
  · simp only [if_pos ha]
    obtain ⟨n1, n2⟩ := cnow_is h.hc ha
    rw [n2]
    by_cases h0 : s.cl (1 + id.toNat * 3) = 0
    · simp only [if_pos h0]
      have hx : ¬ (10 : Int) = 0 := by decide
      rw [if_neg hx, if_neg hx]
      exact ⟨⟨a1, n1, trivial⟩, rfl⟩
    · simp only [if_neg h0]
      rw [if_pos trivial, if_pos trivial]
      have hw := h.now ha h0
      have hT := (h.hT _ hw.1 hw.2).1
      obtain ⟨t1, t2⟩ := tfinish_is hT (by omega)
      have e0 : (mget ieq s.m (s.cl (1 + id.toNat * 3)) (0, 0, 0, 0, false, 0, (fun _ => 0), 0, [], [], [], [])) = tAt s.m (s.cl (1 + id.toNat * 3)) := rfl
      rw [e0, t2]
      have e1 : (finC (tAt s.m (s.cl (1 + id.toNat * 3))).1 (tAt s.m (s.cl (1 + id.toNat * 3))).2.1 (tAt s.m (s.cl (1 + id.toNat * 3))).2.2.1 (tAt s.m (s.cl (1 + id.toNat * 3))).2.2.2.1 (tAt s.m (s.cl (1 + id.toNat * 3))).2.2.2.2.1 (tAt s.m (s.cl (1 + id.toNat * 3))).2.2.2.2.2.1 (tAt s.m (s.cl (1 + id.toNat * 3))).2.2.2.2.2.2.1 (tAt s.m (s.cl (1 + id.toNat * 3))).2.2.2.2.2.2.2.1 (tAt s.m (s.cl (1 + id.toNat * 3))).2.2.2.2.2.2.2.2.1 (tAt s.m (s.cl (1 + id.toNat * 3))).2.2.2.2.2.2.2.2.2.1 (tAt s.m (s.cl (1 + id.toNat * 3))).2.2.2.2.2.2.2.2.2.2.1 (tAt s.m (s.cl (1 + id.toNat * 3))).2.2.2.2.2.2.2.2.2.2.2) = finT (tAt s.m (s.cl (1 + id.toNat * 3))) := rfl
      rw [e1]
      by_cases hz : (finT (tAt s.m (s.cl (1 + id.toNat * 3)))).2.2 = 0
      · simp only [if_pos hz]
        obtain ⟨k1, k2⟩ := kset_is0 h hn c (finT (tAt s.m (s.cl (1 + id.toNat * 3)))).1
        refine ⟨⟨a1, n1, t1, k1, trivial⟩, ?_⟩
        rw [k2]
      · simp only [if_neg hz]
        exact ⟨⟨a1, n1, t1, trivial⟩, trivial⟩
  · simp only [if_neg ha]
    exact ⟨⟨a1, trivial⟩, trivial⟩
end
end Go.E
