/- The coordinator: what each call does, in plain words. -/
import Derived.Test.YtljklmlodfbdnaaGreatP18g
namespace Go.E
open Go
set_option linter.unusedVariables false
set_option linter.unusedSimpArgs false
set_option maxRecDepth 100000
def askT (t : TT) (s : Int) (a : Nat → Int) (m : Int) := (askC t.1 t.2.1 t.2.2.1 t.2.2.2.1 t.2.2.2.2.1 t.2.2.2.2.2.1 t.2.2.2.2.2.2.1 t.2.2.2.2.2.2.2.1 t.2.2.2.2.2.2.2.2.1 t.2.2.2.2.2.2.2.2.2.1 t.2.2.2.2.2.2.2.2.2.2.1 t.2.2.2.2.2.2.2.2.2.2.2) s a m
def finT (t : TT) := (finC t.1 t.2.1 t.2.2.1 t.2.2.2.1 t.2.2.2.2.1 t.2.2.2.2.2.1 t.2.2.2.2.2.2.1 t.2.2.2.2.2.2.2.1 t.2.2.2.2.2.2.2.2.1 t.2.2.2.2.2.2.2.2.2.1 t.2.2.2.2.2.2.2.2.2.2.1 t.2.2.2.2.2.2.2.2.2.2.2)
def newT (tx : Int) : TT := (tx, 1, 0, 0, false, 0, (fun _ => 0), 0, [], [], [], [])
def aliveC (N : Int) (c : Nat → Int) (id : Int) : Int := if id < 1 ∨ N < id then 10 else if nz (c (1 + (id.toNat * 3 + 2))) = true then 11 else 0
def beginK (N : Int) (s : KS) (id : Int) : Int × Int × KS :=
  if aliveC N s.cl id = 0 then
    if s.cl (1 + id.toNat * 3) = 0 then (s.la + 1, 0, ⟨updI s.cl (1 + id.toNat * 3) (s.la + 1), s.ti, s.la + 1, mset ieq s.m (s.la + 1) (newT (s.la + 1)), s.tr ++ [updI (updI (updI (fun _ => 0) 0 1) 1 id) 2 (s.la + 1)]⟩)
    else (0, 8, s)
  else (0, aliveC N s.cl id, s)
def askE (tx : Int) (a : Nat → Int) (m : Int) : Nat → Int := updI (updRI (updI (updI (fun _ => 0) 0 2) 2 tx) 3 2 a) 5 m
def lockK (sh N : Int) (s : KS) (id : Int) (a : Nat → Int) (m : Int) : List (Nat → Int) × Int × KS :=
  if aliveC N s.cl id = 0 then
    if s.cl (1 + id.toNat * 3) = 0 then ([], 10, s)
    else if (resShard_F a sh).2 = 0 then
      if (askT (tAt s.m (s.cl (1 + id.toNat * 3))) (resShard_F a sh).1 a m).2.2 = 0 then
        ((askT (tAt s.m (s.cl (1 + id.toNat * 3))) (resShard_F a sh).1 a m).2.1, 0, setK { s with tr := s.tr ++ [askE (askT (tAt s.m (s.cl (1 + id.toNat * 3))) (resShard_F a sh).1 a m).1.1 a m] } (askT (tAt s.m (s.cl (1 + id.toNat * 3))) (resShard_F a sh).1 a m).1)
      else ([], (askT (tAt s.m (s.cl (1 + id.toNat * 3))) (resShard_F a sh).1 a m).2.2, s)
    else ([], 1, s)
  else ([], aliveC N s.cl id, s)
def doneK (s : KS) (r : TT × List (Nat → Int) × Int) : List (Nat → Int) × Int × KS := if r.2.2 = 0 then (r.2.1, 0, setK s r.1) else ([], r.2.2, s)
def commitK (N : Int) (s : KS) (id : Int) : List (Nat → Int) × Int × KS :=
  if aliveC N s.cl id = 0 then
    if s.cl (1 + id.toNat * 3) = 0 then ([], 10, s)
    else doneK s (finT (tAt s.m (s.cl (1 + id.toNat * 3))))
  else ([], aliveC N s.cl id, s)
section
variable {N : Int} {n : Nat} {s : KS}
theorem kalive_is (h : Inv16 N s.cl) (c : Nat → Int) (id : Int) : kalive_P c s.cl s.ti s.la s.m s.tr id ∧ kalive_F c s.cl s.ti s.la s.m s.tr id = (aliveC N s.cl id, s.cl) := by
  obtain ⟨b1, b2⟩ := begin_eq h id 1048576
  have hn := h.n1
  unfold kalive_P kalive_F aliveC calive_P calive_F
  rw [h.c0, b2]
  simp only [Bool.or_eq_true, decide_eq_true_eq, Nat.add_assoc]
  by_cases h1 : id < 1 ∨ N < id
  · simp only [if_pos h1]
    rw [if_neg Bool.false_ne_true, if_neg Bool.false_ne_true]
    exact ⟨⟨trivial, b1, by unfold errIs_P; decide, ite_intro (fun _ => trivial) fun _ => trivial⟩, rfl⟩
  · simp only [if_neg h1]
    have h3 : ¬ ((1048576 : Int) < 1 ∨ (1048576 : Int) < 1048576) := by omega
    by_cases h2 : nz (s.cl (1 + (id.toNat * 3 + 2))) = true
    · simp only [if_neg h3, if_pos h2, h2, Bool.not_true]
      rw [if_neg Bool.false_ne_true, if_neg Bool.false_ne_true]
      exact ⟨⟨⟨⟨by omega, by omega⟩, trivial⟩, b1, by unfold errIs_P; decide, ite_intro (fun _ => trivial) fun _ => trivial⟩, rfl⟩
    · rw [Bool.not_eq_true] at h2
      simp only [h2, Bool.not_false]
      rw [if_pos trivial, if_pos trivial, if_neg Bool.false_ne_true]
      exact ⟨⟨⟨⟨by omega, by omega⟩, trivial⟩, trivial⟩, rfl⟩
theorem aliveC_0 {c : Nat → Int} {id : Int} : aliveC N c id = 0 ↔ ¬ (id < 1 ∨ N < id) ∧ ¬ nz (c (1 + (id.toNat * 3 + 2))) = true := by
  unfold aliveC
  by_cases h1 : id < 1 ∨ N < id
  · rw [if_pos h1]; exact ⟨fun h => (by cases h), fun h => absurd h1 h.1⟩
  · rw [if_neg h1]
    by_cases h2 : nz (c (1 + (id.toNat * 3 + 2))) = true
    · rw [if_pos h2]; exact ⟨fun h => (by cases h), fun h => absurd h2 h.2⟩
    · rw [if_neg h2]; exact ⟨fun _ => ⟨h1, h2⟩, fun _ => rfl⟩
theorem cnow_is (h : Inv16 N s.cl) {id : Int} (ha : aliveC N s.cl id = 0) : cnow_P s.cl id ∧ cnow_F s.cl id = if s.cl (1 + id.toNat * 3) = 0 then (0, 10) else (s.cl (1 + id.toNat * 3), 0) := by
  have hn := h.n1
  have h1 := (aliveC_0.1 ha).1
  unfold cnow_P cnow_F
  rw [h.c0]
  simp only [Bool.or_eq_true, decide_eq_true_eq]
  rw [if_neg h1, if_neg h1]
  exact ⟨⟨⟨by omega, by omega⟩, ite_intro (fun _ => trivial) fun _ => trivial⟩, rfl⟩
theorem cof_new (h : KI N n s) : cofI s.cl (s.la + 1) = 0 := by
  rcases h.hc.of (s.la + 1) with ⟨h1, _⟩ | ⟨j, h1, h2, h3, h4⟩
  · exact h1
  · have hn := h.hc.n1
    have := (h.hb j (by omega) (by omega)).2.1
    omega
theorem kbegin_is (h : KI N n s) (hn : n ≤ 100000) (c : Nat → Int) (id : Int) : kbegin_P c s.cl s.ti s.la s.m s.tr id ∧
    kbegin_F c s.cl s.ti s.la s.m s.tr id = ((beginK N s id).1, (beginK N s id).2.1, (beginK N s id).2.2.la, (beginK N s id).2.2.m, (beginK N s id).2.2.tr, (beginK N s id).2.2.cl) := by
  obtain ⟨a1, a2⟩ := kalive_is h.hc c id
  have hl := h.hl
  have hr := h.hr
  unfold kbegin_P kbegin_F beginK
  rw [a2]
  by_cases ha : aliveC N s.cl id = 0
  · simp only [if_pos ha]
    obtain ⟨n1, n2⟩ := cnow_is h.hc ha
    obtain ⟨b1, b2⟩ := begin_eq h.hc id (s.la + 1)
    have e1 := (aliveC_0.1 ha).1
    have e2 := (aliveC_0.1 ha).2
    have et : tnew_F (s.la + 1) = (newT (s.la + 1), 0) := by
      rw [tnew_is, if_pos (by omega)]
      rfl
    rw [n2, et]
    by_cases h0 : s.cl (1 + id.toNat * 3) = 0
    · simp only [if_pos h0]
      rw [if_neg e1, if_neg (by omega), if_neg e2, if_pos h0, if_pos (cof_new h)] at b2
      have hx : ¬ (10 : Int) = 0 := by decide
      rw [if_neg hx, if_neg hx, if_pos trivial, if_pos trivial]
      have e3 : (newT (s.la + 1)).1 = s.la + 1 := rfl
      rw [e3, b2]
      exact ⟨⟨a1, n1, by unfold inI64; omega, by unfold inI64; omega, b1, by omega, trivial⟩, rfl⟩
    · simp only [if_neg h0]
      rw [if_pos trivial, if_pos trivial]
      exact ⟨⟨a1, n1, trivial⟩, rfl⟩
  · simp only [if_neg ha]
    exact ⟨⟨a1, trivial⟩, trivial⟩
theorem newT_TIT {t : Int} (h : 1 ≤ t ∧ t ≤ 1048576) : TIT 0 (newT t) := new_TI h
theorem beginK_KI (h : KI N n s) (hn : n ≤ 100000) (id : Int) : KI N (n + 1) (beginK N s id).2.2 := by
  have hl := h.hl
  have hr := h.hr
  have hN := h.hc.n1
  unfold beginK
  by_cases ha : aliveC N s.cl id = 0
  · rw [if_pos ha]
    by_cases h0 : s.cl (1 + id.toNat * 3) = 0
    · rw [if_pos h0]
      have e1 := (aliveC_0.1 ha).1
      have hid := h.hc.toN e1
      refine ⟨h.hc.put hid.1 (by omega) fun _ j j1 j2 e => ?_, ?_, ?_, uniq_mset h.hu _ _, fun k => ?_, fun k k1 k2 => ?_, fun j hj hne => ?_, ?_⟩
      · have := h.hb j j2 (by omega); omega
      · have := h.ht; show 0 ≤ s.ti ∧ s.ti ≤ _; omega
      · show 0 ≤ s.la + 1 ∧ s.la + 1 ≤ _; omega
      · show mhas ieq (mset ieq s.m (s.la + 1) _) k = true ↔ 1 ≤ k ∧ k ≤ s.la + 1
        rw [mhas_mset eqk_int, Bool.or_eq_true, h.hk]
        simp [ieq]
        omega
      · show TIT _ (tAt (mset ieq s.m (s.la + 1) _) k) ∧ (tAt (mset ieq s.m (s.la + 1) _) k).1 = k
        have k2' : k ≤ s.la + 1 := k2
        rw [tAt_mset]
        by_cases e : k = s.la + 1
        · rw [if_pos e]; exact ⟨(newT_TIT (by omega)).mono (by omega), e.symm⟩
        · rw [if_neg e]
          have := h.hT k k1 (by omega)
          exact ⟨this.1.mono (by omega), this.2⟩
      · show 1 ≤ updI s.cl (1 + id.toNat * 3) (s.la + 1) (1 + j * 3) ∧ updI s.cl (1 + id.toNat * 3) (s.la + 1) (1 + j * 3) ≤ s.la + 1 ∧ (tAt (mset ieq s.m (s.la + 1) _) (updI s.cl (1 + id.toNat * 3) (s.la + 1) (1 + j * 3))).2.1 ≤ 2
        have hne' : updI s.cl (1 + id.toNat * 3) (s.la + 1) (1 + j * 3) ≠ 0 := hne
        rw [up_tx] at hne' ⊢
        rw [tAt_mset]
        by_cases e : j = id.toNat
        · rw [if_pos e, if_pos rfl]; exact ⟨by omega, by omega, by show (1 : Int) ≤ 2; omega⟩
        · rw [if_neg e] at hne' ⊢
          have := h.hb j hj hne'
          rw [if_neg (by omega)]
          exact ⟨this.1, by omega, this.2.2⟩
      · show (s.tr ++ [_]).length ≤ _
        rw [List.length_append, List.length_singleton]; omega
    · rw [if_neg h0]; exact h.mono (by omega)
  · rw [if_neg ha]; exact h.mono (by omega)
end
end Go.E
