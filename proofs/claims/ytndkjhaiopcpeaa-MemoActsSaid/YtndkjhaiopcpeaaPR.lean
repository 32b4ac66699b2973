/- The reference's word on a message is the program's. -/
import Derived.Test.YtndkjhaiopcpeaaMRS
import Derived.Test.YtndkjhaiopcpeaaEB
namespace Go.E
open Go
theorem num_eq (n : Int) : number_F n = txB n := by
  simp only [number_F, txB, inB]
  rw [show decide (0 < n) = decide (1 ≤ n) from decide_eq_decide.2 (by omega)]
theorem ref_l2_wh (m : Nat → Int) (i : Nat) (hi : i < 8) : Wh (fun (s : Int) (o : Int ⊕ (Unit ⊕ Unit)) => ref04Ok_l2 m (i : Int) s o) 0 (if (List.range i).all (newF m i) = true then .inl () else .inr ()) := by
  refine Wh.all i (newF m i) _ _ (fun k hk hp => ?_) (fun k hk hp => ?_) ?_
  · unfold ref04Ok_l2
    rw [if_pos (by omega)]
    refine ⟨by omega, by omega, ?_⟩
    simp only [newF, Bool.not_eq_true', decide_eq_false_iff_not] at hp
    rw [if_neg (by simpa using hp)]
    exact ⟨imin (by omega), rfl⟩
  · unfold ref04Ok_l2
    rw [if_pos (by omega)]
    refine ⟨by omega, by omega, ?_⟩
    simp only [newF, Bool.not_eq_false', decide_eq_true_eq] at hp
    rw [if_pos (by simpa using hp)]
  · unfold ref04Ok_l2
    rw [if_neg (by omega)]
theorem ref_l1_wh (m : Nat → Int) : Wh (fun (s : Int) (o : Int ⊕ (Unit ⊕ Unit)) => ref04Ok_l1 m s o) 0 (if (List.range 8).all (stepF m) = true then .inl () else .inr ()) := by
  have key : ∀ k : Nat, k < 8 → ref04Ok_l1 m k (if stepF m k = true then .inl ((k : Int) + 1) else .inr (.inr ())) := by
    intro k hk
    unfold ref04Ok_l1
    rw [if_pos (by omega)]
    rw [step_eq]
    unfold stepB
    simp only [Int.toNat_natCast, num_eq]
    by_cases h1 : m 11 ≤ k
    · rw [if_pos h1, if_pos h1]
      refine ⟨by omega, fun _ => by omega, ?_⟩
      simp only [Nat.add_zero]
      by_cases h2 : m (12 + k * 2) = 0
      · by_cases h3 : m (12 + k * 2 + 1) = 0
        · rw [if_neg (by simp [h2, h3]), if_pos (by simp [h2]; simpa [Nat.add_assoc] using h3)]
          exact ⟨imin (by omega), rfl⟩
        · rw [if_pos (by simp [h3]), if_neg (by simp [h2]; simpa [Nat.add_assoc] using h3)]
      · rw [if_pos (by simp [h2]), if_neg (by simp [h2])]
    · rw [if_neg h1, if_neg h1]
      refine ⟨by omega, fun _ => by omega, ?_⟩
      simp only [Nat.add_zero]
      by_cases h2 : txB (m (12 + k * 2)) = true
      · by_cases h3 : txB (m (12 + k * 2 + 1)) = true
        · have h3' : inB (m (12 + (k * 2 + 1))) 1 1048576 = true := h3
          rw [if_neg (by simp [h2, h3])]
          refine ⟨_, ref_l2_wh m k hk, ?_⟩
          have hn : newB m k k = (List.range k).all (newF m k) := by unfold newB; rw [newF_eq]
          by_cases h4 : (List.range k).all (newF m k) = true
          · rw [if_pos h4, if_pos (by rw [h2, h3', hn, h4]; rfl)]
            exact ⟨imin (by omega), rfl⟩
          · rw [if_neg h4, if_neg (by rw [h2, h3', hn]; simpa using h4)]
            rfl
        · have h3' : ¬ inB (m (12 + (k * 2 + 1))) 1 1048576 = true := h3
          rw [if_pos (by simp [h3]), if_neg (by simp [h3'])]
      · rw [if_pos (by simp [h2]), if_neg (by simp [h2])]
  refine Wh.all 8 (stepF m) _ _ (fun k hk hp => ?_) (fun k hk hp => ?_) ?_
  · have := key k hk; rwa [if_pos hp] at this
  · have := key k hk; rwa [if_neg (by simp [hp])] at this
  · unfold ref04Ok_l1
    rw [if_neg (by omega)]
/-- Where may a message of a kind go. -/
theorem ways_eq (m : Nat → Int) (h1 : 1 ≤ m 0) (h2 : m 0 ≤ 11) : (((((decide (strAt (⟨#[111, 98, 98, 111, 98, 111, 98, 111, 98, 98, 101]⟩ : ByteArray) ((m 0) - 1) = 111)) && (!(((decide (m 1 = 0)) && (decide (1 ≤ m 2))) && (decide (m 2 ≤ 64))))) || ((decide (strAt (⟨#[111, 98, 98, 111, 98, 111, 98, 111, 98, 98, 101]⟩ : ByteArray) ((m 0) - 1) = 98)) && (!(((decide (m 2 = 0)) && (decide (1 ≤ m 1))) && (decide (m 1 ≤ 64)))))) || ((!(((decide (m 1 = 0)) && (decide (1 ≤ m 2))) && (decide (m 2 ≤ 64)))) && (!(((decide (m 2 = 0)) && (decide (1 ≤ m 1))) && (decide (m 1 ≤ 64))))))) = !endsB m := by
  have hs : ∀ k : Nat, k < 11 → strAt (⟨#[111, 98, 98, 111, 98, 111, 98, 111, 98, 98, 101]⟩ : ByteArray) (((k : Int) + 1) - 1) = if k = 0 ∨ k = 3 ∨ k = 5 ∨ k = 7 then 111 else if k = 10 then 101 else 98 := by decide +kernel
  obtain ⟨k, hk, e⟩ : ∃ k : Nat, k < 11 ∧ m 0 = (k : Int) + 1 := ⟨(m 0 - 1).toNat, by omega, by omega⟩
  rw [e, hs k hk]
  unfold endsB shB inB
  rw [e]
  rcases (show k = 0 ∨ k = 1 ∨ k = 2 ∨ k = 3 ∨ k = 4 ∨ k = 5 ∨ k = 6 ∨ k = 7 ∨ k = 8 ∨ k = 9 ∨ k = 10 by omega) with rfl | rfl | rfl | rfl | rfl | rfl | rfl | rfl | rfl | rfl | rfl
  all_goals (rw [Bool.eq_iff_iff]; simp; try omega)
  by_cases h0 : m 1 = 0
  · simp [h0]; omega
  · simp [h0]; omega
end Go.E
namespace Go.E
open Go
set_option maxHeartbeats 4000000
set_option linter.unusedSimpArgs false
theorem okB_kind {m : Nat → Int} (h : okB m = true) : 1 ≤ m 0 ∧ m 0 ≤ 11 := by
  have := (okB_rng h).1
  unfold okB mayB at h
  simp only [Bool.and_eq_true] at h
  obtain ⟨⟨_, hm⟩, _⟩ := h
  repeat' split at hm
  all_goals first | omega | cases hm
def oth (m : Nat → Int) : Prop :=
  ((m 0 = 1 ∨ m 0 = 2) ∧ (1 ≤ m 5 ∧ m 5 ≤ 250 ∧ 0 ≤ m 6 ∧ m 6 ≤ 250) ∧ (1 ≤ m 7 ∧ m 7 ≤ 4) ∧ (1 ≤ m 4 ∧ m 4 ≤ 1048576) ∧ (1 ≤ m 3 ∧ m 3 ≤ 1048576) ∧ (m 8 = 0 ∧ m 9 = 0)) ∨
  (m 0 = 3 ∧ (1 ≤ m 4 ∧ m 4 ≤ 1048576) ∧ (1 ≤ m 8 ∧ m 8 ≤ 15) ∧ (1 ≤ m 3 ∧ m 3 ≤ 1048576) ∧ (m 5 = 0 ∧ m 6 = 0 ∧ m 7 = 0 ∧ m 9 = 0)) ∨
  ((m 0 = 5 ∨ m 0 = 6) ∧ (0 ≤ m 8 ∧ m 8 ≤ 1) ∧ (1 ≤ m 3 ∧ m 3 ≤ 1048576) ∧ (m 4 = 0 ∧ m 5 = 0 ∧ m 6 = 0 ∧ m 7 = 0 ∧ m 9 = 0)) ∨
  ((m 0 = 4 ∨ m 0 = 7 ∨ m 0 = 8 ∨ m 0 = 9) ∧ (1 ≤ m 3 ∧ m 3 ≤ 1048576) ∧ (m 4 = 0 ∧ m 5 = 0 ∧ m 6 = 0 ∧ m 7 = 0 ∧ m 8 = 0 ∧ m 9 = 0)) ∨
  (m 0 = 10 ∧ (1 ≤ m 3 ∧ m 3 ≤ 1048576) ∧ (1 ≤ m 9 ∧ m 9 ≤ 1048576) ∧ m 9 < m 3 ∧ (m 4 = 0 ∧ m 5 = 0 ∧ m 6 = 0 ∧ m 7 = 0 ∧ m 8 = 0))
def zt (m : Nat → Int) : Prop := m 10 = 0 ∧ m 11 = 0 ∧ m 12 = 0 ∧ m 13 = 0 ∧ m 14 = 0 ∧ m 15 = 0 ∧ m 16 = 0 ∧ m 17 = 0 ∧ m 18 = 0 ∧ m 19 = 0 ∧ m 20 = 0 ∧ m 21 = 0 ∧ m 22 = 0 ∧ m 23 = 0 ∧ m 24 = 0 ∧ m 25 = 0 ∧ m 26 = 0 ∧ m 27 = 0
theorem okB_oth (m : Nat → Int) (h : m 0 ≠ 11) : okB m = true ↔ endsB m = true ∧ oth m ∧ zt m := by
  unfold okB mayB mayZ headM
  generalize endsB m = E
  cases E
  · simp
  simp only [Bool.true_and, true_and]
  by_cases h1 : m 0 = 1 ∨ m 0 = 2
  · simp only [if_pos h1, Bool.and_eq_true, eqN_iff, all28, updI, updRI, resB, inB, txB, decide_eq_true_eq]
    simp [oth, zt]
    omega
  by_cases h2 : m 0 = 3
  · simp only [if_neg h1, if_pos h2, Bool.and_eq_true, eqN_iff, all28, updI, updRI, resB, inB, txB, decide_eq_true_eq]
    simp [oth, zt]
    omega
  by_cases h3 : m 0 = 5 ∨ m 0 = 6
  · simp only [if_neg h1, if_neg h2, if_pos h3, Bool.and_eq_true, eqN_iff, all28, updI, updRI, resB, inB, txB, decide_eq_true_eq]
    simp [oth, zt]
    omega
  by_cases h4 : m 0 = 4 ∨ m 0 = 7 ∨ m 0 = 8 ∨ m 0 = 9
  · simp only [if_neg h1, if_neg h2, if_neg h3, if_pos h4, Bool.and_eq_true, eqN_iff, all28, updI, updRI, resB, inB, txB, decide_eq_true_eq]
    simp [oth, zt]
    omega
  by_cases h5 : m 0 = 10
  · simp only [if_neg h1, if_neg h2, if_neg h3, if_neg h4, if_pos h5, Bool.and_eq_true, eqN_iff, all28, updI, updRI, resB, inB, txB, decide_eq_true_eq]
    simp [oth, zt]
    omega
  · simp only [if_neg h1, if_neg h2, if_neg h3, if_neg h4, if_neg h5, if_neg h]
    simp [oth]
    omega
theorem boolEq {a b : Bool} (h : a = true ↔ b = true) : a = b := Bool.eq_iff_iff.2 h
theorem notB {a : Bool} (h : ¬ a = true) : a = false := by simpa using h
theorem ref04Ok_ok (m : Nat → Int) : ref04Ok_S m (okB m) := by
  unfold ref04Ok_S
  by_cases h0 : (decide (m 0 < 1) || decide (11 < m 0)) = true
  · rw [if_pos h0]
    refine notB fun h => ?_
    have := okB_kind h
    simp at h0; omega
  · rw [if_neg h0]
    have h1 : 1 ≤ m 0 ∧ m 0 ≤ 11 := by simp at h0; omega
    refine ⟨⟨by omega, by omega⟩, ⟨by omega, by show m 0 - 1 < 11; omega⟩, ?_⟩
    rw [ways_eq m h1.1 h1.2]
    by_cases he : endsB m = true
    · rw [if_neg (by simp [he])]
      by_cases h11 : m 0 = 11
      · rw [if_pos h11]
        have hm : okB m = (pathB m && eqN 28 (mayZ m) (headM m)) := by
          unfold okB mayB
          rw [he, Bool.true_and]
          rw [if_neg (by omega), if_neg (by omega), if_neg (by omega), if_neg (by omega), if_neg (by omega), if_pos h11]
        rw [hm]
        have hz : mayZ m = updRI (updI (updI (updI m 11 0) 9 0) 10 0) 12 16 (fun _ => 0) := by
          unfold mayZ
          rw [if_neg (by omega), if_neg (by omega), if_neg (by omega), if_neg (by omega), if_neg (by omega), if_pos h11]
        by_cases hg : (decide (m 11 < 1) || decide (8 < m 11) || (!number_F (m 9)) || decide (m 10 < 0) || decide (1048576 < m 10)) = true
        · rw [if_pos hg]
          refine notB fun h => ?_
          simp only [Bool.and_eq_true, pathB, inB, txB, decide_eq_true_eq] at h
          rw [num_eq] at hg
          simp [txB, inB] at hg
          omega
        · rw [if_neg hg]
          refine ⟨_, ref_l1_wh m, ?_⟩
          have hp : pathB m = (List.range 8).all (stepF m) := by
            unfold pathB
            rw [show stepF m = stepB m from funext (step_eq m)]
            have : (inB (m 11) 1 8 && txB (m 9) && inB (m 10) 0 1048576) = true := by
              rw [num_eq] at hg
              simp [txB, inB] at hg ⊢
              omega
            rw [this, Bool.true_and]
          rw [hp]
          by_cases ha : (List.range 8).all (stepF m) = true
          · rw [if_pos ha, ha, Bool.true_and, hz]
            refine boolEq ?_
            simp only [eqN_iff, all28, updI, updRI, headM]
            simp
          · rw [if_neg ha, notB ha]; rfl
      · rw [if_neg h11]
        have hk := okB_oth m h11
        rw [he] at hk
        simp only [true_and] at hk
        clear h0
        simp only [num_eq, ref02Ok_F, Nat.add_zero]
        have hkind : m 0 = 1 ∨ m 0 = 2 ∨ m 0 = 3 ∨ m 0 = 4 ∨ m 0 = 5 ∨ m 0 = 6 ∨ m 0 = 7 ∨ m 0 = 8 ∨ m 0 = 9 ∨ m 0 = 10 := by omega
        have hf : ∀ {A : Prop}, (¬ A) → (okB m = true ↔ A ∧ zt m) → okB m = false := fun ha h => notB fun hh => ha (h.1 hh).1
        have hg : ∀ {A Z : Prop} {g : Nat → Int}, (okB m = true ↔ A ∧ zt m) → (eqN 28 m g = true ↔ Z ∧ zt m) → (A ↔ Z) → okB m = eqN 28 m g := fun h1 h2 h3 => boolEq (by rw [h1, h2, h3])
        clear h1 h11 he
        rcases hkind with e | e | e | e | e | e | e | e | e | e
        all_goals
          simp only [oth, e] at hk
          simp only [e]
          simp only [Int.reduceLE, Int.reduceEq, decide_true, decide_false, Bool.or_false, Bool.or_true, Bool.false_eq_true, if_true, if_false, reduceIte, or_false, or_true, false_or, true_or, false_and, true_and] at hk ⊢
          repeat' (refine ite_intro (fun _ => ?_) (fun _ => ?_))
          all_goals first
            | (refine hf ?_ hk; simp [txB, inB] at *; omega)
            | (refine hg (Z := m 4 = 0 ∧ m 5 = 0 ∧ m 6 = 0 ∧ m 7 = 0 ∧ m 8 = 0 ∧ m 9 = 0) hk ?_ ?_
               · simp only [eqN_iff, all28, updI, updRI, zt]; simp [e]; try omega
               · simp [txB, inB] at *; omega)
            | (refine hg (Z := m 5 = 0 ∧ m 6 = 0 ∧ m 7 = 0 ∧ m 9 = 0) hk ?_ ?_
               · simp only [eqN_iff, all28, updI, updRI, zt]; simp [e]; try omega
               · simp [txB, inB] at *; omega)
            | (refine hg (Z := m 4 = 0 ∧ m 5 = 0 ∧ m 6 = 0 ∧ m 7 = 0 ∧ m 9 = 0) hk ?_ ?_
               · simp only [eqN_iff, all28, updI, updRI, zt]; simp [e]; try omega
               · simp [txB, inB] at *; omega)
            | (refine hg (Z := m 4 = 0 ∧ m 5 = 0 ∧ m 6 = 0 ∧ m 7 = 0 ∧ m 8 = 0) hk ?_ ?_
               · simp only [eqN_iff, all28, updI, updRI, zt]; simp [e]; try omega
               · simp [txB, inB] at *; omega)
            | (refine hg (Z := m 8 = 0 ∧ m 9 = 0) hk ?_ ?_
               · simp only [eqN_iff, all28, updI, updRI, zt]; simp [e]; try omega
               · simp [txB, inB] at *; omega)
    · rw [if_pos (by simp [he])]
      unfold okB
      rw [notB he]; rfl
end Go.E
