/- Part 9 of the proof. -/
import Derived.Test.YtljklmlodfbdnaaGreatJ5
set_option maxHeartbeats 1000000
set_option maxRecDepth 100000
set_option linter.unusedVariables false
set_option linter.unusedSimpArgs false
set_option linter.unusedSectionVars false
namespace Go.E
open Go
def nextK (c : Nat → Int) (N : Int) (s : KS) (a : Nat → Int) : KS :=
  if a 0 = 0 then (lockK (c 0) N s (a 1) (fun i => a (2 + i)) (a 4)).2.2
  else if a 0 = 1 then (commitK N s (a 1)).2.2
  else if a 0 = 2 then (abortCK N s (a 1)).2.2
  else if a 0 = 3 then (crashK N s (a 1)).2
  else if a 0 = 4 then (beginK N s (a 1)).2.2
  else if a 0 = 5 then (handleK (c 0) (nz (c 1)) s (fun i => a (5 + i))).2.2
  else if a 0 = 6 then (tickK c s).2
  else s
def sentK (c : Nat → Int) (N : Int) (s : KS) (a : Nat → Int) : LM :=
  if a 0 = 0 then (lockK (c 0) N s (a 1) (fun i => a (2 + i)) (a 4)).1
  else if a 0 = 1 then (commitK N s (a 1)).1
  else if a 0 = 2 then (abortCK N s (a 1)).1
  else if a 0 = 5 then (handleK (c 0) (nz (c 1)) s (fun i => a (5 + i))).1
  else if a 0 = 6 then (tickK c s).1
  else []
section
variable {N : Int} {n : Nat} {s : KS}
theorem nextK_KI (h : KI N n s) (hn : n ≤ 90000) (c : Nat → Int) (a : Nat → Int) : KI N (n + 10) (nextK c N s a) := by
  unfold nextK
  split
  · exact (lockK_KI h _ _ _ _).mono (by omega)
  · split
    · exact (commitK_KI h _).mono (by omega)
    · split
      · exact (abortCK_KI h _).mono (by omega)
      · split
        · exact (crashK_KI h (by omega) _).mono (by omega)
        · split
          · exact (beginK_KI h (by omega) _).mono (by omega)
          · split
            · exact (handleK_KI h _ _ _).mono (by omega)
            · split
              · exact tickK_KI h c
              · exact h.mono (by omega)
theorem doneK_same (s : KS) (r : TT × LM × Int) : (doneK s r).2.2.ti = s.ti ∧ (doneK s r).2.2.la = s.la := by
  unfold doneK
  split
  · exact setK_ti _ _
  · exact ⟨rfl, rfl⟩
theorem lockK_same (sh N : Int) (s : KS) (id : Int) (a : Nat → Int) (m : Int) : (lockK sh N s id a m).2.2.ti = s.ti ∧ (lockK sh N s id a m).2.2.la = s.la := by
  unfold lockK
  split
  · split
    · exact ⟨rfl, rfl⟩
    · split
      · split
        · exact setK_ti _ _
        · exact ⟨rfl, rfl⟩
      · exact ⟨rfl, rfl⟩
  · exact ⟨rfl, rfl⟩
theorem commitK_same (N : Int) (s : KS) (id : Int) : (commitK N s id).2.2.ti = s.ti ∧ (commitK N s id).2.2.la = s.la := by
  unfold commitK
  split
  · split
    · exact ⟨rfl, rfl⟩
    · exact doneK_same _ _
  · exact ⟨rfl, rfl⟩
theorem abortCK_same (N : Int) (s : KS) (id : Int) : (abortCK N s id).2.2.ti = s.ti ∧ (abortCK N s id).2.2.la = s.la := by
  unfold abortCK
  split
  · split
    · exact ⟨rfl, rfl⟩
    · exact abortK_same _ _ _ _
  · exact ⟨rfl, rfl⟩
theorem crashK_same (N : Int) (s : KS) (id : Int) : (crashK N s id).2.ti = s.ti ∧ (crashK N s id).2.la = s.la ∧ (crashK N s id).2.m = s.m := by
  unfold crashK
  split <;> exact ⟨rfl, rfl, rfl⟩
theorem beginK_same (N : Int) (s : KS) (id : Int) : (beginK N s id).2.2.ti = s.ti := by
  unfold beginK
  split
  · split <;> rfl
  · rfl
theorem handleK_same (sh : Int) (pr : Bool) (s : KS) (m : Nat → Int) : (handleK sh pr s m).2.2.ti = s.ti ∧ (handleK sh pr s m).2.2.la = s.la := by
  have ha : (ansK s m).2.ti = s.ti ∧ (ansK s m).2.la = s.la := by
    unfold ansK
    split
    · exact setK_ti _ _
    · exact ⟨rfl, rfl⟩
  unfold handleK
  split
  · split
    · exact ⟨rfl, rfl⟩
    · dsimp only
      unfold comesK
      split
      · unfold probedK
        split
        · split
          · split
            · exact abortK_same _ _ _ _
            · split
              · exact ⟨rfl, rfl⟩
              · split <;> exact ⟨rfl, rfl⟩
          · exact ⟨rfl, rfl⟩
        · exact ⟨rfl, rfl⟩
      · split
        · split
          · exact ha
          · split
            · exact ha
            · split
              · unfold voteK
                split
                · exact setK_ti _ _
                · exact ⟨rfl, rfl⟩
              · split
                · unfold ackK
                  split
                  · exact setK_ti _ _
                  · exact ⟨rfl, rfl⟩
                · split
                  · exact abortK_same _ _ _ _
                  · split
                    · unfold woundK
                      split
                      · exact ⟨rfl, rfl⟩
                      · exact abortK_same _ _ _ _
                    · exact ⟨rfl, rfl⟩
        · exact ⟨rfl, rfl⟩
  · exact ⟨rfl, rfl⟩
theorem act18_is (h : KI N n s) (hn : n ≤ 90000) (c : Nat → Int) (hc : 1 ≤ c 0 ∧ c 0 ≤ 64) (hc3 : c 3 ≠ 0) (a : Nat → Int) :
    act18_P c s.cl s.ti s.la s.m s.tr a ∧ (act18_F c s.cl s.ti s.la s.m s.tr a).1 = sentK c N s a ∧ (act18_F c s.cl s.ti s.la s.m s.tr a).2.2.2 = ((nextK c N s a).ti, (nextK c N s a).la, (nextK c N s a).m, (nextK c N s a).tr, (nextK c N s a).cl) := by
  unfold act18_P act18_F sentK nextK
  by_cases h0 : a 0 = 0
  · simp only [if_pos h0]
    obtain ⟨p, q⟩ := klock_is h (by omega) c hc (a 1) (fun i => a (2 + i)) (a 4)
    have e := lockK_same (c 0) N s (a 1) (fun i => a (2 + i)) (a 4)
    rw [q, e.1, e.2]
    exact ⟨⟨p, trivial⟩, rfl, rfl⟩
  · simp only [if_neg h0]
    by_cases h1 : a 0 = 1
    · simp only [if_pos h1]
      obtain ⟨p, q⟩ := kcommit_is h (by omega) c (a 1)
      have e := commitK_same N s (a 1)
      rw [q, e.1, e.2]
      exact ⟨⟨p, trivial⟩, rfl, rfl⟩
    · simp only [if_neg h1]
      by_cases h2 : a 0 = 2
      · simp only [if_pos h2]
        obtain ⟨p, q⟩ := kabortC_is h (by omega) c (a 1)
        have e := abortCK_same N s (a 1)
        rw [q, e.1, e.2]
        exact ⟨⟨p, trivial⟩, rfl, rfl⟩
      · simp only [if_neg h2]
        by_cases h3 : a 0 = 3
        · simp only [if_pos h3]
          obtain ⟨p, q⟩ := kcrash_is h (by omega) c (a 1)
          have e := crashK_same N s (a 1)
          have e5 : ¬ a 0 = 5 := by omega
          have e6 : ¬ a 0 = 6 := by omega
          rw [q, e.1, e.2.1, e.2.2, if_neg e5, if_neg e6]
          exact ⟨⟨p, trivial⟩, rfl, rfl⟩
        · simp only [if_neg h3]
          by_cases h4 : a 0 = 4
          · simp only [if_pos h4]
            obtain ⟨p, q⟩ := kbegin_is h (by omega) c (a 1)
            have e := beginK_same N s (a 1)
            have e5 : ¬ a 0 = 5 := by omega
            have e6 : ¬ a 0 = 6 := by omega
            rw [q, e, if_neg e5, if_neg e6]
            exact ⟨⟨p, trivial⟩, rfl, rfl⟩
          · simp only [if_neg h4]
            by_cases h5 : a 0 = 5
            · simp only [if_pos h5]
              obtain ⟨p, q⟩ := khandle_is h (by omega) c (fun i => a (5 + i))
              have e := handleK_same (c 0) (nz (c 1)) s (fun i => a (5 + i))
              rw [q, e.1, e.2]
              exact ⟨⟨p, trivial⟩, rfl, rfl⟩
            · simp only [if_neg h5]
              by_cases h6 : a 0 = 6
              · simp only [if_pos h6]
                have e := tick1_KI h c
                have e2 := tickK_2 c s
                have e3 : (tickK c s).2.ti = s.ti + 1 := by rw [e2]; exact e.2.2.1
                have e4 : (tickK c s).2.la = s.la := by rw [e2]; exact e.2.2.2
                refine ⟨⟨⟨⟨N, n, h, hn⟩, hc3⟩, trivial⟩, rfl, ?_⟩
                rw [e3, e4]
                rfl
              · simp only [if_neg h6]
                exact ⟨trivial, trivial, trivial⟩
theorem KI.viewP (h : KI N n s) (hn : n ≤ 100000) (c : Nat → Int) : kview_P c s.cl s.ti s.la s.m s.tr := by
  have hl := h.hl
  have hr := h.hr
  refine ⟨h.skP hn, by rw [h.len]; omega, by omega, fun k => ?_⟩
  by_cases hk : 1 ≤ k ∧ k ≤ s.la
  · have hT := (h.hT k hk.1 hk.2).1
    have h1 := TI.lto hT
    have h2 := TI.lvo hT
    have h3 := TI.lac hT
    have h4 : _ ≤ n := hT.hgo
    exact ⟨by omega, by omega, by omega, by omega⟩
  · unfold TL
    rw [h.at0 hk]
    exact ⟨by decide, by decide, by decide, by decide⟩
theorem KI.view (h : KI N n s) (c : Nat → Int) : (kview_F c s.cl s.ti s.la s.m s.tr).2.2.1 = (List.range s.la.toNat).map fun k : Nat => tAt s.m ((k : Int) + 1) := by
  unfold kview_F
  dsimp only
  rw [h.keys, List.map_map]
  rfl
end
end Go.E
namespace Go.E
open Go
structure Ck (c : Nat → Int) (s : KS) (a : Nat → Int) (k : Int) (t t' : TT) : Prop where
  keep : 3 ≤ t.2.1 → t'.2.1 = t.2.1 ∧ t'.2.2.1 = t.2.2.1
  w3 : t.2.1 ≤ 2 → t'.2.1 = 4 → t'.2.2.1 = 3 → a 0 = 5 ∧ okB (fun i => a (5 + i)) = true ∧ a 5 = 10 ∧ a 8 = k ∧ nz (c 1) = false ∧ t.2.1 = 1 ∧ ((tAt s.m (a 14)).2.1 = 1 ∨ (tAt s.m (a 14)).2.1 = 2)
  w4 : t.2.1 ≤ 2 → t'.2.1 = 4 → t'.2.2.1 = 4 → a 0 = 5 ∧ nz (c 1) = true ∧ live_F (fun i => a (5 + i)) (openL s.m) = true ∧ back_F (fun i => a (5 + i)) = true ∧ k = (victim_F (fun i => a (5 + i))).1
section
variable {c : Nat → Int} {s : KS} {a : Nat → Int} {k : Int} {t t' : TT} {N : Int} {n : Nat}
theorem Ck.same (h1 : t'.2.1 = t.2.1) (h2 : t'.2.2.1 = t.2.2.1) : Ck c s a k t t' where
  keep := fun _ => ⟨h1, h2⟩
  w3 := fun h3 h4 => by omega
  w4 := fun h3 h4 => by omega
theorem Ck.rfl' : Ck c s a k t t := Ck.same rfl rfl
theorem Ck.oth (h1 : 3 ≤ t.2.1 → t'.2.1 = t.2.1 ∧ t'.2.2.1 = t.2.2.1) (h2 : t'.2.1 = 4 → t.2.1 ≤ 2 → t'.2.2.1 ≠ 3 ∧ t'.2.2.1 ≠ 4) : Ck c s a k t t' where
  keep := h1
  w3 := fun h3 h4 h5 => absurd h5 (h2 h4 h3).1
  w4 := fun h3 h4 h5 => absurd h5 (h2 h4 h3).2
theorem ask_st (t : TT) (x : Int) (b : Nat → Int) (m : Int) : (askT t x b m).1.2.1 = t.2.1 ∧ (askT t x b m).1.2.2.1 = t.2.2.1 := by
  unfold askT askC
  split
  · split
    · split
      · exact ⟨rfl, rfl⟩
      · split <;> exact ⟨rfl, rfl⟩
    · exact ⟨rfl, rfl⟩
  · exact ⟨rfl, rfl⟩
theorem ans_st (t : TT) (m : Nat → Int) : (ansT t m).1.2.1 = t.2.1 ∧ (ansT t m).1.2.2.1 = t.2.2.1 := by
  unfold ansT ansC
  split
  · split
    · split <;> exact ⟨rfl, rfl⟩
    · exact ⟨rfl, rfl⟩
  · exact ⟨rfl, rfl⟩
theorem ack_st (t : TT) (m : Nat → Int) : (ackT t m).1.2.1 = t.2.1 ∧ (ackT t m).1.2.2.1 = t.2.2.1 := by
  unfold ackT ackC
  split
  · split
    · split <;> exact ⟨rfl, rfl⟩
    · exact ⟨rfl, rfl⟩
  · exact ⟨rfl, rfl⟩
theorem fin_st (t : TT) : ((finT t).1.2.1 = t.2.1 ∧ (finT t).1.2.2.1 = t.2.2.1) ∨ (t.2.1 = 1 ∧ (finT t).1.2.1 ≤ 3) := by
  unfold finT finC
  by_cases h : t.2.1 = 1
  · rw [if_pos h]
    split
    · exact .inl ⟨rfl, rfl⟩
    · split
      · exact .inr ⟨h, by show (3 : Int) ≤ 3; decide⟩
      · exact .inr ⟨h, by show (2 : Int) ≤ 3; decide⟩
  · rw [if_neg h]; exact .inl ⟨rfl, rfl⟩
theorem vote_st (t : TT) (m : Nat → Int) : ((voteT t m).1.2.1 = t.2.1 ∧ (voteT t m).1.2.2.1 = t.2.2.1) ∨ (t.2.1 = 2 ∧ ((voteT t m).1.2.1 ≤ 3 ∨ (voteT t m).1.2.2.1 = 2)) := by
  unfold voteT voteC
  split
  · by_cases h : t.2.1 = 2
    · rw [if_pos h]
      split
      · split
        · exact .inr ⟨h, .inr rfl⟩
        · split
          · exact .inl ⟨rfl, rfl⟩
          · exact .inr ⟨h, .inl (by show (3 : Int) ≤ 3; decide)⟩
      · exact .inl ⟨rfl, rfl⟩
    · rw [if_neg h]; exact .inl ⟨rfl, rfl⟩
  · exact .inl ⟨rfl, rfl⟩
theorem abort_st (t : TT) (r : Int) : ((abortT t r).1.2.1 = t.2.1 ∧ (abortT t r).1.2.2.1 = t.2.2.1) ∨ (¬ (t.2.1 = 3 ∨ t.2.1 = 4) ∧ (abortT t r).1.2.2.1 = r) := by
  unfold abortT abortC
  split
  · by_cases h : t.2.1 = 3 ∨ t.2.1 = 4
    · rw [if_pos h]; exact .inl ⟨rfl, rfl⟩
    · rw [if_neg h]; exact .inr ⟨h, rfl⟩
  · exact .inl ⟨rfl, rfl⟩
theorem tAt_setK (s : KS) (t : TT) (k : Int) : tAt (setK s t).m k = if k = t.1 then t else tAt s.m k := by rw [setK_m, tAt_mset]
theorem tAt_abortK (h : KI N n s) (tx re : Int) (l : List Int) (hl : ∀ x ∈ l, 1 ≤ x) (k : Int) : tAt (abortK s tx re l).2.2.m k = tAt s.m k ∨ (k = tx ∧ (tAt s.m tx).2.1 ∈ l ∧ tAt (abortK s tx re l).2.2.m k = (abortT (tAt s.m tx) re).1) := by
  unfold abortK
  by_cases hm : (tAt s.m tx).2.1 ∈ l
  · rw [if_pos hm]
    have hk : 1 ≤ tx ∧ tx ≤ s.la := by
      rcases Classical.em (1 ≤ tx ∧ tx ≤ s.la) with hk | hk
      · exact hk
      · rw [h.at0 hk] at hm
        have := hl _ hm
        exact absurd (show (1 : Int) ≤ 0 from this) (by decide)
    have hx := (h.hT tx hk.1 hk.2).2
    unfold doneK
    split
    · dsimp only
      rw [tAt_setK, abort_tx, hx]
      by_cases e : k = tx
      · rw [if_pos e]; exact .inr ⟨e, hm, rfl⟩
      · rw [if_neg e]; exact .inl rfl
    · exact .inl rfl
  · rw [if_neg hm]; exact .inl rfl
theorem Ck_abort (h : KI N n s) {tx re : Int} {l : List Int} (hl : ∀ x ∈ l, 1 ≤ x ∧ x ≤ 2) (h3 : re = 3 → k = tx → (tAt s.m tx).2.1 ∈ l → a 0 = 5 ∧ okB (fun i => a (5 + i)) = true ∧ a 5 = 10 ∧ a 8 = k ∧ nz (c 1) = false ∧ (tAt s.m k).2.1 = 1 ∧ ((tAt s.m (a 14)).2.1 = 1 ∨ (tAt s.m (a 14)).2.1 = 2))
    (h4 : re = 4 → k = tx → (tAt s.m tx).2.1 ∈ l → a 0 = 5 ∧ nz (c 1) = true ∧ live_F (fun i => a (5 + i)) (openL s.m) = true ∧ back_F (fun i => a (5 + i)) = true ∧ k = (victim_F (fun i => a (5 + i))).1) :
    Ck c s a k (tAt s.m k) (tAt (abortK s tx re l).2.2.m k) := by
  rcases tAt_abortK h tx re l (fun x hx => (hl x hx).1) k with e | ⟨e1, e2, e3⟩
  · rw [e]; exact Ck.rfl'
  · rw [e3]
    have hr := hl _ e2
    subst e1
    rcases abort_st (tAt s.m k) re with ⟨g1, g2⟩ | ⟨g1, g2⟩
    · exact Ck.same g1 g2
    · exact ⟨fun h => by omega, fun _ _ h => h3 (g2.symm.trans h) rfl e2, fun _ _ h => h4 (g2.symm.trans h) rfl e2⟩
theorem lost_at (h : KI N n s) (l : List Int) (out : LM) (k : Int) : tAt (lostF l (out, s)).2.m k = tAt s.m k ∨ (¬ 3 ≤ (tAt s.m k).2.1 ∧ (tAt (lostF l (out, s)).2.m k).2.2.1 = 5) := by
  induction l generalizing n s out with
  | nil => exact .inl rfl
  | cons x l ih =>
    have e : lostF (x :: l) (out, s) = lostF l (out ++ (abortK s x 5 [1]).1, (abortK s x 5 [1]).2.2) := rfl
    rw [e]
    have h1 := abortK_KI h x 5 (l := [1]) (by simp)
    rcases ih h1 (out ++ (abortK s x 5 [1]).1) with i | ⟨i1, i2⟩
    · rw [i]
      rcases tAt_abortK h x 5 [1] (by simp) k with e | ⟨e1, e2, e3⟩
      · rw [e]; exact .inl rfl
      · rw [e3]
        subst e1
        have e2' : (tAt s.m k).2.1 = 1 := by simpa using e2
        have : (abortT (tAt s.m k) 5).1.2.2.1 = 5 := by
          unfold abortT abortC
          rw [if_pos (by decide), if_neg (by omega)]
        exact .inr ⟨by omega, this⟩
    · rcases tAt_abortK h x 5 [1] (by simp) k with e | ⟨e1, e2, e3⟩
      · rw [e] at i1; exact .inr ⟨i1, i2⟩
      · subst e1
        have e2' : (tAt s.m k).2.1 = 1 := by simpa using e2
        exact .inr ⟨by omega, i2⟩
theorem next_Ck (h : KI N n s) (hn : n ≤ 90000) (k : Int) (hk : 1 ≤ k ∧ k ≤ s.la) : Ck c s a k (tAt s.m k) (tAt (nextK c N s a).m k) := by
  unfold nextK
  by_cases h0 : a 0 = 0
  · rw [if_pos h0]
    unfold lockK
    split
    · split
      · exact Ck.rfl'
      · split
        · split
          · dsimp only
            rw [tAt_setK]
            split
            · rename_i e
              have e' := e
              rw [ask_tx] at e'
              by_cases hx : 1 ≤ s.cl (1 + (a 1).toNat * 3) ∧ s.cl (1 + (a 1).toNat * 3) ≤ s.la
              · rw [(h.hT _ hx.1 hx.2).2] at e'
                rw [e'] 
                exact Ck.same (ask_st _ _ _ _).1 (ask_st _ _ _ _).2
              · rw [h.at0 hx] at e'
                exact absurd (show k = 0 from e') (by omega)
            · exact Ck.rfl'
          · exact Ck.rfl'
        · exact Ck.rfl'
    · exact Ck.rfl'
  · rw [if_neg h0]
    by_cases h1 : a 0 = 1
    · rw [if_pos h1]
      unfold commitK
      split
      · split
        · exact Ck.rfl'
        · unfold doneK
          split
          · dsimp only
            rw [tAt_setK]
            split
            · rename_i e
              have e' := e
              rw [fin_tx] at e'
              by_cases hx : 1 ≤ s.cl (1 + (a 1).toNat * 3) ∧ s.cl (1 + (a 1).toNat * 3) ≤ s.la
              · rw [(h.hT _ hx.1 hx.2).2] at e'
                rw [e']
                rcases fin_st (tAt s.m (s.cl (1 + (a 1).toNat * 3))) with g | g
                · exact Ck.same g.1 g.2
                · exact Ck.oth (fun h => by omega) fun h => by omega
              · rw [h.at0 hx] at e'
                exact absurd (show k = 0 from e') (by omega)
            · exact Ck.rfl'
          · exact Ck.rfl'
      · exact Ck.rfl'
    · rw [if_neg h1]
      by_cases h2 : a 0 = 2
      · rw [if_pos h2]
        unfold abortCK
        split
        · split
          · exact Ck.rfl'
          · exact Ck_abort h (by simp) (fun h => by omega) fun h => by omega
        · exact Ck.rfl'
      · rw [if_neg h2]
        by_cases h3 : a 0 = 3
        · rw [if_pos h3, (crashK_same N s (a 1)).2.2]; exact Ck.rfl'
        · rw [if_neg h3]
          by_cases h4 : a 0 = 4
          · rw [if_pos h4]
            unfold beginK
            split
            · split
              · dsimp only
                rw [tAt_mset, if_neg (by omega)]; exact Ck.rfl'
              · exact Ck.rfl'
            · exact Ck.rfl'
          · rw [if_neg h4]
            by_cases h5 : a 0 = 5
            · rw [if_pos h5]
              unfold handleK
              by_cases ho : okB (fun i => a (5 + i)) = true
              · rw [if_pos ho]
                split
                · exact Ck.rfl'
                · dsimp only
                  unfold comesK
                  split
                  · unfold probedK
                    split
                    · rename_i hp
                      split
                      · rename_i hlv
                        split
                        · rename_i hb
                          exact Ck_abort h (by simp) (fun h => by omega) fun _ e _ => ⟨h5, hp, hlv, hb, e⟩
                        · split
                          · exact Ck.rfl'
                          · split <;> exact Ck.rfl'
                      · exact Ck.rfl'
                    · exact Ck.rfl'
                  · split
                    · rename_i hm
                      have hx := (h.hk _).1 hm
                      have hx2 := (h.hT _ hx.1 hx.2).2
                      have ansL : Ck c s a k (tAt s.m k) (tAt (ansK s fun i => a (5 + i)).2.m k) := by
                        unfold ansK
                        split
                        · show Ck c s a k (tAt s.m k) (tAt (setK s _).m k)
                          rw [tAt_setK, ans_tx, hx2]
                          split
                          · rename_i e
                            rw [e]
                            exact Ck.same (ans_st _ _).1 (ans_st _ _).2
                          · exact Ck.rfl'
                        · exact Ck.rfl'
                      split
                      · exact ansL
                      · split
                        · exact ansL
                        · split
                          · unfold voteK
                            split
                            · dsimp only
                              rw [tAt_setK, vote_tx, hx2]
                              split
                              · rename_i e
                                rw [e]
                                have g := vote_st (tAt s.m (a (5 + 3))) (fun i => a (5 + i))
                                generalize (voteT (tAt s.m (a (5 + 3))) fun i => a (5 + i)).1 = t' at g ⊢
                                generalize tAt s.m (a (5 + 3)) = t at g ⊢
                                rcases g with g | g
                                · exact Ck.same g.1 g.2
                                · exact Ck.oth (fun h => by omega) fun h _ => by omega
                              · exact Ck.rfl'
                            · exact Ck.rfl'
                          · split
                            · unfold ackK
                              split
                              · dsimp only
                                rw [tAt_setK, ack_tx, hx2]
                                split
                                · rename_i e
                                  rw [e]
                                  exact Ck.same (ack_st _ _).1 (ack_st _ _).2
                                · exact Ck.rfl'
                              · exact Ck.rfl'
                            · split
                              · exact Ck_abort h (by simp) (fun h => by omega) fun h => by omega
                              · split
                                · rename_i h10
                                  unfold woundK
                                  split
                                  · exact Ck.rfl'
                                  · rename_i hw
                                    refine Ck_abort h (by simp) (fun _ e1 e2 => ?_) fun h => by omega
                                    have e2' : (tAt s.m (a (5 + 3))).2.1 = 1 := by simpa using e2
                                    simp only [Bool.or_eq_true, Bool.and_eq_true, Bool.not_eq_true', decide_eq_false_iff_not] at hw
                                    refine ⟨h5, ho, h10, e1.symm, ?_, by rw [e1]; exact e2', ?_⟩
                                    · cases hz : nz (c 1) with
                                      | false => rfl
                                      | true => exact absurd (.inl hz) hw
                                    · show (tAt s.m (a (5 + 9))).2.1 = 1 ∨ (tAt s.m (a (5 + 9))).2.1 = 2
                                      omega
                                · exact Ck.rfl'
                    · exact Ck.rfl'
              · rw [if_neg ho]; exact Ck.rfl'
            · rw [if_neg h5]
              by_cases h6 : a 0 = 6
              · rw [if_pos h6, tickK_2]
                unfold tick1
                rcases lost_at h.later (clost_F s.cl (s.ti + 1) (c 2)) [] k with e | ⟨e1, e2⟩
                · rw [e]; exact Ck.rfl'
                · exact Ck.oth (fun h => absurd h e1) fun _ _ => by omega
              · rw [if_neg h6]; exact Ck.rfl'
theorem next_la (c : Nat → Int) (N : Int) (s : KS) (a : Nat → Int) : s.la ≤ (nextK c N s a).la := by
  unfold nextK
  split
  · rw [(lockK_same _ _ _ _ _ _).2]; exact Int.le_refl _
  · split
    · rw [(commitK_same _ _ _).2]; exact Int.le_refl _
    · split
      · rw [(abortCK_same _ _ _).2]; exact Int.le_refl _
      · split
        · rw [(crashK_same _ _ _).2.1]; exact Int.le_refl _
        · split
          · unfold beginK
            split
            · split
              · show s.la ≤ s.la + 1; omega
              · exact Int.le_refl _
            · exact Int.le_refl _
          · split
            · rw [(handleK_same _ _ _ _).2]; exact Int.le_refl _
            · split
              · rw [tickK_2]
                have : ∀ (l : List Int) (p : LM × KS), (lostF l p).2.la = p.2.la := by
                  intro l
                  induction l with
                  | nil => intro p; rfl
                  | cons x l ih => intro p; exact (ih _).trans (abortK_same _ _ _ _).2
                unfold tick1
                rw [this]; exact Int.le_refl _
              · exact Int.le_refl _
end
end Go.E
namespace Go.E
open Go
def cfgK (pr : Bool) : Nat → Int := updI (updI (updI (updI (updI (updI (updI (fun _ => 0) 0 2) 1 (bI pr)) 2 5) 3 3) 4 40) 5 6) 6 1000
theorem cfgK_0 (pr : Bool) : cfgK pr 0 = 2 ∧ cfgK pr 3 = 3 ∧ nz (cfgK pr 1) = pr := ⟨rfl, rfl, nz_bI pr⟩
def runK (pr : Bool) (N : Int) (acts : LM) : Nat → KS
  | 0 => startK N
  | k + 1 => nextK (cfgK pr) N (runK pr N acts k) (acts[k]!)
theorem runK_KI (pr : Bool) {N : Int} (hN : 1 ≤ N ∧ N ≤ 8) (acts : LM) (k : Nat) (hk : k ≤ 9000) : KI N (10 * k) (runK pr N acts k) := by
  induction k with
  | zero => exact KI.start hN
  | succ k ih => exact (nextK_KI (ih (by omega)) (by omega) _ _).mono (by omega)
theorem seen_at {m : TM} {la : Int} {k : Nat} (h : (k : Int) < la) : ((List.range la.toNat).map fun k : Nat => tAt m ((k : Int) + 1))[k]! = tAt m ((k : Int) + 1) := by
  rw [getElem!_pos _ _ (by simp; omega)]
  simp
theorem seen_len {m : TM} {la : Int} : ((List.range la.toNat).map fun k : Nat => tAt m ((k : Int) + 1)).length = la.toNat := by simp
def decB (t : TT) : Bool := decide (t.2.1 = 3 ∨ t.2.1 = 4)
theorem tdec_B (t : TT) : tdecided_F t.1 t.2.1 t.2.2.1 t.2.2.2.1 t.2.2.2.2.1 t.2.2.2.2.2.1 t.2.2.2.2.2.2.1 t.2.2.2.2.2.2.2.1 t.2.2.2.2.2.2.2.2.1 t.2.2.2.2.2.2.2.2.2.1 t.2.2.2.2.2.2.2.2.2.2.1 t.2.2.2.2.2.2.2.2.2.2.2 = decB t := by
  have := tdec_iff (tx := t.1) (st := t.2.1) (re := t.2.2.1) (sq := t.2.2.2.1) (op := t.2.2.2.2.1) (sh := t.2.2.2.2.2.1) (at_ := t.2.2.2.2.2.2.1) (mo := t.2.2.2.2.2.2.2.1) (to_ := t.2.2.2.2.2.2.2.2.1) (vo := t.2.2.2.2.2.2.2.2.2.1) (ac := t.2.2.2.2.2.2.2.2.2.2.1) (go := t.2.2.2.2.2.2.2.2.2.2.2)
  unfold decB
  rw [Bool.eq_iff_iff, this, decide_eq_true_eq]
abbrev VW := Int × Int × List TT × LM
def seenL (m : TM) (la : Int) : List TT := (List.range la.toNat).map fun k : Nat => tAt m ((k : Int) + 1)
section
variable {n : Nat} {s : KS}
end
end Go.E
namespace Go.E
open Go
theorem vicF_max (m : Nat → Int) (k : Nat) : ∀ i, i < k → m (12 + i * 2) ≤ vicF m k := by
  induction k with
  | zero => intro i h; omega
  | succ k ih =>
    intro i h
    unfold vicF
    by_cases e : i = k
    · subst e; split <;> omega
    · have := ih i (by omega)
      split <;> omega
theorem vicF_one (m : Nat → Int) (k : Nat) (h : ∀ i, i < k → 1 ≤ m (12 + i * 2)) : vicF m k = 0 ∧ k = 0 ∨ ∃ i, i < k ∧ vicF m k = m (12 + i * 2) := by
  induction k with
  | zero => exact .inl ⟨rfl, rfl⟩
  | succ k ih =>
    have hk := h k (by omega)
    refine .inr ?_
    unfold vicF
    rcases ih fun i hi => h i (by omega) with ⟨i1, i2⟩ | ⟨i, i1, i2⟩
    · rw [if_pos (by omega)]; exact ⟨k, by omega, rfl⟩
    · split
      · exact ⟨k, by omega, rfl⟩
      · exact ⟨i, by omega, i2⟩
section
variable {N : Int} {n : Nat} {s : KS}
theorem live_open (h : KI N n s) {m : Nat → Int} (hl : live_F m (openL s.m) = true) : isP_F m = true ∧ ∀ i, i < (m 11).toNat → (1 ≤ m (12 + i * 2) ∧ m (12 + i * 2) ≤ s.la) ∧ (tAt s.m (m (12 + i * 2))).2.2.2.2.1 = true ∧ (tAt s.m (m (12 + i * 2))).2.2.2.1 = m (12 + i * 2 + 1) := by
  unfold live_F at hl
  rw [Bool.and_eq_true, List.all_eq_true] at hl
  refine ⟨hl.1, fun i hi => ?_⟩
  have ht := hl.2 i (List.mem_range.2 hi)
  unfold thereB at ht
  rw [List.any_eq_true] at ht
  obtain ⟨x, hx, he⟩ := ht
  unfold openL at hx
  obtain ⟨k, hk, hx⟩ := List.mem_flatMap.1 hx
  unfold kopE at hx
  by_cases ho : (tAt s.m k).2.2.2.2.1 = true
  · rw [if_pos ho, List.mem_singleton] at hx
    subst hx
    rw [eqN_iff] at he
    have e0 : m (12 + i * 2) = k := he 0 (by omega)
    have e1 : m (12 + i * 2 + 1) = (tAt s.m k).2.2.2.1 := he 1 (by omega)
    rw [e0]
    exact ⟨(h.hk k).1 (mem_skeys.1 hk), ho, e1.symm⟩
  · rw [if_neg ho] at hx; cases hx
end
section
variable {n : Nat} {s : KS}
theorem circles_l3 (h : KI 4 n s) (hn : n ≤ 90000) {v : VW} (hvw : v.2.2.1 = seenL s.m s.la) (acts : LM) (i : Nat) (hi : i < acts.length) (k : Nat) (hk : (k : Int) < s.la)
    (hlv : live_F (fun j => (acts[i]!) (5 + j)) (openL s.m) = true) (hv : (k : Int) + 1 = (victim_F (fun j => (acts[i]!) (5 + j))).1) :
    Wh (fun (j : Int) (o : Int ⊕ (Unit ⊕ Unit)) => circles18_l3 acts (i : Int) v (k : Int) j o) (0 : Int) (.inl ()) := by
  have hl := h.hl
  obtain ⟨hp, hall⟩ := live_open h hlv
  have hN := isP_n hp
  have hN' : 1 ≤ (acts[i]!) 16 ∧ (acts[i]!) 16 ≤ 8 := hN
  unfold seenL at hvw
  have hvic : (k : Int) + 1 = vicF (fun j => (acts[i]!) (5 + j)) ((acts[i]!) 16).toNat := by
    rw [hv]; unfold victim_F; rw [if_pos hp]
  refine Wh.fold (f := fun (j : Int) (o : Int ⊕ (Unit ⊕ Unit)) => circles18_l3 acts (i : Int) v (k : Int) j o) ((acts[i]!) 16).toNat (fun j : Nat => (j : Int)) (.inl ()) (fun j hj => ?_) ?_
  · have e : ((j + 1 : Nat) : Int) = (j : Int) + 1 := by omega
    obtain ⟨⟨b1, b2⟩, b3, b4⟩ := hall j hj
    have hm := vicF_max (fun j => (acts[i]!) (5 + j)) ((acts[i]!) 16).toNat j hj
    rw [← hvic] at hm
    have b1' : 1 ≤ (acts[i]!) (5 + (12 + j * 2)) := b1
    have b2' : (acts[i]!) (5 + (12 + j * 2)) ≤ s.la := b2
    have b3' : (tAt s.m ((acts[i]!) (5 + (12 + j * 2)))).2.2.2.2.1 = true := b3
    have b4' : (tAt s.m ((acts[i]!) (5 + (12 + j * 2)))).2.2.2.1 = (acts[i]!) (5 + (12 + j * 2 + 1)) := b4
    have hm' : (acts[i]!) (5 + (12 + j * 2)) ≤ (k : Int) + 1 := hm
    show circles18_l3 acts (i : Int) v (k : Int) (j : Int) (.inl ((j + 1 : Nat) : Int))
    unfold circles18_l3
    rw [hvw, Int.toNat_natCast, Int.toNat_natCast, e]
    rw [if_pos (by simp only [Bool.and_eq_true, decide_eq_true_eq]; omega), seen_len]
    generalize (acts[i]!) (5 + (12 + j * 2)) = x at b1' b2' b3' b4' hm' ⊢
    generalize (acts[i]!) (5 + (12 + j * 2 + 1)) = y at b4' ⊢
    have ex : (((x - 1).toNat : Nat) : Int) = x - 1 := by omega
    rw [seen_at (la := s.la) (k := (x - 1).toNat) (by omega), ex, show x - 1 + 1 = x by omega, b3', b4']
    refine ⟨⟨by omega, by omega⟩, fun _ => by unfold inI64; omega, fun _ => ⟨by omega, by omega⟩, fun _ => by unfold inI64; omega, fun _ => ⟨by omega, by omega⟩, fun _ => by unfold inI64; omega, ?_⟩
    rw [if_neg (by simp; omega)]
    exact ⟨by unfold inI64; omega, rfl⟩
  · show circles18_l3 acts (i : Int) v (k : Int) (((acts[i]!) 16).toNat : Int) _
    unfold circles18_l3
    rw [if_neg (by simp only [Bool.and_eq_true, decide_eq_true_eq, Int.toNat_natCast]; omega)]
theorem circles_l2 (h : KI 4 n s) (hn : n ≤ 90000) (pr : Bool) {c : Nat → Int} (hcp : nz (c 1) = pr) (acts : LM) (i : Nat) (hi : i < acts.length) {s' : KS} (hs' : s' = nextK c 4 s (acts[i]!)) {v v' : VW} (hv : v.2.2.1 = seenL s.m s.la) (hv' : v'.2.2.1 = seenL s'.m s'.la) (k : Nat) (hk : (k : Int) < s.la) :
    circles18_l2 pr acts (i : Int) v v' (k : Int) (.inl ((k + 1 : Nat) : Int)) := by
  have hl := h.hl
  have e : ((k + 1 : Nat) : Int) = (k : Int) + 1 := by omega
  have hla := next_la c 4 s (acts[i]!)
  have hC := next_Ck (c := c) (a := acts[i]!) h hn ((k : Int) + 1) ⟨by omega, by omega⟩
  rw [← hs'] at hla hC
  have hl3 := circles_l3 h hn hv acts i hi k hk
  unfold circles18_l2
  unfold seenL at hv hv'
  rw [hv, hv', seen_len, seen_len, if_pos (by omega), Int.toNat_natCast, Int.toNat_natCast, e, tdec_B, seen_at hk, seen_at (m := s'.m) (la := s'.la) (by omega)]
  refine ⟨⟨by omega, by omega⟩, fun _ => ⟨by omega, by omega⟩, fun _ => ⟨by omega, by omega⟩, ?_⟩
  by_cases hc : (((decB (tAt s.m ((k : Int) + 1))) || (!(decide ((tAt s'.m ((k : Int) + 1)).2.1 = 4)))) || (!(decide ((tAt s'.m ((k : Int) + 1)).2.2.1 = 4)))) = true
  · rw [if_pos hc]; exact ⟨by unfold inI64; omega, rfl⟩
  · rw [if_neg hc]
    simp only [decB, Bool.or_eq_true, decide_eq_true_eq, Bool.not_eq_true', decide_eq_false_iff_not] at hc
    have hst : (tAt s.m ((k : Int) + 1)).2.1 ≤ 4 := (h.hT ((k : Int) + 1) (by omega) (by omega)).1.hst.2
    obtain ⟨w1, w2, w3, w4, w5⟩ := hC.w4 (by omega) (by omega) (by omega)
    have hpr : pr = true := by rw [← hcp]; exact w2
    obtain ⟨hp, hall⟩ := live_open h w3
    have hop : (tAt s.m ((k : Int) + 1)).2.2.2.2.1 = true := by
      have hvc : (k : Int) + 1 = vicF (fun j => (acts[i]!) (5 + j)) ((acts[i]!) 16).toNat := by
        rw [w5]; unfold victim_F; rw [if_pos hp]
      rcases vicF_one (fun j => (acts[i]!) (5 + j)) ((acts[i]!) 16).toNat (fun j hj => (hall j hj).1.1) with ⟨-, z⟩ | ⟨j, j1, j2⟩
      · have hN' : 1 ≤ (acts[i]!) 16 := (isP_n hp).1
        omega
      · have := (hall j j1).2.1
        rw [hvc, j2]
        exact this
    refine ⟨⟨by omega, by omega⟩, fun _ => ⟨by omega, by omega⟩, fun _ => ⟨by omega, by omega⟩, ?_⟩
    rw [if_neg (by rw [hpr, w1, hop]; simp)]
    exact ⟨.inl (), hl3 w3 w5, by unfold inI64; omega, rfl⟩
theorem circles_l1 (h : KI 4 n s) (hn : n ≤ 80000) (pr : Bool) (acts : LM) (i : Nat) (hi : i < acts.length) (hL : acts.length ≤ 100) :
    circles18_l1 pr acts (i : Int) s.ti s.la s.m s.tr s.cl (.inl (((i + 1 : Nat) : Int), (nextK (cfgK pr) 4 s (acts[i]!)).ti, (nextK (cfgK pr) 4 s (acts[i]!)).la, (nextK (cfgK pr) 4 s (acts[i]!)).m, (nextK (cfgK pr) 4 s (acts[i]!)).tr, (nextK (cfgK pr) 4 s (acts[i]!)).cl)) := by
  have hl := h.hl
  have e : ((i + 1 : Nat) : Int) = (i : Int) + 1 := by omega
  have hcf : (updI (updI (updI (updI (updI (updI (updI (fun _ => 0) 0 2) 1 (bI pr)) 2 5) 3 3) 4 40) 5 6) 6 1000 : Nat → Int) = cfgK pr := rfl
  obtain ⟨p, -, q⟩ := act18_is h (by omega) (cfgK pr) (by rw [(cfgK_0 pr).1]; omega) (by rw [(cfgK_0 pr).2.1]; omega) (acts[i]!)
  have hn' := nextK_KI h (by omega) (cfgK pr) (acts[i]!)
  have hvp := h.viewP (by omega) (cfgK pr)
  have hvn := hn'.viewP (by omega) (cfgK pr)
  unfold circles18_l1
  rw [if_pos (by omega), hcf, Int.toNat_natCast]
  refine ⟨hvp, _, rfl, ⟨by omega, by omega⟩, p, _, rfl, ?_⟩
  generalize act18_F (cfgK pr) s.cl s.ti s.la s.m s.tr (acts[i]!) = r at q ⊢
  obtain ⟨l, x1, x2, ti', la', m', tr', cl'⟩ := r
  dsimp only at q ⊢
  generalize hs' : nextK (cfgK pr) 4 s (acts[i]!) = s' at q hn' hvn ⊢
  simp only [Prod.mk.injEq] at q
  obtain ⟨rfl, rfl, rfl, rfl, rfl⟩ := q
  refine ⟨hvn, _, rfl, .inl (), ?_, ?_⟩
  · refine Wh.fold s.la.toNat (fun k : Nat => (k : Int)) (.inl ()) (fun k hk => circles_l2 h (by omega) pr (cfgK_0 pr).2.2 acts i hi hs'.symm (h.view (cfgK pr)) (hn'.view (cfgK pr)) k (by omega)) ?_
    show circles18_l2 pr acts (i : Int) _ _ (s.la.toNat : Int) _
    unfold circles18_l2
    rw [if_neg (by rw [h.view, seen_len]; omega)]
  · unfold circles18_k2a
    rw [e]
    exact ⟨by unfold inI64; omega, rfl⟩
end
theorem circles18_all (pr : Bool) (acts : LM) : circles18_S pr acts true := by
  unfold circles18_S
  rw [if_pos (show alive18_F = true from rfl)]
  by_cases hL : 100 < (acts.length : Int)
  · rw [if_pos hL]
  · rw [if_neg hL, if_pos (by decide), if_pos (by decide), if_pos (by decide), if_pos (by decide), if_pos (by decide), if_pos (by decide)]
    refine ⟨.inl ((runK pr 4 acts acts.length).ti, (runK pr 4 acts acts.length).la, (runK pr 4 acts acts.length).m, (runK pr 4 acts acts.length).tr, (runK pr 4 acts acts.length).cl), ?_, rfl⟩
    refine Wh.fold acts.length (fun i => ((i : Int), (runK pr 4 acts i).ti, (runK pr 4 acts i).la, (runK pr 4 acts i).m, (runK pr 4 acts i).tr, (runK pr 4 acts i).cl)) _ (fun i hi => ?_) ?_
    · exact circles_l1 (runK_KI pr (by omega) acts i (by omega)) (by omega) pr acts i hi (by omega)
    · dsimp only
      unfold circles18_l1
      rw [if_neg (by omega)]
end Go.E
