/- Part 9 of the proof. -/
import Derived.Test.YtljklmlodfbdnaaGreatJ5
set_option maxHeartbeats 1000000
set_option maxRecDepth 100000
set_option linter.unusedVariables false
set_option linter.unusedSimpArgs false
set_option linter.unusedSectionVars false
namespace Go.E
open Go
def nextK (c : Nat → Int) (N : Int) (s : KS) (a : Nat → Int) : KS :=
  if a 0 = 0 then (lockK (c 0) N s (a 1) (fun i => a (2 + i)) (a 4)).2.2
  else if a 0 = 1 then (commitK N s (a 1)).2.2
  else if a 0 = 2 then (abortCK N s (a 1)).2.2
  else if a 0 = 3 then (crashK N s (a 1)).2
  else if a 0 = 4 then (beginK N s (a 1)).2.2
  else if a 0 = 5 then (handleK (c 0) (nz (c 1)) s (fun i => a (5 + i))).2.2
  else if a 0 = 6 then (tickK c s).2
  else s
def sentK (c : Nat → Int) (N : Int) (s : KS) (a : Nat → Int) : LM :=
  if a 0 = 0 then (lockK (c 0) N s (a 1) (fun i => a (2 + i)) (a 4)).1
  else if a 0 = 1 then (commitK N s (a 1)).1
  else if a 0 = 2 then (abortCK N s (a 1)).1
  else if a 0 = 5 then (handleK (c 0) (nz (c 1)) s (fun i => a (5 + i))).1
  else if a 0 = 6 then (tickK c s).1
  else []
section
variable {N : Int} {n : Nat} {s : KS}
theorem nextK_KI (h : KI N n s) (hn : n ≤ 90000) (c : Nat → Int) (a : Nat → Int) : KI N (n + 10) (nextK c N s a) := by
  unfold nextK
  split
  · exact (lockK_KI h _ _ _ _).mono (by omega)
  · split
    · exact (commitK_KI h _).mono (by omega)
    · split
      · exact (abortCK_KI h _).mono (by omega)
      · split
        · exact (crashK_KI h (by omega) _).mono (by omega)
        · split
          · exact (beginK_KI h (by omega) _).mono (by omega)
          · split
            · exact (handleK_KI h _ _ _).mono (by omega)
            · split
              · exact tickK_KI h c
              · exact h.mono (by omega)
theorem doneK_same (s : KS) (r : TT × LM × Int) : (doneK s r).2.2.ti = s.ti ∧ (doneK s r).2.2.la = s.la := by
  unfold doneK
  split
  · exact setK_ti _ _
  · exact ⟨rfl, rfl⟩
theorem lockK_same (sh N : Int) (s : KS) (id : Int) (a : Nat → Int) (m : Int) : (lockK sh N s id a m).2.2.ti = s.ti ∧ (lockK sh N s id a m).2.2.la = s.la := by
  unfold lockK
  split
  · split
    · exact ⟨rfl, rfl⟩
    · split
      · split
        · exact setK_ti _ _
        · exact ⟨rfl, rfl⟩
      · exact ⟨rfl, rfl⟩
  · exact ⟨rfl, rfl⟩
theorem commitK_same (N : Int) (s : KS) (id : Int) : (commitK N s id).2.2.ti = s.ti ∧ (commitK N s id).2.2.la = s.la := by
  unfold commitK
  split
  · split
    · exact ⟨rfl, rfl⟩
    · exact doneK_same _ _
  · exact ⟨rfl, rfl⟩
theorem abortCK_same (N : Int) (s : KS) (id : Int) : (abortCK N s id).2.2.ti = s.ti ∧ (abortCK N s id).2.2.la = s.la := by
  unfold abortCK
  split
  · split
    · exact ⟨rfl, rfl⟩
    · exact abortK_same _ _ _ _
  · exact ⟨rfl, rfl⟩
theorem crashK_same (N : Int) (s : KS) (id : Int) : (crashK N s id).2.ti = s.ti ∧ (crashK N s id).2.la = s.la ∧ (crashK N s id).2.m = s.m := by
  unfold crashK
  split <;> exact ⟨rfl, rfl, rfl⟩
theorem beginK_same (N : Int) (s : KS) (id : Int) : (beginK N s id).2.2.ti = s.ti := by
  unfold beginK
  split
  · split <;> rfl
  · rfl
theorem handleK_same (sh : Int) (pr : Bool) (s : KS) (m : Nat → Int) : (handleK sh pr s m).2.2.ti = s.ti ∧ (handleK sh pr s m).2.2.la = s.la := by
  have ha : (ansK s m).2.ti = s.ti ∧ (ansK s m).2.la = s.la := by
    unfold ansK
    split
    · exact setK_ti _ _
    · exact ⟨rfl, rfl⟩
  unfold handleK
  split
  · split
    · exact ⟨rfl, rfl⟩
    · dsimp only
      unfold comesK
      split
      · unfold probedK
        split
        · split
          · split
            · exact abortK_same _ _ _ _
            · split
              · exact ⟨rfl, rfl⟩
              · split <;> exact ⟨rfl, rfl⟩
          · exact ⟨rfl, rfl⟩
        · exact ⟨rfl, rfl⟩
      · split
        · split
          · exact ha
          · split
            · exact ha
            · split
              · unfold voteK
                split
                · exact setK_ti _ _
                · exact ⟨rfl, rfl⟩
              · split
                · unfold ackK
                  split
                  · exact setK_ti _ _
                  · exact ⟨rfl, rfl⟩
                · split
                  · exact abortK_same _ _ _ _
                  · split
                    · unfold woundK
                      split
                      · exact ⟨rfl, rfl⟩
                      · exact abortK_same _ _ _ _
                    · exact ⟨rfl, rfl⟩
        · exact ⟨rfl, rfl⟩
  · exact ⟨rfl, rfl⟩
theorem act18_is (h : KI N n s) (hn : n ≤ 90000) (c : Nat → Int) (hc : 1 ≤ c 0 ∧ c 0 ≤ 64) (hc3 : c 3 ≠ 0) (a : Nat → Int) :
    act18_P c s.cl s.ti s.la s.m s.tr a ∧ (act18_F c s.cl s.ti s.la s.m s.tr a).1 = sentK c N s a ∧ (act18_F c s.cl s.ti s.la s.m s.tr a).2.2.2 = ((nextK c N s a).ti, (nextK c N s a).la, (nextK c N s a).m, (nextK c N s a).tr, (nextK c N s a).cl) := by
  unfold act18_P act18_F sentK nextK
  by_cases h0 : a 0 = 0
  · simp only [if_pos h0]
    obtain ⟨p, q⟩ := klock_is h (by omega) c hc (a 1) (fun i => a (2 + i)) (a 4)
    have e := lockK_same (c 0) N s (a 1) (fun i => a (2 + i)) (a 4)
    rw [q, e.1, e.2]
    exact ⟨⟨p, trivial⟩, rfl, rfl⟩
  · simp only [if_neg h0]
    by_cases h1 : a 0 = 1
    · simp only [if_pos h1]
      obtain ⟨p, q⟩ := kcommit_is h (by omega) c (a 1)
      have e := commitK_same N s (a 1)
      rw [q, e.1, e.2]
      exact ⟨⟨p, trivial⟩, rfl, rfl⟩
    · simp only [if_neg h1]
      by_cases h2 : a 0 = 2
      · simp only [if_pos h2]
        obtain ⟨p, q⟩ := kabortC_is h (by omega) c (a 1)
        have e := abortCK_same N s (a 1)
        rw [q, e.1, e.2]
        exact ⟨⟨p, trivial⟩, rfl, rfl⟩
      · simp only [if_neg h2]
        by_cases h3 : a 0 = 3
        · simp only [if_pos h3]
          obtain ⟨p, q⟩ := kcrash_is h (by omega) c (a 1)
          have e := crashK_same N s (a 1)
          have e5 : ¬ a 0 = 5 := by omega
          have e6 : ¬ a 0 = 6 := by omega
          rw [q, e.1, e.2.1, e.2.2, if_neg e5, if_neg e6]
          exact ⟨⟨p, trivial⟩, rfl, rfl⟩
        · simp only [if_neg h3]
          by_cases h4 : a 0 = 4
          · simp only [if_pos h4]
            obtain ⟨p, q⟩ := kbegin_is h (by omega) c (a 1)
            have e := beginK_same N s (a 1)
            have e5 : ¬ a 0 = 5 := by omega
            have e6 : ¬ a 0 = 6 := by omega
            rw [q, e, if_neg e5, if_neg e6]
            exact ⟨⟨p, trivial⟩, rfl, rfl⟩
          · simp only [if_neg h4]
            by_cases h5 : a 0 = 5
            · simp only [if_pos h5]
              obtain ⟨p, q⟩ := khandle_is h (by omega) c (fun i => a (5 + i))
              have e := handleK_same (c 0) (nz (c 1)) s (fun i => a (5 + i))
              rw [q, e.1, e.2]
              exact ⟨⟨p, trivial⟩, rfl, rfl⟩
            · simp only [if_neg h5]
              by_cases h6 : a 0 = 6
              · simp only [if_pos h6]
                have e := tick1_KI h c
                have e2 := tickK_2 c s
                have e3 : (tickK c s).2.ti = s.ti + 1 := by rw [e2]; exact e.2.2.1
                have e4 : (tickK c s).2.la = s.la := by rw [e2]; exact e.2.2.2
                refine ⟨⟨⟨⟨N, n, h, hn⟩, hc3⟩, trivial⟩, rfl, ?_⟩
                rw [e3, e4]
                rfl
              · simp only [if_neg h6]
                exact ⟨trivial, trivial, trivial⟩
theorem KI.viewP (h : KI N n s) (hn : n ≤ 100000) (c : Nat → Int) : kview_P c s.cl s.ti s.la s.m s.tr := by
  have hl := h.hl
  have hr := h.hr
  refine ⟨h.skP hn, by rw [h.len]; omega, by omega, fun k => ?_⟩
  by_cases hk : 1 ≤ k ∧ k ≤ s.la
  · have hT := (h.hT k hk.1 hk.2).1
    have h1 := TI.lto hT
    have h2 := TI.lvo hT
    have h3 := TI.lac hT
    have h4 : _ ≤ n := hT.hgo
    exact ⟨by omega, by omega, by omega, by omega⟩
  · unfold TL
    rw [h.at0 hk]
    exact ⟨by decide, by decide, by decide, by decide⟩
theorem KI.view (h : KI N n s) (c : Nat → Int) : (kview_F c s.cl s.ti s.la s.m s.tr).2.2.1 = (List.range s.la.toNat).map fun k : Nat => tAt s.m ((k : Int) + 1) := by
  unfold kview_F
  dsimp only
  rw [h.keys, List.map_map]
  rfl
end
end Go.E
namespace Go.E
open Go
structure Ck (c : Nat → Int) (s : KS) (a : Nat → Int) (k : Int) (t t' : TT) : Prop where
  keep : 3 ≤ t.2.1 → t'.2.1 = t.2.1 ∧ t'.2.2.1 = t.2.2.1
  w3 : t.2.1 ≤ 2 → t'.2.1 = 4 → t'.2.2.1 = 3 → a 0 = 5 ∧ okB (fun i => a (5 + i)) = true ∧ a 5 = 10 ∧ a 8 = k ∧ nz (c 1) = false ∧ t.2.1 = 1 ∧ ((tAt s.m (a 14)).2.1 = 1 ∨ (tAt s.m (a 14)).2.1 = 2)
  w4 : t.2.1 ≤ 2 → t'.2.1 = 4 → t'.2.2.1 = 4 → a 0 = 5 ∧ nz (c 1) = true ∧ live_F (fun i => a (5 + i)) (openL s.m) = true ∧ back_F (fun i => a (5 + i)) = true ∧ k = (victim_F (fun i => a (5 + i))).1
section
variable {c : Nat → Int} {s : KS} {a : Nat → Int} {k : Int} {t t' : TT} {N : Int} {n : Nat}
theorem Ck.same (h1 : t'.2.1 = t.2.1) (h2 : t'.2.2.1 = t.2.2.1) : Ck c s a k t t' where
  keep := fun _ => ⟨h1, h2⟩
  w3 := fun h3 h4 => by omega
  w4 := fun h3 h4 => by omega
theorem Ck.rfl' : Ck c s a k t t := Ck.same rfl rfl
theorem Ck.oth (h1 : 3 ≤ t.2.1 → t'.2.1 = t.2.1 ∧ t'.2.2.1 = t.2.2.1) (h2 : t'.2.1 = 4 → t.2.1 ≤ 2 → t'.2.2.1 ≠ 3 ∧ t'.2.2.1 ≠ 4) : Ck c s a k t t' where
  keep := h1
  w3 := fun h3 h4 h5 => absurd h5 (h2 h4 h3).1
  w4 := fun h3 h4 h5 => absurd h5 (h2 h4 h3).2
theorem ask_st (t : TT) (x : Int) (b : Nat → Int) (m : Int) : (askT t x b m).1.2.1 = t.2.1 ∧ (askT t x b m).1.2.2.1 = t.2.2.1 := by
  unfold askT askC
  split
  · split
    · split
      · exact ⟨rfl, rfl⟩
      · split <;> exact ⟨rfl, rfl⟩
    · exact ⟨rfl, rfl⟩
  · exact ⟨rfl, rfl⟩
theorem ans_st (t : TT) (m : Nat → Int) : (ansT t m).1.2.1 = t.2.1 ∧ (ansT t m).1.2.2.1 = t.2.2.1 := by
  unfold ansT ansC
  split
  · split
    · split <;> exact ⟨rfl, rfl⟩
    · exact ⟨rfl, rfl⟩
  · exact ⟨rfl, rfl⟩
theorem ack_st (t : TT) (m : Nat → Int) : (ackT t m).1.2.1 = t.2.1 ∧ (ackT t m).1.2.2.1 = t.2.2.1 := by
  unfold ackT ackC
  split
  · split
    · split <;> exact ⟨rfl, rfl⟩
    · exact ⟨rfl, rfl⟩
  · exact ⟨rfl, rfl⟩
theorem fin_st (t : TT) : ((finT t).1.2.1 = t.2.1 ∧ (finT t).1.2.2.1 = t.2.2.1) ∨ (t.2.1 = 1 ∧ (finT t).1.2.1 ≤ 3) := by
  unfold finT finC
  by_cases h : t.2.1 = 1
  · rw [if_pos h]
    split
    · exact .inl ⟨rfl, rfl⟩
    · split
      · exact .inr ⟨h, by show (3 : Int) ≤ 3; decide⟩
      · exact .inr ⟨h, by show (2 : Int) ≤ 3; decide⟩
  · rw [if_neg h]; exact .inl ⟨rfl, rfl⟩
theorem vote_st (t : TT) (m : Nat → Int) : ((voteT t m).1.2.1 = t.2.1 ∧ (voteT t m).1.2.2.1 = t.2.2.1) ∨ (t.2.1 = 2 ∧ ((voteT t m).1.2.1 ≤ 3 ∨ (voteT t m).1.2.2.1 = 2)) := by
  unfold voteT voteC
  split
  · by_cases h : t.2.1 = 2
    · rw [if_pos h]
      split
      · split
        · exact .inr ⟨h, .inr rfl⟩
        · split
          · exact .inl ⟨rfl, rfl⟩
          · exact .inr ⟨h, .inl (by show (3 : Int) ≤ 3; decide)⟩
      · exact .inl ⟨rfl, rfl⟩
    · rw [if_neg h]; exact .inl ⟨rfl, rfl⟩
  · exact .inl ⟨rfl, rfl⟩
theorem abort_st (t : TT) (r : Int) : ((abortT t r).1.2.1 = t.2.1 ∧ (abortT t r).1.2.2.1 = t.2.2.1) ∨ (¬ (t.2.1 = 3 ∨ t.2.1 = 4) ∧ (abortT t r).1.2.2.1 = r) := by
  unfold abortT abortC
  split
  · by_cases h : t.2.1 = 3 ∨ t.2.1 = 4
    · rw [if_pos h]; exact .inl ⟨rfl, rfl⟩
    · rw [if_neg h]; exact .inr ⟨h, rfl⟩
  · exact .inl ⟨rfl, rfl⟩
theorem tAt_setK (s : KS) (t : TT) (k : Int) : tAt (setK s t).m k = if k = t.1 then t else tAt s.m k := by rw [setK_m, tAt_mset]
theorem tAt_abortK (h : KI N n s) (tx re : Int) (l : List Int) (hl : ∀ x ∈ l, 1 ≤ x) (k : Int) : tAt (abortK s tx re l).2.2.m k = tAt s.m k ∨ (k = tx ∧ (tAt s.m tx).2.1 ∈ l ∧ tAt (abortK s tx re l).2.2.m k = (abortT (tAt s.m tx) re).1) := by
  unfold abortK
  by_cases hm : (tAt s.m tx).2.1 ∈ l
  · rw [if_pos hm]
    have hk : 1 ≤ tx ∧ tx ≤ s.la := by
      rcases Classical.em (1 ≤ tx ∧ tx ≤ s.la) with hk | hk
      · exact hk
      · rw [h.at0 hk] at hm
        have := hl _ hm
        exact absurd (show (1 : Int) ≤ 0 from this) (by decide)
    have hx := (h.hT tx hk.1 hk.2).2
    unfold doneK
    split
    · dsimp only
      rw [tAt_setK, abort_tx, hx]
      by_cases e : k = tx
      · rw [if_pos e]; exact .inr ⟨e, hm, rfl⟩
      · rw [if_neg e]; exact .inl rfl
    · exact .inl rfl
  · rw [if_neg hm]; exact .inl rfl
theorem Ck_abort (h : KI N n s) {tx re : Int} {l : List Int} (hl : ∀ x ∈ l, 1 ≤ x ∧ x ≤ 2) (h3 : re = 3 → k = tx → (tAt s.m tx).2.1 ∈ l → a 0 = 5 ∧ okB (fun i => a (5 + i)) = true ∧ a 5 = 10 ∧ a 8 = k ∧ nz (c 1) = false ∧ (tAt s.m k).2.1 = 1 ∧ ((tAt s.m (a 14)).2.1 = 1 ∨ (tAt s.m (a 14)).2.1 = 2))
    (h4 : re = 4 → k = tx → (tAt s.m tx).2.1 ∈ l → a 0 = 5 ∧ nz (c 1) = true ∧ live_F (fun i => a (5 + i)) (openL s.m) = true ∧ back_F (fun i => a (5 + i)) = true ∧ k = (victim_F (fun i => a (5 + i))).1) :
    Ck c s a k (tAt s.m k) (tAt (abortK s tx re l).2.2.m k) := by
  rcases tAt_abortK h tx re l (fun x hx => (hl x hx).1) k with e | ⟨e1, e2, e3⟩
  · rw [e]; exact Ck.rfl'
  · rw [e3]
    have hr := hl _ e2
    subst e1
    rcases abort_st (tAt s.m k) re with ⟨g1, g2⟩ | ⟨g1, g2⟩
    · exact Ck.same g1 g2
    · exact ⟨fun h => by omega, fun _ _ h => h3 (g2.symm.trans h) rfl e2, fun _ _ h => h4 (g2.symm.trans h) rfl e2⟩
theorem lost_at (h : KI N n s) (l : List Int) (out : LM) (k : Int) : tAt (lostF l (out, s)).2.m k = tAt s.m k ∨ (¬ 3 ≤ (tAt s.m k).2.1 ∧ (tAt (lostF l (out, s)).2.m k).2.2.1 = 5) := by
  induction l generalizing n s out with
  | nil => exact .inl rfl
  | cons x l ih =>
    have e : lostF (x :: l) (out, s) = lostF l (out ++ (abortK s x 5 [1]).1, (abortK s x 5 [1]).2.2) := rfl
    rw [e]
    have h1 := abortK_KI h x 5 (l := [1]) (by simp)
    rcases ih h1 (out ++ (abortK s x 5 [1]).1) with i | ⟨i1, i2⟩
    · rw [i]
      rcases tAt_abortK h x 5 [1] (by simp) k with e | ⟨e1, e2, e3⟩
      · rw [e]; exact .inl rfl
      · rw [e3]
        subst e1
        have e2' : (tAt s.m k).2.1 = 1 := by simpa using e2
        have : (abortT (tAt s.m k) 5).1.2.2.1 = 5 := by
          unfold abortT abortC
          rw [if_pos (by decide), if_neg (by omega)]
        exact .inr ⟨by omega, this⟩
    · rcases tAt_abortK h x 5 [1] (by simp) k with e | ⟨e1, e2, e3⟩
      · rw [e] at i1; exact .inr ⟨i1, i2⟩
      · subst e1
        have e2' : (tAt s.m k).2.1 = 1 := by simpa using e2
        exact .inr ⟨by omega, i2⟩
theorem next_Ck (h : KI N n s) (hn : n ≤ 90000) (k : Int) (hk : 1 ≤ k ∧ k ≤ s.la) : Ck c s a k (tAt s.m k) (tAt (nextK c N s a).m k) := by
  unfold nextK
  by_cases h0 : a 0 = 0
  · rw [if_pos h0]
    unfold lockK
    split
    · split
      · exact Ck.rfl'
      · split
        · split
          · dsimp only
            rw [tAt_setK]
            split
            · rename_i e
              have e' := e
              rw [ask_tx] at e'
              by_cases hx : 1 ≤ s.cl (1 + (a 1).toNat * 3) ∧ s.cl (1 + (a 1).toNat * 3) ≤ s.la
              · rw [(h.hT _ hx.1 hx.2).2] at e'
                rw [e'] 
                exact Ck.same (ask_st _ _ _ _).1 (ask_st _ _ _ _).2
              · rw [h.at0 hx] at e'
                exact absurd (show k = 0 from e') (by omega)
            · exact Ck.rfl'
          · exact Ck.rfl'
        · exact Ck.rfl'
    · exact Ck.rfl'
  · rw [if_neg h0]
    by_cases h1 : a 0 = 1
    · rw [if_pos h1]
      unfold commitK
      split
      · split
        · exact Ck.rfl'
        · unfold doneK
          split
          · dsimp only
            rw [tAt_setK]
            split
            · rename_i e
              have e' := e
              rw [fin_tx] at e'
              by_cases hx : 1 ≤ s.cl (1 + (a 1).toNat * 3) ∧ s.cl (1 + (a 1).toNat * 3) ≤ s.la
              · rw [(h.hT _ hx.1 hx.2).2] at e'
                rw [e']
                rcases fin_st (tAt s.m (s.cl (1 + (a 1).toNat * 3))) with g | g
                · exact Ck.same g.1 g.2
                · exact Ck.oth (fun h => by omega) fun h => by omega
              · rw [h.at0 hx] at e'
                exact absurd (show k = 0 from e') (by omega)
            · exact Ck.rfl'
          · exact Ck.rfl'
      · exact Ck.rfl'
    · rw [if_neg h1]
      by_cases h2 : a 0 = 2
      · rw [if_pos h2]
        unfold abortCK
        split
        · split
          · exact Ck.rfl'
          · exact Ck_abort h (by simp) (fun h => by omega) fun h => by omega
        · exact Ck.rfl'
      · rw [if_neg h2]
        by_cases h3 : a 0 = 3
        · rw [if_pos h3, (crashK_same N s (a 1)).2.2]; exact Ck.rfl'
        · rw [if_neg h3]
          by_cases h4 : a 0 = 4
          · rw [if_pos h4]
            unfold beginK
            split
            · split
              · dsimp only
                rw [tAt_mset, if_neg (by omega)]; exact Ck.rfl'
              · exact Ck.rfl'
            · exact Ck.rfl'
          · rw [if_neg h4]
            by_cases h5 : a 0 = 5
            · rw [if_pos h5]
              unfold handleK
              by_cases ho : okB (fun i => a (5 + i)) = true
              · rw [if_pos ho]
                split
                · exact Ck.rfl'
                · dsimp only
                  unfold comesK
                  split
                  · unfold probedK
                    split
                    · rename_i hp
                      split
                      · rename_i hlv
                        split
                        · rename_i hb
                          exact Ck_abort h (by simp) (fun h => by omega) fun _ e _ => ⟨h5, hp, hlv, hb, e⟩
                        · split
                          · exact Ck.rfl'
                          · split <;> exact Ck.rfl'
                      · exact Ck.rfl'
                    · exact Ck.rfl'
                  · split
                    · rename_i hm
                      have hx := (h.hk _).1 hm
                      have hx2 := (h.hT _ hx.1 hx.2).2
                      have ansL : Ck c s a k (tAt s.m k) (tAt (ansK s fun i => a (5 + i)).2.m k) := by
                        unfold ansK
                        split
                        · show Ck c s a k (tAt s.m k) (tAt (setK s _).m k)
                          rw [tAt_setK, ans_tx, hx2]
                          split
                          · rename_i e
                            rw [e]
                            exact Ck.same (ans_st _ _).1 (ans_st _ _).2
                          · exact Ck.rfl'
                        · exact Ck.rfl'
                      split
                      · exact ansL
                      · split
                        · exact ansL
                        · split
                          · unfold voteK
                            split
                            · dsimp only
                              rw [tAt_setK, vote_tx, hx2]
                              split
                              · rename_i e
                                rw [e]
                                have g := vote_st (tAt s.m (a (5 + 3))) (fun i => a (5 + i))
                                generalize (voteT (tAt s.m (a (5 + 3))) fun i => a (5 + i)).1 = t' at g ⊢
                                generalize tAt s.m (a (5 + 3)) = t at g ⊢
                                rcases g with g | g
                                · exact Ck.same g.1 g.2
                                · exact Ck.oth (fun h => by omega) fun h _ => by omega
                              · exact Ck.rfl'
                            · exact Ck.rfl'
                          · split
                            · unfold ackK
                              split
                              · dsimp only
                                rw [tAt_setK, ack_tx, hx2]
                                split
                                · rename_i e
                                  rw [e]
                                  exact Ck.same (ack_st _ _).1 (ack_st _ _).2
                                · exact Ck.rfl'
                              · exact Ck.rfl'
                            · split
                              · exact Ck_abort h (by simp) (fun h => by omega) fun h => by omega
                              · split
                                · rename_i h10
                                  unfold woundK
                                  split
                                  · exact Ck.rfl'
                                  · rename_i hw
                                    refine Ck_abort h (by simp) (fun _ e1 e2 => ?_) fun h => by omega
                                    have e2' : (tAt s.m (a (5 + 3))).2.1 = 1 := by simpa using e2
                                    simp only [Bool.or_eq_true, Bool.and_eq_true, Bool.not_eq_true', decide_eq_false_iff_not] at hw
                                    refine ⟨h5, ho, h10, e1.symm, ?_, by rw [e1]; exact e2', ?_⟩
                                    · cases hz : nz (c 1) with
                                      | false => rfl
                                      | true => exact absurd (.inl hz) hw
                                    · show (tAt s.m (a (5 + 9))).2.1 = 1 ∨ (tAt s.m (a (5 + 9))).2.1 = 2
                                      omega
                                · exact Ck.rfl'
                    · exact Ck.rfl'
              · rw [if_neg ho]; exact Ck.rfl'
            · rw [if_neg h5]
              by_cases h6 : a 0 = 6
              · rw [if_pos h6, tickK_2]
                unfold tick1
                rcases lost_at h.later (clost_F s.cl (s.ti + 1) (c 2)) [] k with e | ⟨e1, e2⟩
                · rw [e]; exact Ck.rfl'
                · exact Ck.oth (fun h => absurd h e1) fun _ _ => by omega
              · rw [if_neg h6]; exact Ck.rfl'
theorem next_la (c : Nat → Int) (N : Int) (s : KS) (a : Nat → Int) : s.la ≤ (nextK c N s a).la := by
  unfold nextK
  split
  · rw [(lockK_same _ _ _ _ _ _).2]; exact Int.le_refl _
  · split
    · rw [(commitK_same _ _ _).2]; exact Int.le_refl _
    · split
      · rw [(abortCK_same _ _ _).2]; exact Int.le_refl _
      · split
        · rw [(crashK_same _ _ _).2.1]; exact Int.le_refl _
        · split
          · unfold beginK
            split
            · split
              · show s.la ≤ s.la + 1; omega
              · exact Int.le_refl _
            · exact Int.le_refl _
          · split
            · rw [(handleK_same _ _ _ _).2]; exact Int.le_refl _
            · split
              · rw [tickK_2]
                have : ∀ (l : List Int) (p : LM × KS), (lostF l p).2.la = p.2.la := by
                  intro l
                  induction l with
                  | nil => intro p; rfl
                  | cons x l ih => intro p; exact (ih _).trans (abortK_same _ _ _ _).2
                unfold tick1
                rw [this]; exact Int.le_refl _
              · exact Int.le_refl _
end
end Go.E
namespace Go.E
open Go
abbrev MI := List (Int × Int)
def scan1 (e : Nat → Int) (p : MI × MI) : Option (MI × MI) :=
  if e 0 = 8 then some p
  else if 0 < mget ieq p.1 (e 2) 0 then none
  else if e 0 = 1 then
    if ((!(decide (mget ieq p.2 (e 1) 0 = 0))) && (decide (mget ieq p.1 (mget ieq p.2 (e 1) 0) 0 = 0))) = true then none else some (p.1, mset ieq p.2 (e 1) (e 2))
  else if ((decide (e 0 = 6)) || (decide (e 0 = 7))) = true then some (mset ieq p.1 (e 2) (mget ieq p.1 (e 2) 0 + 1), p.2)
  else some p
def scanL : LM → MI × MI → Option (MI × MI)
  | [], p => some p
  | e :: l, p => (scan1 e p).bind (scanL l)
theorem scanL_app (l k : LM) (p : MI × MI) : scanL (l ++ k) p = (scanL l p).bind (scanL k) := by
  induction l generalizing p with
  | nil => rfl
  | cons e l ih =>
    show (scan1 e p).bind (scanL (l ++ k)) = ((scan1 e p).bind (scanL l)).bind (scanL k)
    cases scan1 e p with
    | none => rfl
    | some q => exact ih q
theorem scanL_one (e : Nat → Int) (p : MI × MI) : scanL [e] p = scan1 e p := by
  show (scan1 e p).bind (scanL []) = scan1 e p
  cases scan1 e p <;> rfl
theorem mgetI_mset (d : MI) (k v x : Int) : mget ieq (mset ieq d k v) x 0 = if x = k then v else mget ieq d x 0 := by
  rw [mget_mset eqk_int]
  simp [ieq]
structure TrI (N : Int) (s : KS) : Prop where
  ex : ∃ E W, scanL s.tr ([], []) = some (E, W) ∧ (∀ k, mget ieq E k 0 = if (1 ≤ k ∧ k ≤ s.la) ∧ 3 ≤ (tAt s.m k).2.1 then 1 else 0) ∧
    ∀ id : Nat, 1 ≤ id → (id : Int) ≤ N → (mget ieq W id 0 = 0 ∨ (1 ≤ mget ieq W id 0 ∧ mget ieq W id 0 ≤ s.la)) ∧ (s.cl (1 + id * 3) ≠ 0 → mget ieq W id 0 = s.cl (1 + id * 3)) ∧ (s.cl (1 + id * 3) = 0 → mget ieq W id 0 = 0 ∨ 3 ≤ (tAt s.m (mget ieq W id 0)).2.1)
section
variable {N : Int} {n : Nat} {s : KS}
theorem TrI.start (N : Int) : TrI N ⟨updI (fun _ => 0) 0 N, 0, 0, [], []⟩ := by
  refine ⟨[], [], rfl, fun k => ?_, fun id h1 h2 => ⟨.inl rfl, fun h => absurd (if_neg (by omega)) h, fun _ => .inl rfl⟩⟩
  rw [if_neg]
  · rfl
  · rintro ⟨h, _⟩
    have : 1 ≤ k ∧ k ≤ 0 := h
    omega
theorem TrI.ext (h : TrI N s) {e : Nat → Int} (h0 : e 0 = 8 ∨ (e 0 ≠ 1 ∧ e 0 ≠ 6 ∧ e 0 ≠ 7 ∧ ¬ 3 ≤ (tAt s.m (e 2)).2.1)) : TrI N { s with tr := s.tr ++ [e] } := by
  obtain ⟨E, W, h1, h2, h3⟩ := h.ex
  refine ⟨E, W, ?_, h2, h3⟩
  show scanL (s.tr ++ [e]) ([], []) = _
  rw [scanL_app, h1]
  show scanL [e] (E, W) = _
  rw [scanL_one]
  unfold scan1
  rcases h0 with h0 | ⟨a1, a2, a3, a4⟩
  · rw [if_pos h0]
  · by_cases h8 : e 0 = 8
    · rw [if_pos h8]
    · rw [if_neg h8, if_neg a1]
      dsimp only
      have e0 : mget ieq E (e 2) 0 = 0 := by
        rw [h2, if_neg]
        exact fun h => a4 h.2
      rw [e0, if_neg (by decide), if_neg (by simp [a2, a3])]
theorem TrI.put (hK : KI N n s) (h : TrI N s) {t : TT} (h1 : 1 ≤ t.1) (h2 : t.1 ≤ s.la) (hs : 1 ≤ t.2.1 ∧ t.2.1 ≤ 4) (hd : 3 ≤ (tAt s.m t.1).2.1 → t.2.1 = (tAt s.m t.1).2.1) (hc : t.2.1 ≠ (tAt s.m t.1).2.1 → 2 ≤ t.2.1) : TrI N (setK s t) := by
  obtain ⟨E, W, g1, g2, g3⟩ := h.ex
  have hN := hK.hc.n1
  unfold setK
  by_cases he : (tAt s.m t.1).2.1 = t.2.1
  · rw [if_pos he]
    have est : ∀ k, (tAt (mset ieq s.m t.1 t) k).2.1 = (tAt s.m k).2.1 := fun k => by
      rw [tAt_mset]
      by_cases e : k = t.1
      · rw [if_pos e, e]; exact he.symm
      · rw [if_neg e]
    refine ⟨E, W, g1, fun k => ?_, fun id i1 i2 => ?_⟩
    · show mget ieq E k 0 = if (1 ≤ k ∧ k ≤ s.la) ∧ 3 ≤ (tAt (mset ieq s.m t.1 t) k).2.1 then 1 else 0
      rw [est]; exact g2 k
    · obtain ⟨k1, k2, k3⟩ := g3 id i1 i2
      refine ⟨k1, k2, fun h => ?_⟩
      show _ ∨ 3 ≤ (tAt (mset ieq s.m t.1 t) _).2.1
      rw [est]; exact k3 h
  · rw [if_neg he]
    have hu : ¬ 3 ≤ (tAt s.m t.1).2.1 := fun h => he (hd h).symm
    have h2' := hc (fun e => he e.symm)
    have e0 : mget ieq E t.1 0 = 0 := by rw [g2, if_neg fun h => hu h.2]
    by_cases h34 : t.2.1 = 3 ∨ t.2.1 = 4
    · rw [if_pos h34]
      refine ⟨mset ieq E t.1 1, W, ?_, fun k => ?_, fun id i1 i2 => ?_⟩
      · show scanL (s.tr ++ evS t) ([], []) = _
        rw [scanL_app, g1]
        show scanL (evS t) (E, W) = _
        unfold evS
        rw [if_neg (by omega)]
        by_cases h4 : t.2.1 = 4
        · rw [if_pos h4, scanL_one]
          unfold scan1
          have a0 : (updI (updI (updI (fun _ => 0) 0 7) 2 t.1) 6 t.2.2.1) 0 = 7 := rfl
          have a2 : (updI (updI (updI (fun _ => 0) 0 7) 2 t.1) 6 t.2.2.1) 2 = t.1 := rfl
          rw [a0, a2, e0]
          rfl
        · rw [if_neg h4, if_pos (by omega), scanL_one]
          unfold scan1
          have a0 : (updI (updI (fun _ => 0) 0 6) 2 t.1) 0 = 6 := rfl
          have a2 : (updI (updI (fun _ => 0) 0 6) 2 t.1) 2 = t.1 := rfl
          rw [a0, a2, e0]
          rfl
      · show mget ieq (mset ieq E t.1 1) k 0 = if (1 ≤ k ∧ k ≤ s.la) ∧ 3 ≤ (tAt (mset ieq s.m t.1 t) k).2.1 then 1 else 0
        rw [mgetI_mset, tAt_mset]
        by_cases e : k = t.1
        · rw [if_pos e, if_pos e, if_pos ⟨by omega, by omega⟩]
        · rw [if_neg e, if_neg e]; exact g2 k
      · obtain ⟨k1, k2, k3⟩ := g3 id i1 i2
        have hcl := endC_tx hK.hc h1 (j := id) (by omega)
        refine ⟨k1, fun hne => ?_, fun hz => ?_⟩
        · have hne' : endC s.cl t.1 (1 + id * 3) ≠ 0 := hne
          show _ = endC s.cl t.1 (1 + id * 3)
          rw [hcl] at hne' ⊢
          by_cases e : s.cl (1 + id * 3) = t.1
          · rw [if_pos e] at hne'; exact absurd rfl hne'
          · rw [if_neg e] at hne' ⊢; exact k2 hne'
        · have hz' : endC s.cl t.1 (1 + id * 3) = 0 := hz
          show _ ∨ 3 ≤ (tAt (mset ieq s.m t.1 t) _).2.1
          rw [hcl] at hz'
          rw [tAt_mset]
          by_cases e : s.cl (1 + id * 3) = t.1
          · have := k2 (by omega)
            rw [if_pos (this.trans e)]; exact .inr (by omega)
          · rw [if_neg e] at hz'
            rcases k3 hz' with z | z
            · exact .inl z
            · refine .inr ?_
              split
              · omega
              · exact z
    · rw [if_neg h34]
      have h2e : t.2.1 = 2 := by omega
      have est : ∀ k, 3 ≤ (tAt (mset ieq s.m t.1 t) k).2.1 ↔ 3 ≤ (tAt s.m k).2.1 := fun k => by
        rw [tAt_mset]
        by_cases e : k = t.1
        · rw [if_pos e, e]; omega
        · rw [if_neg e]
      refine ⟨E, W, ?_, fun k => ?_, fun id i1 i2 => ?_⟩
      · show scanL (s.tr ++ evS t) ([], []) = _
        rw [scanL_app, g1]
        show scanL (evS t) (E, W) = _
        unfold evS
        rw [if_pos h2e, scanL_one]
        unfold scan1
        have a0 : (updI (updI (fun _ => 0) 0 5) 2 t.1) 0 = 5 := rfl
        have a2 : (updI (updI (fun _ => 0) 0 5) 2 t.1) 2 = t.1 := rfl
        rw [a0, a2, e0]
        rfl
      · show mget ieq E k 0 = if (1 ≤ k ∧ k ≤ s.la) ∧ 3 ≤ (tAt (mset ieq s.m t.1 t) k).2.1 then 1 else 0
        rw [g2 k]
        by_cases hx : (1 ≤ k ∧ k ≤ s.la) ∧ 3 ≤ (tAt s.m k).2.1
        · rw [if_pos hx, if_pos ⟨hx.1, (est k).2 hx.2⟩]
        · rw [if_neg hx, if_neg fun h => hx ⟨h.1, (est k).1 h.2⟩]
      · obtain ⟨k1, k2, k3⟩ := g3 id i1 i2
        exact ⟨k1, k2, fun h => (k3 h).imp (fun z => z) fun z => (est _).2 z⟩
theorem TrI.crash (h : TrI N s) (id : Int) : TrI N (crashK N s id).2 := by
  unfold crashK
  split
  · have hx := h.ext (e := updI (updI (fun _ => 0) 0 8) 1 id) (.inl rfl)
    obtain ⟨E, W, g1, g2, g3⟩ := hx.ex
    refine ⟨E, W, g1, g2, fun j j1 j2 => ?_⟩
    obtain ⟨k1, k2, k3⟩ := g3 j j1 j2
    refine ⟨k1, fun hne => ?_, fun hz => ?_⟩
    · have hne' : deadC s.cl id.toNat s.ti (1 + j * 3) ≠ 0 := hne
      show _ = deadC s.cl id.toNat s.ti (1 + j * 3)
      rw [dead_tx] at hne' ⊢
      exact k2 hne'
    · have hz' : deadC s.cl id.toNat s.ti (1 + j * 3) = 0 := hz
      rw [dead_tx] at hz'
      exact k3 hz'
  · exact h
theorem TrI.begins (hK : KI N n s) (h : TrI N s) (id : Int) : TrI N (beginK N s id).2.2 := by
  have hN := hK.hc.n1
  have hl := hK.hl
  unfold beginK
  by_cases ha : aliveC N s.cl id = 0
  · rw [if_pos ha]
    by_cases h0 : s.cl (1 + id.toNat * 3) = 0
    · rw [if_pos h0]
      have hid := hK.hc.toN (aliveC_0.1 ha).1
      obtain ⟨E, W, g1, g2, g3⟩ := h.ex
      obtain ⟨k1, k2, k3⟩ := g3 id.toNat hid.1.1 hid.1.2
      rw [hid.2] at k1 k2 k3
      have e0 : mget ieq E (s.la + 1) 0 = 0 := by
        rw [g2, if_neg]
        exact fun h => by have := h.1.2; omega
      have est : ∀ k, k ≤ s.la → tAt (mset ieq s.m (s.la + 1) (newT (s.la + 1))) k = tAt s.m k := fun k hk => by rw [tAt_mset, if_neg (by omega)]
      refine ⟨E, mset ieq W id (s.la + 1), ?_, fun k => ?_, fun j j1 j2 => ?_⟩
      · show scanL (s.tr ++ [_]) ([], []) = _
        rw [scanL_app, g1]
        show scanL [_] (E, W) = _
        rw [scanL_one]
        unfold scan1
        have a0 : (updI (updI (updI (fun _ => 0) 0 1) 1 id) 2 (s.la + 1)) 0 = 1 := rfl
        have a1 : (updI (updI (updI (fun _ => 0) 0 1) 1 id) 2 (s.la + 1)) 1 = id := rfl
        have a2 : (updI (updI (updI (fun _ => 0) 0 1) 1 id) 2 (s.la + 1)) 2 = s.la + 1 := rfl
        rw [a0, a1, a2]
        dsimp only
        rw [e0, if_neg (by decide), if_neg (by decide), if_pos rfl, if_neg]
        rw [Bool.and_eq_true, Bool.not_eq_true', decide_eq_false_iff_not, decide_eq_true_eq]
        rintro ⟨z1, z2⟩
        rcases k3 h0 with z | z
        · exact z1 z
        · rw [g2, if_pos ⟨k1.elim (fun z => absurd z z1) fun z => z, z⟩] at z2
          cases z2
      · show mget ieq E k 0 = if (1 ≤ k ∧ k ≤ s.la + 1) ∧ 3 ≤ (tAt (mset ieq s.m (s.la + 1) (newT (s.la + 1))) k).2.1 then 1 else 0
        by_cases e : k = s.la + 1
        · rw [e, e0, tAt_mset, if_pos rfl, if_neg]
          rintro ⟨_, z⟩
          exact absurd (show (3 : Int) ≤ 1 from z) (by decide)
        · rw [tAt_mset, if_neg e, g2]
          by_cases hx : (1 ≤ k ∧ k ≤ s.la) ∧ 3 ≤ (tAt s.m k).2.1
          · rw [if_pos hx, if_pos ⟨by omega, hx.2⟩]
          · rw [if_neg hx, if_neg fun h => hx ⟨by omega, h.2⟩]
      · show (mget ieq (mset ieq W id (s.la + 1)) (j : Int) 0 = 0 ∨ (1 ≤ mget ieq (mset ieq W id (s.la + 1)) (j : Int) 0 ∧ mget ieq (mset ieq W id (s.la + 1)) (j : Int) 0 ≤ s.la + 1)) ∧ (updI s.cl (1 + id.toNat * 3) (s.la + 1) (1 + j * 3) ≠ 0 → mget ieq (mset ieq W id (s.la + 1)) (j : Int) 0 = updI s.cl (1 + id.toNat * 3) (s.la + 1) (1 + j * 3)) ∧ (updI s.cl (1 + id.toNat * 3) (s.la + 1) (1 + j * 3) = 0 → mget ieq (mset ieq W id (s.la + 1)) (j : Int) 0 = 0 ∨ 3 ≤ (tAt (mset ieq s.m (s.la + 1) (newT (s.la + 1))) (mget ieq (mset ieq W id (s.la + 1)) (j : Int) 0)).2.1)
        rw [mgetI_mset, up_tx]
        by_cases e : j = id.toNat
        · rw [if_pos e, if_pos (by omega)]
          exact ⟨.inr ⟨by omega, by omega⟩, fun _ => rfl, fun h => by omega⟩
        · rw [if_neg e, if_neg (by omega)]
          obtain ⟨m1, m2, m3⟩ := g3 j j1 j2
          refine ⟨by omega, m2, fun h => ?_⟩
          rcases m1 with z | z
          · exact .inl z
          · rw [est _ z.2]; exact m3 h
    · rw [if_neg h0]; exact h
  · rw [if_neg ha]; exact h
end
end Go.E
namespace Go.E
open Go
section
variable {N : Int} {n : Nat} {s : KS}
theorem ask_ok (t : TT) (x : Int) (b : Nat → Int) (m : Int) (h : (askT t x b m).2.2 = 0) : t.2.1 = 1 := by
  unfold askT askC at h
  split at h
  · split at h
    · assumption
    · cases h
  · cases h
theorem ans_ok (t : TT) (m : Nat → Int) (h : (ansT t m).2 = 0) : t.2.1 = 1 := by
  unfold ansT ansC at h
  split at h
  · split at h
    · assumption
    · cases h
  · cases h
theorem vote_2 (t : TT) (m : Nat → Int) : (voteT t m).1.2.1 = t.2.1 ∨ 2 ≤ (voteT t m).1.2.1 := by
  unfold voteT voteC
  split
  · split
    · split
      · split
        · exact .inr (by show (2 : Int) ≤ 4; decide)
        · split
          · exact .inl rfl
          · exact .inr (by show (2 : Int) ≤ 3; decide)
      · exact .inl rfl
    · exact .inl rfl
  · exact .inl rfl
theorem abort_2 (t : TT) (r : Int) : (abortT t r).1.2.1 = t.2.1 ∨ 2 ≤ (abortT t r).1.2.1 := by
  unfold abortT abortC
  split
  · split
    · exact .inl rfl
    · exact .inr (by show (2 : Int) ≤ 4; decide)
  · exact .inl rfl
theorem TrI.done (hK : KI N n s) (h : TrI N s) {k : Int} (hk : 1 ≤ k ∧ k ≤ s.la) {r : TT × LM × Int} (hT : TIT (n + 1) r.1) (hx : r.1.1 = k) (hd : 3 ≤ (tAt s.m k).2.1 → r.1.2.1 = (tAt s.m k).2.1) (hc : r.1.2.1 ≠ (tAt s.m k).2.1 → 2 ≤ r.1.2.1) : TrI N (doneK s r).2.2 := by
  unfold doneK
  split
  · exact TrI.put hK h (by rw [hx]; exact hk.1) (by rw [hx]; exact hk.2) hT.hst (by rw [hx]; exact hd) (by rw [hx]; exact hc)
  · exact h
theorem TrI.abort (hK : KI N n s) (h : TrI N s) (tx re : Int) {l : List Int} (hl : ∀ x ∈ l, 1 ≤ x ∧ x ≤ 2) : TrI N (abortK s tx re l).2.2 := by
  unfold abortK
  by_cases hm : (tAt s.m tx).2.1 ∈ l
  · rw [if_pos hm]
    have hk : 1 ≤ tx ∧ tx ≤ s.la := by
      rcases Classical.em (1 ≤ tx ∧ tx ≤ s.la) with hk | hk
      · exact hk
      · rw [hK.at0 hk] at hm
        have := (hl _ hm).1
        exact absurd (show (1 : Int) ≤ 0 from this) (by decide)
    obtain ⟨hT, hx⟩ := hK.hT tx hk.1 hk.2
    have := hl _ hm
    exact TrI.done hK h hk (abortC_TI hT re) ((abort_tx _ _).trans hx) (fun h => by omega) fun hne => (abort_2 _ _).elim (fun e => absurd e hne) fun e => e
  · rw [if_neg hm]; exact h
theorem TrI.lost (hK : KI N n s) (h : TrI N s) (l : List Int) (out : LM) : TrI N (lostF l (out, s)).2 := by
  induction l generalizing n s out with
  | nil => exact h
  | cons x l ih => exact ih (abortK_KI hK x 5 (l := [1]) (by simp)) (TrI.abort hK h x 5 (l := [1]) (by simp)) _
theorem TrI.later (h : TrI N s) : TrI N { s with ti := s.ti + 1 } := ⟨h.ex⟩
theorem TrI.next (hK : KI N n s) (hn : n ≤ 90000) (h : TrI N s) (c a : Nat → Int) : TrI N (nextK c N s a) := by
  unfold nextK
  split
  · unfold lockK
    split
    · rename_i ha
      split
      · exact h
      · rename_i h0
        have hw := hK.now ha h0
        obtain ⟨hT, hx⟩ := hK.hT _ hw.1 hw.2
        split
        · split
          · rename_i hz
            have hs1 := ask_ok _ _ _ _ hz
            have htx := (ask_tx (tAt s.m (s.cl (1 + (a 1).toNat * 3))) (resShard_F (fun i => a (2 + i)) (c 0)).1 (fun i => a (2 + i)) (a 4)).trans hx
            have hst := (ask_st (tAt s.m (s.cl (1 + (a 1).toNat * 3))) (resShard_F (fun i => a (2 + i)) (c 0)).1 (fun i => a (2 + i)) (a 4)).1
            have hq := askC_TI hT (resShard_F (fun i => a (2 + i)) (c 0)).1 (fun i => a (2 + i)) (a 4)
            have hq' : TIT (n + 1) (askT (tAt s.m (s.cl (1 + (a 1).toNat * 3))) (resShard_F (fun i => a (2 + i)) (c 0)).1 (fun i => a (2 + i)) (a 4)).1 := hq
            dsimp only
            generalize (askT (tAt s.m (s.cl (1 + (a 1).toNat * 3))) (resShard_F (fun i => a (2 + i)) (c 0)).1 (fun i => a (2 + i)) (a 4)).1 = t at htx hst hq' ⊢
            have hE : TrI N { s with tr := s.tr ++ [askE t.1 (fun i => a (2 + i)) (a 4)] } := by
              refine h.ext (.inr ⟨?_, ?_, ?_, ?_⟩)
              · show (2 : Int) ≠ 1; decide
              · show (2 : Int) ≠ 6; decide
              · show (2 : Int) ≠ 7; decide
              · show ¬ 3 ≤ (tAt s.m t.1).2.1
                rw [htx, hs1]; decide
            refine TrI.put (hK.ext _) hE (by rw [htx]; exact hw.1) (by rw [htx]; exact hw.2) hq'.hst (fun _ => ?_) fun hne => absurd ?_ hne
            · show t.2.1 = (tAt s.m t.1).2.1
              rw [htx]; exact hst
            · show t.2.1 = (tAt s.m t.1).2.1
              rw [htx]; exact hst
          · exact h
        · exact h
    · exact h
  · split
    · unfold commitK
      split
      · rename_i ha
        split
        · exact h
        · rename_i h0
          have hw := hK.now ha h0
          obtain ⟨hT, hx⟩ := hK.hT _ hw.1 hw.2
          have hf := finC_TI hT
          have hf' : TIT (n + 1) (finT (tAt s.m (s.cl (1 + (a 1).toNat * 3)))).1 := hf
          have hh := hf'.hst
          have hs := fin_st (tAt s.m (s.cl (1 + (a 1).toNat * 3)))
          exact TrI.done hK h hw hf' ((fin_tx _).trans hx) (fun h => by omega) fun hne => by omega
      · exact h
    · split
      · unfold abortCK
        split
        · split
          · exact h
          · exact TrI.abort hK h _ _ (by simp)
        · exact h
      · split
        · exact h.crash _
        · split
          · exact TrI.begins hK h _
          · split
            · unfold handleK
              split
              · split
                · exact h
                · dsimp only
                  unfold comesK
                  split
                  · unfold probedK
                    split
                    · split
                      · split
                        · exact TrI.abort hK h _ _ (by simp)
                        · split
                          · exact h
                          · split <;> exact h
                      · exact h
                    · exact h
                  · split
                    · rename_i hm
                      have hw := (hK.hk _).1 hm
                      obtain ⟨hT, hx⟩ := hK.hT _ hw.1 hw.2
                      have ansL : TrI N (ansK s fun i => a (5 + i)).2 := by
                        unfold ansK
                        split
                        · rename_i hz
                          have hs1 := ans_ok _ _ hz
                          have htx := (ans_tx (tAt s.m (a (5 + 3))) (fun i => a (5 + i))).trans hx
                          have hst := (ans_st (tAt s.m (a (5 + 3))) (fun i => a (5 + i))).1
                          have hq : TIT (n + 1) (ansT (tAt s.m (a (5 + 3))) (fun i => a (5 + i))).1 := ansC_TI hT _
                          dsimp only at hw hs1
                          dsimp only
                          generalize (ansT (tAt s.m (a (5 + 3))) (fun i => a (5 + i))).1 = t at htx hst hq ⊢
                          have hp : TrI N (setK s t) := TrI.put hK h (by rw [htx]; exact hw.1) (by rw [htx]; exact hw.2) hq.hst (fun _ => by rw [htx]; exact hst) fun hne => absurd (by rw [htx]; exact hst) hne
                          have hst' : t.2.1 = 1 := hst.trans hs1
                          refine hp.ext (.inr ?_)
                          have hu : ¬ 3 ≤ (tAt (setK s t).m t.1).2.1 := by rw [tAt_setK, if_pos rfl, hst']; decide
                          unfold evG
                          split
                          · exact ⟨by show (3 : Int) ≠ 1; decide, by show (3 : Int) ≠ 6; decide, by show (3 : Int) ≠ 7; decide, hu⟩
                          · exact ⟨by show (4 : Int) ≠ 1; decide, by show (4 : Int) ≠ 6; decide, by show (4 : Int) ≠ 7; decide, hu⟩
                        · exact h
                      split
                      · exact ansL
                      · split
                        · exact ansL
                        · split
                          · unfold voteK
                            split
                            · have hq : TIT (n + 1) (voteT (tAt s.m (a (5 + 3))) (fun i => a (5 + i))).1 := voteC_TI hT _
                              have htx := (vote_tx (tAt s.m (a (5 + 3))) (fun i => a (5 + i))).trans hx
                              have hs2 := vote_st (tAt s.m (a (5 + 3))) (fun i => a (5 + i))
                              have hs3 := vote_2 (tAt s.m (a (5 + 3))) (fun i => a (5 + i))
                              dsimp only at hw htx ⊢
                              generalize (voteT (tAt s.m (a (5 + 3))) (fun i => a (5 + i))).1 = t at htx hs2 hs3 hq ⊢
                              exact TrI.put hK h (by rw [htx]; exact hw.1) (by rw [htx]; exact hw.2) hq.hst (fun h => by rw [htx] at h ⊢; omega) fun hne => by rw [htx] at hne; omega
                            · exact h
                          · split
                            · unfold ackK
                              split
                              · have hq : TIT (n + 1) (ackT (tAt s.m (a (5 + 3))) (fun i => a (5 + i))).1 := ackC_TI hT _
                                have htx := (ack_tx (tAt s.m (a (5 + 3))) (fun i => a (5 + i))).trans hx
                                have hst := (ack_st (tAt s.m (a (5 + 3))) (fun i => a (5 + i))).1
                                dsimp only at hw htx ⊢
                                generalize (ackT (tAt s.m (a (5 + 3))) (fun i => a (5 + i))).1 = t at htx hst hq ⊢
                                exact TrI.put hK h (by rw [htx]; exact hw.1) (by rw [htx]; exact hw.2) hq.hst (fun _ => by rw [htx]; exact hst) fun hne => absurd (by rw [htx]; exact hst) hne
                              · exact h
                            · split
                              · exact TrI.abort hK h _ _ (by simp)
                              · split
                                · unfold woundK
                                  split
                                  · exact h
                                  · exact TrI.abort hK h _ _ (by simp)
                                · exact h
                    · exact h
              · exact h
            · split
              · rw [tickK_2]
                exact TrI.lost hK.later h.later _ _
              · exact h
end
end Go.E
namespace Go.E
open Go
def cfgK (pr : Bool) : Nat → Int := updI (updI (updI (updI (updI (updI (updI (fun _ => 0) 0 2) 1 (bI pr)) 2 5) 3 3) 4 40) 5 6) 6 1000
theorem cfgK_0 (pr : Bool) : cfgK pr 0 = 2 ∧ cfgK pr 3 = 3 ∧ nz (cfgK pr 1) = pr := ⟨rfl, rfl, nz_bI pr⟩
def runK (pr : Bool) (N : Int) (acts : LM) : Nat → KS
  | 0 => startK N
  | k + 1 => nextK (cfgK pr) N (runK pr N acts k) (acts[k]!)
theorem runK_KI (pr : Bool) {N : Int} (hN : 1 ≤ N ∧ N ≤ 8) (acts : LM) (k : Nat) (hk : k ≤ 9000) : KI N (10 * k) (runK pr N acts k) := by
  induction k with
  | zero => exact KI.start hN
  | succ k ih => exact (nextK_KI (ih (by omega)) (by omega) _ _).mono (by omega)
theorem seen_at {m : TM} {la : Int} {k : Nat} (h : (k : Int) < la) : ((List.range la.toNat).map fun k : Nat => tAt m ((k : Int) + 1))[k]! = tAt m ((k : Int) + 1) := by
  rw [getElem!_pos _ _ (by simp; omega)]
  simp
theorem seen_len {m : TM} {la : Int} : ((List.range la.toNat).map fun k : Nat => tAt m ((k : Int) + 1)).length = la.toNat := by simp
def decB (t : TT) : Bool := decide (t.2.1 = 3 ∨ t.2.1 = 4)
theorem tdec_B (t : TT) : tdecided_F t.1 t.2.1 t.2.2.1 t.2.2.2.1 t.2.2.2.2.1 t.2.2.2.2.2.1 t.2.2.2.2.2.2.1 t.2.2.2.2.2.2.2.1 t.2.2.2.2.2.2.2.2.1 t.2.2.2.2.2.2.2.2.2.1 t.2.2.2.2.2.2.2.2.2.2.1 t.2.2.2.2.2.2.2.2.2.2.2 = decB t := by
  have := tdec_iff (tx := t.1) (st := t.2.1) (re := t.2.2.1) (sq := t.2.2.2.1) (op := t.2.2.2.2.1) (sh := t.2.2.2.2.2.1) (at_ := t.2.2.2.2.2.2.1) (mo := t.2.2.2.2.2.2.2.1) (to_ := t.2.2.2.2.2.2.2.2.1) (vo := t.2.2.2.2.2.2.2.2.2.1) (ac := t.2.2.2.2.2.2.2.2.2.2.1) (go := t.2.2.2.2.2.2.2.2.2.2.2)
  unfold decB
  rw [Bool.eq_iff_iff, this, decide_eq_true_eq]
abbrev VW := Int × Int × List TT × LM
def seenL (m : TM) (la : Int) : List TT := (List.range la.toNat).map fun k : Nat => tAt m ((k : Int) + 1)
section
variable {n : Nat} {s : KS}
end
end Go.E
namespace Go.E
open Go
theorem runK_TrI (pr : Bool) {N : Int} (hN : 1 ≤ N ∧ N ≤ 8) (acts : LM) (k : Nat) (hk : k ≤ 9000) : TrI N (runK pr N acts k) := by
  induction k with
  | zero => exact TrI.start N
  | succ k ih => exact TrI.next (runK_KI pr hN acts k (by omega)) (by omega) (ih (by omega)) _ _
section
variable {n : Nat} {s : KS}
theorem once_l2 (h : KI 3 n s) (hn : n ≤ 90000) {c a : Nat → Int} {s' : KS} (hs' : s' = nextK c 3 s a) {v v' : VW} (hv : v.2.2.1 = seenL s.m s.la) (hv' : v'.2.2.1 = seenL s'.m s'.la) (k : Nat) (hk : (k : Int) < s.la) :
    once18_l2 v v' (k : Int) (.inl ((k + 1 : Nat) : Int)) := by
  have hl := h.hl
  have e : ((k + 1 : Nat) : Int) = (k : Int) + 1 := by omega
  have hla := next_la c 3 s a
  have hC := next_Ck (c := c) (a := a) h hn ((k : Int) + 1) ⟨by omega, by omega⟩
  rw [← hs'] at hla hC
  unfold once18_l2
  unfold seenL at hv hv'
  rw [hv, hv', seen_len, seen_len, if_pos (by omega), Int.toNat_natCast, e, tdec_B, seen_at hk, seen_at (m := s'.m) (la := s'.la) (by omega)]
  refine ⟨⟨by omega, by omega⟩, fun _ => ⟨by omega, by omega⟩, fun _ => ⟨by omega, by omega⟩, fun _ _ => ⟨by omega, by omega⟩, fun _ _ => ⟨by omega, by omega⟩, ?_⟩
  rw [if_neg]
  · exact ⟨by unfold inI64; omega, rfl⟩
  · simp only [decB, Bool.and_eq_true, Bool.or_eq_true, decide_eq_true_eq, Bool.not_eq_true', decide_eq_false_iff_not]
    rintro ⟨hd, hx⟩
    have := hC.keep (by omega)
    omega
theorem once_l1 (h : KI 3 n s) (hn : n ≤ 80000) (pr : Bool) (acts : LM) (i : Nat) (hi : i < acts.length) (hL : acts.length ≤ 100) :
    once18_l1 pr acts (i : Int) s.ti s.la s.tr s.cl s.m (.inl (((i + 1 : Nat) : Int), (nextK (cfgK pr) 3 s (acts[i]!)).ti, (nextK (cfgK pr) 3 s (acts[i]!)).la, (nextK (cfgK pr) 3 s (acts[i]!)).tr, (nextK (cfgK pr) 3 s (acts[i]!)).cl, (nextK (cfgK pr) 3 s (acts[i]!)).m)) := by
  have hl := h.hl
  have e : ((i + 1 : Nat) : Int) = (i : Int) + 1 := by omega
  have hcf : (updI (updI (updI (updI (updI (updI (updI (fun _ => 0) 0 2) 1 (bI pr)) 2 5) 3 3) 4 40) 5 6) 6 1000 : Nat → Int) = cfgK pr := rfl
  obtain ⟨p, -, q⟩ := act18_is h (by omega) (cfgK pr) (by rw [(cfgK_0 pr).1]; omega) (by rw [(cfgK_0 pr).2.1]; omega) (acts[i]!)
  have hn' := nextK_KI h (by omega) (cfgK pr) (acts[i]!)
  have hla := next_la (cfgK pr) 3 s (acts[i]!)
  have hvp := h.viewP (by omega) (cfgK pr)
  have hvn := hn'.viewP (by omega) (cfgK pr)
  unfold once18_l1
  rw [if_pos (by omega), hcf, Int.toNat_natCast]
  refine ⟨hvp, _, rfl, ⟨by omega, by omega⟩, p, _, rfl, ?_⟩
  generalize act18_F (cfgK pr) s.cl s.ti s.la s.m s.tr (acts[i]!) = r at q ⊢
  obtain ⟨l, x1, x2, ti', la', m', tr', cl'⟩ := r
  dsimp only at q ⊢
  generalize hs' : nextK (cfgK pr) 3 s (acts[i]!) = s' at q hn' hvn hla ⊢
  simp only [Prod.mk.injEq] at q
  obtain ⟨rfl, rfl, rfl, rfl, rfl⟩ := q
  refine ⟨hvn, _, rfl, ?_⟩
  rw [if_neg (by rw [hn'.view, h.view, seen_len, seen_len]; omega)]
  refine ⟨.inl (), ?_, ?_⟩
  · refine Wh.fold s.la.toNat (fun k : Nat => (k : Int)) (.inl ()) (fun k hk => once_l2 h (by omega) hs'.symm (h.view (cfgK pr)) (hn'.view (cfgK pr)) k (by omega)) ?_
    show once18_l2 _ _ (s.la.toNat : Int) _
    unfold once18_l2
    rw [if_neg (by rw [h.view, seen_len]; omega)]
  · unfold once18_k2a
    rw [e]
    exact ⟨by unfold inI64; omega, rfl⟩
theorem once_l3 {v : VW} (hv : v.2.2.2 = s.tr) (hr : s.tr.length ≤ 1000000) (j : Nat) : ∀ (i : Nat) (E W : MI) (q : MI × MI), i + j = s.tr.length → (∀ k, 0 ≤ mget ieq E k 0) → scanL (s.tr.drop i) (E, W) = some q →
    Wh (fun (x : MI × MI × Int) (o : (MI × MI × Int) ⊕ (Unit ⊕ Unit)) => once18_l3 v x.1 x.2.1 x.2.2 o) ((E, W, (i : Int)) : MI × MI × Int) (.inl ()) := by
  induction j with
  | zero =>
    intro i E W q hi hE hq
    refine .out ?_
    show once18_l3 v E W (i : Int) _
    unfold once18_l3
    rw [hv, if_neg (by omega)]
  | succ j ih =>
    intro i E W q hi hE hq
    have e : ((i + 1 : Nat) : Int) = (i : Int) + 1 := by omega
    rw [List.drop_eq_getElem_cons (show i < s.tr.length by omega)] at hq
    have hg : s.tr[i]! = s.tr[i] := getElem!_pos s.tr i (by omega)
    rw [← hg] at hq
    have hq' : (scan1 (s.tr[i]!) (E, W)).bind (scanL (s.tr.drop (i + 1))) = some q := hq
    have step : ∀ E' W', (∀ k, 0 ≤ mget ieq E' k 0) → scan1 (s.tr[i]!) (E, W) = some (E', W') → once18_l3 v E W (i : Int) (.inl (E', W', ((i + 1 : Nat) : Int))) →
        Wh (fun (x : MI × MI × Int) (o : (MI × MI × Int) ⊕ (Unit ⊕ Unit)) => once18_l3 v x.1 x.2.1 x.2.2 o) ((E, W, (i : Int)) : MI × MI × Int) (.inl ()) := by
      intro E' W' hE' hs1 hl3
      rw [hs1] at hq'
      exact .again (s' := (E', W', ((i + 1 : Nat) : Int))) hl3 (ih (i + 1) E' W' q (by omega) hE' hq')
    have hI : inI64 ((i : Int) + 1) := by unfold inI64; omega
    have hb : (0 : Int) ≤ i ∧ (i : Int) < s.tr.length := ⟨by omega, by omega⟩
    suffices hx : ∃ E' W', (∀ k, 0 ≤ mget ieq E' k 0) ∧ scan1 (s.tr[i]!) (E, W) = some (E', W') ∧ once18_l3 v E W (i : Int) (.inl (E', W', ((i + 1 : Nat) : Int))) by
      obtain ⟨E', W', a1, a2, a3⟩ := hx
      exact step E' W' a1 a2 a3
    clear step
    unfold once18_l3
    rw [hv, e, Int.toNat_natCast]
    simp only [if_pos (show (i : Int) < (s.tr.length : Int) by omega)]
    unfold scan1 at hq' ⊢
    dsimp only at hq' ⊢
    generalize s.tr[i]! = x at hq' ⊢
    by_cases h8 : x 0 = 8
    · simp only [if_pos h8]
      exact ⟨E, W, hE, rfl, hb, hI, rfl⟩
    · simp only [if_neg h8] at hq' ⊢
      by_cases h0 : 0 < mget ieq E (x 2) 0
      · rw [if_pos h0] at hq'; cases hq'
      · simp only [if_neg h0] at hq' ⊢
        by_cases h1 : x 0 = 1
        · simp only [if_pos h1] at hq' ⊢
          by_cases hz : ((!(decide (mget ieq W (x 1) 0 = 0))) && (decide (mget ieq E (mget ieq W (x 1) 0) 0 = 0))) = true
          · rw [if_pos hz] at hq'; cases hq'
          · simp only [if_neg hz]
            exact ⟨E, _, hE, rfl, hb, hb, hb, hb, fun _ => hb, hb, hb, hI, rfl⟩
        · simp only [if_neg h1] at hq' ⊢
          by_cases h67 : ((decide (x 0 = 6)) || (decide (x 0 = 7))) = true
          · simp only [if_pos h67]
            have := hE (x 2)
            refine ⟨_, W, fun k => ?_, rfl, hb, hb, hb, hb, by unfold inI64; omega, hI, rfl⟩
            rw [mgetI_mset]
            split
            · omega
            · exact hE k
          · simp only [if_neg h67]
            exact ⟨E, W, hE, rfl, hb, hb, hb, hI, rfl⟩
end
theorem once18_all (pr : Bool) (acts : LM) : once18_S pr acts true := by
  unfold once18_S
  rw [if_pos (show alive18_F = true from rfl)]
  by_cases hL : 100 < (acts.length : Int)
  · rw [if_pos hL]
  · rw [if_neg hL, if_pos (by decide), if_pos (by decide), if_pos (by decide), if_pos (by decide), if_pos (by decide), if_pos (by decide)]
    have hK := runK_KI pr (N := 3) (by omega) acts acts.length (by omega)
    obtain ⟨E, W, g1, -, -⟩ := (runK_TrI pr (N := 3) (by omega) acts acts.length (by omega)).ex
    have hr := hK.hr
    have hvp := hK.viewP (by omega) (cfgK pr)
    have h3 := once_l3 (s := runK pr 3 acts acts.length) (v := kview_F (cfgK pr) (runK pr 3 acts acts.length).cl (runK pr 3 acts acts.length).ti (runK pr 3 acts acts.length).la (runK pr 3 acts acts.length).m (runK pr 3 acts acts.length).tr) rfl (by omega) (runK pr 3 acts acts.length).tr.length 0 [] [] (E, W) (by omega) (fun k => Int.le_refl _) (by rw [List.drop_zero]; exact g1)
    refine ⟨.inl ((runK pr 3 acts acts.length).ti, (runK pr 3 acts acts.length).la, (runK pr 3 acts acts.length).m, (runK pr 3 acts acts.length).tr, (runK pr 3 acts acts.length).cl), ?_, hvp, _, rfl, .inl (), h3, rfl⟩
    refine Wh.fold acts.length (fun i => ((i : Int), (runK pr 3 acts i).ti, (runK pr 3 acts i).la, (runK pr 3 acts i).tr, (runK pr 3 acts i).cl, (runK pr 3 acts i).m)) _ (fun i hi => ?_) ?_
    · exact once_l1 (runK_KI pr (by omega) acts i (by omega)) (by omega) pr acts i hi (by omega)
    · dsimp only
      unfold once18_l1
      rw [if_neg (by omega)]
end Go.E
