/- Part 9 of the proof. -/
import Derived.Test.YtljklmlodfbdnaaGreatJ8
import Derived.Test.YtljklmlodfbdnaaGreatJ5
set_option maxHeartbeats 1000000
set_option maxRecDepth 100000
set_option linter.unusedVariables false
set_option linter.unusedSimpArgs false
set_option linter.unusedSectionVars false
namespace Go.E
open Go
structure Ck (c : Nat → Int) (s : KS) (a : Nat → Int) (k : Int) (t t' : TT) : Prop where
  keep : 3 ≤ t.2.1 → t'.2.1 = t.2.1 ∧ t'.2.2.1 = t.2.2.1
  w3 : t.2.1 ≤ 2 → t'.2.1 = 4 → t'.2.2.1 = 3 → a 0 = 5 ∧ okB (fun i => a (5 + i)) = true ∧ a 5 = 10 ∧ a 8 = k ∧ nz (c 1) = false ∧ t.2.1 = 1 ∧ ((tAt s.m (a 14)).2.1 = 1 ∨ (tAt s.m (a 14)).2.1 = 2)
  w4 : t.2.1 ≤ 2 → t'.2.1 = 4 → t'.2.2.1 = 4 → a 0 = 5 ∧ nz (c 1) = true ∧ live_F (fun i => a (5 + i)) (openL s.m) = true ∧ back_F (fun i => a (5 + i)) = true ∧ k = (victim_F (fun i => a (5 + i))).1
section
variable {c : Nat → Int} {s : KS} {a : Nat → Int} {k : Int} {t t' : TT} {N : Int} {n : Nat}
theorem Ck.same (h1 : t'.2.1 = t.2.1) (h2 : t'.2.2.1 = t.2.2.1) : Ck c s a k t t' where
  keep := fun _ => ⟨h1, h2⟩
  w3 := fun h3 h4 => by omega
  w4 := fun h3 h4 => by omega
theorem Ck.rfl' : Ck c s a k t t := Ck.same rfl rfl
theorem Ck.oth (h1 : 3 ≤ t.2.1 → t'.2.1 = t.2.1 ∧ t'.2.2.1 = t.2.2.1) (h2 : t'.2.1 = 4 → t.2.1 ≤ 2 → t'.2.2.1 ≠ 3 ∧ t'.2.2.1 ≠ 4) : Ck c s a k t t' where
  keep := h1
  w3 := fun h3 h4 h5 => absurd h5 (h2 h4 h3).1
  w4 := fun h3 h4 h5 => absurd h5 (h2 h4 h3).2
theorem ask_st (t : TT) (x : Int) (b : Nat → Int) (m : Int) : (askT t x b m).1.2.1 = t.2.1 ∧ (askT t x b m).1.2.2.1 = t.2.2.1 := by
  unfold askT askC
  split
  · split
    · split
      · exact ⟨rfl, rfl⟩
      · split <;> exact ⟨rfl, rfl⟩
    · exact ⟨rfl, rfl⟩
  · exact ⟨rfl, rfl⟩
theorem ans_st (t : TT) (m : Nat → Int) : (ansT t m).1.2.1 = t.2.1 ∧ (ansT t m).1.2.2.1 = t.2.2.1 := by
  unfold ansT ansC
  split
  · split
    · split <;> exact ⟨rfl, rfl⟩
    · exact ⟨rfl, rfl⟩
  · exact ⟨rfl, rfl⟩
theorem ack_st (t : TT) (m : Nat → Int) : (ackT t m).1.2.1 = t.2.1 ∧ (ackT t m).1.2.2.1 = t.2.2.1 := by
  unfold ackT ackC
  split
  · split
    · split <;> exact ⟨rfl, rfl⟩
    · exact ⟨rfl, rfl⟩
  · exact ⟨rfl, rfl⟩
theorem fin_st (t : TT) : ((finT t).1.2.1 = t.2.1 ∧ (finT t).1.2.2.1 = t.2.2.1) ∨ (t.2.1 = 1 ∧ (finT t).1.2.1 ≤ 3) := by
  unfold finT finC
  by_cases h : t.2.1 = 1
  · rw [if_pos h]
    split
    · exact .inl ⟨rfl, rfl⟩
    · split
      · exact .inr ⟨h, by show (3 : Int) ≤ 3; decide⟩
      · exact .inr ⟨h, by show (2 : Int) ≤ 3; decide⟩
  · rw [if_neg h]; exact .inl ⟨rfl, rfl⟩
theorem vote_st (t : TT) (m : Nat → Int) : ((voteT t m).1.2.1 = t.2.1 ∧ (voteT t m).1.2.2.1 = t.2.2.1) ∨ (t.2.1 = 2 ∧ ((voteT t m).1.2.1 ≤ 3 ∨ (voteT t m).1.2.2.1 = 2)) := by
  unfold voteT voteC
  split
  · by_cases h : t.2.1 = 2
    · rw [if_pos h]
      split
      · split
        · exact .inr ⟨h, .inr rfl⟩
        · split
          · exact .inl ⟨rfl, rfl⟩
          · exact .inr ⟨h, .inl (by show (3 : Int) ≤ 3; decide)⟩
      · exact .inl ⟨rfl, rfl⟩
    · rw [if_neg h]; exact .inl ⟨rfl, rfl⟩
  · exact .inl ⟨rfl, rfl⟩
theorem abort_st (t : TT) (r : Int) : ((abortT t r).1.2.1 = t.2.1 ∧ (abortT t r).1.2.2.1 = t.2.2.1) ∨ (¬ (t.2.1 = 3 ∨ t.2.1 = 4) ∧ (abortT t r).1.2.2.1 = r) := by
  unfold abortT abortC
  split
  · by_cases h : t.2.1 = 3 ∨ t.2.1 = 4
    · rw [if_pos h]; exact .inl ⟨rfl, rfl⟩
    · rw [if_neg h]; exact .inr ⟨h, rfl⟩
  · exact .inl ⟨rfl, rfl⟩
theorem tAt_setK (s : KS) (t : TT) (k : Int) : tAt (setK s t).m k = if k = t.1 then t else tAt s.m k := by rw [setK_m, tAt_mset]
theorem tAt_abortK (h : KI N n s) (tx re : Int) (l : List Int) (hl : ∀ x ∈ l, 1 ≤ x) (k : Int) : tAt (abortK s tx re l).2.2.m k = tAt s.m k ∨ (k = tx ∧ (tAt s.m tx).2.1 ∈ l ∧ tAt (abortK s tx re l).2.2.m k = (abortT (tAt s.m tx) re).1) := by
  unfold abortK
  by_cases hm : (tAt s.m tx).2.1 ∈ l
  · rw [if_pos hm]
    have hk : 1 ≤ tx ∧ tx ≤ s.la := by
      rcases Classical.em (1 ≤ tx ∧ tx ≤ s.la) with hk | hk
      · exact hk
      · rw [h.at0 hk] at hm
        have := hl _ hm
        exact absurd (show (1 : Int) ≤ 0 from this) (by decide)
    have hx := (h.hT tx hk.1 hk.2).2
    unfold doneK
    split
    · dsimp only
      rw [tAt_setK, abort_tx, hx]
      by_cases e : k = tx
      · rw [if_pos e]; exact .inr ⟨e, hm, rfl⟩
      · rw [if_neg e]; exact .inl rfl
    · exact .inl rfl
  · rw [if_neg hm]; exact .inl rfl
theorem Ck_abort (h : KI N n s) {tx re : Int} {l : List Int} (hl : ∀ x ∈ l, 1 ≤ x ∧ x ≤ 2) (h3 : re = 3 → k = tx → (tAt s.m tx).2.1 ∈ l → a 0 = 5 ∧ okB (fun i => a (5 + i)) = true ∧ a 5 = 10 ∧ a 8 = k ∧ nz (c 1) = false ∧ (tAt s.m k).2.1 = 1 ∧ ((tAt s.m (a 14)).2.1 = 1 ∨ (tAt s.m (a 14)).2.1 = 2))
    (h4 : re = 4 → k = tx → (tAt s.m tx).2.1 ∈ l → a 0 = 5 ∧ nz (c 1) = true ∧ live_F (fun i => a (5 + i)) (openL s.m) = true ∧ back_F (fun i => a (5 + i)) = true ∧ k = (victim_F (fun i => a (5 + i))).1) :
    Ck c s a k (tAt s.m k) (tAt (abortK s tx re l).2.2.m k) := by
  rcases tAt_abortK h tx re l (fun x hx => (hl x hx).1) k with e | ⟨e1, e2, e3⟩
  · rw [e]; exact Ck.rfl'
  · rw [e3]
    have hr := hl _ e2
    subst e1
    rcases abort_st (tAt s.m k) re with ⟨g1, g2⟩ | ⟨g1, g2⟩
    · exact Ck.same g1 g2
    · exact ⟨fun h => by omega, fun _ _ h => h3 (g2.symm.trans h) rfl e2, fun _ _ h => h4 (g2.symm.trans h) rfl e2⟩
theorem lost_at (h : KI N n s) (l : List Int) (out : LM) (k : Int) : tAt (lostF l (out, s)).2.m k = tAt s.m k ∨ (¬ 3 ≤ (tAt s.m k).2.1 ∧ (tAt (lostF l (out, s)).2.m k).2.2.1 = 5) := by
  induction l generalizing n s out with
  | nil => exact .inl rfl
  | cons x l ih =>
    have e : lostF (x :: l) (out, s) = lostF l (out ++ (abortK s x 5 [1]).1, (abortK s x 5 [1]).2.2) := rfl
    rw [e]
    have h1 := abortK_KI h x 5 (l := [1]) (by simp)
    rcases ih h1 (out ++ (abortK s x 5 [1]).1) with i | ⟨i1, i2⟩
    · rw [i]
      rcases tAt_abortK h x 5 [1] (by simp) k with e | ⟨e1, e2, e3⟩
      · rw [e]; exact .inl rfl
      · rw [e3]
        subst e1
        have e2' : (tAt s.m k).2.1 = 1 := by simpa using e2
        have : (abortT (tAt s.m k) 5).1.2.2.1 = 5 := by
          unfold abortT abortC
          rw [if_pos (by decide), if_neg (by omega)]
        exact .inr ⟨by omega, this⟩
    · rcases tAt_abortK h x 5 [1] (by simp) k with e | ⟨e1, e2, e3⟩
      · rw [e] at i1; exact .inr ⟨i1, i2⟩
      · subst e1
        have e2' : (tAt s.m k).2.1 = 1 := by simpa using e2
        exact .inr ⟨by omega, i2⟩
theorem next_Ck (h : KI N n s) (hn : n ≤ 90000) (k : Int) (hk : 1 ≤ k ∧ k ≤ s.la) : Ck c s a k (tAt s.m k) (tAt (nextK c N s a).m k) := by
  unfold nextK
  by_cases h0 : a 0 = 0
  · rw [if_pos h0]
    unfold lockK
    split
    · split
      · exact Ck.rfl'
      · split
        · split
          · dsimp only
            rw [tAt_setK]
            split
            · rename_i e
              have e' := e
              rw [ask_tx] at e'
              by_cases hx : 1 ≤ s.cl (1 + (a 1).toNat * 3) ∧ s.cl (1 + (a 1).toNat * 3) ≤ s.la
              · rw [(h.hT _ hx.1 hx.2).2] at e'
                rw [e'] 
                exact Ck.same (ask_st _ _ _ _).1 (ask_st _ _ _ _).2
              · rw [h.at0 hx] at e'
                exact absurd (show k = 0 from e') (by omega)
            · exact Ck.rfl'
          · exact Ck.rfl'
        · exact Ck.rfl'
    · exact Ck.rfl'
  · rw [if_neg h0]
    by_cases h1 : a 0 = 1
    · rw [if_pos h1]
      unfold commitK
      split
      · split
        · exact Ck.rfl'
        · unfold doneK
          split
          · dsimp only
            rw [tAt_setK]
            split
            · rename_i e
              have e' := e
              rw [fin_tx] at e'
              by_cases hx : 1 ≤ s.cl (1 + (a 1).toNat * 3) ∧ s.cl (1 + (a 1).toNat * 3) ≤ s.la
              · rw [(h.hT _ hx.1 hx.2).2] at e'
                rw [e']
                rcases fin_st (tAt s.m (s.cl (1 + (a 1).toNat * 3))) with g | g
                · exact Ck.same g.1 g.2
                · exact Ck.oth (fun h => by omega) fun h => by omega
              · rw [h.at0 hx] at e'
                exact absurd (show k = 0 from e') (by omega)
            · exact Ck.rfl'
          · exact Ck.rfl'
      · exact Ck.rfl'
    · rw [if_neg h1]
      by_cases h2 : a 0 = 2
      · rw [if_pos h2]
        unfold abortCK
        split
        · split
          · exact Ck.rfl'
          · exact Ck_abort h (by simp) (fun h => by omega) fun h => by omega
        · exact Ck.rfl'
      · rw [if_neg h2]
        by_cases h3 : a 0 = 3
        · rw [if_pos h3, (crashK_same N s (a 1)).2.2]; exact Ck.rfl'
        · rw [if_neg h3]
          by_cases h4 : a 0 = 4
          · rw [if_pos h4]
            unfold beginK
            split
            · split
              · dsimp only
                rw [tAt_mset, if_neg (by omega)]; exact Ck.rfl'
              · exact Ck.rfl'
            · exact Ck.rfl'
          · rw [if_neg h4]
            by_cases h5 : a 0 = 5
            · rw [if_pos h5]
              unfold handleK
              by_cases ho : okB (fun i => a (5 + i)) = true
              · rw [if_pos ho]
                split
                · exact Ck.rfl'
                · dsimp only
                  unfold comesK
                  split
                  · unfold probedK
                    split
                    · rename_i hp
                      split
                      · rename_i hlv
                        split
                        · rename_i hb
                          exact Ck_abort h (by simp) (fun h => by omega) fun _ e _ => ⟨h5, hp, hlv, hb, e⟩
                        · split
                          · exact Ck.rfl'
                          · split <;> exact Ck.rfl'
                      · exact Ck.rfl'
                    · exact Ck.rfl'
                  · split
                    · rename_i hm
                      have hx := (h.hk _).1 hm
                      have hx2 := (h.hT _ hx.1 hx.2).2
                      have ansL : Ck c s a k (tAt s.m k) (tAt (ansK s fun i => a (5 + i)).2.m k) := by
                        unfold ansK
                        split
                        · show Ck c s a k (tAt s.m k) (tAt (setK s _).m k)
                          rw [tAt_setK, ans_tx, hx2]
                          split
                          · rename_i e
                            rw [e]
                            exact Ck.same (ans_st _ _).1 (ans_st _ _).2
                          · exact Ck.rfl'
                        · exact Ck.rfl'
                      split
                      · exact ansL
                      · split
                        · exact ansL
                        · split
                          · unfold voteK
                            split
                            · dsimp only
                              rw [tAt_setK, vote_tx, hx2]
                              split
                              · rename_i e
                                rw [e]
                                have g := vote_st (tAt s.m (a (5 + 3))) (fun i => a (5 + i))
                                generalize (voteT (tAt s.m (a (5 + 3))) fun i => a (5 + i)).1 = t' at g ⊢
                                generalize tAt s.m (a (5 + 3)) = t at g ⊢
                                rcases g with g | g
                                · exact Ck.same g.1 g.2
                                · exact Ck.oth (fun h => by omega) fun h _ => by omega
                              · exact Ck.rfl'
                            · exact Ck.rfl'
                          · split
                            · unfold ackK
                              split
                              · dsimp only
                                rw [tAt_setK, ack_tx, hx2]
                                split
                                · rename_i e
                                  rw [e]
                                  exact Ck.same (ack_st _ _).1 (ack_st _ _).2
                                · exact Ck.rfl'
                              · exact Ck.rfl'
                            · split
                              · exact Ck_abort h (by simp) (fun h => by omega) fun h => by omega
                              · split
                                · rename_i h10
                                  unfold woundK
                                  split
                                  · exact Ck.rfl'
                                  · rename_i hw
                                    refine Ck_abort h (by simp) (fun _ e1 e2 => ?_) fun h => by omega
                                    have e2' : (tAt s.m (a (5 + 3))).2.1 = 1 := by simpa using e2
                                    simp only [Bool.or_eq_true, Bool.and_eq_true, Bool.not_eq_true', decide_eq_false_iff_not] at hw
                                    refine ⟨h5, ho, h10, e1.symm, ?_, by rw [e1]; exact e2', ?_⟩
                                    · cases hz : nz (c 1) with
                                      | false => rfl
                                      | true => exact absurd (.inl hz) hw
                                    · show (tAt s.m (a (5 + 9))).2.1 = 1 ∨ (tAt s.m (a (5 + 9))).2.1 = 2
                                      omega
                                · exact Ck.rfl'
                    · exact Ck.rfl'
              · rw [if_neg ho]; exact Ck.rfl'
            · rw [if_neg h5]
              by_cases h6 : a 0 = 6
              · rw [if_pos h6, tickK_2]
                unfold tick1
                rcases lost_at h.later (clost_F s.cl (s.ti + 1) (c 2)) [] k with e | ⟨e1, e2⟩
                · rw [e]; exact Ck.rfl'
                · exact Ck.oth (fun h => absurd h e1) fun _ _ => by omega
              · rw [if_neg h6]; exact Ck.rfl'
theorem next_la (c : Nat → Int) (N : Int) (s : KS) (a : Nat → Int) : s.la ≤ (nextK c N s a).la := by
  unfold nextK
  split
  · rw [(lockK_same _ _ _ _ _ _).2]; exact Int.le_refl _
  · split
    · rw [(commitK_same _ _ _).2]; exact Int.le_refl _
    · split
      · rw [(abortCK_same _ _ _).2]; exact Int.le_refl _
      · split
        · rw [(crashK_same _ _ _).2.1]; exact Int.le_refl _
        · split
          · unfold beginK
            split
            · split
              · show s.la ≤ s.la + 1; omega
              · exact Int.le_refl _
            · exact Int.le_refl _
          · split
            · rw [(handleK_same _ _ _ _).2]; exact Int.le_refl _
            · split
              · rw [tickK_2]
                have : ∀ (l : List Int) (p : LM × KS), (lostF l p).2.la = p.2.la := by
                  intro l
                  induction l with
                  | nil => intro p; rfl
                  | cons x l ih => intro p; exact (ih _).trans (abortK_same _ _ _ _).2
                unfold tick1
                rw [this]; exact Int.le_refl _
              · exact Int.le_refl _
end
end Go.E
namespace Go.E
open Go
def cfgK (pr : Bool) : Nat → Int := updI (updI (updI (updI (updI (updI (updI (fun _ => 0) 0 2) 1 (bI pr)) 2 5) 3 3) 4 40) 5 6) 6 1000
theorem cfgK_0 (pr : Bool) : cfgK pr 0 = 2 ∧ cfgK pr 3 = 3 ∧ nz (cfgK pr 1) = pr := ⟨rfl, rfl, nz_bI pr⟩
def runK (pr : Bool) (N : Int) (acts : LM) : Nat → KS
  | 0 => startK N
  | k + 1 => nextK (cfgK pr) N (runK pr N acts k) (acts[k]!)
theorem runK_KI (pr : Bool) {N : Int} (hN : 1 ≤ N ∧ N ≤ 8) (acts : LM) (k : Nat) (hk : k ≤ 9000) : KI N (10 * k) (runK pr N acts k) := by
  induction k with
  | zero => exact KI.start hN
  | succ k ih => exact (nextK_KI (ih (by omega)) (by omega) _ _).mono (by omega)
theorem seen_at {m : TM} {la : Int} {k : Nat} (h : (k : Int) < la) : ((List.range la.toNat).map fun k : Nat => tAt m ((k : Int) + 1))[k]! = tAt m ((k : Int) + 1) := by
  rw [getElem!_pos _ _ (by simp; omega)]
  simp
theorem seen_len {m : TM} {la : Int} : ((List.range la.toNat).map fun k : Nat => tAt m ((k : Int) + 1)).length = la.toNat := by simp
def decB (t : TT) : Bool := decide (t.2.1 = 3 ∨ t.2.1 = 4)
theorem tdec_B (t : TT) : tdecided_F t.1 t.2.1 t.2.2.1 t.2.2.2.1 t.2.2.2.2.1 t.2.2.2.2.2.1 t.2.2.2.2.2.2.1 t.2.2.2.2.2.2.2.1 t.2.2.2.2.2.2.2.2.1 t.2.2.2.2.2.2.2.2.2.1 t.2.2.2.2.2.2.2.2.2.2.1 t.2.2.2.2.2.2.2.2.2.2.2 = decB t := by
  have := tdec_iff (tx := t.1) (st := t.2.1) (re := t.2.2.1) (sq := t.2.2.2.1) (op := t.2.2.2.2.1) (sh := t.2.2.2.2.2.1) (at_ := t.2.2.2.2.2.2.1) (mo := t.2.2.2.2.2.2.2.1) (to_ := t.2.2.2.2.2.2.2.2.1) (vo := t.2.2.2.2.2.2.2.2.2.1) (ac := t.2.2.2.2.2.2.2.2.2.2.1) (go := t.2.2.2.2.2.2.2.2.2.2.2)
  unfold decB
  rw [Bool.eq_iff_iff, this, decide_eq_true_eq]
abbrev VW := Int × Int × List TT × LM
def seenL (m : TM) (la : Int) : List TT := (List.range la.toNat).map fun k : Nat => tAt m ((k : Int) + 1)
section
variable {n : Nat} {s : KS}
theorem wounds_l3 (h : KI 4 n s) (hn : n ≤ 90000) {v : VW} (hv : v.2.2.1 = seenL s.m s.la) (k : Nat) (hk : (k : Int) < s.la) : Wh (fun (x : Bool × Int) (o : (Bool × Int) ⊕ Bool) => wounds18_l3 v (k : Int) x.1 x.2 o) ((false, 0) : Bool × Int) ((List.range k).any fun j => !decB (tAt s.m ((j : Int) + 1))) := by
  have hl := h.hl
  have hf : ∀ j : Nat, j < k → wounds18_l3 v (k : Int) ((List.range j).any fun j => !decB (tAt s.m ((j : Int) + 1))) (j : Int) (.inl ((List.range (j + 1)).any (fun j => !decB (tAt s.m ((j : Int) + 1))), ((j + 1 : Nat) : Int))) := by
    intro j hj
    have e : ((j + 1 : Nat) : Int) = (j : Int) + 1 := by omega
    unfold wounds18_l3
    rw [if_pos (by omega), hv, e]
    unfold seenL
    rw [tdec_B, Int.toNat_natCast, seen_at (by omega), seen_len, List.range_succ, List.any_append]
    refine ⟨fun _ => ⟨by omega, by omega⟩, by unfold inI64; omega, ?_⟩
    simp
  have := Wh.fold (f := fun (x : Bool × Int) (o : (Bool × Int) ⊕ Bool) => wounds18_l3 v (k : Int) x.1 x.2 o) k (fun j => ((List.range j).any (fun j => !decB (tAt s.m ((j : Int) + 1))), (j : Int))) _ hf (by
    show wounds18_l3 _ (k : Int) _ (k : Int) _
    unfold wounds18_l3
    rw [if_neg (by omega)])
  exact this
theorem wounds_l2 (h : KI 4 n s) (hn : n ≤ 90000) (pr : Bool) {c a : Nat → Int} (hcp : nz (c 1) = pr) {s' : KS} (hs' : s' = nextK c 4 s a) {v v' : VW} (hv : v.2.2.1 = seenL s.m s.la) (hv' : v'.2.2.1 = seenL s'.m s'.la) (k : Nat) (hk : (k : Int) < s.la) :
    wounds18_l2 pr v v' (k : Int) (.inl ((k + 1 : Nat) : Int)) := by
  have hl := h.hl
  have e : ((k + 1 : Nat) : Int) = (k : Int) + 1 := by omega
  have hla := next_la c 4 s a
  have hC := next_Ck (c := c) (a := a) h hn ((k : Int) + 1) ⟨by omega, by omega⟩
  rw [← hs'] at hla hC
  have hl3 := wounds_l3 h hn hv k hk
  unfold wounds18_l2
  unfold seenL at hv hv'
  rw [hv, hv', seen_len, seen_len, if_pos (by omega), Int.toNat_natCast, e, tdec_B, seen_at hk, seen_at (m := s'.m) (la := s'.la) (by omega)]
  refine ⟨⟨by omega, by omega⟩, fun _ => ⟨by omega, by omega⟩, fun _ => ⟨by omega, by omega⟩, ?_⟩
  by_cases hc : (((decB (tAt s.m ((k : Int) + 1))) || (!(decide ((tAt s'.m ((k : Int) + 1)).2.1 = 4)))) || (!(decide ((tAt s'.m ((k : Int) + 1)).2.2.1 = 3)))) = true
  · rw [if_pos hc]; exact ⟨by unfold inI64; omega, rfl⟩
  · rw [if_neg hc]
    simp only [decB, Bool.or_eq_true, decide_eq_true_eq, Bool.not_eq_true', decide_eq_false_iff_not] at hc
    have hst : (tAt s.m ((k : Int) + 1)).2.1 ≤ 4 := (h.hT ((k : Int) + 1) (by omega) (by omega)).1.hst.2
    obtain ⟨w1, w2, w3, w4, w5, w6, w7⟩ := hC.w3 (by omega) (by omega) (by omega)
    have hpr : pr = false := by rw [← hcp]; exact w5
    have ho := ((okB_oth (fun i_ => a (5 + i_)) (by show ¬ a 5 = 11; omega)).1 w2).2.1
    have h9 : 1 ≤ a 14 ∧ a 14 < a 8 := by
      unfold oth at ho
      simp only [show (5 : Nat) + 0 = 5 from rfl, show (5 : Nat) + 3 = 8 from rfl, show (5 : Nat) + 9 = 14 from rfl] at ho
      omega
    have hel : ((List.range k).any fun j => !decB (tAt s.m ((j : Int) + 1))) = true := by
      rw [List.any_eq_true]
      refine ⟨(a 14 - 1).toNat, by rw [List.mem_range]; omega, ?_⟩
      have e14 : (((a 14 - 1).toNat : Nat) : Int) + 1 = a 14 := by omega
      rw [e14]
      simp only [decB, Bool.not_eq_true', decide_eq_false_iff_not]
      omega
    refine ⟨_, hl3, ?_⟩
    unfold wounds18_k3a
    rw [hv, Int.toNat_natCast, seen_at hk, seen_len, hel, hpr]
    refine ⟨fun _ => ⟨by omega, by omega⟩, ?_⟩
    rw [if_neg (by simp [w6])]
    exact ⟨by unfold inI64; omega, rfl⟩
theorem wounds_l1 (h : KI 4 n s) (hn : n ≤ 80000) (pr : Bool) (acts : LM) (i : Nat) (hi : i < acts.length) (hL : acts.length ≤ 100) :
    wounds18_l1 pr acts (i : Int) s.ti s.la s.m s.tr s.cl (.inl (((i + 1 : Nat) : Int), (nextK (cfgK pr) 4 s (acts[i]!)).ti, (nextK (cfgK pr) 4 s (acts[i]!)).la, (nextK (cfgK pr) 4 s (acts[i]!)).m, (nextK (cfgK pr) 4 s (acts[i]!)).tr, (nextK (cfgK pr) 4 s (acts[i]!)).cl)) := by
  have hl := h.hl
  have e : ((i + 1 : Nat) : Int) = (i : Int) + 1 := by omega
  have hcf : (updI (updI (updI (updI (updI (updI (updI (fun _ => 0) 0 2) 1 (bI pr)) 2 5) 3 3) 4 40) 5 6) 6 1000 : Nat → Int) = cfgK pr := rfl
  obtain ⟨p, -, q⟩ := act18_is h (by omega) (cfgK pr) (by rw [(cfgK_0 pr).1]; omega) (by rw [(cfgK_0 pr).2.1]; omega) (acts[i]!)
  have hn' := nextK_KI h (by omega) (cfgK pr) (acts[i]!)
  have hvp := h.viewP (by omega) (cfgK pr)
  have hvn := hn'.viewP (by omega) (cfgK pr)
  unfold wounds18_l1
  rw [if_pos (by omega), hcf, Int.toNat_natCast]
  refine ⟨hvp, _, rfl, ⟨by omega, by omega⟩, p, _, rfl, ?_⟩
  generalize act18_F (cfgK pr) s.cl s.ti s.la s.m s.tr (acts[i]!) = r at q ⊢
  obtain ⟨l, x1, x2, ti', la', m', tr', cl'⟩ := r
  dsimp only at q ⊢
  generalize hs' : nextK (cfgK pr) 4 s (acts[i]!) = s' at q hn' hvn ⊢
  simp only [Prod.mk.injEq] at q
  obtain ⟨rfl, rfl, rfl, rfl, rfl⟩ := q
  refine ⟨hvn, _, rfl, .inl (), ?_, ?_⟩
  · refine Wh.fold s.la.toNat (fun k : Nat => (k : Int)) (.inl ()) (fun k hk => wounds_l2 h (by omega) pr (cfgK_0 pr).2.2 hs'.symm (h.view (cfgK pr)) (hn'.view (cfgK pr)) k (by omega)) ?_
    show wounds18_l2 pr _ _ (s.la.toNat : Int) _
    unfold wounds18_l2
    rw [if_neg (by rw [h.view, seen_len]; omega)]
  · unfold wounds18_k2a
    rw [e]
    exact ⟨by unfold inI64; omega, rfl⟩
end
theorem wounds18_all (pr : Bool) (acts : LM) : wounds18_S pr acts true := by
  unfold wounds18_S
  rw [if_pos (show alive18_F = true from rfl)]
  by_cases hL : 100 < (acts.length : Int)
  · rw [if_pos hL]
  · rw [if_neg hL, if_pos (by decide), if_pos (by decide), if_pos (by decide), if_pos (by decide), if_pos (by decide), if_pos (by decide)]
    refine ⟨.inl ((runK pr 4 acts acts.length).ti, (runK pr 4 acts acts.length).la, (runK pr 4 acts acts.length).m, (runK pr 4 acts acts.length).tr, (runK pr 4 acts acts.length).cl), ?_, rfl⟩
    refine Wh.fold acts.length (fun i => ((i : Int), (runK pr 4 acts i).ti, (runK pr 4 acts i).la, (runK pr 4 acts i).m, (runK pr 4 acts i).tr, (runK pr 4 acts i).cl)) _ (fun i hi => ?_) ?_
    · exact wounds_l1 (runK_KI pr (by omega) acts i (by omega)) (by omega) pr acts i hi (by omega)
    · dsimp only
      unfold wounds18_l1
      rw [if_neg (by omega)]
end Go.E
