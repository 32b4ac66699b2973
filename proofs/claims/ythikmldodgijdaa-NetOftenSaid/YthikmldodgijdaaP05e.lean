/- The net and the document's net hold the same messages, always; none is delivered more often than it came. -/
import Derived.Test.YthikmldodgijdaaE05S
import Derived.Test.YthikmldodgijdaaP05c
namespace Go.E
open Go
set_option linter.unusedVariables false
set_option maxRecDepth 100000

theorem pickR_eq {lim k : Int} {l : List (Nat → Int)} (h : l ≠ []) : pickR_F lim l k = placeF l.length k := by
  have hp : 0 < (l.length : Int) := by have := List.length_pos_iff.2 h; omega
  rw [placeF_eq hp]
  unfold pickR_F
  have h1 := Int.lt_tmod_of_pos k hp
  have h2 := Int.tmod_lt_of_pos k hp
  have h3 : k.tmod l.length % (l.length : Int) = k % (l.length : Int) := by
    rw [Int.tmod_def, Int.sub_eq_add_neg, ← Int.mul_neg, Int.add_mul_emod_self_left]
  rw [← h3]
  by_cases hn : k.tmod l.length < 0
  · rw [if_pos hn, ← Int.add_emod_right, Int.emod_eq_of_lt (by omega) (by omega)]
  · rw [if_neg hn, Int.emod_eq_of_lt (by omega) (by omega)]
theorem pickR_pre {lim k : Int} {l : List (Nat → Int)} (h : l ≠ []) (hl : l.length ≤ 600000000) : pickR_P lim l k := by
  have hp : 0 < (l.length : Int) := by have := List.length_pos_iff.2 h; omega
  have h1 := Int.lt_tmod_of_pos k hp
  have h2 := Int.tmod_lt_of_pos k hp
  exact ⟨by omega, ite_intro (fun _ => ⟨⟨by omega, by omega⟩, trivial⟩) fun _ => trivial, trivial⟩
theorem doR_pre {lim : Int} {l : List (Nat → Int)} {a : Nat → Int} (hl : l.length ≤ 1000000) : doR_P lim l a := by
  unfold doR_P
  refine ite_intro (fun _ => ite_intro (fun _ => ite_intro (fun _ => trivial) fun _ => ⟨by omega, by simp only [List.nil_append]; omega, trivial⟩) fun _ => trivial) fun _ => ite_intro (fun _ => trivial) fun _ => ite_intro (fun _ => trivial) fun _ => ite_intro (fun _ => trivial) fun h => ?_
  have hne : l ≠ [] := fun e => h (by rw [e]; rfl)
  have hp : 0 < (l.length : Int) := by have := List.length_pos_iff.2 hne; omega
  have hr := placeF_rng (k := a 1) hp
  rw [pickR_eq hne]
  have g1 : ((l.take (placeF (l.length : Int) (a 1)).toNat).drop 0).length ≤ l.length := by simp; omega
  have g2 : ((l.take l.length).drop (placeF (l.length : Int) (a 1) + 1).toNat).length ≤ l.length := by simp
  refine ⟨pickR_pre hne (by omega), hr, ite_intro (fun _ => ite_intro (fun _ => trivial) fun _ => ⟨by omega, by simp only [List.nil_append]; omega, trivial⟩) fun _ => ⟨⟨by omega, by omega⟩, ⟨by omega, by omega⟩, ⟨by omega, by omega⟩, by omega, by simp only [List.nil_append]; omega, ?_⟩⟩
  exact ite_intro (fun _ => trivial) fun _ => trivial

/-- What is done on both is the same. -/
theorem act_do {lim : Int} {l : List (Nat → Int)} {a : Nat → Int} (hok : OkL l) (hl : (l.length : Int) ≤ lim) (h4 : a 0 ≠ 4) : act_F lim l a = doR_F lim l a := by
  unfold act_F doR_F
  by_cases c0 : a 0 = 0
  · rw [if_pos c0, if_pos c0, send_eq]
    by_cases hm : okB (fun i => a (2 + i)) = true
    · rw [if_pos hm, if_pos hm]
      by_cases hf : (l.length : Int) = lim
      · rw [if_pos hf, if_pos (by omega)]; rfl
      · rw [if_neg hf, if_neg (by omega)]; rfl
    · rw [if_neg hm, if_neg hm]; rfl
  · rw [if_neg c0, if_neg c0, if_neg h4, if_neg h4]
    by_cases hne : l = []
    · have hl0 : (l.length : Int) = 0 := by rw [hne]; rfl
      rw [if_pos hl0, deliver_eq, twice_eq]
      unfold drop_F
      rw [deliver_eq]
      simp only [if_pos hne]
      by_cases c1 : a 0 = 1
      · rw [if_pos c1, if_neg (by simp; omega)]; rfl
      · rw [if_neg c1]
        by_cases c2 : a 0 = 2
        · rw [if_pos c2, if_neg (by simp; omega)]; rfl
        · rw [if_neg c2]
          by_cases c3 : a 0 = 3
          · rw [if_pos c3, if_neg (by simp; omega)]; rfl
          · rw [if_neg c3, if_pos (by simp; omega)]
    · have hp : 0 < (l.length : Int) := by have := List.length_pos_iff.2 hne; omega
      have hr := placeF_rng (k := a 1) hp
      rw [if_neg (show ¬ (l.length : Int) = 0 by omega), pickR_eq hne, deliver_eq, twice_eq]
      unfold drop_F
      rw [deliver_eq]
      simp only [if_neg hne]
      have hw : ([] ++ (l.take (placeF (l.length : Int) (a 1)).toNat).drop 0) ++ (l.take l.length).drop (placeF (l.length : Int) (a 1) + 1).toNat = without l (placeF (l.length : Int) (a 1)).toNat := by
        rw [List.nil_append, List.drop_zero, List.take_of_length_le (Nat.le_refl l.length), show (placeF (l.length : Int) (a 1) + 1).toNat = (placeF (l.length : Int) (a 1)).toNat + 1 by omega]
        rfl
      by_cases c1 : a 0 = 1
      · rw [if_pos c1, if_neg (by simp; omega), if_neg (by omega), if_neg (by omega), hw]; rfl
      · rw [if_neg c1]
        by_cases c2 : a 0 = 2
        · rw [if_pos c2, if_neg (by simp; omega), if_neg (by omega), if_pos c2, hw]; rfl
        · rw [if_neg c2]
          by_cases c3 : a 0 = 3
          · rw [if_pos c3, if_neg (by simp; omega), if_pos c3, send_eq, if_pos (hok _ (at_mem hne).1)]
            by_cases hf : (l.length : Int) = lim
            · rw [if_pos hf, if_pos (by omega)]; rfl
            · rw [if_neg hf, if_neg (by omega)]; rfl
          · rw [if_neg c3, if_pos (by simp; omega)]

theorem act_len {lim : Int} {l : List (Nat → Int)} {a : Nat → Int} (hok : OkL l) : (act_F lim l a).2.2.length ≤ l.length + 1 := by
  unfold act_F
  have hd : ∀ k, (deliver_F lim l k).2.2.length ≤ l.length + 1 := fun k => by
    rw [deliver_eq]
    by_cases h : l = []
    · rw [if_pos h]; simp only; omega
    · rw [if_neg h]
      have := without_len (at_mem (k := k) h).2
      simp only; omega
  have hs : ∀ m, (send_F lim l m).2.length ≤ l.length + 1 := fun m => by
    rw [send_eq]
    split
    · split
      · simp only; omega
      · simp
    · simp only; omega
  split
  · exact hs _
  · split
    · exact hd _
    · split
      · exact hd _
      · split
        · rw [twice_eq]
          split
          · simp only; omega
          · exact hs _
        · split
          · simp [ntake_F]
          · simp

theorem acts5_all (limit : Int) (l : List (Nat → Int)) : acts5_S limit l true := by
  unfold acts5_S
  refine ⟨alive05_p, ?_⟩
  rw [if_pos alive05_t]
  refine ite_intro (fun _ => rfl) fun hlen => ?_
  refine ite_intro (fun _ => by simp [code_F]) fun hlim => ?_
  simp only [Bool.or_eq_true, decide_eq_true_eq, not_or, Int.not_lt] at hlim
  suffices h : ∃ r, Wh (fun (s : Int × List (Nat → Int) × List (Nat → Int)) (o : (Int × List (Nat → Int) × List (Nat → Int)) ⊕ ((List (Nat → Int) × List (Nat → Int)) ⊕ (List (Nat → Int) × List (Nat → Int)))) => acts5_l1 limit l s.1 s.2.1 s.2.2 o) (0, [], []) r ∧ ∃ d, r = .inl (d, d) by
    obtain ⟨r, hr, d, rfl⟩ := h
    refine ⟨.inl (d, d), hr, ?_⟩
    show acts5_k1a limit d d true
    unfold acts5_k1a nlen_F
    simp
  refine Wh.by (fun (s : Int × List (Nat → Int) × List (Nat → Int)) => 0 ≤ s.1 ∧ s.1 ≤ l.length ∧ s.2.1 = s.2.2 ∧ OkL s.2.1 ∧ (s.2.1.length : Int) ≤ limit ∧ (s.2.1.length : Int) ≤ s.1) (fun s => ((l.length : Int) - s.1).toNat) (fun r => ∃ d, r = Sum.inl (d, d)) ⟨by simp, by simp, rfl, fun m hm => by simp at hm, by simp; omega, by simp⟩ ?_
  rintro ⟨i, d, d2⟩ ⟨i0, i1, hdd, hok, hd, hdi⟩
  simp only at i0 i1 hdd hok hd hdi
  subst hdd
  by_cases hn : ¬ i < l.length
  · refine .inr ⟨.inl (d, d), ?_, d, rfl⟩
    show acts5_l1 limit l i d d _
    unfold acts5_l1
    rw [if_neg hn]
  have hi : i < l.length := by omega
  have hin : inI64 (i + 1) := ⟨by omega, by omega⟩
  have hnp : ∀ x : List (Nat → Int), x.length ≤ 1000000 → nall_P limit x := fun x h => ⟨by unfold cloneM_P; omega, trivial⟩
  by_cases h4 : l[i.toNat]! 0 = 4
  · refine .inl ⟨(i + 1, [], []), ?_, ⟨by simp only; omega, by simp only; omega, rfl, fun m hm => by simp at hm, by simp; omega, by simp; omega⟩, by simp only; omega⟩
    show acts5_l1 limit l i d d _
    unfold acts5_l1
    rw [if_pos hi]
    refine ⟨⟨i0, hi⟩, ?_⟩
    rw [if_pos h4]
    have e : (ntake_F limit d).1 = d := rfl
    refine ⟨⟨hnp d (by omega), trivial⟩, by unfold msgs_P; rw [e]; omega, ?_⟩
    rw [e, if_pos (msgs_self d)]
    exact ⟨hin, rfl⟩
  · have hsame := act_do (a := l[i.toNat]!) hok hd h4
    obtain ⟨g1, g2, _⟩ := act_inv (a := l[i.toNat]!) hok hd hlim.1
    have g3 := act_len (lim := limit) (a := l[i.toNat]!) hok
    refine .inl ⟨(i + 1, (act_F limit d (l[i.toNat]!)).2.2, (act_F limit d (l[i.toNat]!)).2.2), ?_, ⟨by simp only; omega, by simp only; omega, rfl, g1, g2, by simp only; omega⟩, by simp only; omega⟩
    show acts5_l1 limit l i d d _
    unfold acts5_l1
    rw [if_pos hi]
    refine ⟨⟨i0, hi⟩, ?_⟩
    rw [if_neg h4]
    refine ⟨⟨i0, hi⟩, act_pre (by omega), ⟨i0, hi⟩, doR_pre (by omega), ?_⟩
    rw [← hsame, if_pos (eqN_refl _ _), if_pos rfl]
    have e1 : ∀ x : List (Nat → Int), nlen_F limit x = (x.length : Int) := fun _ => rfl
    have e2 : ∀ x : List (Nat → Int), nall_F limit x = x := fun _ => rfl
    rw [e1, e2, if_pos rfl]
    refine ⟨hnp _ (by omega), by unfold msgs_P; omega, ?_⟩
    rw [if_pos (msgs_self _)]
    exact ⟨hin, rfl⟩
end Go.E
