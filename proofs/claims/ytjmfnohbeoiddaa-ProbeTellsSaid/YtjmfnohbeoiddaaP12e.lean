/- Probes start, go on and tell as the document says. -/
import Derived.Test.YtjmfnohbeoiddaaF12S
import Derived.Test.YtjmfnohbeoiddaaP12d
import Derived.Test.YtjmfnohbeoiddaaP12b
namespace Go.E
open Go
set_option linter.unusedVariables false
set_option maxRecDepth 100000

theorem code_of {e : Int} (h : 0 ≤ e ∧ e ≤ 15) : code_F e = e := by unfold code_F; rw [if_pos h]
theorem msgs_nil : msgs_F [] [] = true := rfl

/-- Whether one that waits may begin. -/
theorem first_ok (shard : Int) (ww : Nat → Int) : isP_F (updI (updRI (updI (updI (updI (fun _ => 0) 0 11) 1 shard) 11 1) 12 16 (updRI (fun _ => 0) 0 2 ww)) 9 1) = true ↔
    ¬ ((((((decide (shard < 1)) || (decide (64 < shard))) || (decide (ww 0 < 1))) || (decide (1048576 < ww 0))) || (decide (ww 1 < 1))) || (decide (1048576 < ww 1))) = true := by
  rw [isP_iff]
  generalize hm : updI (updRI (updI (updI (updI (fun _ => 0) 0 11) 1 shard) 11 1) 12 16 (updRI (fun _ => 0) 0 2 ww)) 9 1 = m
  have g : ∀ i, m i = updI (updRI (updI (updI (updI (fun _ => 0) 0 11) 1 shard) 11 1) 12 16 (updRI (fun _ => 0) 0 2 ww)) 9 1 i := fun i => by rw [hm]
  have g0 : m 0 = 11 := by rw [g]; simp [updI, updRI]
  have g1 : m 1 = shard := by rw [g]; simp [updI, updRI]
  have g2 : m 2 = 0 := by rw [g]; simp [updI, updRI]
  have g9 : m 9 = 1 := by rw [g]; simp [updI, updRI]
  have g10 : m 10 = 0 := by rw [g]; simp [updI, updRI]
  have g11 : m 11 = 1 := by rw [g]; simp [updI, updRI]
  have g12 : m 12 = ww 0 := by rw [g]; simp [updI, updRI]
  have g13 : m 13 = ww 1 := by rw [g]; simp [updI, updRI]
  have gz : ∀ i, 14 ≤ i → i < 28 → m i = 0 := fun i h1 h2 => by
    rw [g]; simp only [updI, updRI]
    rw [if_neg (by omega), if_pos (by omega), if_neg (by omega)]
  have gs : ∀ i, 3 ≤ i → i ≤ 8 → m i = 0 := fun i h1 h2 => by
    rw [g]; simp only [updI, updRI]
    rw [if_neg (by omega), if_neg (by omega), if_neg (by omega), if_neg (by omega), if_neg (by omega)]
  have e1 : endsB m = (decide (1 ≤ shard) && decide (shard ≤ 64)) := by
    unfold endsB shB inB
    rw [g0, g1, g2, if_pos rfl]
    by_cases h : shard = 0
    · rw [if_pos h, h]
      first | done | decide | rfl
    · rw [if_neg h]; simp
  have e2 : mayB m = (decide (1 ≤ ww 0) && decide (ww 0 ≤ 1048576) && (decide (1 ≤ ww 1) && decide (ww 1 ≤ 1048576))) := by
    unfold mayB
    rw [if_neg (by omega), if_neg (by omega), if_neg (by omega), if_neg (by omega), if_neg (by omega), if_pos g0]
    unfold pathB
    rw [g11, g9, g10]
    have s0 : stepB m 0 = (decide (1 ≤ ww 0) && decide (ww 0 ≤ 1048576) && (decide (1 ≤ ww 1) && decide (ww 1 ≤ 1048576))) := by
      unfold stepB txB inB newB
      rw [if_neg (by omega)]
      simp [g12, g13]
    have sk : ∀ i, 1 ≤ i → i < 8 → stepB m i = true := fun i h1 h2 => by
      unfold stepB
      rw [if_pos (by omega), gz _ (by omega) (by omega), gz _ (by omega) (by omega)]; rfl
    simp only [List.range, List.range.loop, List.all_cons, List.all_nil, s0, sk 1 (by omega) (by omega), sk 2 (by omega) (by omega), sk 3 (by omega) (by omega), sk 4 (by omega) (by omega), sk 5 (by omega) (by omega), sk 6 (by omega) (by omega), sk 7 (by omega) (by omega)]
    simp [inB, txB]
  have e3 : eqN 28 (mayZ m) (headM m) = true := by
    rw [eqN_iff]
    intro i hi
    unfold mayZ headM
    rw [if_neg (by omega), if_neg (by omega), if_neg (by omega), if_neg (by omega), if_neg (by omega), if_pos g0]
    simp only [updI, updRI]
    by_cases h12 : 12 ≤ i
    · rw [if_pos (by omega), if_neg (by omega), if_neg (by omega), if_neg (by omega)]
    · rw [if_neg (by omega)]
      by_cases h10 : i = 10
      · subst h10; simp
      · by_cases h9 : i = 9
        · subst h9; simp
        · by_cases h11 : i = 11
          · subst h11; simp
          · rw [if_neg h10, if_neg h9, if_neg h11]
            by_cases h2 : i = 2
            · subst h2; simp
            · by_cases h1 : i = 1
              · subst h1; simp
              · by_cases h0 : i = 0
                · subst h0; simp
                · rw [if_neg h2, if_neg h1, if_neg h0]; exact gs i (by omega) (by omega)
  unfold okB
  rw [e1, e2, e3]
  simp only [g0, true_and, Bool.and_true, Bool.and_eq_true, decide_eq_true_eq, Bool.or_eq_true, not_or, Int.not_lt]
  constructor
  · rintro ⟨⟨h1, h2⟩, ⟨h3, h4⟩, h5, h6⟩; exact ⟨⟨⟨⟨⟨h1, h2⟩, h3⟩, h4⟩, h5⟩, h6⟩
  · rintro ⟨⟨⟨⟨⟨h1, h2⟩, h3⟩, h4⟩, h5⟩, h6⟩; exact ⟨⟨h1, h2⟩, ⟨h3, h4⟩, h5, h6⟩

theorem starts12_all (shard : Int) (ww : Nat → Int) (l : List (Nat → Int)) : starts12_S shard ww l true := by
  unfold starts12_S
  refine ⟨alive12_p, ?_⟩
  rw [if_pos alive12_t]
  refine ite_intro (fun _ => rfl) fun hl => ?_
  have hl' : l.length ≤ 100 := by omega
  have hlp : longer_P shard (fun _ => 0) ww l := ⟨by decide, by decide, by omega⟩
  have hop : onR_P shard (fun _ => 0) ww l := ⟨by decide, by decide, by omega⟩
  obtain ⟨hm, ha⟩ := long_on (shard := shard) (m := fun _ => 0) (ww := ww) (l := l) ⟨by decide, by decide⟩ (fun _ _ _ => rfl)
  have hsz : (longF shard (fun _ => 0) ww l).length ≤ 100 := by
    unfold longF
    rw [List.length_map]
    have := List.length_filter_le (ofB ww) l
    omega
  refine ⟨?_, ?_, ?_, ?_⟩
  · unfold startP_P
    exact ite_intro (fun _ => ⟨hlp, trivial⟩) fun _ => trivial
  · unfold startR_P
    exact ite_intro (fun _ => trivial) fun _ => ⟨hop, ite_intro (fun _ => trivial) fun _ => trivial⟩
  · unfold msgs_P startP_F longer_F
    split
    · split
      · simp only; omega
      · simp
    · simp
  · unfold startP_F startR_F
    by_cases hf : isP_F (updI (updRI (updI (updI (updI (fun _ => 0) 0 11) 1 shard) 11 1) 12 16 (updRI (fun _ => 0) 0 2 ww)) 9 1) = true
    · rw [if_pos hf, if_neg ((first_ok shard ww).1 hf)]
      unfold longer_F onR_F
      by_cases hall : (longF shard (fun _ => 0) ww l).all isP_F = true
      · rw [if_pos hall]
        rw [ha] at hall
        rw [if_pos hall]
        simp [hm, code_F]
      · rw [if_neg hall]
        rw [ha] at hall
        rw [if_neg hall]
        simp [msgs_nil, code_F]
    · have hf' := Decidable.not_not.1 fun h => hf ((first_ok shard ww).2 h)
      rw [if_neg hf, if_pos hf']
      simp [msgs_nil, code_F]

theorem onward_spec (shard : Int) (m : Nat → Int) (hm : isP_F m = true) : isP_F (updI (updI m 1 0) 2 shard) = true ↔ ¬ ((decide (shard < 1)) || (decide (64 < shard))) = true := by
  obtain ⟨h0, hk⟩ := (isP_iff m).1 hm
  rw [isP_iff]
  unfold okB at hk ⊢
  simp only [Bool.and_eq_true] at hk
  have t : ∀ i, 3 ≤ i → updI (updI m 1 0) 2 shard i = m i := fun i h => toM_at m shard i h
  have t0 : updI (updI m 1 0) 2 shard 0 = 11 := by simp [updI, h0]
  have t1 : updI (updI m 1 0) 2 shard 1 = 0 := by simp [updI]
  have t2 : updI (updI m 1 0) 2 shard 2 = shard := by simp [updI]
  have e1 : endsB (updI (updI m 1 0) 2 shard) = (decide (1 ≤ shard) && decide (shard ≤ 64)) := by
    unfold endsB shB inB
    rw [t0, t1, t2, if_pos rfl, if_pos rfl]
  have e2 : mayB (updI (updI m 1 0) 2 shard) = true := by
    have := hk.1.2
    unfold mayB at this ⊢
    rw [if_neg (by omega), if_neg (by omega), if_neg (by omega), if_neg (by omega), if_neg (by omega), if_pos h0] at this
    rw [if_neg (by omega), if_neg (by omega), if_neg (by omega), if_neg (by omega), if_neg (by omega), if_pos t0]
    unfold pathB at this ⊢
    rw [t 11 (by omega), t 9 (by omega), t 10 (by omega)]
    have hs : stepB (updI (updI m 1 0) 2 shard) = stepB m := by
      funext i
      unfold stepB newB
      rw [t 11 (by omega), t (12 + (i * 2 + 0)) (by omega), t (12 + (i * 2 + 1)) (by omega)]
      have : (fun k => !decide (updI (updI m 1 0) 2 shard (12 + k * 2 + 0) = m (12 + (i * 2 + 0)))) = fun k => !decide (m (12 + k * 2 + 0) = m (12 + (i * 2 + 0))) := by
        funext k; rw [t _ (by omega)]
      rw [this]
    rw [hs]; exact this
  have e3 : eqN 28 (mayZ (updI (updI m 1 0) 2 shard)) (headM (updI (updI m 1 0) 2 shard)) = true := by
    have := eqN_iff.1 hk.2
    rw [eqN_iff]
    intro i hi
    have g := this i hi
    unfold mayZ headM at g ⊢
    rw [if_neg (by omega), if_neg (by omega), if_neg (by omega), if_neg (by omega), if_neg (by omega), if_pos h0] at g
    rw [if_neg (by omega), if_neg (by omega), if_neg (by omega), if_neg (by omega), if_neg (by omega), if_pos t0, t1, t2, t0]
    by_cases h3 : 3 ≤ i
    · simp only [updI, updRI] at g ⊢
      rw [if_neg (by omega : ¬ i = 2), if_neg (by omega : ¬ i = 1), if_neg (by omega : ¬ i = 0)] at g ⊢
      simpa [show ¬ i = 2 by omega, show ¬ i = 1 by omega] using g
    · rcases (show i = 0 ∨ i = 1 ∨ i = 2 by omega) with rfl | rfl | rfl <;> simp [updI, updRI, h0]
  rw [e1, e2, e3]
  simp only [t0, true_and, Bool.and_true, Bool.and_eq_true, decide_eq_true_eq, Bool.or_eq_true, not_or, Int.not_lt]

theorem goes12_all (shard : Int) (m : Nat → Int) (q : Int) (l : List (Nat → Int)) : goes12_S shard m q l true := by
  unfold goes12_S
  refine ⟨alive12_p, ?_⟩
  rw [if_pos alive12_t]
  refine ite_intro (fun _ => rfl) fun hl => ?_
  have hl' : l.length ≤ 100 := by omega
  have hmain : msgs_F (goP_F shard m q l).1 (goR_F shard m q l).1 = true ∧ code_F (goP_F shard m q l).2 = (goR_F shard m q l).2 ∧ (goP_F shard m q l).1.length ≤ 100 := by
    unfold goP_F goR_F
    by_cases hm : isP_F m = true
    · have hn := isP_n hm
      rw [if_pos (show isR_F m = true by rw [isR_eq]; exact hm)]
      unfold stops_F
      rw [if_pos hm]
      by_cases h1 : ((!(decide (m 10 = 0))) && (!(decide (m 10 = q)))) = true
      · rw [if_pos h1, if_pos h1]; exact ⟨rfl, by simp [code_F], by simp⟩
      · rw [if_neg h1, if_neg h1]
        by_cases h2 : metB m = true
        · rw [if_pos h2, if_pos h2]; exact ⟨rfl, by simp [code_F], by simp⟩
        · rw [if_neg h2, if_neg h2]
          by_cases h3 : m 11 = 8
          · rw [if_pos h3, if_pos h3]; exact ⟨rfl, by simp [code_F], by simp⟩
          · rw [if_neg h3, if_neg h3, if_pos rfl]
            obtain ⟨hms, ha⟩ := long_on (shard := shard) (m := m) (ww := nextW m q) (l := l) ⟨by omega, by omega⟩ (isP_rest hm)
            have hsz : (longF shard m (nextW m q) l).length ≤ 100 := by
              unfold longF
              rw [List.length_map]
              have := List.length_filter_le (ofB (nextW m q)) l
              omega
            show msgs_F (longer_F shard m (nextW m q) l).1 _ = true ∧ code_F (longer_F shard m (nextW m q) l).2 = _ ∧ (longer_F shard m (nextW m q) l).1.length ≤ 100
            unfold longer_F onR_F
            by_cases hall : (longF shard m (nextW m q) l).all isP_F = true
            · rw [if_pos hall]
              rw [ha] at hall
              rw [if_pos hall]
              exact ⟨by simpa using hms, by simp [code_F], hsz⟩
            · rw [if_neg hall]
              rw [ha] at hall
              rw [if_neg hall]
              exact ⟨by simp [msgs_nil], by simp [code_F], by simp⟩
    · rw [if_neg (show ¬ isR_F m = true by rw [isR_eq]; exact hm)]
      unfold stops_F
      rw [if_neg hm, if_neg (by decide)]
      exact ⟨rfl, by simp [code_F], by simp⟩
  obtain ⟨h1, h2, h3⟩ := hmain
  refine ⟨goP_pre (by omega), by unfold goR_P; omega, by unfold msgs_P; omega, ?_⟩
  rw [if_neg (by rw [h1, h2]; simp)]
  by_cases hm : isP_F m = true
  · rw [if_pos (show isR_F m = true by rw [isR_eq]; exact hm)]
    have hs := onward_spec shard m hm
    by_cases hsh : ((decide (shard < 1)) || (decide (64 < shard))) = true
    · rw [if_pos hsh]
      have : ¬ isP_F (updI (updI m 1 0) 2 shard) = true := fun h => (hs.1 h) hsh
      unfold onward_F
      rw [if_pos hm, if_neg this]
      simp [eqN_refl, code_F]
    · rw [if_neg hsh]
      have : isP_F (updI (updI m 1 0) 2 shard) = true := hs.2 hsh
      unfold onward_F
      rw [if_pos hm, if_pos this]
      simp [eqN_refl]
  · rw [if_neg (show ¬ isR_F m = true by rw [isR_eq]; exact hm)]
    unfold onward_F
    rw [if_neg hm]
    simp [eqN_refl, code_F]

theorem tells12_all (m : Nat → Int) (l : List (Nat → Int)) (hl : l.length < 9000000000000000000) : tells12_S m l true := by
  unfold tells12_S
  refine ⟨alive12_p, ?_⟩
  rw [if_pos alive12_t]
  refine ⟨fun _ => hl, fun _ => hl, ?_⟩
  rw [back_same, live_same, if_neg (by simp)]
  by_cases hm : isP_F m = true
  · rw [if_pos (show isR_F m = true by rw [isR_eq]; exact hm)]
    have hn := isP_n hm
    refine ⟨by unfold victimR_P; omega, ?_⟩
    unfold victim_F victimR_F
    rw [if_pos hm, vic_same (isP_first hm) _ (by omega)]
    simp
  · rw [if_neg (show ¬ isR_F m = true by rw [isR_eq]; exact hm)]
    unfold victim_F
    rw [if_neg hm]
    simp [code_F]
end Go.E
