/- Requests and answers: each is opened once, and keeps its first answer. -/
import Derived.Test.YtndkjhaiopcpeaaC13S
import Derived.Test.YtndkjhaiopcpeaaEB
namespace Go.E
open Go
set_option linter.unusedVariables false

theorem alive13_t : alive13_F = true := by decide +kernel

abbrev Bk := List (Int × (Nat → Int))
def gt (d : Bk) (t : Int) : Nat → Int := mget ieq d t (fun _ => 0)
theorem gt_set (d : Bk) (k : Int) (v : Nat → Int) (t : Int) : gt (mset ieq d k v) t = if t = k then v else gt d t := by
  unfold gt
  rw [mget_mset eqk_int]
  by_cases h : t = k
  · rw [if_pos h, if_pos (ieq_iff.2 h)]
  · rw [if_neg h, if_neg (fun e => h (ieq_iff.1 e))]
theorem gt_del (d : Bk) (k : Int) (t : Int) : gt (mdel ieq d k) t = if t = k then (fun _ => 0) else gt d t := by
  unfold gt
  rw [mget_mdel eqk_int]
  by_cases h : t = k
  · rw [if_pos h, if_pos (ieq_iff.2 h)]
  · rw [if_neg h, if_neg (fun e => h (ieq_iff.1 e))]
theorem gt_none {d : Bk} {t : Int} (h : mhas ieq d t = false) : gt d t = fun _ => 0 := mget_none h

theorem answer_may {t q : Int} (h : ¬ ((((decide (t < 1)) || (decide (1048576 < t))) || (decide (q < 1))) || (decide (1048576 < q))) = true) : answers_F (answer_F t q) = true := by
  simp only [Bool.or_eq_true, decide_eq_true_eq, not_or, Int.not_lt] at h
  obtain ⟨⟨⟨h1, h2⟩, h3⟩, h4⟩ := h
  unfold answers_F
  rw [if_neg (show ¬ answer_F t q 0 = 2 by simp [answer_F, updI]), if_pos (show answer_F t q 0 = 3 by simp [answer_F, updI]), decide_eq_true_eq, msgOk_0]
  unfold okB
  have e1 : endsB (answer_F t q) = true := by simp [endsB, answer_F, updI, shB, inB]
  have e2 : mayB (answer_F t q) = true := by simp [mayB, answer_F, updI, inB, txB, h1, h2, h3, h4]
  have e3 : eqN 28 (mayZ (answer_F t q)) (headM (answer_F t q)) = true := by
    rw [eqN_iff]
    intro i hi
    simp only [mayZ, headM, answer_F, updI]
    rcases (show i = 0 ∨ i = 1 ∨ i = 2 ∨ i = 3 ∨ i = 4 ∨ i = 8 ∨ (i ≠ 0 ∧ i ≠ 1 ∧ i ≠ 2 ∧ i ≠ 3 ∧ i ≠ 4 ∧ i ≠ 8) by omega) with rfl | rfl | rfl | rfl | rfl | rfl | ⟨g0, g1, g2, g3, g4, g8⟩
    all_goals simp [*, updI]
  rw [e1, e2, e3]; rfl

/-- What holds ahead of each round. -/
structure OnceI (n : Nat) (s : List (Nat → Int) × List ((Nat → Int) × (Nat → Int)) × Int × Bk) : Prop where
  i0 : 0 ≤ s.2.2.1
  i1 : s.2.2.1 ≤ n
  len : (s.1.length : Int) ≤ s.2.2.1
  opened : ∀ p ∈ s.1, p 1 ≤ gt s.2.2.2 (p 0) 0
  ans : ∀ p : Nat → Int, p 1 = gt s.2.2.2 (p 0) 0 → gt s.2.2.2 (p 0) 1 ≠ 0 → mhas (eqN 2) s.2.1 p = true ∧ eqN 28 (fun i => gt s.2.2.2 (p 0) (1 + i)) (mget (eqN 2) s.2.1 p (fun _ => 0)) = true
  old : ∀ p : Nat → Int, mhas (eqN 2) s.2.1 p = true → p 1 ≤ gt s.2.2.2 (p 0) 0 ∧ (p 1 = gt s.2.2.2 (p 0) 0 → gt s.2.2.2 (p 0) 1 ≠ 0)

theorem eqN_two {f g : Nat → Int} : eqN 2 f g = true ↔ f 0 = g 0 ∧ f 1 = g 1 := by
  rw [eqN_iff]
  exact ⟨fun h => ⟨h 0 (by omega), h 1 (by omega)⟩, fun h i hi => by rcases (show i = 0 ∨ i = 1 by omega) with rfl | rfl <;> simp [h]⟩

theorem once_inner (steps : List (Nat → Int)) (opened : List (Nat → Int)) (i : Int) (hl : opened.length ≤ 100) (h : ∀ p ∈ opened, ¬ (p 0 = (steps[i.toNat]!) 0 ∧ (steps[i.toNat]!) 1 ≤ p 1)) :
    Wh (fun (s : Int) (o : Int ⊕ (Unit ⊕ Unit)) => once_l2 steps opened i s o) 0 (.inl ()) := by
  refine Wh.upto (fun k : Nat => (k : Int)) opened.length (fun k hk => ?_) ?_
  · unfold once_l2
    have e : (k : Int).toNat = k := by omega
    rw [if_pos (by omega), e]
    refine ⟨⟨by omega, by omega⟩, fun _ => ⟨by omega, by omega⟩, ?_⟩
    have hm := h opened[k] (List.getElem_mem hk)
    rw [getElem!_pos opened k hk]
    rw [if_neg (by simpa using hm)]
    exact ⟨⟨by omega, by omega⟩, rfl⟩
  · unfold once_l2
    rw [if_neg (by omega)]

theorem once_all (steps : List (Nat → Int)) : once_S steps true := by
  unfold once_S
  rw [if_pos alive13_t]
  refine ite_intro (fun _ => rfl) fun hlen => ?_
  have hlen' : steps.length ≤ 100 := by omega
  suffices h : ∃ r, Wh (fun (s : List (Nat → Int) × List ((Nat → Int) × (Nat → Int)) × Int × Bk) o => once_l1 steps s.1 s.2.1 s.2.2.1 s.2.2.2 o) ([], [], 0, []) r ∧ ∃ d, r = .inl d by
    obtain ⟨r, hr, d, rfl⟩ := h
    exact ⟨.inl d, hr, rfl⟩
  refine Wh.by (OnceI steps.length) (fun s => (steps.length - s.2.2.1).toNat) (fun r => ∃ d, r = Sum.inl d) ?_ ?_
  · exact ⟨by simp, by simp, by simp, by simp, fun p _ h => absurd rfl h, fun p h => by simp [mhas, mfind] at h⟩
  rintro ⟨opened, answers, i, d⟩ hI
  obtain ⟨i0, i1, hl, ho, ha, hold⟩ := hI
  simp only at i0 i1 hl ho ha hold
  by_cases hn : ¬ i < steps.length
  · refine .inr ⟨.inl d, ?_, d, rfl⟩
    show once_l1 steps opened answers i d _
    unfold once_l1
    rw [if_neg hn]
  have hi : i < steps.length := by omega
  refine .inl ?_
  have hin : inI64 (i + 1) := ⟨by omega, by omega⟩
  have hmeas : (steps.length - (i + 1)).toNat < (steps.length - i).toNat := by omega
  generalize hs : steps[i.toNat]! = s
  generalize hb : bopen_F d (s 0) (s 1) = r
  have hb' := hb
  have go : ∀ o, (0 ≤ i ∧ i < steps.length → once_l1 steps opened answers i d o) → once_l1 steps opened answers i d o := fun o h => h ⟨i0, hi⟩
  unfold bopen_F at hb
  by_cases hr : ((((decide (s 0 < 1)) || (decide (1048576 < s 0))) || (decide (s 1 < 1))) || (decide (1048576 < s 1))) = true
  · rw [if_pos hr] at hb
    subst hb
    refine ⟨(opened, answers, i + 1, d), go _ fun h0 => ?_, ⟨by simp only; omega, by simp only; omega, by simp only; omega, ho, ha, hold⟩, hmeas⟩
    unfold once_l1
    rw [if_pos hi, hs, hb']
    refine ⟨h0, ?_⟩
    rw [if_neg (by simp), if_neg (by simp [code_F]), if_neg (by simp [code_F])]
    exact ⟨hin, rfl⟩
  rw [if_neg hr] at hb
  change (if s 1 < gt d (s 0) 0 then _ else if gt d (s 0) 0 < s 1 then _ else if gt d (s 0) 1 = 0 then _ else _) = r at hb
  by_cases h1 : s 1 < gt d (s 0) 0
  · rw [if_pos h1] at hb
    subst hb
    refine ⟨(opened, answers, i + 1, d), go _ fun h0 => ?_, ⟨by simp only; omega, by simp only; omega, by simp only; omega, ho, ha, hold⟩, hmeas⟩
    unfold once_l1
    rw [if_pos hi, hs, hb']
    refine ⟨h0, ?_⟩
    rw [if_neg (by simp), if_neg (by simp [code_F]), if_neg (by simp [code_F])]
    exact ⟨hin, rfl⟩
  rw [if_neg h1] at hb
  by_cases h2 : gt d (s 0) 0 < s 1
  · rw [if_pos h2] at hb
    subst hb
    refine ⟨(opened ++ [s], answers, i + 1, mset ieq d (s 0) (updI (fun _ => 0) 0 (s 1))), go _ fun h0 => ?_, ?_, hmeas⟩
    · unfold once_l1
      rw [if_pos hi, hs, hb']
      refine ⟨h0, ?_⟩
      rw [if_pos rfl]
      refine ⟨.inl (), once_inner steps opened i (by omega) ?_, ?_⟩
      · rintro p hp ⟨e1, e2⟩
        rw [hs] at e1 e2
        have := ho p hp
        rw [e1] at this
        omega
      · show once_k2a steps opened answers i d _
        unfold once_k2a
        rw [hs, hb']
        exact ⟨by omega, hin, rfl⟩
    · have hg : ∀ t, gt (mset ieq d (s 0) (updI (fun _ => 0) 0 (s 1))) t = if t = s 0 then updI (fun _ => 0) 0 (s 1) else gt d t := gt_set d _ _
      refine ⟨by simp only; omega, by simp only; omega, by simp only [List.length_append, List.length_singleton]; omega, ?_, ?_, ?_⟩
      · intro p hp
        simp only [List.mem_append, List.mem_singleton] at hp
        simp only [hg]
        by_cases hps : p 0 = s 0
        · rw [if_pos hps]
          rcases hp with hp | rfl
          · have := ho p hp
            rw [hps] at this
            simp only [updI, if_true]; omega
          · simp [updI]
        · rw [if_neg hps]
          rcases hp with hp | rfl
          · exact ho p hp
          · exact absurd rfl hps
      · intro p
        simp only [hg]
        by_cases hps : p 0 = s 0
        · rw [if_pos hps]
          intro _ h; exact absurd (by simp [updI]) h
        · rw [if_neg hps]; exact ha p
      · intro p hp
        simp only [hg]
        by_cases hps : p 0 = s 0
        · have := hold p hp
          rw [hps] at this
          rw [if_pos hps]
          simp only [updI, if_true]
          omega
        · rw [if_neg hps]; exact hold p hp
  rw [if_neg h2] at hb
  have heq : s 1 = gt d (s 0) 0 := by omega
  by_cases h3 : gt d (s 0) 1 = 0
  · rw [if_pos h3] at hb
    subst hb
    have hno : mhas (eqN 2) answers s = false := by
      cases h : mhas (eqN 2) answers s with
      | false => rfl
      | true => exact absurd h3 ((hold s h).2 heq)
    have hhas : mhas ieq d (s 0) = true := by
      cases h : mhas ieq d (s 0) with
      | true => rfl
      | false =>
        rw [gt_none h] at heq
        have heq' : s 1 = 0 := heq
        simp only [Bool.or_eq_true, decide_eq_true_eq, not_or] at hr
        omega
    have hc1 : bclose_F d (answer_F (s 0) (s 1)) = (0, mset ieq d (s 0) (updRI (updI (fun _ => 0) 0 (s 1)) 1 28 (answer_F (s 0) (s 1)))) := by
      unfold bclose_F
      have e3 : answer_F (s 0) (s 1) 3 = s 0 := by simp [answer_F, updI]
      have e4 : answer_F (s 0) (s 1) 4 = s 1 := by simp [answer_F, updI]
      rw [if_pos (answer_may hr), e3, e4, if_pos hhas]
      rw [if_pos (show mget ieq d (s 0) (fun _ => 0) 0 = s 1 from heq.symm), if_pos (show mget ieq d (s 0) (fun _ => 0) 1 = 0 from h3)]
    have hg : ∀ t, gt (mset ieq d (s 0) (updRI (updI (fun _ => 0) 0 (s 1)) 1 28 (answer_F (s 0) (s 1)))) t = if t = s 0 then updRI (updI (fun _ => 0) 0 (s 1)) 1 28 (answer_F (s 0) (s 1)) else gt d t := gt_set d _ _
    have hv1 : updRI (updI (fun _ => 0) 0 (s 1)) 1 28 (answer_F (s 0) (s 1)) 1 = 3 := by simp [updRI, answer_F, updI]
    have hv0 : updRI (updI (fun _ => 0) 0 (s 1)) 1 28 (answer_F (s 0) (s 1)) 0 = s 1 := by simp [updRI, updI]
    generalize hd' : mset ieq d (s 0) (updRI (updI (fun _ => 0) 0 (s 1)) 1 28 (answer_F (s 0) (s 1))) = d' at hc1 hg
    have hc2 : ∀ m : Nat → Int, m 3 = s 0 → (bclose_F d' m).1 ≠ 0 ∧ (bclose_F d' m).2 = d' := by
      intro m hm
      unfold bclose_F
      have hne : ¬ mget ieq d' (s 0) (fun _ => 0) 1 = 0 := by
        show ¬ gt d' (s 0) 1 = 0
        rw [hg, if_pos rfl, hv1]; decide
      rw [hm]
      split
      · split
        · split
          · first | rw [if_neg hne] | skip
            exact ⟨by simp, rfl⟩
          · exact ⟨by simp, rfl⟩
        · exact ⟨by simp, rfl⟩
      · exact ⟨by simp, rfl⟩
    obtain ⟨hc3, hc4⟩ := hc2 (updI (updI (updI (updI (updI (fun _ => 0) 0 3) 1 2) 3 (s 0)) 4 (s 1)) 8 7) (by simp [updI])
    refine ⟨(opened, mset (eqN 2) answers s (answer_F (s 0) (s 1)), i + 1, d'), go _ fun h0 => ?_, ?_, hmeas⟩
    · unfold once_l1
      rw [if_pos hi, hs, hb']
      refine ⟨h0, ?_⟩
      rw [if_neg (by simp), if_neg (by simp [code_F]), if_pos (by simp [code_F]), if_neg (by simp [hno]), hc1]
      simp only
      rw [if_pos (by trivial), if_neg hc3, hc4]
      exact ⟨hin, rfl⟩
    · refine ⟨by simp only; omega, by simp only; omega, by simp only; omega, ?_, ?_, ?_⟩
      · intro p hp
        have := ho p hp
        simp only [hg]
        by_cases hps : p 0 = s 0
        · rw [if_pos hps, hv0]
          rw [hps] at this; omega
        · rw [if_neg hps]; exact this
      · intro p
        simp only [hg, mhas_mset (eqk_flat 2), mget_mset (eqk_flat 2)]
        by_cases hps : p 0 = s 0
        · rw [if_pos hps, hv0]
          intro hp1 _
          have : eqN 2 p s = true := eqN_two.2 ⟨hps, hp1⟩
          rw [this]
          refine ⟨rfl, ?_⟩
          rw [if_pos rfl, eqN_iff]
          intro k hk
          simp only [updRI]
          rw [if_pos (by omega)]
          congr 1; omega
        · rw [if_neg hps]
          intro hp1 hp2
          have : eqN 2 p s = false := by
            cases h : eqN 2 p s with
            | false => rfl
            | true => exact absurd (eqN_two.1 h).1 hps
          rw [this]
          simpa using ha p hp1 hp2
      · intro p hp
        simp only [hg, mhas_mset (eqk_flat 2), Bool.or_eq_true] at hp ⊢
        by_cases hps : p 0 = s 0
        · rw [if_pos hps, hv0, hv1]
          refine ⟨?_, fun _ => by decide⟩
          rcases hp with hp | hp
          · exact Int.le_of_eq (eqN_two.1 hp).2
          · have := (hold p hp).1
            rw [hps] at this; omega
        · rw [if_neg hps]
          rcases hp with hp | hp
          · exact absurd (eqN_two.1 hp).1 hps
          · exact hold p hp
  · rw [if_neg h3] at hb
    subst hb
    obtain ⟨g1, g2⟩ := ha s heq h3
    refine ⟨(opened, answers, i + 1, d), go _ fun h0 => ?_, ⟨by simp only; omega, by simp only; omega, by simp only; omega, ho, ha, hold⟩, hmeas⟩
    have g2' : eqN 28 (fun i => mget ieq d (s 0) (fun _ => 0) (1 + i)) (mget (eqN 2) answers s (fun _ => 0)) = true := g2
    unfold once_l1
    rw [if_pos hi, hs, hb']
    refine ⟨h0, ?_⟩
    rw [if_neg (by simp), if_neg (by simp only [g1, g2', Bool.not_true, Bool.or_false, Bool.and_false]; decide), if_neg (by simp [code_F])]
    exact ⟨hin, rfl⟩
end Go.E
