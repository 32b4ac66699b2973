/- What is done on a net, in plain words. -/
import Derived.Test.YthikmldodgijdaaC05S
namespace Go.E
open Go
set_option linter.unusedVariables false
set_option maxRecDepth 100000

theorem alive05_t : alive05_F = true := by decide +kernel
theorem alive05_p : alive05_P := by
  unfold alive05_P msgs_P twice_P deliver_P pick_P send_P nall_P cloneM_P
  decide +kernel
def OkL (l : List (Nat → Int)) : Prop := ∀ m ∈ l, okB m = true
theorem code_id {e : Int} (h : 0 ≤ e ∧ e ≤ 15) : code_F e = e := by unfold code_F; rw [if_pos h]
theorem send_eq (lim : Int) (l : List (Nat → Int)) (m : Nat → Int) : send_F lim l m = if okB m = true then if (l.length : Int) = lim then (6, l) else (0, l ++ [m]) else (5, l) := by
  unfold send_F
  rw [msgOk_eq]
  by_cases h : okB m = true
  · rw [if_pos h, if_pos rfl, if_pos h]
  · rw [if_neg h, if_neg (by decide), if_neg h]
theorem send_pre {lim : Int} {l : List (Nat → Int)} {m : Nat → Int} (hl : l.length ≤ 600000000) : send_P lim l m := by
  unfold send_P
  exact ite_intro (fun _ => ite_intro (fun _ => trivial) fun _ => ⟨by omega, trivial⟩) fun _ => trivial
theorem twice_eq (lim k : Int) (l : List (Nat → Int)) : twice_F lim l k = if l = [] then (10, l) else send_F lim l (l[(placeF l.length k).toNat]!) := by
  unfold twice_F
  rw [pick_eq]
  by_cases h : l = []
  · rw [if_pos h, if_neg (by decide), if_pos h]
  · rw [if_neg h, if_pos rfl, if_neg h]
theorem twice_pre {lim k : Int} {l : List (Nat → Int)} (hl : l.length ≤ 600000000) : twice_P lim l k := by
  unfold twice_P
  refine ⟨pick_pre (by omega), ?_⟩
  rw [pick_eq]
  by_cases h : l = []
  · rw [if_pos h]
    exact ite_intro (fun h => by simp at h) fun _ => trivial
  · have hp : 0 < (l.length : Int) := by have := List.length_pos_iff.2 h; omega
    have hr := placeF_rng (k := k) hp
    rw [if_neg h, if_pos rfl]
    exact ⟨hr, send_pre hl, trivial⟩
theorem act_pre {lim : Int} {l : List (Nat → Int)} {a : Nat → Int} (hl : l.length ≤ 600000000) : act_P lim l a := by
  unfold act_P
  refine ite_intro (fun _ => ⟨send_pre hl, trivial⟩) fun _ => ite_intro (fun _ => ⟨deliver_pre (by omega), trivial⟩) fun _ => ite_intro (fun _ => ⟨⟨deliver_pre (by omega), trivial⟩, trivial⟩) fun _ => ite_intro (fun _ => ⟨twice_pre hl, trivial⟩) fun _ => ite_intro (fun _ => ⟨⟨⟨by unfold cloneM_P; omega, trivial⟩, trivial⟩, trivial⟩) fun _ => trivial

theorem without_mem {l : List (Nat → Int)} {i : Nat} : ∀ m ∈ without l i, m ∈ l := by
  intro m hm
  rcases List.mem_append.1 hm with h | h
  · exact List.mem_of_mem_take h
  · exact List.mem_of_mem_drop h
theorem without_len {l : List (Nat → Int)} {i : Nat} (h : i < l.length) : (without l i).length + 1 = l.length := by
  unfold without
  simp only [List.length_append, List.length_take, List.length_drop]
  omega
theorem at_mem {l : List (Nat → Int)} {k : Int} (h : l ≠ []) : l[(placeF l.length k).toNat]! ∈ l ∧ (placeF l.length k).toNat < l.length := by
  have hp : 0 < (l.length : Int) := by have := List.length_pos_iff.2 h; omega
  have hr := placeF_rng (k := k) hp
  have hlt : (placeF l.length k).toNat < l.length := by omega
  exact ⟨by rw [getElem!_pos l _ hlt]; exact List.getElem_mem hlt, hlt⟩

/-- What something that is done leaves. -/
theorem act_inv {lim : Int} {l : List (Nat → Int)} {a : Nat → Int} (hok : OkL l) (hl : (l.length : Int) ≤ lim) (h1 : 1 ≤ lim) :
    OkL (act_F lim l a).2.2 ∧ ((act_F lim l a).2.2.length : Int) ≤ lim ∧ ((act_F lim l a).2.1 = 6 ↔ (l.length : Int) = lim ∧ ((a 0 = 0 ∧ okB (fun i => a (2 + i)) = true) ∨ a 0 = 3)) := by
  unfold act_F
  by_cases c0 : a 0 = 0
  · rw [if_pos c0, send_eq]
    by_cases hm : okB (fun i => a (2 + i)) = true
    · rw [if_pos hm]
      by_cases hf : (l.length : Int) = lim
      · rw [if_pos hf]
        exact ⟨hok, by simp only; omega, by simp [code_F, hf, c0, hm]⟩
      · rw [if_neg hf]
        refine ⟨fun m h => ?_, by simp only [List.length_append, List.length_singleton]; omega, by simp [code_F, hf]⟩
        rcases List.mem_append.1 h with h | h
        · exact hok m h
        · rw [List.mem_singleton.1 h]; exact hm
    · rw [if_neg hm]
      exact ⟨hok, by simp only; omega, by simp [code_F, hm, c0]⟩
  · rw [if_neg c0]
    have hdel : ∀ k, OkL (deliver_F lim l k).2.2 ∧ ((deliver_F lim l k).2.2.length : Int) ≤ lim ∧ code_F (deliver_F lim l k).2.1 ≠ 6 := by
      intro k
      rw [deliver_eq]
      by_cases h : l = []
      · rw [if_pos h]; exact ⟨hok, by simp only; omega, by simp [code_F]⟩
      · rw [if_neg h]
        have := without_len (at_mem (k := k) h).2
        exact ⟨fun m hm => hok m (without_mem m hm), by simp only; omega, by simp [code_F]⟩
    by_cases c1 : a 0 = 1
    · rw [if_pos c1]
      obtain ⟨g1, g2, g3⟩ := hdel (a 1)
      exact ⟨g1, g2, ⟨fun h => absurd h g3, fun h => by omega⟩⟩
    · rw [if_neg c1]
      by_cases c2 : a 0 = 2
      · rw [if_pos c2]
        obtain ⟨g1, g2, g3⟩ := hdel (a 1)
        exact ⟨g1, g2, ⟨fun h => absurd h g3, fun h => by omega⟩⟩
      · rw [if_neg c2]
        by_cases c3 : a 0 = 3
        · rw [if_pos c3, twice_eq]
          by_cases h : l = []
          · rw [if_pos h]
            refine ⟨hok, by simp only; omega, ?_⟩
            have : l.length = 0 := by rw [h]; rfl
            simp [code_F]; omega
          · rw [if_neg h, send_eq, if_pos (hok _ (at_mem h).1)]
            by_cases hf : (l.length : Int) = lim
            · rw [if_pos hf]
              exact ⟨hok, by simp only; omega, by simp [code_F, hf, c3]⟩
            · rw [if_neg hf]
              refine ⟨fun m hm => ?_, by simp only [List.length_append, List.length_singleton]; omega, by simp [code_F, hf]⟩
              rcases List.mem_append.1 hm with hm | hm
              · exact hok m hm
              · rw [List.mem_singleton.1 hm]; exact hok _ (at_mem h).1
        · rw [if_neg c3]
          by_cases c4 : a 0 = 4
          · rw [if_pos c4]
            exact ⟨fun m hm => by simp [ntake_F] at hm, by simp [ntake_F]; omega, by simp; omega⟩
          · rw [if_neg c4]
            exact ⟨hok, hl, by simp; omega⟩

theorem limit5_all (limit : Int) (l : List (Nat → Int)) (h0 : 0 ≤ limit) (h1 : limit < 256) : limit5_S limit l true := by
  have hwr : IntKind.i64.wrap limit = limit := wrap_id ⟨by omega, by omega⟩
  have hsh : 1 ≤ 1 + (IntKind.i64.wrap limit).tmod 20 ∧ 1 + (IntKind.i64.wrap limit).tmod 20 ≤ 20 := by
    rw [hwr, Int.tmod_eq_emod_of_nonneg h0]; omega
  unfold limit5_S
  refine ⟨alive05_p, ?_⟩
  rw [if_pos alive05_t]
  refine ite_intro (fun _ => rfl) fun hlen => ?_
  refine ⟨⟨by omega, by omega⟩, ?_⟩
  rw [if_neg (by simp; omega)]
  suffices h : ∃ r, Wh (fun (s : Int × List (Nat → Int)) (o : (Int × List (Nat → Int)) ⊕ (List (Nat → Int) ⊕ List (Nat → Int))) => limit5_l1 limit l s.1 s.2 o) (0, []) r ∧ ∃ d, r = .inl d by
    obtain ⟨r, hr, d, rfl⟩ := h
    exact ⟨.inl d, hr, rfl⟩
  refine Wh.by (fun (s : Int × List (Nat → Int)) => 0 ≤ s.1 ∧ s.1 ≤ l.length ∧ OkL s.2 ∧ (s.2.length : Int) ≤ 1 + (IntKind.i64.wrap limit).tmod 20) (fun s => ((l.length : Int) - s.1).toNat) (fun r => ∃ d, r = Sum.inl d) ⟨by simp, by simp, fun m hm => by simp at hm, by simp; omega⟩ ?_
  rintro ⟨i, d⟩ ⟨i0, i1, hok, hd⟩
  simp only at i0 i1 hok hd
  by_cases hn : ¬ i < l.length
  · refine .inr ⟨.inl d, ?_, d, rfl⟩
    show limit5_l1 limit l i d _
    unfold limit5_l1
    rw [if_neg hn]
  have hi : i < l.length := by omega
  generalize hm : 1 + (IntKind.i64.wrap limit).tmod 20 = most at *
  obtain ⟨g1, g2, g3⟩ := act_inv (a := l[i.toNat]!) hok hd hsh.1
  refine .inl ⟨(i + 1, (act_F most d (l[i.toNat]!)).2.2), ?_, ⟨by simp only; omega, by simp only; omega, g1, g2⟩, by simp only; omega⟩
  show limit5_l1 limit l i d _
  unfold limit5_l1
  rw [hm, if_pos hi]
  have hin : inI64 (i + 1) := ⟨by omega, by omega⟩
  have hnl : ∀ x : List (Nat → Int), nlen_F most x = (x.length : Int) := fun _ => rfl
  refine ⟨⟨i0, hi⟩, act_pre (by omega), ?_⟩
  simp only [hnl]
  generalize hx : l[i.toNat]! = x at *
  have hlt : ¬ most < ((act_F most d x).2.2.length : Int) := by omega
  by_cases hf : (d.length : Int) = most
  · rw [if_pos hf]
    refine ⟨⟨i0, hi⟩, ?_⟩
    by_cases c0 : x 0 = 0
    · rw [if_pos c0]
      refine ⟨⟨i0, hi⟩, ?_⟩
      by_cases ho : okB (fun i => x (2 + i)) = true
      · rw [if_pos ho, if_pos (by simp [g3.2 ⟨hf, .inl ⟨c0, ho⟩⟩]), if_neg hlt]
        exact ⟨hin, trivial⟩
      · have : ¬ (act_F most d x).2.1 = 6 := fun h => by
          rcases (g3.1 h).2 with h | h
          · exact ho h.2
          · omega
        rw [if_neg ho]
        refine ⟨⟨i0, hi⟩, ?_⟩
        rw [if_pos (by simp [this]; omega), if_neg hlt]
        exact ⟨hin, trivial⟩
    · rw [if_neg c0]
      refine ⟨⟨i0, hi⟩, ?_⟩
      have : (act_F most d x).2.1 = 6 ↔ x 0 = 3 := ⟨fun h => by
          rcases (g3.1 h).2 with h | h
          · omega
          · exact h, fun h => g3.2 ⟨hf, .inr h⟩⟩
      rw [if_pos (by simp [this]), if_neg hlt]
      exact ⟨hin, trivial⟩
  · rw [if_neg hf]
    have : ¬ (act_F most d x).2.1 = 6 := fun h => hf (g3.1 h).1
    rw [if_pos (by simp [this]), if_neg hlt]
    exact ⟨hin, trivial⟩
end Go.E
