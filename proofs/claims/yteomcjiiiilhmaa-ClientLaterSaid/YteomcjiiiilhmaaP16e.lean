/- Clients: who is lost is lost later, too. -/
import Derived.Test.YteomcjiiiilhmaaF16S
import Derived.Test.YteomcjiiiilhmaaP16d
namespace Go.E
open Go
set_option linter.unusedVariables false
set_option maxRecDepth 100000

/-- Whatever is done, what holds all along holds. -/
theorem later16_acts (acts : List (Nat → Int)) (hl : acts.length ≤ 60) : ∃ c, Wh (fun (s : Int × (Nat → Int)) (o : (Int × (Nat → Int)) ⊕ ((Nat → Int))) => later16_l1 acts s.1 s.2 o) ((0, (updI (fun _ => 0) 0 8)) : Int × (Nat → Int)) c ∧ Inv16 8 c := by
  refine Wh.by (f := fun (s : Int × (Nat → Int)) (o : (Int × (Nat → Int)) ⊕ ((Nat → Int))) => later16_l1 acts s.1 s.2 o) (fun s => 0 ≤ s.1 ∧ s.1 ≤ acts.length ∧ Inv16 8 s.2) (fun s => ((acts.length : Int) - s.1).toNat) (fun c => Inv16 8 c) ⟨by simp, by simp, Inv16.start (by omega)⟩ ?_
  rintro ⟨i, c⟩ ⟨i0, i1, hI⟩
  simp only at i0 i1 hI
  by_cases hi : i < acts.length
  · have ha := hI.act (acts[i.toNat]!)
    refine .inl ⟨(i + 1, (act16_F c (acts[i.toNat]!)).2), ?_, ⟨by simp only; omega, by simp only; omega, ha.2⟩, by simp only; omega⟩
    show later16_l1 acts i c _
    unfold later16_l1
    rw [if_pos hi]
    exact ⟨⟨i0, hi⟩, ha.1, ⟨by omega, by omega⟩, rfl⟩
  · refine .inr ⟨c, ?_, hI⟩
    show later16_l1 acts i c _
    unfold later16_l1
    rw [if_neg hi]

theorem mem_clost {c : Nat → Int} {now span x : Int} (h0 : 0 ≤ now ∧ now ≤ 1099511627776) (hs : 0 ≤ span) : x ∈ clost_F c now span ↔ ∃ j, j < 9 ∧ lostB c now span j = true ∧ c (1 + j * 3) = x := by
  unfold clost_F
  rw [if_neg (by unfold badT; simp only [Bool.or_eq_true, decide_eq_true_eq]; omega), mem_isort, mem_lost]
theorem lostB_iff {c : Nat → Int} {now span : Int} {j : Nat} : lostB c now span j = true ↔ nz (c (1 + (j * 3 + 2))) = true ∧ c (1 + j * 3) ≠ 0 ∧ span ≤ now - c (1 + (j * 3 + 1)) := by
  unfold lostB
  simp only [Bool.and_eq_true, Bool.not_eq_true', decide_eq_false_iff_not, decide_eq_true_eq, and_assoc]
/-- Whose a lost one is. -/
theorem lost_of {c : Nat → Int} (h : Inv16 8 c) {now span : Int} {j : Nat} (hj : j < 9) (hb : lostB c now span j = true) : cofI c (c (1 + j * 3)) = j ∧ (1 ≤ j ∧ (j : Int) ≤ 8) := by
  obtain ⟨b1, b2, b3⟩ := lostB_iff.1 hb
  have hp := lost_pos h hj hb
  have ht := h.tx j hj
  rcases h.of (c (1 + j * 3)) with ⟨_, h2⟩ | ⟨k, h1, h2, h3, h4⟩
  · exact absurd rfl (h2 j hj (by omega))
  · have := h.one k j (by omega) hj h4 (by rw [h4]; exact b2)
    subst this
    exact ⟨h1, hp⟩

theorem later16_there (now by_ span less i : Int) (c : Nat → Int) (hi : 0 ≤ i ∧ i < (clost_F c (IntKind.i64.wrap now) (IntKind.i64.wrap span)).length)
    (hm : (clost_F c (IntKind.i64.wrap now) (IntKind.i64.wrap span))[i.toNat]! ∈ clost_F c ((IntKind.i64.wrap now) + (IntKind.i64.wrap by_)) (if 0 < ((IntKind.i64.wrap span) - (IntKind.i64.wrap less)) then ((IntKind.i64.wrap span) - (IntKind.i64.wrap less)) else 0)) :
    Wh (fun (s : Bool × Int) (o : (Bool × Int) ⊕ (Bool)) => later16_l3 now by_ span less c i s.1 s.2 o) ((false, 0) : Bool × Int) true := by
  generalize hB : clost_F c ((IntKind.i64.wrap now) + (IntKind.i64.wrap by_)) (if 0 < ((IntKind.i64.wrap span) - (IntKind.i64.wrap less)) then ((IntKind.i64.wrap span) - (IntKind.i64.wrap less)) else 0) = b at hm
  generalize hx : (clost_F c (IntKind.i64.wrap now) (IntKind.i64.wrap span))[i.toNat]! = x at hm
  have hbl : b.length ≤ 9 := by rw [← hB]; exact clost_len _ _ _
  have := Wh.upto (f := fun (s : Bool × Int) (o : (Bool × Int) ⊕ (Bool)) => later16_l3 now by_ span less c i s.1 s.2 o) (fun k : Nat => ((b.take k).any (fun y => decide (x = y)), (k : Int))) b.length (r := b.any (fun y => decide (x = y))) (fun k hk => by
      dsimp only
      unfold later16_l3
      rw [hB, if_pos (by omega), Int.toNat_natCast, any_take _ _ _ hk, hx]
      exact ⟨fun _ => hi, fun _ => ⟨by omega, by omega⟩, ⟨by omega, by omega⟩, rfl⟩) (by
      dsimp only
      unfold later16_l3
      rw [hB, if_neg (by omega), take_len])
  have e : b.any (fun y => decide (x = y)) = true := List.any_eq_true.2 ⟨x, hm, by simp⟩
  rw [e] at this
  simpa using this

/-- What is left after some of the list have ended. -/
structure EndI (c : Nat → Int) (b : List Int) (s : Int × (Nat → Int)) : Prop where
  i0 : 0 ≤ s.1
  i1 : s.1 ≤ b.length
  inv : Inv16 8 s.2
  old : ∀ j, j < 9 → s.2 (1 + j * 3) = (if c (1 + j * 3) ∈ b.take s.1.toNat then 0 else c (1 + j * 3))
  one : ∀ j, j < 9 → s.2 (1 + (j * 3 + 1)) = c (1 + (j * 3 + 1)) ∧ s.2 (1 + (j * 3 + 2)) = c (1 + (j * 3 + 2))

theorem later16_end (now by_ span less : Int) (c : Nat → Int) (h : Inv16 8 c) (hnow : 0 ≤ (IntKind.i64.wrap now) + (IntKind.i64.wrap by_) ∧ (IntKind.i64.wrap now) + (IntKind.i64.wrap by_) ≤ 1099511627776) :
    ∃ c', Wh (fun (s : Int × (Nat → Int)) (o : (Int × (Nat → Int)) ⊕ (((Nat → Int)) ⊕ ((Nat → Int)))) => later16_l4 now by_ span less c s.1 s.2 o) ((0, c) : Int × (Nat → Int)) (.inl c') ∧ Inv16 8 c' ∧
      clost_F c' ((IntKind.i64.wrap now) + (IntKind.i64.wrap by_)) (if 0 < ((IntKind.i64.wrap span) - (IntKind.i64.wrap less)) then ((IntKind.i64.wrap span) - (IntKind.i64.wrap less)) else 0) = [] := by
  have hsp : 0 ≤ (if 0 < ((IntKind.i64.wrap span) - (IntKind.i64.wrap less)) then ((IntKind.i64.wrap span) - (IntKind.i64.wrap less)) else 0) := by split <;> omega
  unfold later16_l4
  generalize (if 0 < ((IntKind.i64.wrap span) - (IntKind.i64.wrap less)) then ((IntKind.i64.wrap span) - (IntKind.i64.wrap less)) else 0) = sp at hsp ⊢
  generalize (IntKind.i64.wrap now) + (IntKind.i64.wrap by_) = t at hnow ⊢
  generalize hB : clost_F c t sp = b
  have hbl : b.length ≤ 9 := by rw [← hB]; exact clost_len _ _ _
  have hbn : b.Nodup := by
    rw [← hB]
    unfold clost_F
    rw [if_neg (by unfold badT; simp only [Bool.or_eq_true, decide_eq_true_eq]; omega)]
    exact (perm_isort _).nodup_iff.2 (lost_nodup h t sp)
  have hmem : ∀ x, x ∈ b ↔ ∃ j, j < 9 ∧ lostB c t sp j = true ∧ c (1 + j * 3) = x := fun x => by rw [← hB]; exact mem_clost hnow hsp
  have h0b : (0 : Int) ∉ b := fun hh => by
    obtain ⟨j, _, hb, he⟩ := (hmem 0).1 hh
    exact (lostB_iff.1 hb).2.1 he
  suffices hs : ∃ r, Wh (fun (s : Int × (Nat → Int)) (o : (Int × (Nat → Int)) ⊕ (((Nat → Int)) ⊕ ((Nat → Int)))) => if s.1 < (b.length : Int) then (0 ≤ s.1 ∧ s.1 < b.length) ∧ ((cend_P s.2 (b[s.1.toNat]!)) ∧ (if (cend_F s.2 (b[s.1.toNat]!)).1 = 0 then (inI64 (s.1 + 1)) ∧ (o = (.inl (s.1 + 1, (cend_F s.2 (b[s.1.toNat]!)).2))) else o = (.inr (.inr ((cend_F s.2 (b[s.1.toNat]!)).2))))) else o = (.inr (.inl s.2))) ((0, c) : Int × (Nat → Int)) r ∧ ∃ c', r = Sum.inl c' ∧ EndI c b ((b.length : Int), c') by
    obtain ⟨_, hr, c', rfl, hE⟩ := hs
    refine ⟨c', hr, hE.inv, ?_⟩
    refine List.eq_nil_iff_forall_not_mem.2 fun x hx => ?_
    obtain ⟨j, hj, hb, he⟩ := (mem_clost hnow hsp).1 hx
    obtain ⟨b1, b2, b3⟩ := lostB_iff.1 hb
    have ho := hE.old j hj
    simp only [Int.toNat_natCast, List.take_length] at ho
    obtain ⟨o1, o2⟩ := hE.one j hj
    simp only at o1 o2 ho b1 b2 b3
    by_cases hm : c (1 + j * 3) ∈ b
    · rw [if_pos hm] at ho; exact b2 ho
    · rw [if_neg hm] at ho
      refine hm ((hmem _).2 ⟨j, hj, lostB_iff.2 ⟨by rw [← o2]; exact b1, by rw [← ho]; exact b2, by rw [← o1]; exact b3⟩, rfl⟩)
  refine Wh.by (EndI c b) (fun s => ((b.length : Int) - s.1).toNat) (fun r => ∃ c', r = Sum.inl c' ∧ EndI c b ((b.length : Int), c')) ⟨by simp, by simp, h, fun j _ => by simp, fun j _ => ⟨rfl, rfl⟩⟩ ?_
  rintro ⟨i, d⟩ ⟨i0, i1, hI, ho, h1⟩
  simp only at i0 i1 hI ho h1
  by_cases hi : i < b.length
  · have hi' : i.toNat < b.length := by omega
    generalize hx : b[i.toNat]! = x
    have hxb : x ∈ b := by rw [← hx]; exact mem_at hi'
    obtain ⟨j, hj, hb, he⟩ := (hmem x).1 hxb
    obtain ⟨b1, b2, b3⟩ := lostB_iff.1 hb
    have hp := lost_pos h hj hb
    have hnot : x ∉ b.take i.toNat := by
      intro hm
      obtain ⟨k, hk, hk2⟩ := List.getElem_of_mem hm
      rw [List.length_take] at hk
      rw [List.getElem_take] at hk2
      rw [getElem!_pos b i.toNat hi'] at hx
      have := (List.pairwise_iff_getElem.1 hbn) k i.toNat (by omega) hi' (by omega)
      exact this (by rw [hk2, hx])
    have hdj : d (1 + j * 3) = x := by rw [ho j hj, he, if_neg hnot]
    have hcj : cofI d x = j := by
      rcases hI.of x with ⟨_, h2⟩ | ⟨k, g1, g2, g3, g4⟩
      · have := hI.tx j hj
        rw [hdj] at this
        exact absurd hdj (h2 j hj (by have := b2; rw [he] at this; omega))
      · have := hI.one k j (by omega) hj (by rw [g4, hdj]) (by rw [g4]; omega)
        subst this
        exact g1
    obtain ⟨eP, eF⟩ := end_eq hI x
    rw [hcj, if_neg (by omega), Int.toNat_natCast] at eF
    have hinv := hI.put (k := j) (x := 0) hp (by omega) fun h => absurd rfl h
    refine .inl ⟨(i + 1, updI d (1 + j * 3) 0), ?_, ⟨by simp only; omega, by simp only; omega, hinv, fun k hk => ?_, fun k hk => ?_⟩, by simp only; omega⟩
    · show (if i < (b.length : Int) then _ else _)
      rw [if_pos hi]
      refine ⟨⟨i0, hi⟩, eP, ?_⟩
      show (if (cend_F d x).1 = 0 then _ else _)
      rw [eF, if_pos rfl]
      exact ⟨⟨by omega, by omega⟩, rfl⟩
    · simp only
      rw [up_tx, ho k hk, show (i + 1).toNat = i.toNat + 1 by omega, List.take_add_one, List.getElem?_eq_getElem hi']
      rw [getElem!_pos b i.toNat hi'] at hx
      rw [hx]
      simp only [Option.toList, List.mem_append, List.mem_singleton]
      by_cases hkj : k = j
      · subst hkj
        rw [if_pos rfl, if_pos (.inr he)]
      · rw [if_neg hkj]
        by_cases hck : c (1 + k * 3) ∈ b.take i.toNat
        · rw [if_pos hck, if_pos (.inl hck)]
        · rw [if_neg hck, if_neg]
          rintro (h2 | h2)
          · exact hck h2
          · exact hkj (h.one k j hk hj (by rw [h2, he]) (by rw [h2, ← he]; exact b2))
    · simp only
      rw [up_1, up_2]; exact h1 k hk
  · obtain rfl : i = b.length := by omega
    refine .inr ⟨.inl d, ?_, d, rfl, i0, i1, hI, ho, h1⟩
    show (if (b.length : Int) < (b.length : Int) then _ else _)
    rw [if_neg (by omega)]

theorem later16_all (acts : List (Nat → Int)) (now by_ span less : Int) (h1 : 0 ≤ now ∧ now ≤ 65535) (h2 : 0 ≤ by_ ∧ by_ ≤ 65535) (h3 : 0 ≤ span ∧ span ≤ 255) (h4 : 0 ≤ less ∧ less ≤ 255) : later16_S acts now by_ span less true := by
  have w1 : IntKind.i64.wrap now = now := wrap_id ⟨by omega, by omega⟩
  have w2 : IntKind.i64.wrap by_ = by_ := wrap_id ⟨by omega, by omega⟩
  have w3 : IntKind.i64.wrap span = span := wrap_id ⟨by omega, by omega⟩
  have w4 : IntKind.i64.wrap less = less := wrap_id ⟨by omega, by omega⟩
  unfold later16_S
  refine ⟨alive16_p, ?_⟩
  rw [if_pos alive16_t]
  refine ite_intro (fun _ => rfl) fun hlen => ?_
  obtain ⟨c, hw, hI⟩ := later16_acts acts (by omega)
  refine ⟨c, hw, ?_⟩
  unfold later16_k1a
  have hsp : 0 ≤ (if 0 < (span - less) then (span - less) else 0) ∧ (if 0 < (span - less) then (span - less) else 0) ≤ span := by split <;> omega
  refine ⟨hI.si, by rw [w1, w2]; exact ⟨by omega, by omega⟩, by rw [w3, w4]; exact ⟨by omega, by omega⟩, hI.si, .inl (), ?_, ?_⟩
  · have hal := clost_len c now span
    refine Wh.upto (f := fun (s : Int) (o : (Int) ⊕ ((Unit) ⊕ (Unit))) => later16_l2 now by_ span less c s o) (fun k : Nat => (k : Int)) (clost_F c now span).length (fun k hk => ?_) ?_
    · have hk' : 0 ≤ (k : Int) ∧ (k : Int) < (clost_F c (IntKind.i64.wrap now) (IntKind.i64.wrap span)).length := by rw [w1, w3]; exact ⟨by omega, by omega⟩
      have hx : (clost_F c now span)[k]! ∈ clost_F c now span := mem_at hk
      obtain ⟨j, hj, hb, he⟩ := (mem_clost ⟨by omega, by omega⟩ (by omega)).1 hx
      obtain ⟨b1, b2, b3⟩ := lostB_iff.1 hb
      obtain ⟨l1, l2⟩ := lost_of hI hj hb
      show later16_l2 now by_ span less c (k : Int) _
      unfold later16_l2
      rw [if_pos hk'.2]
      refine ⟨true, later16_there now by_ span less k c hk' ?_, ?_⟩
      · rw [w1, w2, w3, w4, Int.toNat_natCast, mem_clost ⟨by omega, by omega⟩ hsp.1]
        exact ⟨j, hj, lostB_iff.2 ⟨b1, b2, by omega⟩, he⟩
      · unfold later16_k3a
        refine ⟨hk', ?_⟩
        rw [w1, w3, Int.toNat_natCast, if_pos rfl]
        obtain ⟨e1, e2⟩ := cof_eq c ((clost_F c now span)[k]!)
        rw [← he] at e1 e2
        rw [l1] at e1 e2
        rw [if_neg (by omega)] at e2
        rw [← he, e1, e2, if_pos rfl]
        obtain ⟨aP, aF⟩ := alive_eq hI (j : Int)
        refine ⟨aP, ?_⟩
        rw [if_neg (by omega), Int.toNat_natCast, b1] at aF
        rw [aF, if_neg (by decide)]
        exact ⟨⟨by omega, by omega⟩, rfl⟩
    · show later16_l2 now by_ span less c ((clost_F c now span).length : Int) _
      unfold later16_l2
      rw [w1, w3, if_neg (by omega)]
  · show later16_k2a now by_ span less c true
    unfold later16_k2a
    obtain ⟨c', hw', hI', he⟩ := later16_end now by_ span less c hI (by rw [w1, w2]; omega)
    refine ⟨.inl c', hw', ?_⟩
    show later16_k4a now by_ span less c' true
    unfold later16_k4a
    refine ⟨by rw [w1, w2]; exact ⟨by omega, by omega⟩, by rw [w3, w4]; exact ⟨by omega, by omega⟩, hI'.si, ?_⟩
    rw [he]; rfl
end Go.E
