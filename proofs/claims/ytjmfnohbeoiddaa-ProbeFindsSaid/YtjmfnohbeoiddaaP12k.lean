/- Probes come back just where there is a circle. -/
import Derived.Test.YtjmfnohbeoiddaaP12j
namespace Go.E
open Go
set_option linter.unusedVariables false
set_option maxRecDepth 100000

theorem six_of {x : Int} (h : 0 ≤ x ∧ x ≤ 255) : (1 ≤ 1 + ((IntKind.i64.wrap x).tmod 6) ∧ 1 + ((IntKind.i64.wrap x).tmod 6) ≤ 6) := by
  rw [wrap_id ⟨by omega, by omega⟩, Int.tmod_eq_emod_of_nonneg h.1]
  omega

/-! ### The edges are laid -/
theorem finds12_twice (pairs l : List (Nat → Int)) (i : Int) (t : Bool) (hl : l.length ≤ 12) :
    ∃ b, Wh (fun (s : Bool × Int) (o : (Bool × Int) ⊕ (Bool)) => finds12_l2 pairs l i s.1 s.2 o) ((t, 0) : Bool × Int) b ∧
      b = (t || l.any fun e => (decide (e 0 = 1 + ((IntKind.i64.wrap (pairs[i.toNat]! 0)).tmod 6))) && (decide (e 2 = 1 + ((IntKind.i64.wrap (pairs[i.toNat]! 1)).tmod 6)))) := by
  refine ⟨_, ?_, rfl⟩
  have := Wh.upto (f := fun (s : Bool × Int) (o : (Bool × Int) ⊕ (Bool)) => finds12_l2 pairs l i s.1 s.2 o) (fun k : Nat => ((t || (l.take k).any fun e => (decide (e 0 = 1 + ((IntKind.i64.wrap (pairs[i.toNat]! 0)).tmod 6))) && (decide (e 2 = 1 + ((IntKind.i64.wrap (pairs[i.toNat]! 1)).tmod 6)))), (k : Int))) l.length (r := (t || l.any fun e => (decide (e 0 = 1 + ((IntKind.i64.wrap (pairs[i.toNat]! 0)).tmod 6))) && (decide (e 2 = 1 + ((IntKind.i64.wrap (pairs[i.toNat]! 1)).tmod 6))))) (fun k hk => by
      dsimp only
      unfold finds12_l2
      rw [if_pos (by omega), Int.toNat_natCast, any_take _ _ _ hk, Bool.or_assoc]
      exact ⟨fun _ => ⟨by omega, by omega⟩, fun _ _ => ⟨by omega, by omega⟩, ⟨by omega, by omega⟩, rfl⟩) (by
      dsimp only
      unfold finds12_l2
      rw [if_neg (by omega), take_len])
  simpa using this
theorem finds12_edges (pairs : List (Nat → Int)) (hw : ∀ m ∈ pairs, ∀ i, i < 2 → 0 ≤ m i ∧ m i ≤ 255) (hp : pairs.length ≤ 12) :
    ∃ l, Wh (fun (s : (List (Nat → Int)) × Int) (o : ((List (Nat → Int)) × Int) ⊕ ((List (Nat → Int)))) => finds12_l1 pairs s.1 s.2 o) (([], 0) : (List (Nat → Int)) × Int) l ∧ EdgeOk l ∧ l.length ≤ 12 := by
  refine Wh.by (f := fun (s : (List (Nat → Int)) × Int) (o : ((List (Nat → Int)) × Int) ⊕ ((List (Nat → Int)))) => finds12_l1 pairs s.1 s.2 o) (fun s => 0 ≤ s.2 ∧ s.2 ≤ pairs.length ∧ EdgeOk s.1 ∧ s.1.length ≤ s.2.toNat) (fun s => ((pairs.length : Int) - s.2).toNat) (fun l => EdgeOk l ∧ l.length ≤ 12) ⟨by simp, by simp, ⟨fun e h => by simp at h, .nil⟩, by simp⟩ ?_
  rintro ⟨l, i⟩ ⟨i0, i1, hl, hn⟩
  simp only at i0 i1 hl hn
  by_cases hi : i < pairs.length
  · refine .inl ?_
    have hm := hw _ (at_mem' ⟨i0, hi⟩)
    have ha := six_of (hm 0 (by omega))
    have hb := six_of (hm 1 (by omega))
    have hin : inI64 (i + 1) := ⟨by omega, by omega⟩
    obtain ⟨b, h1, h2⟩ := finds12_twice pairs l i (decide (1 + ((IntKind.i64.wrap (pairs[i.toNat]! 0)).tmod 6) = 1 + ((IntKind.i64.wrap (pairs[i.toNat]! 1)).tmod 6))) (by omega)
    have go : ∀ o, finds12_k2a pairs l i b o → finds12_l1 pairs l i o := fun o h => by
      unfold finds12_l1
      rw [if_pos hi]
      exact ⟨⟨i0, hi⟩, ⟨by omega, by omega⟩, ⟨i0, hi⟩, ⟨by omega, by omega⟩, ⟨i0, hi⟩, b, h1, h⟩
    unfold finds12_k2a at go
    by_cases hbt : b = true
    · refine ⟨(l, i + 1), go _ ?_, ⟨by simp only; omega, by simp only; omega, hl, by simp only; omega⟩, by simp only; omega⟩
      rw [if_pos hbt]
      exact ⟨hin, rfl⟩
    · refine ⟨(l ++ [updI (updI (updI (updI (fun _ => 0) 0 (1 + ((IntKind.i64.wrap (pairs[i.toNat]! 0)).tmod 6))) 1 (1 + ((IntKind.i64.wrap (pairs[i.toNat]! 0)).tmod 6))) 2 (1 + ((IntKind.i64.wrap (pairs[i.toNat]! 1)).tmod 6))) 3 (if 127 < pairs[i.toNat]! 1 then (1 + ((IntKind.i64.wrap (pairs[i.toNat]! 1)).tmod 6)) else 0)], i + 1), go _ ?_, ⟨by simp only; omega, by simp only; omega, ?_, ?_⟩, by simp only; omega⟩
      · rw [if_neg hbt]
        exact ⟨by omega, hin, rfl⟩
      · have hbf : b = false := by simpa using hbt
        rw [hbf] at h2
        have h2 := h2.symm
        rw [Bool.or_eq_false_iff, decide_eq_false_iff_not] at h2
        obtain ⟨hne, hno⟩ := h2
        generalize 1 + ((IntKind.i64.wrap (pairs[i.toNat]! 0)).tmod 6) = a at *
        generalize 1 + ((IntKind.i64.wrap (pairs[i.toNat]! 1)).tmod 6) = c at *
        constructor
        · intro e he
          rcases List.mem_append.1 he with he | he
          · exact hl.a e he
          · rw [List.mem_singleton.1 he]
            refine ⟨ha, hb, hne, rfl, ?_⟩
            show (if 127 < pairs[i.toNat]! 1 then c else 0) = 0 ∨ (if 127 < pairs[i.toNat]! 1 then c else 0) = c
            split
            · exact .inr rfl
            · exact .inl rfl
        · refine List.pairwise_append.2 ⟨hl.p, by simp, fun e he f hf => ?_⟩
          rw [List.mem_singleton.1 hf]
          show ¬ (e 0 = a ∧ e 2 = c)
          rintro ⟨g1, g2⟩
          have := List.any_eq_false.1 hno e he
          simp [g1, g2] at this
      · simp only [List.length_append, List.length_singleton]
        omega
  · refine .inr ⟨l, ?_, hl, by omega⟩
    show finds12_l1 pairs l i _
    unfold finds12_l1
    rw [if_neg hi]

/-! ### Who is on a circle -/
theorem finds12_on (from_ : Int) (l : List (Nat → Int)) (hl : l.length ≤ 12) :
    Wh (fun (s : Bool × Int) (o : (Bool × Int) ⊕ (Bool)) => finds12_l4 from_ l s.1 s.2 o) ((false, 0) : Bool × Int) (decide (1 + ((IntKind.i64.wrap from_).tmod 6) ∈ circR_F l)) := by
  generalize hw : 1 + ((IntKind.i64.wrap from_).tmod 6) = who
  have hc : (circR_F l).length ≤ _ := len_gcirc l
  have := Wh.upto (f := fun (s : Bool × Int) (o : (Bool × Int) ⊕ (Bool)) => finds12_l4 from_ l s.1 s.2 o) (fun k : Nat => (((circR_F l).take k).any (fun x => decide (x = who)), (k : Int))) (circR_F l).length (r := (circR_F l).any (fun x => decide (x = who))) (fun k hk => by
      dsimp only
      unfold finds12_l4
      rw [if_pos (by omega), Int.toNat_natCast, any_take _ _ _ hk, hw]
      exact ⟨fun _ => ⟨by omega, by omega⟩, ⟨by omega, by omega⟩, rfl⟩) (by
      dsimp only
      unfold finds12_l4
      rw [if_neg (by omega), take_len])
  have e : (circR_F l).any (fun x => decide (x = who)) = decide (who ∈ circR_F l) := by
    rw [Bool.eq_iff_iff, List.any_eq_true, decide_eq_true_eq]
    exact ⟨fun ⟨x, hx, h⟩ => by rw [decide_eq_true_eq] at h; exact h ▸ hx, fun h => ⟨_, h, by simp⟩⟩
  rw [e] at this
  simpa using this

/-! ### Each that comes back -/
theorem finds12_leads (l back : List (Nat → Int)) (i k : Int) (hl : l.length ≤ 12) (hk : 0 ≤ k ∧ k < 8)
    (h : Adj l ((back[i.toNat]!) (12 + (k.toNat * 2))) (if k + 1 < (back[i.toNat]!) 11 then (back[i.toNat]!) (12 + ((k + 1).toNat * 2)) else (back[i.toNat]!) 9)) :
    Wh (fun (s : Bool × Int) (o : (Bool × Int) ⊕ (Bool)) => finds12_l7 l back i k s.1 s.2 o) ((false, 0) : Bool × Int) true := by
  have := Wh.upto (f := fun (s : Bool × Int) (o : (Bool × Int) ⊕ (Bool)) => finds12_l7 l back i k s.1 s.2 o) (fun n : Nat => ((l.take n).any (fun e => (decide (e 0 = (back[i.toNat]!) (12 + (k.toNat * 2)))) && (decide (e 2 = (if k + 1 < (back[i.toNat]!) 11 then (back[i.toNat]!) (12 + ((k + 1).toNat * 2)) else (back[i.toNat]!) 9)))), (n : Int))) l.length (r := l.any (fun e => (decide (e 0 = (back[i.toNat]!) (12 + (k.toNat * 2)))) && (decide (e 2 = (if k + 1 < (back[i.toNat]!) 11 then (back[i.toNat]!) (12 + ((k + 1).toNat * 2)) else (back[i.toNat]!) 9))))) (fun n hn => by
      dsimp only
      unfold finds12_l7
      rw [if_pos (by omega), Int.toNat_natCast, any_take _ _ _ hn]
      exact ⟨fun _ => ⟨by omega, by omega⟩, fun _ => hk, fun _ _ => ⟨by omega, by omega⟩, ⟨by omega, by omega⟩, rfl⟩) (by
      dsimp only
      unfold finds12_l7
      rw [if_neg (by omega), take_len])
  have e : l.any (fun e => (decide (e 0 = (back[i.toNat]!) (12 + (k.toNat * 2)))) && (decide (e 2 = (if k + 1 < (back[i.toNat]!) 11 then (back[i.toNat]!) (12 + ((k + 1).toNat * 2)) else (back[i.toNat]!) 9)))) = true := by
    obtain ⟨e, he, h1, h2⟩ := h
    exact List.any_eq_true.2 ⟨e, he, by rw [h1, h2]; simp⟩
  rw [e] at this
  simpa using this

theorem finds12_end (from_ : Int) (l back : List (Nat → Int)) (hl : EdgeOk l) (hlen : l.length ≤ 12) (hb : back.length ≤ 1630)
    (h : ∀ m ∈ back, ∃ P, Pb l (1 + ((IntKind.i64.wrap from_).tmod 6)) P m ∧ m 9 = 1 + ((IntKind.i64.wrap from_).tmod 6)) :
    Wh (fun (s : Int) (o : (Int) ⊕ ((Unit) ⊕ (Unit))) => finds12_l5 from_ l back s o) (0 : Int) (.inl ()) := by
  refine Wh.upto (f := fun (s : Int) (o : (Int) ⊕ ((Unit) ⊕ (Unit))) => finds12_l5 from_ l back s o) (fun k : Nat => (k : Int)) back.length (fun i hi => ?_) ?_
  · obtain ⟨P, hP, h9⟩ := h _ (at_mem' (l := back) (i := (i : Int)) ⟨by omega, by omega⟩)
    have h6 := six_len hP.n (hP.six hl)
    have hpos := hP.pos
    have hn := hP.f.n
    have h12 := hP.first.1
    have hat : ∀ k, k < P.length → (back[(i : Int).toNat]!) (12 + k * 2) = P[k]! := fun k hk => by
      rw [(hP.f.s k (by omega)).1, List.getD_eq_getElem?_getD, List.getElem?_eq_getElem hk, getElem!_pos P k hk]; rfl
    have h2 : 2 ≤ P.length := by
      rcases (show P.length = 1 ∨ 2 ≤ P.length by omega) with h1 | h1
      · have he := hP.e
        rw [h1, h9] at he
        have := (hl.l he).2.2
        have h0 := hat 0 hpos
        rw [show 12 + 0 * 2 = 12 from rfl, h12] at h0
        exact absurd h0.symm this
      · exact h1
    show finds12_l5 from_ l back (i : Int) _
    unfold finds12_l5
    rw [if_pos (by omega)]
    refine ⟨⟨by omega, by omega⟩, ?_⟩
    rw [if_neg (by
      rw [h9, h12]
      simp only [Bool.or_eq_true, decide_eq_true_eq, Bool.not_eq_true', decide_eq_false_iff_not]
      rintro (((h | h) | h) | h)
      · omega
      · omega
      · exact h trivial
      · exact h trivial)]
    refine ⟨.inl (), ?_, ⟨by omega, by omega⟩, rfl⟩
    refine Wh.upto (f := fun (s : Int) (o : (Int) ⊕ ((Unit) ⊕ (Unit))) => finds12_l6 l back (i : Int) s o) (fun k : Nat => (k : Int)) P.length (fun k hk => ?_) ?_
    · show finds12_l6 l back (i : Int) (k : Int) _
      unfold finds12_l6
      have hk1 : ((k : Int) + 1).toNat = k + 1 := by omega
      rw [if_pos (by omega)]
      refine ⟨⟨by omega, by omega⟩, ?_, true, finds12_leads l back i k hlen ⟨by omega, by omega⟩ ?_, ?_⟩
      · split
        · exact ⟨⟨by omega, by omega⟩, ⟨by omega, by omega⟩, trivial⟩
        · trivial
      · rw [hk1, Int.toNat_natCast k, hat k hk]
        by_cases hkl : k + 1 < P.length
        · rw [if_pos (by omega), hat (k + 1) hkl]
          exact hP.c k hkl
        · rw [if_neg (by omega)]
          have := hP.e
          rwa [show P.length - 1 = k by omega] at this
      · unfold finds12_k7a
        rw [if_pos rfl]
        exact ⟨⟨by omega, by omega⟩, rfl⟩
    · show finds12_l6 l back (i : Int) (P.length : Int) _
      unfold finds12_l6
      rw [if_neg (by omega)]
  · show finds12_l5 from_ l back (back.length : Int) _
    unfold finds12_l5
    rw [if_neg (by omega)]

theorem finds12_all (pairs : List (Nat → Int)) (from_ : Int) (hw : ∀ m ∈ pairs, ∀ i, i < 2 → 0 ≤ m i ∧ m i ≤ 255) (hf : 0 ≤ from_ ∧ from_ ≤ 255) : finds12_S pairs from_ true := by
  unfold finds12_S
  refine ⟨alive12_p, ?_⟩
  rw [if_pos alive12_t]
  refine ite_intro (fun _ => rfl) fun hlen => ?_
  obtain ⟨l, h1, hl, hn⟩ := finds12_edges pairs hw (by omega)
  refine ⟨l, h1, ?_⟩
  have hs := six_of hf
  unfold finds12_k1a
  obtain ⟨back, h2, h3, h4, h5⟩ := chase_all hl hn hs
  obtain ⟨e1, e2⟩ := start_is hl hs
  refine ⟨⟨by omega, by omega⟩, ?_, ?_⟩
  · unfold startP_P
    refine ite_intro (fun _ => ⟨⟨by decide, by decide, by omega⟩, trivial⟩) fun _ => trivial
  · rw [e1, if_pos rfl]
    refine ⟨.inl back, h2, ?_⟩
    show finds12_k3a from_ l back true
    unfold finds12_k3a
    refine ⟨by unfold circR_P; omega, _, finds12_on from_ l hn, ?_⟩
    unfold finds12_k4a
    rw [if_pos (by
      rw [beq_iff_eq, decide_eq_decide]
      have hm : (1 + ((IntKind.i64.wrap from_).tmod 6)) ∈ circR_F l ↔ Rt l (1 + ((IntKind.i64.wrap from_).tmod 6)) (1 + ((IntKind.i64.wrap from_).tmod 6)) := mem_gcirc
      rw [hm]
      constructor
      · intro h
        have := List.length_pos_iff.2 (h5 h)
        omega
      · intro h
        cases back with
        | nil => simp at h
        | cons m back =>
          obtain ⟨P, hP, h9⟩ := h3 m List.mem_cons_self
          have := hP.rt
          rwa [h9] at this)]
    exact ⟨.inl (), finds12_end from_ l back hl hn h4 h3, rfl⟩
end Go.E
