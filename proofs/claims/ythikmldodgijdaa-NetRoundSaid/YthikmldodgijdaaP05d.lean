/- A number that is more by however often how many there are picks the same; what is taken and sent again is as it was. -/
import Derived.Test.YthikmldodgijdaaP05c
namespace Go.E
open Go
set_option linter.unusedVariables false

theorem place_more (n k b : Int) (h : 0 < n) : placeF n (k + n * b) = placeF n k := by
  rw [placeF_eq h, placeF_eq h, Int.add_mul_emod_self_left]

theorem again5 (l : List (Nat → Int)) (hok : OkL l) (hl : l.length ≤ 200) : Wh (fun (s : Int × List (Nat → Int)) (o : (Int × List (Nat → Int)) ⊕ (List (Nat → Int) ⊕ List (Nat → Int))) => round5_l2 l s.1 s.2 o) (0, []) (.inl l) := by
  have h := Wh.upto (f := fun (s : Int × List (Nat → Int)) (o : (Int × List (Nat → Int)) ⊕ (List (Nat → Int) ⊕ List (Nat → Int))) => round5_l2 l s.1 s.2 o) (fun k : Nat => ((k : Int), l.take k)) l.length (r := .inl l) (fun k hk => by
      show round5_l2 l (k : Int) (l.take k) _
      unfold round5_l2
      have e : (ntake_F 200 l).1 = l := rfl
      rw [e, if_pos (by omega)]
      have hlt : (l.take k).length = k := by simp; omega
      refine ⟨⟨by omega, by omega⟩, send_pre (by omega), ?_⟩
      have hs : send_F 200 (l.take k) l[k] = (0, l.take k ++ [l[k]]) := by
        rw [send_eq, if_pos (hok _ (List.getElem_mem hk)), if_neg (by rw [hlt]; omega)]
      rw [Int.toNat_natCast, getElem!_pos l k hk, hs, if_pos rfl]
      refine ⟨⟨by omega, by omega⟩, ?_⟩
      rw [List.take_add_one, List.getElem?_eq_getElem hk]; rfl) (by
      show round5_l2 l (l.length : Int) (l.take l.length) _
      unfold round5_l2
      have e : (ntake_F 200 l).1 = l := rfl
      rw [e, if_neg (by omega), List.take_of_length_le (Nat.le_refl _)])
  simpa using h

theorem round5_all (l : List (Nat → Int)) (k b : Int) (hk : -128 ≤ k ∧ k ≤ 127) (hb : 0 ≤ b ∧ b ≤ 255) : round5_S l k b true := by
  have wk : IntKind.i64.wrap k = k := wrap_id ⟨by omega, by omega⟩
  have wb : IntKind.i64.wrap b = b := wrap_id ⟨by omega, by omega⟩
  unfold round5_S
  refine ⟨alive05_p, ?_⟩
  rw [if_pos alive05_t]
  refine ite_intro (fun _ => rfl) fun hlen => ?_
  suffices h : ∃ r, Wh (fun (s : Int × List (Nat → Int) × List (Nat → Int)) (o : (Int × List (Nat → Int) × List (Nat → Int)) ⊕ (List (Nat → Int) × List (Nat → Int))) => round5_l1 l s.1 s.2.1 s.2.2 o) (0, [], []) r ∧ (r.1 = r.2 ∧ OkL r.2 ∧ r.2.length ≤ 200) by
    obtain ⟨⟨r1, r2⟩, hr, h1, h2, h3⟩ := h
    simp only at h1 h2 h3
    subst h1
    refine ⟨(r1, r1), hr, ?_⟩
    show round5_k1a k b r1 r1 true
    unfold round5_k1a
    refine ⟨⟨⟨by unfold cloneM_P; omega, trivial⟩, trivial⟩, .inl r1, again5 r1 h2 h3, ?_⟩
    show round5_k2a k b r1 r1 r1 true
    unfold round5_k2a
    rw [wk, wb]
    have e1 : nlen_F 200 r1 = (r1.length : Int) := rfl
    have e2 : (ntake_F 200 r1).1 = r1 := rfl
    have hmul : 0 ≤ (r1.length : Int) * b ∧ (r1.length : Int) * b ≤ 200 * 255 := ⟨Int.mul_nonneg (by omega) hb.1, Int.mul_le_mul (by omega) hb.2 hb.1 (by omega)⟩
    have same : deliver_F 200 r1 (k + (r1.length : Int) * b) = deliver_F 200 r1 k := by
      rw [deliver_eq, deliver_eq]
      by_cases h : r1 = []
      · rw [if_pos h, if_pos h]
      · rw [if_neg h, if_neg h, place_more _ _ _ (by have := List.length_pos_iff.2 h; omega)]
    rw [e1, e2]
    refine ⟨deliver_pre (by omega), ⟨by omega, by omega⟩, ⟨by omega, by omega⟩, deliver_pre (by omega), ?_⟩
    rw [same, if_pos rfl, if_pos (eqN_refl _ _), if_pos rfl]
    have hdl : (deliver_F 200 r1 k).2.2.length ≤ 200 := by
      rw [deliver_eq]
      by_cases h : r1 = []
      · rw [if_pos h]; exact h3
      · rw [if_neg h]
        have := without_len (at_mem (k := k) h).2
        simp only; omega
    have hn : nall_P 200 (deliver_F 200 r1 k).2.2 := ⟨by unfold cloneM_P; omega, trivial⟩
    refine ⟨hn, hn, ?_, ?_⟩
    · unfold msgs_P
      show (deliver_F 200 r1 k).2.2.length < _
      omega
    · rw [msgs_self]
  refine Wh.by (fun (s : Int × List (Nat → Int) × List (Nat → Int)) => 0 ≤ s.1 ∧ s.1 ≤ l.length ∧ s.2.1 = s.2.2 ∧ OkL s.2.2 ∧ (s.2.2.length : Int) ≤ 200) (fun s => ((l.length : Int) - s.1).toNat) (fun (r : List (Nat → Int) × List (Nat → Int)) => r.1 = r.2 ∧ OkL r.2 ∧ r.2.length ≤ 200) ⟨by simp, by simp, rfl, fun m hm => by simp at hm, by simp⟩ ?_
  rintro ⟨i, d, d2⟩ ⟨i0, i1, hdd, hok, hd⟩
  simp only at i0 i1 hdd hok hd
  subst hdd
  by_cases hn : ¬ i < l.length
  · refine .inr ⟨(d, d), ?_, rfl, hok, by simp only; omega⟩
    show round5_l1 l i d d _
    unfold round5_l1
    rw [if_neg hn]
  have hi : i < l.length := by omega
  obtain ⟨g1, g2, _⟩ := act_inv (a := l[i.toNat]!) hok hd (by decide)
  refine .inl ⟨(i + 1, (act_F 200 d (l[i.toNat]!)).2.2, (act_F 200 d (l[i.toNat]!)).2.2), ?_, ⟨by simp only; omega, by simp only; omega, rfl, g1, g2⟩, by simp only; omega⟩
  show round5_l1 l i d d _
  unfold round5_l1
  rw [if_pos hi]
  exact ⟨⟨i0, hi⟩, act_pre (by omega), ⟨i0, hi⟩, act_pre (by omega), ⟨by omega, by omega⟩, rfl⟩
end Go.E
