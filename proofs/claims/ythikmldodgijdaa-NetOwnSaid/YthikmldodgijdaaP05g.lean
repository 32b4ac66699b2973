/- What is told is the net's own no more; no net does nothing. -/
import Derived.Test.YthikmldodgijdaaF05S
import Derived.Test.YthikmldodgijdaaP05c
namespace Go.E
open Go
set_option linter.unusedVariables false
set_option maxRecDepth 100000

theorem own5_wipe (a : List (Nat → Int)) (ha : a.length ≤ 1000) : Wh (fun (s : (List (Nat → Int)) × Int) (o : ((List (Nat → Int)) × Int) ⊕ (Unit)) => own5_l2 s.1 s.2 o) (a, 0) () := by
  suffices h : ∃ r, Wh (fun (s : (List (Nat → Int)) × Int) (o : ((List (Nat → Int)) × Int) ⊕ (Unit)) => own5_l2 s.1 s.2 o) (a, 0) r ∧ True by
    obtain ⟨r, h, _⟩ := h
    exact h
  refine Wh.by (fun (s : (List (Nat → Int)) × Int) => 0 ≤ s.2 ∧ s.2 ≤ s.1.length ∧ s.1.length ≤ 1000) (fun s => ((s.1.length : Int) - s.2).toNat) (fun _ => True) ⟨by simp, by simp, ha⟩ ?_
  rintro ⟨b, i⟩ ⟨i0, i1, hb⟩
  simp only at i0 i1 hb
  by_cases hi : i < b.length
  · refine .inl ⟨(b.set i.toNat (fun _ => 0), i + 1), ?_, ⟨by simp only; omega, by simp only [List.length_set]; omega, by simp only [List.length_set]; omega⟩, by simp only [List.length_set]; omega⟩
    show own5_l2 b i _
    unfold own5_l2
    rw [if_pos hi]
    exact ⟨⟨i0, hi⟩, ⟨by omega, by omega⟩, rfl⟩
  · refine .inr ⟨(), ?_, trivial⟩
    show own5_l2 b i _
    unfold own5_l2
    rw [if_neg hi]

theorem own5_all (l : List (Nat → Int)) (k : Int) : own5_S l k true := by
  unfold own5_S
  refine ⟨alive05_p, ?_⟩
  rw [if_pos alive05_t]
  refine ite_intro (fun _ => rfl) fun hlen => ?_
  suffices h : ∃ r, Wh (fun (s : (List (Nat → Int)) × Int × (List (Nat → Int))) (o : ((List (Nat → Int)) × Int × (List (Nat → Int))) ⊕ ((List (Nat → Int)) × (List (Nat → Int)))) => own5_l1 l s.1 s.2.1 s.2.2 o) (([], 0, []) : (List (Nat → Int)) × Int × (List (Nat → Int))) r ∧ (r.1 = r.2 ∧ r.1.length ≤ 200) by
    obtain ⟨⟨a, b⟩, hr, h1, h2⟩ := h
    simp only at h1 h2
    subst h1
    refine ⟨(a, a), hr, ?_⟩
    show own5_k1a a a true
    unfold own5_k1a
    have e0 : nall_F 300 a = a := rfl
    have e1 : (ntake_F 300 a).1 = a := rfl
    have hc : cloneM_P a := by unfold cloneM_P; omega
    refine ⟨⟨hc, trivial⟩, (), own5_wipe _ (by rw [e0]; omega), ?_⟩
    unfold own5_k2a
    rw [if_pos (by decide), e1, if_pos (msgs_self a)]
    refine ⟨⟨⟨hc, trivial⟩, trivial⟩, by unfold msgs_P; omega, ?_⟩
    simp [ntake_F, nlen_F]
  refine Wh.by (fun (s : (List (Nat → Int)) × Int × (List (Nat → Int))) => 0 ≤ s.2.1 ∧ s.2.1 ≤ l.length ∧ s.1 = s.2.2 ∧ (s.1.length : Int) ≤ s.2.1) (fun s => ((l.length : Int) - s.2.1).toNat) (fun (r : List (Nat → Int) × List (Nat → Int)) => r.1 = r.2 ∧ r.1.length ≤ 200) ⟨by simp, by simp, rfl, by simp⟩ ?_
  rintro ⟨d, i, d2⟩ ⟨i0, i1, hdd, hd⟩
  simp only at i0 i1 hdd hd
  subst hdd
  by_cases hi : i < l.length
  · have hsend := send_eq 300 d (l[i.toNat]!)
    have hin : inI64 (i + 1) := ⟨by omega, by omega⟩
    rw [if_neg (show ¬ (d.length : Int) = 300 by omega)] at hsend
    by_cases hok : okB (l[i.toNat]!) = true
    · rw [if_pos hok] at hsend
      refine .inl ⟨(d ++ [l[i.toNat]!], i + 1, d ++ [l[i.toNat]!]), ?_, ⟨by simp only; omega, by simp only; omega, rfl, by simp only [List.length_append, List.length_singleton]; omega⟩, by simp only; omega⟩
      show own5_l1 l d i d _
      unfold own5_l1
      rw [if_pos hi, hsend, if_pos rfl]
      exact ⟨⟨i0, hi⟩, send_pre (by omega), ⟨i0, hi⟩, by omega, hin, rfl⟩
    · rw [if_neg hok] at hsend
      refine .inl ⟨(d, i + 1, d), ?_, ⟨by simp only; omega, by simp only; omega, rfl, by simp only; omega⟩, by simp only; omega⟩
      show own5_l1 l d i d _
      unfold own5_l1
      rw [if_pos hi, hsend, if_neg (by simp)]
      exact ⟨⟨i0, hi⟩, send_pre (by omega), hin, rfl⟩
  · refine .inr ⟨(d, d), ?_, rfl, by simp only; omega⟩
    show own5_l1 l d i d _
    unfold own5_l1
    rw [if_neg hi]
end Go.E
