/- What is reached (of the chapter on graphs). -/
import Derived.Test.YtjmfnohbeoiddaaH12S
import Derived.Test.YtjmfnohbeoiddaaP12f
namespace Go.E
open Go
set_option linter.unusedVariables false
set_option maxRecDepth 100000

theorem ends2_take (l : List (Nat → Int)) (k : Nat) (hk : k < l.length) : ends2 (l.take (k + 1)) = ends2 (l.take k) ++ [l[k]! 0] ++ [l[k]! 2] := by
  unfold ends2
  rw [flatMap_take _ _ _ hk]
  simp
def nodesR_F (l : List (Nat → Int)) : List Int := nodesL l
def nodesR_P (l : List (Nat → Int)) : Prop := l.length ≤ 1000000
theorem nodesR_ok (l : List (Nat → Int)) (h : nodesR_P l) : nodesR_S l (nodesR_F l) := by
  unfold nodesR_P at h
  unfold nodesR_S
  refine ⟨ends2 l, ?_, by unfold nodesR_k1a; exact ⟨by unfold rising_P; rw [len_ends2]; omega, rfl⟩⟩
  have := Wh.upto (f := fun (s : (List Int) × Int) (o : ((List Int) × Int) ⊕ ((List Int))) => nodesR_l1 l s.1 s.2 o) (fun k : Nat => (ends2 (l.take k), (k : Int))) l.length (r := ends2 l) (fun k hk => by
      have hb : (ends2 (l.take k)).length ≤ 2000000 := by rw [len_ends2]; simp only [List.length_take]; omega
      have e : ends2 (l.take (k + 1)) = ends2 (l.take k) ++ [l[k]! 0, l[k]! 2] := by unfold ends2; exact flatMap_take _ _ _ hk
      dsimp only
      unfold nodesR_l1
      rw [if_pos (by omega), Int.toNat_natCast, e]
      exact ⟨⟨by omega, by omega⟩, ⟨by omega, by omega⟩, by omega, ⟨by omega, by omega⟩, rfl⟩) (by
      dsimp only
      unfold nodesR_l1
      rw [if_neg (by omega), take_len])
  simpa [ends2] using this
noncomputable def reachR_F (l : List (Nat → Int)) (a : Int) : List Int := greach_F l a
def reachR_P (l : List (Nat → Int)) (_ : Int) : Prop := l.length ≤ 100000
structure GrowI (l : List (Nat → Int)) (a : Int) (out0 : List Int) (s : List Int × Bool × Int) : Prop where
  i0 : 0 ≤ s.2.2
  i1 : s.2.2 ≤ l.length
  nd : s.1.Nodup
  rt : ∀ x ∈ s.1, Rt l a x
  no : s.2.1 = false → s.1 = out0 ∧ ∀ j : Nat, (j : Int) < s.2.2 → (l[j]! 0 = a ∨ l[j]! 0 ∈ out0) → l[j]! 2 ∈ out0
  ye : s.2.1 = true → out0.length < s.1.length
theorem reach_len {l : List (Nat → Int)} {a : Int} {out : List Int} (h : out.Nodup) (hr : ∀ x ∈ out, Rt l a x) : out.length ≤ (nodesL l).length := nodup_len h fun x hx => (hr x hx).right
theorem reachR_pass (l : List (Nat → Int)) (a : Int) (hl : l.length ≤ 100000) (out : List Int) (hn : out.Nodup) (hr : ∀ x ∈ out, Rt l a x) :
    ∃ r : List Int × Bool, Wh (fun (s : (List Int) × Bool × Int) (o : ((List Int) × Bool × Int) ⊕ ((List Int) × Bool)) => reachR_l2 l a s.1 s.2.1 s.2.2 o) ((out, false, 0) : (List Int) × Bool × Int) r ∧ GrowI l a out (r.1, r.2, (l.length : Int)) := by
  have hN := len_nodesL l
  refine Wh.by (GrowI l a out) (fun s => ((l.length : Int) - s.2.2).toNat) (fun (r : List Int × Bool) => GrowI l a out (r.1, r.2, (l.length : Int))) { i0 := by simp, i1 := by simp, nd := hn, rt := hr, no := fun _ => ⟨rfl, fun j hj => by simp only at hj; omega⟩, ye := fun h => nomatch h } ?_
  rintro ⟨o1, more, i⟩ ⟨i0, i1, nd, rt, no, ye⟩
  simp only at i0 i1 nd rt no ye
  have hol := reach_len nd rt
  by_cases hi : i < l.length
  · have hi' : 0 ≤ i ∧ i < l.length := ⟨i0, hi⟩
    have hin : inI64 (i + 1) := ⟨by omega, by omega⟩
    have hP : ∀ x, hasR_P o1 x := fun x => by unfold hasR_P; omega
    have hmem := at_mem' hi'
    by_cases hc : (l[i.toNat]! 0 = a ∨ l[i.toNat]! 0 ∈ o1) ∧ l[i.toNat]! 2 ∉ o1
    · have hadj : Adj l (l[i.toNat]! 0) (l[i.toNat]! 2) := ⟨_, hmem, rfl, rfl⟩
      have hnew : Rt l a (l[i.toNat]! 2) := by
        rcases hc.1 with h | h
        · rw [h] at hadj; exact .one hadj
        · exact (rt _ h).more hadj
      refine .inl ⟨(o1 ++ [l[i.toNat]! 2], true, i + 1), ?_, ⟨by simp only; omega, by simp only; omega, ?_, fun x hx => ?_, (fun h => nomatch h), fun _ => ?_⟩, by simp only; omega⟩
      · show reachR_l2 l a o1 more i _
        unfold reachR_l2
        rw [if_pos hi, if_pos (by simp only [hasR_F, Bool.and_eq_true, Bool.or_eq_true, decide_eq_true_eq, Bool.not_eq_true', decide_eq_false_iff_not]; exact hc)]
        exact ⟨hi', fun _ => hi', fun _ => hP _, fun _ => hi', fun _ => hP _, hi', by omega, hin, rfl⟩
      · exact List.nodup_append.2 ⟨nd, by simp, fun x hx y hy e => hc.2 (by rw [List.mem_singleton.1 hy] at e; exact e ▸ hx)⟩
      · rcases List.mem_append.1 hx with hx | hx
        · exact rt x hx
        · rw [List.mem_singleton.1 hx]; exact hnew
      · simp only [List.length_append, List.length_singleton]
        cases more with
        | false => have := (no rfl).1; rw [this]; omega
        | true => have := ye rfl; omega
    · refine .inl ⟨(o1, more, i + 1), ?_, ⟨by simp only; omega, by simp only; omega, nd, rt, fun hm => ⟨(no hm).1, fun j hj hjl => ?_⟩, ye⟩, by simp only; omega⟩
      · show reachR_l2 l a o1 more i _
        unfold reachR_l2
        rw [if_pos hi, if_neg (by
          intro h
          simp only [hasR_F, Bool.and_eq_true, Bool.or_eq_true, decide_eq_true_eq, Bool.not_eq_true', decide_eq_false_iff_not] at h
          exact hc h)]
        exact ⟨hi', fun _ => hi', fun _ => hP _, fun _ => hi', fun _ => hP _, hin, rfl⟩
      · simp only at hj
        by_cases hji : (j : Int) = i
        · have e := (no hm).1
          subst e
          rw [show j = i.toNat by omega] at hjl ⊢
          by_cases h2 : l[i.toNat]! 2 ∈ o1
          · exact h2
          · exact absurd ⟨hjl, h2⟩ hc
        · exact (no hm).2 j (by omega) hjl
  · obtain rfl : i = l.length := by omega
    refine .inr ⟨(o1, more), ?_, i0, i1, nd, rt, no, ye⟩
    show reachR_l2 l a o1 more (l.length : Int) _
    unfold reachR_l2
    rw [if_neg (by omega)]
theorem reachR_ok (l : List (Nat → Int)) (a : Int) (h : reachR_P l a) : reachR_S l a (reachR_F l a) := by
  unfold reachR_P at h
  have hN := len_nodesL l
  unfold reachR_S
  suffices hs : ∃ r, Wh (fun (s : (List Int) × Bool) (o : ((List Int) × Bool) ⊕ ((List Int))) => reachR_l1 l a s.1 s.2 o) (([], true) : (List Int) × Bool) r ∧ (r.Nodup ∧ (∀ x ∈ r, Rt l a x) ∧ ∀ j : Nat, j < l.length → (l[j]! 0 = a ∨ l[j]! 0 ∈ r) → l[j]! 2 ∈ r) by
    obtain ⟨r, hw, nd, rt, cl⟩ := hs
    refine ⟨r, hw, ?_⟩
    unfold reachR_k1a
    have hlen := reach_len nd rt
    refine ⟨by unfold rising_P; omega, ?_⟩
    have hcl : ∀ y x, (y = a ∨ y ∈ r) → Adj l y x → x ∈ r := fun y x hy hx => by
      obtain ⟨e, he, h1, h2⟩ := hx
      obtain ⟨j, hj, rfl⟩ := List.getElem_of_mem he
      have := cl j hj (by rw [getElem!_pos l j hj, h1]; exact hy)
      rw [getElem!_pos l j hj, h2] at this
      exact this
    refine (greach_eq (rising_rising r) fun x => ?_).symm
    rw [mem_rising]
    refine ⟨rt x, fun hx => ?_⟩
    induction hx with
    | one e => exact hcl _ _ (.inl rfl) e
    | more _ e ih => exact hcl _ _ (.inr ih) e
  refine Wh.by (fun (s : List Int × Bool) => s.1.Nodup ∧ (∀ x ∈ s.1, Rt l a x) ∧ (s.2 = false → ∀ j : Nat, j < l.length → (l[j]! 0 = a ∨ l[j]! 0 ∈ s.1) → l[j]! 2 ∈ s.1)) (fun s => 2 * ((nodesL l).length - s.1.length) + if s.2 = true then 1 else 0) (fun (r : List Int) => r.Nodup ∧ (∀ x ∈ r, Rt l a x) ∧ ∀ j : Nat, j < l.length → (l[j]! 0 = a ∨ l[j]! 0 ∈ r) → l[j]! 2 ∈ r) ⟨List.nodup_nil, fun x hx => by simp at hx, fun h => nomatch h⟩ ?_
  rintro ⟨out, more⟩ ⟨nd, rt, cl⟩
  simp only at nd rt cl
  cases more with
  | false =>
    refine .inr ⟨out, ?_, nd, rt, cl rfl⟩
    show reachR_l1 l a out false _
    unfold reachR_l1
    rw [if_neg (by decide)]
  | true =>
    obtain ⟨⟨o1, m1⟩, hw, hI⟩ := reachR_pass l a h out nd rt
    obtain ⟨_, _, nd1, rt1, no1, ye1⟩ := hI
    simp only at nd1 rt1 no1 ye1
    have hlen := reach_len nd1 rt1
    refine .inl ⟨(o1, m1), ?_, ⟨nd1, rt1, fun hm j hj hjl => ?_⟩, ?_⟩
    · show reachR_l1 l a out true _
      unfold reachR_l1
      rw [if_pos rfl]
      exact ⟨(o1, m1), hw, rfl⟩
    · simp only at hm hjl ⊢
      have := no1 hm
      rw [this.1] at hjl ⊢
      exact this.2 j (by omega) hjl
    · simp only
      cases m1 with
      | false =>
        rw [(no1 rfl).1, if_neg (by decide), if_pos trivial]
        omega
      | true =>
        have := ye1 rfl
        simp only [if_true]
        omega
end Go.E
