/- What others ask makes no difference: two books that agree on one transaction. -/
import Derived.Test.YtndkjhaiopcpeaaP13a
namespace Go.E
open Go
set_option linter.unusedVariables false

abbrev En := Option (Nat → Int)
def en0 (f : En) : Nat → Int := f.getD fun _ => 0
def fnd (d : Bk) (t : Int) : En := mfind ieq d t
theorem fnd_set (d : Bk) (k : Int) (v : Nat → Int) (t : Int) : fnd (mset ieq d k v) t = if t = k then some v else fnd d t := by
  unfold fnd
  rw [mfind_mset eqk_int]
  by_cases h : t = k
  · rw [if_pos h, if_pos (ieq_iff.2 h)]
  · rw [if_neg h, if_neg (fun e => h (ieq_iff.1 e))]
theorem fnd_del (d : Bk) (k : Int) (t : Int) : fnd (mdel ieq d k) t = if t = k then none else fnd d t := by
  unfold fnd
  rw [mfind_mdel eqk_int]
  by_cases h : t = k
  · rw [if_pos h, if_pos (ieq_iff.2 h)]
  · rw [if_neg h, if_neg (fun e => h (ieq_iff.1 e))]

/-- What the entry of a transaction answers, and becomes. -/
def opn (f : En) (t q : Int) : (Nat → Int) × Int × En :=
  if ((((decide (t < 1)) || (decide (1048576 < t))) || (decide (q < 1))) || (decide (1048576 < q))) = true then ((fun _ => 0), 1, f)
  else if q < en0 f 0 then ((fun _ => 0), 14, f)
  else if en0 f 0 < q then ((fun _ => 0), 0, some (updI (fun _ => 0) 0 q))
  else if en0 f 1 = 0 then ((fun _ => 0), 8, f)
  else ((fun i => en0 f (1 + i)), 15, f)
def cls (f : En) (m : Nat → Int) : Int × En :=
  if answers_F m = true then
    if f.isSome = true then
      if en0 f 0 = m 4 then
        if en0 f 1 = 0 then (0, some (updRI (updI (fun _ => 0) 0 (m 4)) 1 28 m)) else (15, f)
      else (14, f)
    else (10, f)
  else (5, f)
def lst (f : En) : Int × Int := if f.isSome = true then (en0 f 0, 0) else (0, 10)
def fgt (f : En) : Int × En := if f.isSome = true then (0, none) else (10, f)

theorem last_eq (d : Bk) (t : Int) : blast_F d t = lst (fnd d t) := rfl
theorem open_eq (d : Bk) (t q : Int) : (bopen_F d t q).1 = (opn (fnd d t) t q).1 ∧ (bopen_F d t q).2.1 = (opn (fnd d t) t q).2.1 ∧ ∀ w, fnd (bopen_F d t q).2.2 w = if w = t then (opn (fnd d t) t q).2.2 else fnd d w := by
  have same : ∀ w, fnd d w = if w = t then fnd d t else fnd d w := fun w => by split <;> simp_all
  unfold bopen_F opn
  rw [show mget ieq d t (fun _ => 0) = en0 (fnd d t) from rfl]
  split
  · exact ⟨rfl, rfl, same⟩
  · split
    · exact ⟨rfl, rfl, same⟩
    · split
      · exact ⟨rfl, rfl, fun w => fnd_set _ _ _ _⟩
      · split
        · exact ⟨rfl, rfl, same⟩
        · exact ⟨rfl, rfl, same⟩
theorem close_eq (d : Bk) (m : Nat → Int) : (bclose_F d m).1 = (cls (fnd d (m 3)) m).1 ∧ ∀ w, fnd (bclose_F d m).2 w = if w = m 3 then (cls (fnd d (m 3)) m).2 else fnd d w := by
  have same : ∀ w, fnd d w = if w = m 3 then fnd d (m 3) else fnd d w := fun w => by split <;> simp_all
  unfold bclose_F cls
  rw [show mget ieq d (m 3) (fun _ => 0) = en0 (fnd d (m 3)) from rfl, show mhas ieq d (m 3) = (fnd d (m 3)).isSome from rfl]
  split
  · split
    · split
      · split
        · exact ⟨rfl, fun w => fnd_set _ _ _ _⟩
        · exact ⟨rfl, same⟩
      · exact ⟨rfl, same⟩
    · exact ⟨rfl, same⟩
  · exact ⟨rfl, same⟩
theorem forget_eq (d : Bk) (t : Int) : (bforget_F d t).1 = (fgt (fnd d t)).1 ∧ ∀ w, fnd (bforget_F d t).2 w = if w = t then (fgt (fnd d t)).2 else fnd d w := by
  have same : ∀ w, fnd d w = if w = t then fnd d t else fnd d w := fun w => by split <;> simp_all
  unfold bforget_F fgt
  rw [last_eq]
  unfold lst
  by_cases h : (fnd d t).isSome = true
  · rw [if_pos h]
    simp only [if_true]
    exact ⟨by rw [if_pos h], fun w => by rw [fnd_del, if_pos h]⟩
  · rw [if_neg h]
    simp only [show ¬ ((10 : Int) = 0) by decide, if_false]
    exact ⟨by rw [if_neg h], fun w => by rw [if_neg h]; exact same w⟩

def whose (x : Nat → Int) : Int := if x 0 = 1 then x 6 else x 1
def act13 (x : Nat → Int) (d : Bk) : Bk := if x 0 = 0 then (bopen_F d (x 1) (x 2)).2.2 else if x 0 = 1 then (bclose_F d (fun i => x (3 + i))).2 else (bforget_F d (x 1)).2
theorem act_other {x : Nat → Int} {d : Bk} {w : Int} (h : whose x ≠ w) : fnd (act13 x d) w = fnd d w := by
  unfold act13
  unfold whose at h
  by_cases h0 : x 0 = 0
  · rw [if_pos h0, (open_eq d (x 1) (x 2)).2.2, if_neg]
    rw [if_neg (by omega)] at h
    exact fun e => h e.symm
  · rw [if_neg h0]
    by_cases h1 : x 0 = 1
    · rw [if_pos h1, (close_eq d _).2, if_neg]
      rw [if_pos h1] at h
      exact fun e => h e.symm
    · rw [if_neg h1, (forget_eq d _).2, if_neg]
      rw [if_neg h1] at h
      exact fun e => h e.symm
theorem act_same {x : Nat → Int} {a b : Bk} (h : fnd a (whose x) = fnd b (whose x)) : fnd (act13 x a) (whose x) = fnd (act13 x b) (whose x) := by
  unfold act13
  unfold whose at h ⊢
  by_cases h0 : x 0 = 0
  · have hw : (if x 0 = 1 then x 6 else x 1) = x 1 := if_neg (by omega)
    rw [hw] at h ⊢
    rw [if_pos h0, if_pos h0, (open_eq a _ _).2.2, (open_eq b _ _).2.2, if_pos rfl, if_pos rfl, h]
  · rw [if_neg h0, if_neg h0]
    by_cases h1 : x 0 = 1
    · have hw : (if x 0 = 1 then x 6 else x 1) = x 6 := if_pos h1
      rw [hw] at h ⊢
      rw [if_pos h1, if_pos h1, (close_eq a _).2, (close_eq b _).2]
      have e : x (3 + 3) = x 6 := rfl
      rw [if_pos e.symm, if_pos e.symm, e, h]
    · have hw : (if x 0 = 1 then x 6 else x 1) = x 1 := if_neg h1
      rw [hw] at h ⊢
      rw [if_neg h1, if_neg h1, (forget_eq a _).2, (forget_eq b _).2, if_pos rfl, if_pos rfl, h]

theorem apart_round (acts : List (Nat → Int)) (tx i : Int) (b a : Bk) : Wh (fun (s : Int × Bk × Bk) (o : (Int × Bk × Bk) ⊕ (Bk × Bk)) => apart_l2 acts tx i s.1 s.2.1 s.2.2 o) (0, b, a)
    (if whose (acts[i.toNat]!) = 1 + (IntKind.i64.wrap tx).tmod 3 then act13 (acts[i.toNat]!) b else b, act13 (acts[i.toNat]!) a) := by
  generalize hx : acts[i.toNat]! = x
  have r0 : apart_l2 acts tx i 0 b a (.inl (1, b, act13 x a)) := by
    unfold apart_l2
    rw [hx]
    rw [if_pos (by decide), if_neg (by decide), if_neg (by simp)]
    unfold act13
    by_cases h0 : x 0 = 0
    · rw [if_pos h0, if_pos h0]; exact ⟨⟨by decide, by decide⟩, rfl⟩
    · rw [if_neg h0, if_neg h0]
      by_cases h1 : x 0 = 1
      · rw [if_pos h1, if_pos h1]; exact ⟨⟨by decide, by decide⟩, rfl⟩
      · rw [if_neg h1, if_neg h1]; exact ⟨⟨by decide, by decide⟩, rfl⟩
  have r1 : apart_l2 acts tx i 1 b (act13 x a) (.inl (2, if whose x = 1 + (IntKind.i64.wrap tx).tmod 3 then act13 x b else b, act13 x a)) := by
    unfold apart_l2
    rw [hx]
    rw [if_pos (by decide), if_pos (by decide)]
    by_cases hw : whose x = 1 + (IntKind.i64.wrap tx).tmod 3
    · have hw' : (if x 0 = 1 then x 6 else x 1) = 1 + (IntKind.i64.wrap tx).tmod 3 := hw
      rw [if_neg (by simp [hw']), if_pos hw]
      unfold act13
      by_cases h0 : x 0 = 0
      · rw [if_pos h0, if_pos h0]; exact ⟨⟨by decide, by decide⟩, rfl⟩
      · rw [if_neg h0, if_neg h0]
        by_cases h1 : x 0 = 1
        · rw [if_pos h1, if_pos h1]; exact ⟨⟨by decide, by decide⟩, rfl⟩
        · rw [if_neg h1, if_neg h1]; exact ⟨⟨by decide, by decide⟩, rfl⟩
    · have hw' : ¬ (if x 0 = 1 then x 6 else x 1) = 1 + (IntKind.i64.wrap tx).tmod 3 := hw
      rw [if_pos (by simp [hw']), if_neg hw]
      exact ⟨⟨by decide, by decide⟩, rfl⟩
  refine .again (s' := (1, b, act13 x a)) r0 (.again (s' := (2, _, _)) r1 (.out ?_))
  show apart_l2 acts tx i 2 _ _ _
  unfold apart_l2
  rw [if_neg (by decide)]

theorem apart_end (tx : Int) (b a : Bk) (h0 : 0 ≤ tx) (h1 : tx < 256) (h : fnd a (1 + (IntKind.i64.wrap tx).tmod 3) = fnd b (1 + (IntKind.i64.wrap tx).tmod 3)) : apart_k1a tx b a true := by
  have hwr : IntKind.i64.wrap tx = tx := wrap_id ⟨by omega, by omega⟩
  unfold apart_k1a
  rw [hwr] at h ⊢
  have hw1 : 1 ≤ 1 + tx.tmod 3 ∧ 1 + tx.tmod 3 ≤ 3 := by
    rw [Int.tmod_eq_emod_of_nonneg h0]; omega
  generalize 1 + tx.tmod 3 = w at h hw1 ⊢
  rw [last_eq, last_eq, h]
  rw [if_neg (by simp)]
  generalize hq : (if (lst (fnd b w)).1 < 1 then 1 else (lst (fnd b w)).1) = q
  obtain ⟨oa1, oa2, oa3⟩ := open_eq a w q
  obtain ⟨ob1, ob2, ob3⟩ := open_eq b w q
  rw [oa1, oa2, ob1, ob2, h, if_pos (eqN_refl _ _), if_pos rfl]
  have hhas : ((opn (fnd b w) w q).2.2).isSome = true := by
    cases hf : fnd b w with
    | none =>
      rw [hf] at hq
      have : q = 1 := by rw [← hq]; simp [lst]
      subst this
      unfold opn
      rw [if_neg (by simp; omega), if_neg (by simp [en0]), if_pos (by simp [en0])]
      rfl
    | some e =>
      unfold opn
      split
      · rfl
      · split
        · rfl
        · split
          · rfl
          · split <;> rfl
  obtain ⟨f1, f2⟩ := forget_eq (bopen_F a w q).2.2 w
  have hfa : fnd (bopen_F a w q).2.2 w = (opn (fnd b w) w q).2.2 := by rw [oa3, if_pos rfl, h]
  rw [hfa] at f1 f2
  rw [if_pos (by rw [f1, fgt, if_pos hhas])]
  obtain ⟨g1, g2, _⟩ := open_eq (bforget_F (bopen_F a w q).2.2 w).2 w 1
  have hfn : fnd (bforget_F (bopen_F a w q).2.2 w).2 w = none := by rw [f2, if_pos rfl, fgt, if_pos hhas]
  rw [hfn] at g1 g2
  have : opn none w 1 = ((fun _ => 0), 0, some (updI (fun _ => 0) 0 1)) := by
    unfold opn
    rw [if_neg (by simp; omega), if_neg (by simp [en0]), if_pos (by simp [en0])]
  rw [this] at g1 g2
  rw [g1, g2]
  simp [eqN_refl]

theorem apart_all (acts : List (Nat → Int)) (tx : Int) (h0 : 0 ≤ tx) (h1 : tx < 256) : apart_S acts tx true := by
  have hwr : IntKind.i64.wrap tx = tx := wrap_id ⟨by omega, by omega⟩
  unfold apart_S
  rw [if_pos alive13_t]
  refine ite_intro (fun _ => rfl) fun hlen => ?_
  refine ⟨?_, ?_⟩
  · rw [hwr, Int.tmod_eq_emod_of_nonneg h0]
    exact ⟨by omega, by omega⟩
  suffices h : ∃ r, Wh (fun (s : Int × Bk × Bk) (o : (Int × Bk × Bk) ⊕ (Bk × Bk)) => apart_l1 acts tx s.1 s.2.1 s.2.2 o) (0, [], []) r ∧ fnd r.2 (1 + (IntKind.i64.wrap tx).tmod 3) = fnd r.1 (1 + (IntKind.i64.wrap tx).tmod 3) by
    obtain ⟨r, hr, hf⟩ := h
    exact ⟨r, hr, apart_end tx r.1 r.2 h0 h1 hf⟩
  refine Wh.by (fun (s : Int × Bk × Bk) => 0 ≤ s.1 ∧ s.1 ≤ acts.length ∧ fnd s.2.2 (1 + (IntKind.i64.wrap tx).tmod 3) = fnd s.2.1 (1 + (IntKind.i64.wrap tx).tmod 3)) (fun s => ((acts.length : Int) - s.1).toNat) (fun (r : Bk × Bk) => fnd r.2 (1 + (IntKind.i64.wrap tx).tmod 3) = fnd r.1 (1 + (IntKind.i64.wrap tx).tmod 3)) ⟨by simp, by simp, rfl⟩ ?_
  rintro ⟨i, b, a⟩ ⟨i0, i1, hf⟩
  simp only at i0 i1 hf
  by_cases hn : ¬ i < acts.length
  · refine .inr ⟨(b, a), ?_, hf⟩
    show apart_l1 acts tx i b a _
    unfold apart_l1
    rw [if_neg hn]
  have hi : i < acts.length := by omega
  refine .inl ⟨(i + 1, if whose (acts[i.toNat]!) = 1 + (IntKind.i64.wrap tx).tmod 3 then act13 (acts[i.toNat]!) b else b, act13 (acts[i.toNat]!) a), ?_, ⟨by simp only; omega, by simp only; omega, ?_⟩, by simp only; omega⟩
  · show apart_l1 acts tx i b a _
    unfold apart_l1
    rw [if_pos hi]
    exact ⟨⟨i0, hi⟩, _, apart_round acts tx i b a, ⟨by omega, by omega⟩, rfl⟩
  · by_cases hw : whose (acts[i.toNat]!) = 1 + (IntKind.i64.wrap tx).tmod 3
    · simp only
      rw [if_pos hw, ← hw]
      rw [← hw] at hf
      exact act_same hf
    · simp only
      rw [if_neg hw, act_other hw]
      exact hf
end Go.E
