/- The coordinator: what it does, in plain words. -/
import Derived.Test.YtljklmlodfbdnaaGreatP18f
import Derived.Test.YtljklmlodfbdnaaGreatP18h
import Derived.Test.YtljklmlodfbdnaaGreatP18c
namespace Go.E
open Go
set_option linter.unusedVariables false
set_option linter.unusedSimpArgs false
set_option maxRecDepth 100000
structure KS where
  cl : Nat → Int
  ti : Int
  la : Int
  m : TM
  tr : List (Nat → Int)
def evS (t : TT) : List (Nat → Int) :=
  if t.2.1 = 2 then [updI (updI (fun _ => 0) 0 5) 2 t.1] else if t.2.1 = 4 then [updI (updI (updI (fun _ => 0) 0 7) 2 t.1) 6 t.2.2.1] else if t.2.1 = 3 then [updI (updI (fun _ => 0) 0 6) 2 t.1] else []
def endC (c : Nat → Int) (tx : Int) : Nat → Int := if cofI c tx = 0 then c else updI c (1 + (cofI c tx).toNat * 3) 0
def setK (s : KS) (t : TT) : KS :=
  if (tAt s.m t.1).2.1 = t.2.1 then { s with m := mset ieq s.m t.1 t }
  else { s with m := mset ieq s.m t.1 t, tr := s.tr ++ evS t, cl := if t.2.1 = 3 ∨ t.2.1 = 4 then endC s.cl t.1 else s.cl }
/-- What holds all along, behind n small steps. -/
structure KI (N : Int) (n : Nat) (s : KS) : Prop where
  hc : Inv16 N s.cl
  ht : 0 ≤ s.ti ∧ s.ti ≤ n
  hl : 0 ≤ s.la ∧ s.la ≤ n
  hu : Uniq s.m
  hk : ∀ k, mhas ieq s.m k = true ↔ 1 ≤ k ∧ k ≤ s.la
  hT : ∀ k, 1 ≤ k → k ≤ s.la → TIT n (tAt s.m k) ∧ (tAt s.m k).1 = k
  hb : ∀ j, j < 9 → s.cl (1 + j * 3) ≠ 0 → 1 ≤ s.cl (1 + j * 3) ∧ s.cl (1 + j * 3) ≤ s.la ∧ (tAt s.m (s.cl (1 + j * 3))).2.1 ≤ 2
  hr : s.tr.length ≤ 2 * n
theorem KI.start {N : Int} (h : 1 ≤ N ∧ N ≤ 8) : KI N 0 ⟨updI (fun _ => 0) 0 N, 0, 0, [], []⟩ where
  hc := Inv16.start h
  ht := by exact ⟨Int.le_refl _, Int.le_refl _⟩
  hl := by exact ⟨Int.le_refl _, Int.le_refl _⟩
  hu := List.nodup_nil
  hk := fun k => ⟨fun h => (by cases h), fun h => by have : 1 ≤ k ∧ k ≤ 0 := h; omega⟩
  hT := fun k h1 h2 => by have : k ≤ 0 := h2; omega
  hb := fun j _ hne => absurd (if_neg (by omega)) hne
  hr := Nat.le_refl _
theorem tAt_mset (m : TM) (k : Int) (t : TT) (k' : Int) : tAt (mset ieq m k t) k' = if k' = k then t else tAt m k' := by
  unfold tAt
  rw [mget_mset eqk_int]
  simp [ieq]
theorem TIT.mono {n m : Nat} {t : T17} (h : TIT n t) (hm : n ≤ m) : TIT m t := TI.mono h hm
theorem KI.mono {N : Int} {n m : Nat} {s : KS} (h : KI N n s) (hm : n ≤ m) : KI N m s where
  hc := h.hc
  ht := by have := h.ht; omega
  hl := by have := h.hl; omega
  hu := h.hu
  hk := h.hk
  hT := fun k h1 h2 => ⟨(h.hT k h1 h2).1.mono hm, (h.hT k h1 h2).2⟩
  hb := h.hb
  hr := by have := h.hr; omega
theorem evS_len (t : TT) : (evS t).length ≤ 1 := by
  unfold evS
  split
  · exact Nat.le_refl _
  · split
    · exact Nat.le_refl _
    · split
      · exact Nat.le_refl _
      · exact Nat.zero_le _
theorem endC_eq {N : Int} {c : Nat → Int} (h : Inv16 N c) (tx : Int) : cend_P c tx ∧ (cend_F c tx).2 = endC c tx := by
  obtain ⟨h1, h2⟩ := end_eq h tx
  refine ⟨h1, ?_⟩
  rw [h2]
  unfold endC
  split <;> rfl
theorem endC_inv {N : Int} {c : Nat → Int} (h : Inv16 N c) (tx : Int) : Inv16 N (endC c tx) := by
  unfold endC
  rcases h.of tx with ⟨h2, _⟩ | ⟨j, h2, h3, _⟩
  · rw [if_pos h2]; exact h
  · rw [if_neg (by omega), h2, Int.toNat_natCast]
    exact h.put h3 (by omega) fun h => absurd rfl h
/-- Who has another transaction keeps it; none has the ended one. -/
theorem endC_tx {N : Int} {c : Nat → Int} (h : Inv16 N c) {tx : Int} (ht : 1 ≤ tx) {j : Nat} (hj : j < 9) : endC c tx (1 + j * 3) = if c (1 + j * 3) = tx then 0 else c (1 + j * 3) := by
  unfold endC
  rcases h.of tx with ⟨h2, h3⟩ | ⟨i, h2, h3, _, h4⟩
  · rw [if_pos h2, if_neg (h3 j hj ht)]
  · rw [if_neg (by omega), h2, Int.toNat_natCast, up_tx]
    have hn := h.n1
    by_cases e : j = i
    · subst e; rw [if_pos rfl, if_pos h4]
    · rw [if_neg e, if_neg]
      intro h5
      exact e (h.one j i hj (by omega) (h5.trans h4.symm) (by omega))
section
variable {N : Int} {n : Nat} {s : KS}
theorem KI.put (h : KI N n s) {t : TT} (ht : TIT (n + 1) t) (h1 : 1 ≤ t.1) (h2 : t.1 ≤ s.la) : KI N (n + 1) (setK s t) := by
  have hs := ht.hst
  have key : ∀ (tr : List (Nat → Int)) (cl : Nat → Int), Inv16 N cl → tr.length ≤ 2 * (n + 1) → (∀ j, j < 9 → cl (1 + j * 3) ≠ 0 → cl (1 + j * 3) = s.cl (1 + j * 3) ∧ (cl (1 + j * 3) = t.1 → t.2.1 ≤ 2)) → KI N (n + 1) { s with m := mset ieq s.m t.1 t, tr := tr, cl := cl } := by
    intro tr cl hc hr hb
    refine ⟨hc, ?_, ?_, uniq_mset h.hu _ _, fun k => ?_, fun k k1 k2 => ?_, fun j hj hne => ?_, hr⟩
    · have := h.ht; show 0 ≤ s.ti ∧ s.ti ≤ _; omega
    · have := h.hl; show 0 ≤ s.la ∧ s.la ≤ _; omega
    · show mhas ieq (mset ieq s.m t.1 t) k = true ↔ 1 ≤ k ∧ k ≤ s.la
      rw [mhas_mset eqk_int, Bool.or_eq_true, h.hk]
      simp [ieq]
      omega
    · show TIT _ (tAt (mset ieq s.m t.1 t) k) ∧ (tAt (mset ieq s.m t.1 t) k).1 = k
      rw [tAt_mset]
      by_cases e : k = t.1
      · rw [if_pos e]; exact ⟨ht, e.symm⟩
      · rw [if_neg e]; exact ⟨(h.hT k k1 k2).1.mono (by omega), (h.hT k k1 k2).2⟩
    · obtain ⟨e1, e2⟩ := hb j hj hne
      have hne' : cl (1 + j * 3) ≠ 0 := hne
      obtain ⟨b1, b2, b3⟩ := h.hb j hj (e1 ▸ hne')
      show 1 ≤ cl (1 + j * 3) ∧ cl (1 + j * 3) ≤ s.la ∧ (tAt (mset ieq s.m t.1 t) (cl (1 + j * 3))).2.1 ≤ 2
      rw [tAt_mset]
      by_cases e : cl (1 + j * 3) = t.1
      · rw [if_pos e]; exact ⟨by omega, by omega, e2 e⟩
      · rw [if_neg e, e1]; exact ⟨b1, b2, b3⟩
  have hr := h.hr
  unfold setK
  by_cases he : (tAt s.m t.1).2.1 = t.2.1
  · rw [if_pos he]
    refine key s.tr s.cl h.hc (by omega) fun j hj hne => ⟨rfl, fun e => ?_⟩
    have := (h.hb j hj hne).2.2
    rw [e] at this
    omega
  · rw [if_neg he]
    have hl := evS_len t
    have hr' : (s.tr ++ evS t).length ≤ 2 * (n + 1) := by rw [List.length_append]; omega
    by_cases h34 : t.2.1 = 3 ∨ t.2.1 = 4
    · rw [if_pos h34]
      refine key _ _ (endC_inv h.hc _) hr' fun j hj hne => ?_
      rw [endC_tx h.hc h1 hj] at hne ⊢
      by_cases e : s.cl (1 + j * 3) = t.1
      · rw [if_pos e] at hne; exact absurd rfl hne
      · rw [if_neg e]; exact ⟨rfl, fun h => absurd h e⟩
    · rw [if_neg h34]
      refine key _ _ h.hc hr' fun j hj hne => ⟨rfl, fun _ => by have : 1 ≤ t.2.1 ∧ t.2.1 ≤ 4 := hs; omega⟩
theorem kset_is (h : KI N n s) (hn : n ≤ 100000) (c : Nat → Int) (t : TT) (extra : List (Nat → Int)) (hx : extra.length ≤ 1) :
    kset_P c s.cl s.ti s.la s.m (s.tr ++ extra) t.1 t.2.1 t.2.2.1 t.2.2.2.1 t.2.2.2.2.1 t.2.2.2.2.2.1 t.2.2.2.2.2.2.1 t.2.2.2.2.2.2.2.1 t.2.2.2.2.2.2.2.2.1 t.2.2.2.2.2.2.2.2.2.1 t.2.2.2.2.2.2.2.2.2.2.1 t.2.2.2.2.2.2.2.2.2.2.2 ∧
    kset_F c s.cl s.ti s.la s.m (s.tr ++ extra) t.1 t.2.1 t.2.2.1 t.2.2.2.1 t.2.2.2.2.1 t.2.2.2.2.2.1 t.2.2.2.2.2.2.1 t.2.2.2.2.2.2.2.1 t.2.2.2.2.2.2.2.2.1 t.2.2.2.2.2.2.2.2.2.1 t.2.2.2.2.2.2.2.2.2.2.1 t.2.2.2.2.2.2.2.2.2.2.2 =
      ((setK { s with tr := s.tr ++ extra } t).m, (setK { s with tr := s.tr ++ extra } t).tr, (setK { s with tr := s.tr ++ extra } t).cl) := by
  have hr := h.hr
  obtain ⟨e1, e2⟩ := endC_eq h.hc t.1
  have hb : (((s.tr ++ extra).length : Int) + 1) * 56 ≤ 140737488355328 := by rw [List.length_append]; omega
  have e0 : (mget ieq s.m t.1 (0, 0, 0, 0, false, 0, (fun _ => 0), 0, [], [], [], [])) = tAt s.m t.1 := rfl
  unfold kset_P kset_F setK evS
  rw [e0]
  by_cases he : (tAt s.m t.1).2.1 = t.2.1
  · rw [if_pos he, if_pos he, if_pos he]; exact ⟨trivial, rfl⟩
  · rw [if_neg he, if_neg he, if_neg he]
    by_cases h2 : t.2.1 = 2
    · rw [if_pos h2, if_pos h2, if_pos h2, if_neg (by omega)]; exact ⟨⟨by omega, trivial⟩, rfl⟩
    · rw [if_neg h2, if_neg h2, if_neg h2]
      by_cases h4 : t.2.1 = 4
      · rw [if_pos h4, if_pos h4, if_pos h4, if_pos (.inr h4), e2]; exact ⟨⟨by omega, e1, trivial⟩, rfl⟩
      · rw [if_neg h4, if_neg h4, if_neg h4]
        by_cases h3 : t.2.1 = 3
        · rw [if_pos h3, if_pos h3, if_pos h3, if_pos (.inl h3), e2]; exact ⟨⟨by omega, e1, trivial⟩, rfl⟩
        · rw [if_neg h3, if_neg h3, if_neg h3, if_neg (by omega), List.append_nil]; exact ⟨trivial, rfl⟩
end
end Go.E
