/- Part 3 of the proof. -/
import Derived.Test.YtdmibiefinhneaaJ2
import Derived.Test.YtdmibiefinhneaaRows
import Derived.WalkKit
import Derived.LaidEql
import Derived.Stop.Asserts
import Derived.RowKitTokens
import Derived.Lib.Hide
set_option maxHeartbeats 1000000
set_option maxRecDepth 100000
set_option linter.unusedVariables false
set_option linter.unusedSimpArgs false
set_option linter.unusedSectionVars false
set_option linter.unnecessarySimpa false
/- How far it is; an order. -/
namespace Go.E
open Go
/-! ### How far it is -/
structure FarI (l : List (Nat → Int)) (to : Int) (ex : Int → Prop) (s : List (Int × Int) × List Int) : Prop where
  u : Uniq s.1
  z : mfind ieq s.1 to = some 0
  v : ∀ x k, mfind ieq s.1 x = some k → 0 ≤ k ∧ k < s.1.length ∧ (x ≠ to → ∃ y, Adj l x y ∧ mfind ieq s.1 y = some (k - 1))
  rt : ∀ x, mhas ieq s.1 x = true → x = to ∨ Rt l x to
  ina : ∀ x ∈ s.2, mhas ieq s.1 x = true
  cl : ∀ y, mhas ieq s.1 y = true → y ∉ s.2 → ¬ ex y → ∀ x, Adj l x y → mhas ieq s.1 x = true
  al : s.2.length ≤ s.1.length
  so : s.2.Pairwise fun x y => mget ieq s.1 x 0 ≤ mget ieq s.1 y 0
  up : ∀ x k, mfind ieq s.1 x = some k → ∀ y, (y ∈ s.2 ∨ ex y) → k ≤ mget ieq s.1 y 0 + 1
  lo : ∀ y, ex y → ∀ x ∈ s.2, mget ieq s.1 y 0 ≤ mget ieq s.1 x 0
  cl2 : ∀ y, mhas ieq s.1 y = true → y ∉ s.2 → ¬ ex y → ∀ x, Adj l x y → mget ieq s.1 x 0 ≤ mget ieq s.1 y 0 + 1
theorem FarI.bound {l : List (Nat → Int)} {to : Int} {ex : Int → Prop} {s : List (Int × Int) × List Int} (h : FarI l to ex s) : s.1.length ≤ (nodesL l).length + 1 := by
  have := nodup_len (l := s.1.map fun p : Int × Int => p.1) (m := to :: nodesL l) h.u fun x hx => by
    rcases h.rt x (mhas_mem.2 hx) with rfl | h
    · exact List.mem_cons_self
    · exact List.mem_cons_of_mem _ h.left
  simpa using this
theorem len_mset_new' {α : Type} {d : List (Int × α)} {k : Int} {v : α} (h : ¬ mhas ieq d k = true) : (mset ieq d k v).length = d.length + 1 := by
  have := congrArg List.length (keys_mset d k v)
  rw [List.length_map, if_neg (fun hx => h (mhas_mem.2 hx))] at this
  simpa using this
theorem FarI.add {l : List (Nat → Int)} {to n a k : Int} {s : List (Int × Int) × List Int} (h : FarI l to (· = n) s) (hn : mfind ieq s.1 n = some k) (ha : Adj l a n) (hno : ¬ mhas ieq s.1 a = true) : FarI l to (· = n) (mset ieq s.1 a (k + 1), s.2 ++ [a]) := by
  have hne : ∀ x, mhas ieq s.1 x = true → x ≠ a := fun x hx e => hno (e ▸ hx)
  have hold : ∀ x k', mfind ieq s.1 x = some k' → mfind ieq (mset ieq s.1 a (k + 1)) x = some k' := fun x k' hx => by
    rw [mfind_mset', if_neg (hne x (by rw [mhas_mfind, hx]; rfl)), hx]
  have hl := len_mset_new' (v := k + 1) hno
  have hnv := h.v n k hn
  have gold : ∀ x, mhas ieq s.1 x = true → mget ieq (mset ieq s.1 a (k + 1)) x 0 = mget ieq s.1 x 0 := fun x hx => by
    rw [mget_mfind, mget_mfind, mfind_mset', if_neg (hne x hx)]
  have gnew : mget ieq (mset ieq s.1 a (k + 1)) a 0 = k + 1 := by rw [mget_mfind, mfind_mset', if_pos rfl]; rfl
  have gn : mget ieq s.1 n 0 = k := by rw [mget_mfind, hn]; rfl
  have hnh : mhas ieq s.1 n = true := by rw [mhas_mfind, hn]; rfl
  have some_of : ∀ x, mhas ieq s.1 x = true → mfind ieq s.1 x = some (mget ieq s.1 x 0) := fun x hx => by
    rw [mget_mfind]
    cases hv : mfind ieq s.1 x with
    | none => rw [mhas_mfind, hv] at hx; cases hx
    | some v => rfl
  have upn : ∀ x k', mfind ieq s.1 x = some k' → k' ≤ k + 1 := fun x k' hx => by have := h.up x k' hx n (.inr rfl); omega
  refine ⟨uniq_mset h.u _ _, hold _ _ h.z, fun x k' hx => ?_, fun x hx => ?_, fun x hx => ?_, fun y hy hya hex x hx => ?_, ?_, ?_, fun x k' hx y hy => ?_, fun y hy x hx => ?_, fun y hy hya hex x hx => ?_⟩
  · simp only at hx ⊢
    rw [mfind_mset'] at hx
    by_cases hxa : x = a
    · rw [if_pos hxa] at hx
      simp only [Option.some.injEq] at hx
      subst hx
      refine ⟨by omega, by omega, fun _ => ⟨n, by rw [hxa]; exact ha, ?_⟩⟩
      rw [hold n k hn]
      congr 1
      omega
    · rw [if_neg hxa] at hx
      obtain ⟨h1, h2, h3⟩ := h.v x k' hx
      refine ⟨h1, by omega, fun hxt => ?_⟩
      obtain ⟨y, hy, hyk⟩ := h3 hxt
      exact ⟨y, hy, hold y _ hyk⟩
  · rcases (mhas_mset' s.1 a (k + 1) x).1 hx with rfl | hx
    · refine .inr ?_
      rcases h.rt n (by rw [mhas_mfind, hn]; rfl) with rfl | hr
      · exact .one ha
      · exact (Rt.one ha).trans hr
    · exact h.rt x hx
  · rcases List.mem_append.1 hx with hx | hx
    · exact (mhas_mset' s.1 a (k + 1) x).2 (.inr (h.ina x hx))
    · exact (mhas_mset' s.1 a (k + 1) x).2 (.inl (List.mem_singleton.1 hx))
  · simp only at hya
    rcases (mhas_mset' s.1 a (k + 1) y).1 hy with rfl | hy
    · exact absurd (List.mem_append_right _ (List.mem_singleton.2 rfl)) hya
    · exact (mhas_mset' s.1 a (k + 1) x).2 (.inr (h.cl y hy (fun h => hya (List.mem_append_left _ h)) hex x hx))
  · simp only [List.length_append, List.length_singleton]
    have := h.al
    omega
  · rw [List.pairwise_append]
    refine ⟨h.so.imp_of_mem fun hx hy hle => ?_, List.pairwise_singleton _ _, fun x hx y hy => ?_⟩
    · simp only
      rw [gold _ (h.ina _ hx), gold _ (h.ina _ hy)]; exact hle
    · rw [List.mem_singleton.1 hy]
      simp only
      rw [gnew, gold x (h.ina x hx)]
      exact upn x _ (some_of x (h.ina x hx))
  · simp only at hx hy ⊢
    have hk' : k' ≤ k + 1 := by
      rw [mfind_mset'] at hx
      by_cases hxa : x = a
      · rw [if_pos hxa] at hx
        simp only [Option.some.injEq] at hx
        omega
      · rw [if_neg hxa] at hx
        exact upn x k' hx
    have hyk : k ≤ mget ieq (mset ieq s.1 a (k + 1)) y 0 := by
      rcases hy with hy | hy
      · rcases List.mem_append.1 hy with hy | hy
        · rw [gold y (h.ina y hy), ← gn]; exact h.lo n rfl y hy
        · rw [List.mem_singleton.1 hy, gnew]; omega
      · rw [hy, gold n hnh, gn]; exact Int.le_refl _
    omega
  · simp only at hx ⊢
    rw [hy, gold n hnh, gn]
    rcases List.mem_append.1 hx with hx | hx
    · rw [gold x (h.ina x hx), ← gn]; exact h.lo n rfl x hx
    · rw [List.mem_singleton.1 hx, gnew]; omega
  · simp only at hya ⊢
    rcases (mhas_mset' s.1 a (k + 1) y).1 hy with rfl | hy
    · exact absurd (List.mem_append_right _ (List.mem_singleton.2 rfl)) hya
    · have hyq : y ∉ s.2 := fun h => hya (List.mem_append_left _ h)
      rw [gold y hy, gold x (h.cl y hy hyq hex x hx)]
      exact h.cl2 y hy hyq hex x hx
structure FarJ (l : List (Nat → Int)) (to n : Int) (c : Nat) (s : List (Int × Int) × List Int × Int) : Prop where
  f : FarI l to (· = n) (s.1, s.2.1)
  i0 : 0 ≤ s.2.2
  i1 : s.2.2 ≤ l.length
  hn : mhas ieq s.1 n = true
  hd : ∀ j : Nat, (j : Int) < s.2.2 → l[j]! 2 = n → mhas ieq s.1 (l[j]! 0) = true
  hc : s.2.1.length + c = s.1.length
theorem gfar_pass (l : List (Nat → Int)) (to n : Int) (rest : List Int) (st : List (Int × Int)) (hl : l.length ≤ 100000) (c : Nat) (hI : FarI l to (· = n) (st, rest)) (hn : mhas ieq st n = true) (hc : rest.length + c = st.length) :
    ∃ r : List (Int × Int) × List Int, Wh (fun (s : (List (Int × Int)) × (List Int) × Int) (o : ((List (Int × Int)) × (List Int) × Int) ⊕ ((List (Int × Int)) × (List Int))) => gfar_l2 l (n :: rest) s.1 s.2.1 s.2.2 o) ((st, rest, 0) : (List (Int × Int)) × (List Int) × Int) r ∧ FarJ l to n c (r.1, r.2, (l.length : Int)) := by
  have hN := len_nodesL l
  refine Wh.by (FarJ l to n c) (fun s => ((l.length : Int) - s.2.2).toNat) (fun (r : List (Int × Int) × List Int) => FarJ l to n c (r.1, r.2, (l.length : Int))) { f := hI, i0 := by simp, i1 := by simp, hn := hn, hd := fun j hj => by simp only at hj; omega, hc := hc } ?_
  rintro ⟨s1, a1, i⟩ ⟨f, i0, i1, hn, hd, hcc⟩
  simp only at f i0 i1 hn hd hcc
  have hb := f.bound
  have hal := f.al
  simp only at hb hal
  by_cases hi : i < l.length
  · have hi' : 0 ≤ i ∧ i < l.length := ⟨i0, hi⟩
    have hin : inI64 (i + 1) := ⟨by omega, by omega⟩
    have hmem := at_mem' hi'
    obtain ⟨k, hk⟩ : ∃ k, mfind ieq s1 n = some k := Option.isSome_iff_exists.1 hn
    have hkv := f.v n k hk
    have hg : mget ieq s1 n 0 = k := by rw [mget_mfind, hk]; rfl
    simp only at hkv
    by_cases hcnd : l[i.toNat]! 2 = n ∧ ¬ mhas ieq s1 (l[i.toNat]! 0) = true
    · have hadj : Adj l (l[i.toNat]! 0) n := ⟨_, hmem, rfl, hcnd.1⟩
      have hl1 := len_mset_new' (v := k + 1) hcnd.2
      refine .inl ⟨(mset ieq s1 (l[i.toNat]! 0) (k + 1), a1 ++ [l[i.toNat]! 0], i + 1), ?_, ⟨f.add hk hadj hcnd.2, by simp only; omega, by simp only; omega, (mhas_mset' _ _ _ _).2 (.inr hn), fun j hj hj2 => ?_, ?_⟩, by simp only; omega⟩
      · show gfar_l2 l (n :: rest) s1 a1 i _
        unfold gfar_l2
        rw [if_pos hi, List.getElem!_cons_zero, hg, if_pos (by simp only [Bool.and_eq_true, decide_eq_true_eq, Bool.not_eq_true']; exact ⟨hcnd.1, by simpa using hcnd.2⟩)]
        exact ⟨hi', ⟨by omega, by omega⟩, by omega, hin, rfl⟩
      · simp only at hj ⊢
        rw [mhas_mset']
        by_cases hji : (j : Int) = i
        · exact .inl (by rw [show j = i.toNat by omega])
        · exact .inr (hd j (by omega) hj2)
      · simp only [List.length_append, List.length_singleton]
        omega
    · refine .inl ⟨(s1, a1, i + 1), ?_, ⟨f, by simp only; omega, by simp only; omega, hn, fun j hj hj2 => ?_, hcc⟩, by simp only; omega⟩
      · show gfar_l2 l (n :: rest) s1 a1 i _
        unfold gfar_l2
        rw [if_pos hi, List.getElem!_cons_zero, if_neg (by
          intro h
          simp only [Bool.and_eq_true, decide_eq_true_eq, Bool.not_eq_true'] at h
          exact hcnd ⟨h.1, by rw [h.2]; decide⟩)]
        exact ⟨hi', hin, rfl⟩
      · simp only at hj ⊢
        by_cases hji : (j : Int) = i
        · rw [show j = i.toNat by omega] at hj2 ⊢
          by_cases hm : mhas ieq s1 (l[i.toNat]! 0) = true
          · exact hm
          · exact absurd ⟨hj2, hm⟩ hcnd
        · exact hd j (by omega) hj2
  · obtain rfl : i = l.length := by omega
    refine .inr ⟨(s1, a1), ?_, f, i0, i1, hn, hd, hcc⟩
    show gfar_l2 l (n :: rest) s1 a1 (l.length : Int) _
    unfold gfar_l2
    rw [if_neg (by omega)]
structure FarOk (l : List (Nat → Int)) (to : Int) (d : List (Int × Int)) : Prop where
  z : mfind ieq d to = some 0
  v : ∀ x k, mfind ieq d x = some k → 0 ≤ k ∧ k < d.length ∧ (x ≠ to → ∃ y, Adj l x y ∧ mfind ieq d y = some (k - 1))
  rt : ∀ x, Rt l x to → mhas ieq d x = true
  n : d.length ≤ 2 * l.length + 1
  mn : ∀ x y, Adj l x y → ∀ k, mfind ieq d y = some k → ∃ k', mfind ieq d x = some k' ∧ k' ≤ k + 1
def gfar_P (l : List (Nat → Int)) (_ : Int) : Prop := Edges l
theorem gfar_ex (l : List (Nat → Int)) (to : Int) (h : gfar_P l to) : ∃ d, gfar_S l to d ∧ FarOk l to d := by
  obtain ⟨hl, _⟩ := h
  have hN := len_nodesL l
  suffices hs : ∃ r, Wh (fun (s : (List (Int × Int)) × (List Int)) (o : ((List (Int × Int)) × (List Int)) ⊕ ((List (Int × Int)))) => gfar_l1 l s.1 s.2 o) ((mset ieq ([]) to 0, ([to] : List Int)) : (List (Int × Int)) × (List Int)) r ∧ FarI l to (fun _ => False) (r, []) by
    obtain ⟨r, hw, hI⟩ := hs
    refine ⟨r, ?_, hI.z, hI.v, fun x hx => ?_, by have : r.length ≤ _ := hI.bound; omega, fun x y hxy k hk => ?_⟩
    · unfold gfar_S
      exact ⟨r, hw, rfl⟩
    · have hto : mhas ieq r to = true := by rw [mhas_mfind, hI.z]; rfl
      have key : ∀ y, Rt l x y → mhas ieq r y = true → mhas ieq r x = true := fun y hy => by
        induction hy with
        | one e => exact fun h => hI.cl _ h (by simp) (fun h => h) _ e
        | more _ e ih => exact fun h => ih (hI.cl _ h (by simp) (fun h => h) _ e)
      exact key to hx hto
    · have hy : mhas ieq r y = true := by rw [mhas_mfind, hk]; rfl
      have hx := hI.cl y hy (by simp) (fun h => h) x hxy
      have h2 := hI.cl2 y hy (by simp) (fun h => h) x hxy
      simp only [mget_mfind, hk, Option.getD_some] at h2
      cases hv : mfind ieq r x with
      | none => rw [mhas_mfind, hv] at hx; cases hx
      | some v => rw [hv] at h2; exact ⟨v, rfl, h2⟩
  refine Wh.by (FarI l to (fun _ => False)) (fun s => s.2.length + ((nodesL l).length + 1 - s.1.length)) (fun r => FarI l to (fun _ => False) (r, [])) ?_ ?_
  · refine ⟨by simp [mset, Uniq], by simp [mset, mfind, ieq], fun x k hx => ?_, fun x hx => ?_, fun x hx => ?_, fun y hy hya => ?_, by simp [mset], List.pairwise_singleton _ _, fun x k hx y hy => ?_, fun y hy => hy.elim, fun y hy hya => ?_⟩
    · simp only [mset, mfind, ieq] at hx ⊢
      by_cases hxt : x = to
      · simp [hxt] at hx
        subst hx
        exact ⟨by omega, by simp, fun h => absurd hxt h⟩
      · simp [hxt] at hx
    · simp only [mset, mhas, mfind, ieq] at hx
      by_cases hxt : x = to
      · exact .inl hxt
      · simp [hxt] at hx
    · rw [List.mem_singleton.1 hx]; simp [mset, mhas, mfind, ieq]
    · simp only [mset, mhas, mfind, ieq] at hy
      by_cases hyt : y = to
      · exact absurd (List.mem_singleton.2 hyt) hya
      · simp [hyt] at hy
    · simp only [mset, mfind, ieq] at hx
      have e : k = 0 := by
        by_cases hxt : x = to
        · simp [hxt] at hx; exact hx.symm
        · simp [hxt] at hx
      rcases hy with hy | hy
      · rw [List.mem_singleton.1 hy, e]
        simp [mset, mget, mfind, ieq]
      · exact hy.elim
    · simp only [mset, mhas, mfind, ieq] at hy
      by_cases hyt : y = to
      · exact absurd (List.mem_singleton.2 hyt) hya
      · simp [hyt] at hy
  rintro ⟨st, at_⟩ hI
  cases at_ with
  | nil =>
    refine .inr ⟨st, ?_, hI⟩
    show gfar_l1 l st [] _
    unfold gfar_l1
    rw [if_neg (by simp)]
  | cons n rest =>
    have hn := hI.ina n List.mem_cons_self
    have hal : rest.length + 1 ≤ st.length := hI.al
    have hI2 : FarI l to (· = n) (st, rest) := ⟨hI.u, hI.z, hI.v, hI.rt, fun x hx => hI.ina x (List.mem_cons_of_mem _ hx), fun y hy hya hyn x hx => hI.cl y hy (fun h => by
      rcases List.mem_cons.1 h with h | h
      · exact hyn h
      · exact hya h) (fun h => h) x hx, by simp only; omega, (List.pairwise_cons.1 hI.so).2, fun x k hx y hy => hI.up x k hx y (.inl (hy.elim (List.mem_cons_of_mem _) fun e => e ▸ List.mem_cons_self)), fun y hy x hx => by rw [hy]; exact (List.pairwise_cons.1 hI.so).1 x hx, fun y hy hya hyn x hx => hI.cl2 y hy (fun h => by
      rcases List.mem_cons.1 h with h | h
      · exact hyn h
      · exact hya h) (fun h => h) x hx⟩
    obtain ⟨⟨s1, a1⟩, hw, hJ⟩ := gfar_pass l to n rest st hl (st.length - rest.length) hI2 hn (by omega)
    have hb : s1.length ≤ _ := hJ.f.bound
    have hc : a1.length + (st.length - rest.length) = s1.length := hJ.hc
    have hb0 : st.length ≤ _ := hI.bound
    have hd : ((n :: rest).take (n :: rest).length).drop 1 = rest := by rw [take_len]; rfl
    have h0 : (0 : Int) < ((n :: rest).length : Int) := by simp only [List.length_cons]; omega
    refine .inl ⟨(s1, a1), ?_, ⟨hJ.f.u, hJ.f.z, hJ.f.v, hJ.f.rt, hJ.f.ina, fun y hy hya _ x hx => ?_, hJ.f.al, hJ.f.so, fun x k hx y hy => hJ.f.up x k hx y (.inl (hy.elim id False.elim)), fun y hy => hy.elim, fun y hy hya _ x hx => ?_⟩, by simp only [List.length_cons]; omega⟩
    · show gfar_l1 l st (n :: rest) _
      unfold gfar_l1
      rw [if_pos h0, hd]
      exact ⟨⟨by omega, h0⟩, ⟨by omega, by omega⟩, (s1, a1), hw, rfl⟩
    · by_cases hyn : y = n
      · obtain ⟨e, he, h1, h2⟩ := hx
        obtain ⟨j, hj, rfl⟩ := List.getElem_of_mem he
        have := hJ.hd j (by simp only; omega) (by rw [getElem!_pos l j hj, h2, hyn])
        rw [getElem!_pos l j hj, h1] at this
        exact this
      · exact hJ.f.cl y hy hya hyn x hx
    · by_cases hyn : y = n
      · obtain ⟨e, he, h1, h2⟩ := hx
        obtain ⟨j, hj, rfl⟩ := List.getElem_of_mem he
        have := hJ.hd j (by simp only; omega) (by rw [getElem!_pos l j hj, h2, hyn])
        rw [getElem!_pos l j hj, h1] at this
        simp only at this ⊢
        cases hv : mfind ieq s1 x with
        | none => rw [mhas_mfind, hv] at this; cases this
        | some v =>
          have q := hJ.f.up x v hv n (.inr rfl)
          rw [hyn]
          simp only [mget_mfind, hv, Option.getD_some] at q ⊢
          exact q
      · exact hJ.f.cl2 y hy hya hyn x hx
noncomputable def gfar_F (l : List (Nat → Int)) (to : Int) : List (Int × Int) := Classical.epsilon fun d => gfar_S l to d ∧ FarOk l to d
theorem gfar_ok (l : List (Nat → Int)) (to : Int) (h : gfar_P l to) : gfar_S l to (gfar_F l to) := (Classical.epsilon_spec (gfar_ex l to h)).1
theorem gfar_is (l : List (Nat → Int)) (to : Int) (h : gfar_P l to) : FarOk l to (gfar_F l to) := (Classical.epsilon_spec (gfar_ex l to h)).2
/-! ### An order -/
def blocks (left : List Int) (n : Int) (e : Nat → Int) : Bool := decide (e 2 = n) && decide (e 0 ∈ left)
end Go.E
/- What functions of the program say, as relations. -/
namespace Go.E
open Go
def gcirc_l1 (l0 : (List (Nat → Int))) (out3 : (List Int)) (x9 : Int) (o : ((List Int) × Int) ⊕ ((List Int))) : Prop :=
  if x9 < ((gnodes_F l0).length : Int) then
    (0 ≤ x9 ∧ x9 < (gnodes_F l0).length) ∧ (
    (greach_P l0 ((gnodes_F l0)[x9.toNat]!)) ∧ (
    (hasI_P (greach_F l0 ((gnodes_F l0)[x9.toNat]!)) ((gnodes_F l0)[x9.toNat]!)) ∧ (
    if ((hasI_F (greach_F l0 ((gnodes_F l0)[x9.toNat]!)) ((gnodes_F l0)[x9.toNat]!))) = true then
      ((out3.length + 1) * 8 ≤ 140737488355328) ∧ (
      (inI64 (x9 + 1)) ∧ (
      o = (.inl ((out3 ++ [(gnodes_F l0)[x9.toNat]!]), x9 + 1))))
    else
      (inI64 (x9 + 1)) ∧ (
      o = (.inl (out3, x9 + 1))))))
  else
    o = (.inr out3)
def gcirc_k1a (out3 : (List Int)) (r : (List Int)) : Prop :=
  r = (out3)
def gcirc_S (l0 : (List (Nat → Int))) (r : (List Int)) : Prop :=
  (gnodes_P l0) ∧ (
  ∃ x : (List Int), Wh (fun (s : (List Int) × Int) (o : ((List Int) × Int) ⊕ ((List Int))) => gcirc_l1 l0 s.1 s.2 o) (([], 0) : (List Int) × Int) x ∧ gcirc_k1a x r)
def gway_l2 (l0 : (List (Nat → Int))) (to2 : Int) (n9 : Int) (best10 : Int) (x43 : Int) (o : (Int × Int) ⊕ (Int)) : Prop :=
  if x43 < ((gnext_F l0 n9).length : Int) then
    (0 ≤ x43 ∧ x43 < (gnext_F l0 n9).length) ∧ (
    (inI64 (x43 + 1)) ∧ (
    o = (.inl ((if (((mhas ieq (gfar_F l0 to2) ((gnext_F l0 n9)[x43.toNat]!))) && ((decide (best10 < 0)) || (decide (mget ieq (gfar_F l0 to2) ((gnext_F l0 n9)[x43.toNat]!) 0 < best10)))) = true then mget ieq (gfar_F l0 to2) ((gnext_F l0 n9)[x43.toNat]!) 0 else best10), x43 + 1))))
  else
    o = (.inr best10)
def gway_l3 (l0 : (List (Nat → Int))) (to2 : Int) (n9 : Int) (best10 : Int) (n9a : Int) (x69 : Int) (o : (Int × Int) ⊕ (Int)) : Prop :=
  if x69 < ((gnext_F l0 n9).length : Int) then
    (0 ≤ x69 ∧ x69 < (gnext_F l0 n9).length) ∧ (
    if (((mhas ieq (gfar_F l0 to2) ((gnext_F l0 n9)[x69.toNat]!))) && (decide (mget ieq (gfar_F l0 to2) ((gnext_F l0 n9)[x69.toNat]!) 0 = best10))) = true then
      o = (.inr ((gnext_F l0 n9)[x69.toNat]!))
    else
      (inI64 (x69 + 1)) ∧ (
      o = (.inl (n9a, x69 + 1))))
  else
    o = (.inr n9a)
def gway_k3a (out8 : (List Int)) (n9a : Int) (o : ((List Int) × Int) ⊕ ((List Int))) : Prop :=
  ((out8.length + 1) * 8 ≤ 140737488355328) ∧ (
  o = (.inl ((out8 ++ [n9a]), n9a)))
def gway_k2a (l0 : (List (Nat → Int))) (to2 : Int) (out8 : (List Int)) (n9 : Int) (best10 : Int) (o : ((List Int) × Int) ⊕ ((List Int))) : Prop :=
  (gnext_P l0 n9) ∧ (
  ∃ x : Int, Wh (fun (s : Int × Int) (o : (Int × Int) ⊕ (Int)) => gway_l3 l0 to2 n9 best10 s.1 s.2 o) ((n9, 0) : Int × Int) x ∧ gway_k3a out8 x o)
def gway_l1 (l0 : (List (Nat → Int))) (to2 : Int) (out8 : (List Int)) (n9 : Int) (o : ((List Int) × Int) ⊕ ((List Int))) : Prop :=
  if ((!(decide (n9 = to2))) || (decide ((out8.length : Int) = 1))) = true then
    (gnext_P l0 n9) ∧ (
    ∃ x : Int, Wh (fun (s : Int × Int) (o : (Int × Int) ⊕ (Int)) => gway_l2 l0 to2 n9 s.1 s.2 o) (((-1), 0) : Int × Int) x ∧ gway_k2a l0 to2 out8 n9 x o)
  else
    o = (.inr out8)
def gway_k1a (out8 : (List Int)) (r : (List Int)) : Prop :=
  r = (out8)
def gway_S (l0 : (List (Nat → Int))) (from1 : Int) (to2 : Int) (r : (List Int)) : Prop :=
  (greach_P l0 from1) ∧ (
  (hasI_P (greach_F l0 from1) to2) ∧ (
  if ((hasI_F (greach_F l0 from1) to2)) = true then
    (gfar_P l0 to2) ∧ (
    ∃ x : (List Int), Wh (fun (s : (List Int) × Int) (o : ((List Int) × Int) ⊕ ((List Int))) => gway_l1 l0 to2 s.1 s.2 o) ((([from1] : List Int), from1) : (List Int) × Int) x ∧ gway_k1a x r)
  else
    r = ([])))
end Go.E
/- Circles, the document's order, ways. -/
namespace Go.E
open Go
/-! ### Who is on a circle -/
noncomputable def gcirc_F (l : List (Nat → Int)) : List Int := (nodesL l).filter fun x => hasI_F (greach_F l x) x
def gcirc_P (l : List (Nat → Int)) : Prop := Edges l
theorem mem_gcirc {l : List (Nat → Int)} {x : Int} : x ∈ gcirc_F l ↔ Rt l x x := by
  unfold gcirc_F hasI_F
  rw [List.mem_filter, decide_eq_true_eq, mem_greach]
  exact ⟨fun h => h.2, fun h => ⟨h.left, h⟩⟩
theorem gcirc_ok (l : List (Nat → Int)) (h : gcirc_P l) : gcirc_S l (gcirc_F l) := by
  have hl := h.1
  have hN := len_nodesL l
  unfold gcirc_S
  refine ⟨h, gcirc_F l, ?_, rfl⟩
  have e : gnodes_F l = nodesL l := rfl
  have := Wh.upto (f := fun (s : (List Int) × Int) (o : ((List Int) × Int) ⊕ ((List Int))) => gcirc_l1 l s.1 s.2 o) (fun k : Nat => (((nodesL l).take k).filter (fun x => hasI_F (greach_F l x) x), (k : Int))) (nodesL l).length (r := gcirc_F l) (fun k hk => by
      have hb : (((nodesL l).take k).filter (fun x => hasI_F (greach_F l x) x)).length ≤ 200000 := Nat.le_trans (List.length_filter_le _ _) (by simp only [List.length_take]; omega)
      dsimp only
      unfold gcirc_l1
      rw [e, if_pos (by omega), Int.toNat_natCast, filter_take _ _ _ hk]
      refine ⟨⟨by omega, by omega⟩, h, by unfold hasI_P; have := len_greach l ((nodesL l)[k]!); omega, ite_intro (fun h1 => ?_) fun h1 => ?_⟩
      · rw [if_pos h1]
        exact ⟨by omega, ⟨by omega, by omega⟩, rfl⟩
      · rw [if_neg h1, List.append_nil]
        exact ⟨⟨by omega, by omega⟩, rfl⟩) (by
      dsimp only
      unfold gcirc_l1
      rw [e, if_neg (by omega), take_len]
      rfl)
  simpa using this
/-! ### The document's order -/
/-! ### A way -/
/-- The step from n to k: to one from which it is least far, the first of these. -/
def Grd (l : List (Nat → Int)) (b n k : Int) : Prop := ∃ best, mfind ieq (gfar_F l b) k = some best ∧ (∀ y, Adj l n y → ∀ j, mfind ieq (gfar_F l b) y = some j → best ≤ j) ∧ (∀ y, Adj l n y → mfind ieq (gfar_F l b) y = some best → k ≤ y)
structure WayI (l : List (Nat → Int)) (a b : Int) (w : List Int) : Prop where
  len : 2 ≤ w.length
  fst : w[0]! = a
  lst : w[w.length - 1]! = b
  adj : ∀ k, k + 1 < w.length → Adj l (w[k]!) (w[k + 1]!)
  mid : ∀ k, 0 < k → k + 1 < w.length → w[k]! ≠ b
  top : w.length ≤ 2 * l.length + 3
  gr : ∀ k, k + 1 < w.length → Grd l b (w[k]!) (w[k + 1]!)
def WayOk (l : List (Nat → Int)) (a b : Int) (w : List Int) : Prop := (Rt l a b → WayI l a b w) ∧ (¬ Rt l a b → w = [])
theorem app_l {w : List Int} {x : Int} {k : Nat} (h : k < w.length) : (w ++ [x])[k]! = w[k]! := by
  rw [getElem!_pos (w ++ [x]) k (by simp; omega), getElem!_pos w k h, List.getElem_append_left h]
theorem app_r (w : List Int) (x : Int) : (w ++ [x])[w.length]! = x := by
  rw [getElem!_pos (w ++ [x]) w.length (by simp)]
  simp
theorem gway_best (l : List (Nat → Int)) (b n : Int) (hl : l.length ≤ 100000) (hF : FarOk l b (gfar_F l b)) (hy : ∃ y, Adj l n y ∧ mhas ieq (gfar_F l b) y = true) :
    ∃ best, Wh (fun (s : Int × Int) (o : (Int × Int) ⊕ (Int)) => gway_l2 l b n s.1 s.2 o) (((-1), 0) : Int × Int) best ∧ 0 ≤ best ∧ (∃ y ∈ gnext_F l n, mfind ieq (gfar_F l b) y = some best) ∧ ∀ y ∈ gnext_F l n, ∀ k, mfind ieq (gfar_F l b) y = some k → best ≤ k := by
  have hg := len_gnext l n
  refine (Wh.by (f := fun (s : Int × Int) (o : (Int × Int) ⊕ (Int)) => gway_l2 l b n s.1 s.2 o) (s := ((-1), 0)) (fun (s : Int × Int) => 0 ≤ s.2 ∧ s.2 ≤ (gnext_F l n).length ∧ ((s.1 = -1 ∧ ∀ j : Nat, (j : Int) < s.2 → mfind ieq (gfar_F l b) ((gnext_F l n)[j]!) = none) ∨ (0 ≤ s.1 ∧ (∃ y ∈ gnext_F l n, mfind ieq (gfar_F l b) y = some s.1) ∧ ∀ j : Nat, (j : Int) < s.2 → ∀ k, mfind ieq (gfar_F l b) ((gnext_F l n)[j]!) = some k → s.1 ≤ k))) (fun s => (((gnext_F l n).length : Int) - s.2).toNat) (fun best => 0 ≤ best ∧ (∃ y ∈ gnext_F l n, mfind ieq (gfar_F l b) y = some best) ∧ ∀ y ∈ gnext_F l n, ∀ k, mfind ieq (gfar_F l b) y = some k → best ≤ k) ⟨by simp, by simp, .inl ⟨rfl, fun j hj => by simp only at hj; omega⟩⟩ ?_)
  rintro ⟨best, i⟩ ⟨i0, i1, hB⟩
  simp only at i0 i1 hB
  by_cases hi : i < (gnext_F l n).length
  · have hi' : 0 ≤ i ∧ i < (gnext_F l n).length := ⟨i0, hi⟩
    have hmem := at_mem' hi'
    refine .inl ⟨(_, i + 1), (by
      show gway_l2 l b n best i _
      unfold gway_l2
      rw [if_pos hi]
      exact ⟨hi', ⟨by omega, by omega⟩, rfl⟩), ⟨by simp only; omega, by simp only; omega, ?_⟩, by simp only; omega⟩
    simp only
    rw [mhas_mfind, mget_mfind]
    have hj : ∀ j : Nat, (j : Int) < i + 1 → (j : Int) < i ∨ j = i.toNat := fun j h => by omega
    cases hk : mfind ieq (gfar_F l b) ((gnext_F l n)[i.toNat]!) with
    | none =>
      rw [if_neg (by simp)]
      rcases hB with ⟨h1, h2⟩ | ⟨h1, h2, h3⟩
      · exact .inl ⟨h1, fun j hjl => (hj j hjl).elim (h2 j) fun e => by rw [e]; exact hk⟩
      · exact .inr ⟨h1, h2, fun j hjl k hjk => (hj j hjl).elim (fun h => h3 j h k hjk) fun e => by rw [e, hk] at hjk; cases hjk⟩
    | some v =>
      have hv := (hF.v _ v hk).1
      simp only [Option.isSome_some, Option.getD_some, Bool.true_and, Bool.or_eq_true, decide_eq_true_eq]
      rcases hB with ⟨h1, h2⟩ | ⟨h1, h2, h3⟩
      · rw [if_pos (.inl (by omega))]
        refine .inr ⟨hv, ⟨_, hmem, hk⟩, fun j hjl k hjk => (hj j hjl).elim (fun h => by rw [h2 j h] at hjk; cases hjk) fun e => ?_⟩
        rw [e, hk] at hjk
        cases hjk
        exact Int.le_refl _
      · by_cases hlt : v < best
        · rw [if_pos (.inr hlt)]
          refine .inr ⟨hv, ⟨_, hmem, hk⟩, fun j hjl k hjk => (hj j hjl).elim (fun h => by have := h3 j h k hjk; omega) fun e => ?_⟩
          rw [e, hk] at hjk
          cases hjk
          exact Int.le_refl _
        · rw [if_neg (by omega)]
          refine .inr ⟨h1, h2, fun j hjl k hjk => (hj j hjl).elim (fun h => h3 j h k hjk) fun e => ?_⟩
          rw [e, hk] at hjk
          cases hjk
          omega
  · obtain rfl : i = (gnext_F l n).length := by omega
    refine .inr ⟨best, (by
      show gway_l2 l b n best ((gnext_F l n).length : Int) _
      unfold gway_l2
      rw [if_neg (by omega)]), ?_⟩
    have hat : ∀ y ∈ gnext_F l n, ∃ j : Nat, j < (gnext_F l n).length ∧ (gnext_F l n)[j]! = y := fun y hy => by
      obtain ⟨j, hj, rfl⟩ := List.getElem_of_mem hy
      exact ⟨j, hj, getElem!_pos _ j hj⟩
    rcases hB with ⟨h1, h2⟩ | ⟨h1, h2, h3⟩
    · obtain ⟨y, hy1, hy2⟩ := hy
      obtain ⟨j, hj, rfl⟩ := hat y (mem_gnext.2 hy1)
      rw [mhas_mfind, h2 j (by omega)] at hy2
      cases hy2
    · refine ⟨h1, h2, fun y hy k hk => ?_⟩
      obtain ⟨j, hj, rfl⟩ := hat y hy
      exact h3 j (by omega) k hk
theorem gway_pick (l : List (Nat → Int)) (b n best : Int) (hl : l.length ≤ 100000) (hy : ∃ y ∈ gnext_F l n, mfind ieq (gfar_F l b) y = some best) :
    ∃ k, Wh (fun (s : Int × Int) (o : (Int × Int) ⊕ (Int)) => gway_l3 l b n best s.1 s.2 o) ((n, 0) : Int × Int) k ∧ k ∈ gnext_F l n ∧ mfind ieq (gfar_F l b) k = some best ∧ ∀ y ∈ gnext_F l n, mfind ieq (gfar_F l b) y = some best → k ≤ y := by
  have hg := len_gnext l n
  refine (Wh.by (f := fun (s : Int × Int) (o : (Int × Int) ⊕ (Int)) => gway_l3 l b n best s.1 s.2 o) (s := (n, 0)) (fun (s : Int × Int) => 0 ≤ s.2 ∧ s.2 ≤ (gnext_F l n).length ∧ ∀ j : Nat, (j : Int) < s.2 → mfind ieq (gfar_F l b) ((gnext_F l n)[j]!) ≠ some best) (fun s => (((gnext_F l n).length : Int) - s.2).toNat) (fun k => k ∈ gnext_F l n ∧ mfind ieq (gfar_F l b) k = some best ∧ ∀ y ∈ gnext_F l n, mfind ieq (gfar_F l b) y = some best → k ≤ y) ⟨by simp, by simp, fun j hj => by simp only at hj; omega⟩ ?_)
  rintro ⟨m, i⟩ ⟨i0, i1, hno⟩
  simp only at i0 i1 hno
  by_cases hi : i < (gnext_F l n).length
  · have hi' : 0 ≤ i ∧ i < (gnext_F l n).length := ⟨i0, hi⟩
    have hmem := at_mem' hi'
    by_cases hk : mfind ieq (gfar_F l b) ((gnext_F l n)[i.toNat]!) = some best
    · refine .inr ⟨(gnext_F l n)[i.toNat]!, (by
        show gway_l3 l b n best m i _
        unfold gway_l3
        rw [if_pos hi, mhas_mfind, mget_mfind, hk, if_pos (by simp)]
        exact ⟨hi', rfl⟩), hmem, hk, fun y hy hyb => ?_⟩
      obtain ⟨j, hj, rfl⟩ := List.getElem_of_mem hy
      by_cases hji : (j : Int) < i
      · exact absurd (by rw [getElem!_pos (gnext_F l n) j hj]; exact hyb) (hno j hji)
      · by_cases hje : j = i.toNat
        · subst hje
          rw [getElem!_pos (gnext_F l n) i.toNat hj]; exact Int.le_refl _
        · have hr : (gnext_F l n).Pairwise fun a b => a < b := rising_rising _
          have := List.pairwise_iff_getElem.1 hr i.toNat j (by omega) hj (by omega)
          rw [getElem!_pos (gnext_F l n) i.toNat (by omega)]; omega
    · refine .inl ⟨(m, i + 1), (by
        show gway_l3 l b n best m i _
        unfold gway_l3
        rw [if_pos hi, mhas_mfind, mget_mfind, if_neg (by
          intro h
          cases hv : mfind ieq (gfar_F l b) ((gnext_F l n)[i.toNat]!) with
          | none => rw [hv] at h; simp at h
          | some v =>
            rw [hv] at h
            simp at h
            exact hk (by rw [hv, h]))]
        exact ⟨hi', ⟨by omega, by omega⟩, rfl⟩), ⟨by simp only; omega, by simp only; omega, fun j hj => ?_⟩, by simp only; omega⟩
      simp only at hj
      by_cases hji : (j : Int) = i
      · rw [show j = i.toNat by omega]; exact hk
      · exact hno j (by omega)
  · obtain ⟨y, hy1, hy2⟩ := hy
    obtain ⟨j, hj, rfl⟩ := List.getElem_of_mem hy1
    exact absurd (by rw [getElem!_pos (gnext_F l n) j hj]; exact hy2) (hno j (by omega))
structure WalkI (l : List (Nat → Int)) (a b : Int) (s : List Int × Int) : Prop where
  len : 1 ≤ s.1.length
  fst : s.1[0]! = a
  lst : s.1[s.1.length - 1]! = s.2
  adj : ∀ k, k + 1 < s.1.length → Adj l (s.1[k]!) (s.1[k + 1]!)
  mid : ∀ k, 0 < k → k + 1 < s.1.length → s.1[k]! ≠ b
  one : s.1.length = 1 → s.2 = a
  gr : ∀ k, k + 1 < s.1.length → Grd l b (s.1[k]!) (s.1[k + 1]!)
  far : s.1.length ≠ 1 → ∃ k, mfind ieq (gfar_F l b) s.2 = some k ∧ (s.1.length : Int) + k ≤ (gfar_F l b).length + 1
def gway_P (l : List (Nat → Int)) (_ _ : Int) : Prop := Edges l
theorem gway_ex (l : List (Nat → Int)) (a b : Int) (h : gway_P l a b) : ∃ w, gway_S l a b w ∧ WayOk l a b w := by
  have hF := gfar_is l b h
  have hl := h.1
  unfold gway_S
  have hP : hasI_P (greach_F l a) b := by unfold hasI_P; have := len_greach l a; omega
  by_cases hr : Rt l a b
  · suffices hs : ∃ w, Wh (fun (s : (List Int) × Int) (o : ((List Int) × Int) ⊕ ((List Int))) => gway_l1 l b s.1 s.2 o) ((([a] : List Int), a) : (List Int) × Int) w ∧ WayI l a b w by
      obtain ⟨w, hw, hI⟩ := hs
      refine ⟨w, ⟨h, hP, ?_⟩, fun _ => hI, fun hn => absurd hr hn⟩
      rw [if_pos (by unfold hasI_F; exact decide_eq_true (mem_greach.2 hr))]
      exact ⟨h, w, hw, rfl⟩
    refine Wh.by (WalkI l a b) (fun s => if s.1.length = 1 then (gfar_F l b).length + 1 else (mget ieq (gfar_F l b) s.2 0).toNat) (WayI l a b) ⟨by simp, rfl, rfl, fun k hk => by simp at hk, fun k h1 hk => by simp at hk, fun _ => rfl, fun k hk => by simp at hk, fun h => absurd rfl h⟩ ?_
    rintro ⟨out, n⟩ ⟨len, fst, lst, adj, mid, one, gr, far⟩
    simp only at len fst lst adj mid one gr far
    by_cases hend : n = b ∧ out.length ≠ 1
    · obtain ⟨k, hk, hkl⟩ := far hend.2
      have hkv := (hF.v _ k hk).1
      have hn := hF.n
      refine .inr ⟨out, ?_, by omega, fst, by rw [lst, hend.1], adj, mid, by omega, gr⟩
      show gway_l1 l b out n _
      unfold gway_l1
      rw [if_neg (by
        simp only [Bool.or_eq_true, Bool.not_eq_true', decide_eq_true_eq, decide_eq_false_iff_not]
        rintro (h1 | h1)
        · exact h1 hend.1
        · exact hend.2 (by omega))]
    · have hgo : ∃ y, Adj l n y ∧ mhas ieq (gfar_F l b) y = true ∧ (out.length ≠ 1 → ∃ k, mfind ieq (gfar_F l b) n = some k ∧ mfind ieq (gfar_F l b) y = some (k - 1)) := by
        by_cases h1 : out.length = 1
        · obtain ⟨c, hc1, hc2⟩ := hr.first
          refine ⟨c, by rw [one h1]; exact hc1, ?_, fun h => absurd h1 h⟩
          rcases hc2 with rfl | hc2
          · rw [mhas_mfind, hF.z]; rfl
          · exact hF.rt _ hc2
        · obtain ⟨k, hk, _⟩ := far h1
          obtain ⟨y, hy1, hy2⟩ := (hF.v _ k hk).2.2 (fun e => hend ⟨e, h1⟩)
          exact ⟨y, hy1, by rw [mhas_mfind, hy2]; rfl, fun _ => ⟨k, hk, hy2⟩⟩
      obtain ⟨y, hy1, hy2, hy3⟩ := hgo
      obtain ⟨best, hw2, hb0, hb1, hb2⟩ := gway_best l b n hl hF ⟨y, hy1, hy2⟩
      obtain ⟨k, hw3, hk1, hk2, hk3⟩ := gway_pick l b n best hl hb1
      have hka : Adj l n k := mem_gnext.1 hk1
      have hkv := hF.v _ best hk2
      have hn := hF.n
      have hout : out.length ≤ 2 * l.length + 3 := by
        by_cases h1 : out.length = 1
        · omega
        · obtain ⟨k', hk', hkl⟩ := far h1
          have := (hF.v _ k' hk').1
          omega
      have hlen' : (out ++ [k]).length = out.length + 1 := by simp
      refine .inl ⟨(out ++ [k], k), ?_, ⟨by simp only [hlen']; omega, by simp only; rw [app_l (by omega)]; exact fst, by simp only [hlen', Nat.add_sub_cancel]; exact app_r out k, fun j hj => ?_, fun j h0 hj => ?_, fun h => by simp only [hlen'] at h; omega, fun j hj => ?_, fun _ => ⟨best, hk2, ?_⟩⟩, ?_⟩
      · show gway_l1 l b out n _
        unfold gway_l1
        rw [if_pos (by
          simp only [Bool.or_eq_true, Bool.not_eq_true', decide_eq_true_eq, decide_eq_false_iff_not]
          by_cases h1 : out.length = 1
          · exact .inr (by omega)
          · exact .inl fun e => hend ⟨e, h1⟩)]
        refine ⟨h, best, hw2, ?_⟩
        unfold gway_k2a
        refine ⟨h, k, hw3, ?_⟩
        unfold gway_k3a
        exact ⟨by omega, rfl⟩
      · simp only [hlen'] at hj ⊢
        by_cases hjl : j + 1 < out.length
        · rw [app_l (by omega), app_l hjl]; exact adj j hjl
        · rw [app_l (by omega), show j + 1 = out.length by omega, app_r, show j = out.length - 1 by omega, lst]
          exact hka
      · simp only [hlen'] at hj ⊢
        rw [app_l (by omega)]
        by_cases hjl : j + 1 < out.length
        · exact mid j h0 hjl
        · rw [show j = out.length - 1 by omega, lst]
          exact fun e => hend ⟨e, by omega⟩
      · simp only [hlen'] at hj ⊢
        by_cases hjl : j + 1 < out.length
        · rw [app_l (by omega), app_l hjl]; exact gr j hjl
        · rw [app_l (by omega), show j + 1 = out.length by omega, app_r, show j = out.length - 1 by omega, lst]
          exact ⟨best, hk2, fun y hy v hv => hb2 y (mem_gnext.2 hy) v hv, fun y hy hv => hk3 y (mem_gnext.2 hy) hv⟩
      · simp only [hlen']
        by_cases h1 : out.length = 1
        · omega
        · obtain ⟨k', hk', hkl⟩ := far h1
          obtain ⟨k'', hk'', hy4⟩ := hy3 h1
          rw [hk'] at hk''
          cases hk''
          have := hb2 y (mem_gnext.2 hy1) _ hy4
          omega
      · simp only [hlen']
        rw [if_neg (by omega), mget_mfind, hk2]
        simp only [Option.getD_some]
        by_cases h1 : out.length = 1
        · rw [if_pos h1]; omega
        · rw [if_neg h1, mget_mfind]
          obtain ⟨k'', hk'', hy4⟩ := hy3 h1
          rw [hk'']
          have := hb2 y (mem_gnext.2 hy1) _ hy4
          simp only [Option.getD_some]
          omega
  · refine ⟨[], ⟨h, hP, ?_⟩, fun h => absurd h hr, fun _ => rfl⟩
    rw [if_neg (by unfold hasI_F; rw [decide_eq_true_eq, mem_greach]; exact hr)]
noncomputable def gway_F (l : List (Nat → Int)) (a b : Int) : List Int := Classical.epsilon fun w => gway_S l a b w ∧ WayOk l a b w
theorem gway_ok (l : List (Nat → Int)) (a b : Int) (h : gway_P l a b) : gway_S l a b (gway_F l a b) := (Classical.epsilon_spec (gway_ex l a b h)).1
theorem gway_is (l : List (Nat → Int)) (a b : Int) (h : Edges l) : WayOk l a b (gway_F l a b) := (Classical.epsilon_spec (gway_ex l a b h)).2
end Go.E
/- The engine, part 26: slices whose elements hold slices. -/
namespace Go.E
open Go
/-- An element's cells, as they are. -/
def rawc (x : Nat → Value) (i : Nat) : Value := x i
/-- What is said of an element, of the blocks in which its own slices lie. -/
def MonoR {α : Type} (R : GH → α → (Nat → Value) → Prop) : Prop := ∀ A A' x f, (∀ y ∈ A, y ∈ A') → R A x f → R A' x f
def NJ {α : Type} [Inhabited α] (T : TypeId) (s : Nat) (R : GH → α → (Nat → Value) → Prop) (B : GH) (v : Value) (l : List α) : Prop :=
  ∃ (raws : List (Nat → Value)) (B1 A : GH), B.Perm (B1 ++ A) ∧ OJ T s rawc B1 v raws ∧ raws.length = l.length ∧ ∀ i, i < l.length → R A (l[i]!) (raws[i]!)
section
variable {α : Type} [Inhabited α] {w0 w : World} {T : TypeId} {s : Nat} {R : GH → α → (Nat → Value) → Prop} {B H : GH} {v : Value} {l : List α}
noncomputable def NJ.raw (h : NJ T s R B v l) : List (Nat → Value) := Classical.choose h
theorem NJ.rawS (h : NJ T s R B v l) : ∃ (B1 A : GH), B.Perm (B1 ++ A) ∧ OJ T s rawc B1 v h.raw ∧ h.raw.length = l.length ∧ ∀ i, i < l.length → R A (l[i]!) (h.raw[i]!) := Classical.choose_spec h
theorem NJ.nil : NJ T s R B (.slice none 0 0) ([] : List α) := ⟨[], [], B, List.Perm.refl _, OJ.nil, rfl, fun i h => by simp at h⟩
theorem NJ.len (h : NJ T s R B v l) : h.raw.length = l.length := let ⟨_, _, _, _, h3, _⟩ := h.rawS; h3
theorem NJ.val (h : NJ T s R B v l) : ∃ p cap, v = .slice p l.length cap := by
  obtain ⟨raws, B1, A, hp, hO, hl, hA⟩ := h
  rw [← hl]; exact hO.val
theorem NJ.oj (h : NJ T s R B v l) : OJ T s rawc B v h.raw := by
  obtain ⟨B1, A, hp, hO, hl, hA⟩ := h.rawS
  exact hO.mono fun x hx => hp.mem_iff.2 (List.mem_append_left _ hx)
theorem NJ.sl (h : NJ T s R B v l) (hs : St w0 H w) (hB : ∀ x ∈ B, x ∈ H) : SL w s rawc v h.raw := h.oj.sl hs hB
theorem NJ.at (h : NJ T s R B v l) (hm : MonoR R) {i : Nat} (hi : i < l.length) : R B (l[i]!) (h.raw[i]!) := by
  obtain ⟨B1, A, hp, hO, hl, hA⟩ := h.rawS
  exact hm A B _ _ (fun y hy => hp.mem_iff.2 (List.mem_append_right _ hy)) (hA i hi)
theorem NJ.ix (h : NJ T s R B v l) {i : Int} (hi : 0 ≤ i ∧ i < (l.length : Int)) : 0 ≤ i ∧ i < (h.raw.length : Int) := by rw [h.len]; exact hi
/-- A literal of one element. -/
theorem NJ.one {b N : Nat} {F f : Nat → Value} {S : GH} {x : α} {o : Obj} (ho : o = BK N F T) (hs : 1 * s ≤ N) (hF : ∀ i, i < 1 * s → F i = eG s rawc [f] i) (hR : R S x f) : NJ T s R ([(b, o)] ++ S) (.slice (some ⟨b, 0, none⟩) 1 1) [x] := by
  subst ho
  refine ⟨[f], [(b, BK N F T)], S, List.Perm.refl _, OJ.lit (List.mem_singleton.2 rfl) rfl hs (by simp [maxLen]) hF, rfl, fun i hi => ?_⟩
  simp only [List.length_singleton] at hi
  obtain rfl : i = 0 := by omega
  exact hR
end
/-- Slices, as elements. -/
def rL {β : Type} (T : TypeId) (s : Nat) (c : β → Nat → Value) (A : GH) (l : List β) (f : Nat → Value) : Prop := OJ T s c A (f 0) l
theorem rL.oj {β : Type} {T : TypeId} {s : Nat} {c : β → Nat → Value} {A : GH} {l : List β} {f : Nat → Value} (h : rL T s c A l f) : OJ T s c A (f 0) l := h
theorem rL.mono {β : Type} {T : TypeId} {s : Nat} {c : β → Nat → Value} : MonoR (rL T s c) := fun _ _ _ _ hs h => OJ.mono h hs
section
variable {P : Program} {w0 : World} {env : Env} {H : GH}
variable {d : Option Nat} {ty : TypeId} {pos : String} {af : Array Edge} {g : Option (Nat × Bool)} {t : TypeId} {s : Nat}
/-- append, of raw elements. -/
theorem o_appW {e : TypeId} {by_ : Nat} {z : Value} {B : GH} {v u : Value} {l l' : List (Nat → Value)} {ts : Array TypeId} {args : Array Operand} (ht : App P t e s by_ z) (hts : ts = #[t, t])
    (hargs : evL env args.toList = some [v, u]) (hown : OJ e s rawc B v l) (hsrc : ∀ w, St w0 (B ++ H) w → SL w s rawc u l') (h1 : ∀ i, i < l'.length * s → (eG s rawc l' i).oneCell' = true) (hby : (l.length + l'.length) * by_ ≤ 140737488355328) (hmax : l.length + l'.length ≤ maxLen) :
    OT P w0 env (B ++ H) ⟨d, .call ⟨.builtin .append, args, ts⟩, ty, pos, af, g⟩ (fun v' H' => ∃ B', H' = B' ++ H ∧ Cov w0 B B' ∧ OJ e s rawc B' v' (l ++ l')) := by
  intro a w ha hs
  obtain ⟨p, cap, hu, _, _, hpn, hsrc0⟩ := hsrc w hs
  subst hu
  have hspos : 0 < s := by simpa [Nat.blt_eq] using ht.pos
  have hsrc2 : ∀ w', St w0 (B ++ H) w' → SrcAt w' p (l'.length * s) (eG s rawc l') := by
    intro w' hs'
    obtain ⟨p', cap', hu', _, _, _, h⟩ := hsrc w' hs'
    cases hu'
    exact h
  have hj : Oj e s B v l.length (eG s rawc l) := by
    rcases hown with ⟨h1, h2⟩ | h
    · exact .inl ⟨h1, by rw [h2]; rfl⟩
    · exact .inr h
  have := o_appj (d := d) (ty := ty) (pos := pos) (af := af) (g := g) (B := B) (H := H) (n := l.length) (m := l'.length) ht hts hargs hj hsrc2 h1 hmax hby a w ha hs
  refine wp_mono2 ?_ (fun _ _ _ h => h.elim) this
  rintro a' w' ⟨v', H', rfl, hs', B', rfl, hcov, hown'⟩
  refine ⟨v', _, rfl, hs', B', rfl, hcov, ?_⟩
  have hx := hown'.ext (eG_app hspos rawc l l')
  rcases hx with ⟨h1, h2⟩ | ⟨b, o, cp, N, F, h1, h2⟩
  · exact .inl ⟨h1, by rw [← List.length_append] at h2; exact List.length_eq_zero_iff.1 h2⟩
  · exact .inr ⟨b, o, cp, N, F, h1, by rw [List.length_append]; exact h2⟩
end
section
variable {α : Type} [Inhabited α] {P : Program} {w0 : World} {env : Env}
variable {d : Option Nat} {ty : TypeId} {pos : String} {af : Array Edge} {g : Option (Nat × Bool)} {t : TypeId} {s : Nat} {R : GH → α → (Nat → Value) → Prop}
theorem cov_in {B B1 A B1' S : GH} (hp : B.Perm (B1 ++ A)) (hc : Cov w0 B1 B1') (hS : Cov w0 [] S) : Cov w0 B (B1' ++ (A ++ S)) := by
  have hk : ∀ k, k ∈ keys B ↔ k ∈ keys B1 ∨ k ∈ keys A := fun k => by
    have := (hp.map (·.1)).mem_iff (a := k)
    rw [← List.mem_append, ← keys_append]
    exact this
  refine ⟨fun k h => ?_, fun k h => ?_⟩
  · simp only [keys_append, List.mem_append] at h
    rcases h with h | h | h
    · exact (hc.1 k h).imp (fun h => (hk k).2 (.inl h)) id
    · exact .inl ((hk k).2 (.inr h))
    · exact .inr (hS.fresh k h)
  · simp only [keys_append, List.mem_append]
    exact ((hk k).1 h).imp (hc.2 k) .inl
/-- append of one element that holds slices: the segments in which these lie come in. -/
theorem o_appN {e : TypeId} {by_ : Nat} {z : Value} {B : GH} {Ss Rs : List GH} {v u : Value} {l : List α} {x : α} {f : Nat → Value} {ts : Array TypeId} {args : Array Operand} (ht : App P t e s by_ z) (hts : ts = #[t, t])
    (hargs : evL env args.toList = some [v, u]) (hN : NJ e s R B v l) (hm : MonoR R) (hR : R (cat Ss) x f) (hS : Cov w0 [] (cat Ss)) (hsrc : ∀ w, St w0 (cat (B :: (Ss ++ Rs))) w → SL w s rawc u [f]) (h1 : ∀ i, i < s → (f i).oneCell' = true) (hby : (l.length + 1) * by_ ≤ 140737488355328) (hmax : l.length + 1 ≤ maxLen) :
    OT P w0 env (cat (B :: (Ss ++ Rs))) ⟨d, .call ⟨.builtin .append, args, ts⟩, ty, pos, af, g⟩ (fun v' H' => ∃ B', H' = cat (B' :: Rs) ∧ Cov w0 B B' ∧ NJ e s R B' v' (l ++ [x]) ∧ ∀ y ∈ cat Ss, y ∈ B') := by
  obtain ⟨raws, B1, A, hp, hO, hl, hA⟩ := hN
  have e1 : ∀ w, St w0 (cat (B :: (Ss ++ Rs))) w ↔ St w0 (B1 ++ (A ++ (cat Ss ++ cat Rs))) w := by
    intro w
    have hperm : (cat (B :: (Ss ++ Rs))).Perm (B1 ++ (A ++ (cat Ss ++ cat Rs))) := by
      show (B ++ cat (Ss ++ Rs)).Perm _
      rw [cat_append, ← List.append_assoc B1 A]
      exact List.Perm.append_right _ hp
    exact ⟨fun h => h.perm hperm, fun h => h.perm hperm.symm⟩
  have hspos : 0 < s := by simpa [Nat.blt_eq] using ht.pos
  intro a w ha hs
  have h1' : ∀ i, i < [f].length * s → (eG s rawc [f] i).oneCell' = true := by
    intro i hi
    simp only [List.length_singleton, Nat.one_mul] at hi
    have : i / s = 0 := Nat.div_eq_of_lt hi
    simp only [eG, this, List.getElem?_cons_zero, Option.elim_some, rawc, Nat.mod_eq_of_lt hi]
    exact h1 i hi
  have := o_appW (d := d) (ty := ty) (pos := pos) (af := af) (g := g) (H := A ++ (cat Ss ++ cat Rs)) (l := raws) (l' := [f]) ht hts hargs hO (fun w hw => hsrc w ((e1 w).2 hw)) h1' (by rw [hl]; exact hby) (by rw [hl]; exact hmax) a w ha ((e1 w).1 hs)
  refine wp_mono2 ?_ (fun _ _ _ h => h.elim) this
  rintro a' w' ⟨v', H', rfl, hs', B1', rfl, hcov, hO'⟩
  refine ⟨v', cat ((B1' ++ (A ++ cat Ss)) :: Rs), rfl, ?_, _, rfl, cov_in hp hcov hS, ⟨raws ++ [f], B1', A ++ cat Ss, List.Perm.refl _, hO', by simp [hl], fun i hi => ?_⟩, fun y hy => by simp [hy]⟩
  · show St w0 ((B1' ++ (A ++ cat Ss)) ++ cat Rs) w'
    simpa only [List.append_assoc] using hs'
  · by_cases hlt : i < l.length
    · have e2 : (l ++ [x])[i]! = l[i]! := by simp [List.getElem?_append_left hlt]
      have e3 : (raws ++ [f])[i]! = raws[i]! := by simp [List.getElem?_append_left (show i < raws.length by omega)]
      rw [e2, e3]
      exact hm A _ _ _ (fun y hy => List.mem_append_left _ hy) (hA i hlt)
    · simp only [List.length_append, List.length_singleton] at hi
      obtain rfl : i = l.length := by omega
      have e2 : (l ++ [x])[l.length]! = x := by simp
      have e3 : (raws ++ [f])[l.length]! = f := by rw [← hl]; simp
      rw [e2, e3]
      exact hm _ _ _ _ (fun y hy => List.mem_append_right _ hy) hR
end
end Go.E
/- What functions of the program say, as relations. -/
namespace Go.E
open Go
def wayR_l3 (l0 : (List (Nat → Int))) (to2 : Int) (rows8 : (List (List Int))) (i11 : Int) (met9aa : (List Int)) (more10a : (List (List Int))) (k12 : Int) (o : ((List Int) × (List (List Int)) × Int) ⊕ (((List Int) × (List (List Int))) ⊕ ((List Int)))) : Prop :=
  if k12 < ((nodesR_F l0).length : Int) then
    (0 ≤ i11 ∧ i11 < rows8.length) ∧ (
    (inI64 (((rows8[i11.toNat]!).length : Int) - 1)) ∧ (0 ≤ ((rows8[i11.toNat]!).length : Int) - 1 ∧ ((rows8[i11.toNat]!).length : Int) - 1 < (rows8[i11.toNat]!).length) ∧ (0 ≤ k12 ∧ k12 < (nodesR_F l0).length) ∧ (edgeR_P l0 ((rows8[i11.toNat]!)[(((rows8[i11.toNat]!).length : Int) - 1).toNat]!) ((nodesR_F l0)[k12.toNat]!)) ∧ (((!((edgeR_F l0 ((rows8[i11.toNat]!)[(((rows8[i11.toNat]!).length : Int) - 1).toNat]!) ((nodesR_F l0)[k12.toNat]!)))) = false) → 0 ≤ k12 ∧ k12 < (nodesR_F l0).length) ∧ (((!((edgeR_F l0 ((rows8[i11.toNat]!)[(((rows8[i11.toNat]!).length : Int) - 1).toNat]!) ((nodesR_F l0)[k12.toNat]!)))) = false) → hasR_P met9aa ((nodesR_F l0)[k12.toNat]!)) ∧ (
    if ((!((edgeR_F l0 ((rows8[i11.toNat]!)[(((rows8[i11.toNat]!).length : Int) - 1).toNat]!) ((nodesR_F l0)[k12.toNat]!)))) || ((hasR_F met9aa ((nodesR_F l0)[k12.toNat]!)))) = true then
      (inI64 (k12 + 1)) ∧ (
      o = (.inl (met9aa, more10a, k12 + 1)))
    else
      (
        (0 ≤ k12 ∧ k12 < (nodesR_F l0).length) ∧ (
        ((0 + (rows8[i11.toNat]!).length) * 8 ≤ 140737488355328) ∧ (
        ((([] ++ (rows8[i11.toNat]!)).length + 1) * 8 ≤ 140737488355328) ∧ (
        True)))) ∧ (
      (0 ≤ k12 ∧ k12 < (nodesR_F l0).length) ∧ (
      if (nodesR_F l0)[k12.toNat]! = to2 then
        o = (.inr (.inr (([] ++ (rows8[i11.toNat]!)) ++ [(nodesR_F l0)[k12.toNat]!])))
      else
        (0 ≤ k12 ∧ k12 < (nodesR_F l0).length) ∧ (
        ((met9aa.length + 1) * 8 ≤ 140737488355328) ∧ (
        ((more10a.length + 1) * 24 ≤ 140737488355328) ∧ (
        (inI64 (k12 + 1)) ∧ (
        o = (.inl ((met9aa ++ [(nodesR_F l0)[k12.toNat]!]), (more10a ++ [(([] ++ (rows8[i11.toNat]!)) ++ [(nodesR_F l0)[k12.toNat]!])]), k12 + 1))))))))))
  else
    o = (.inr (.inl (met9aa, more10a)))
def wayR_k3a (i11 : Int) (met9aa : (List Int)) (more10a : (List (List Int))) (o : ((List Int) × (List (List Int)) × Int) ⊕ (((List Int) × (List (List Int))) ⊕ ((List Int)))) : Prop :=
  (inI64 (i11 + 1)) ∧ (
  o = (.inl (met9aa, more10a, i11 + 1)))
def wayR_k3b (x6 : (List Int)) (o : ((List Int) × (List (List Int)) × Int) ⊕ (((List Int) × (List (List Int))) ⊕ ((List Int)))) : Prop :=
  o = (.inr (.inr x6))
def wayR_l2 (l0 : (List (Nat → Int))) (to2 : Int) (rows8 : (List (List Int))) (met9a : (List Int)) (more10 : (List (List Int))) (i11 : Int) (o : ((List Int) × (List (List Int)) × Int) ⊕ (((List Int) × (List (List Int))) ⊕ ((List Int)))) : Prop :=
  if i11 < (rows8.length : Int) then
    ∃ x : ((List Int) × (List (List Int))) ⊕ ((List Int)), Wh (fun (s : (List Int) × (List (List Int)) × Int) (o : ((List Int) × (List (List Int)) × Int) ⊕ (((List Int) × (List (List Int))) ⊕ ((List Int)))) => wayR_l3 l0 to2 rows8 i11 s.1 s.2.1 s.2.2 o) ((met9a, more10, 0) : (List Int) × (List (List Int)) × Int) x ∧ (match x with | .inl (met9aa, more10a) => wayR_k3a i11 met9aa more10a o | .inr x6 => wayR_k3b x6 o)
  else
    o = (.inr (.inl (met9a, more10)))
def wayR_k2a (met9a : (List Int)) (more10 : (List (List Int))) (o : ((List (List Int)) × (List Int)) ⊕ ((Unit) ⊕ ((List Int)))) : Prop :=
  o = (.inl (more10, met9a))
def wayR_k2b (x6 : (List Int)) (o : ((List (List Int)) × (List Int)) ⊕ ((Unit) ⊕ ((List Int)))) : Prop :=
  o = (.inr (.inr x6))
def wayR_l1 (l0 : (List (Nat → Int))) (to2 : Int) (rows8 : (List (List Int))) (met9 : (List Int)) (o : ((List (List Int)) × (List Int)) ⊕ ((Unit) ⊕ ((List Int)))) : Prop :=
  if 0 < (rows8.length : Int) then
    ∃ x : ((List Int) × (List (List Int))) ⊕ ((List Int)), Wh (fun (s : (List Int) × (List (List Int)) × Int) (o : ((List Int) × (List (List Int)) × Int) ⊕ (((List Int) × (List (List Int))) ⊕ ((List Int)))) => wayR_l2 l0 to2 rows8 s.1 s.2.1 s.2.2 o) ((met9, [], 0) : (List Int) × (List (List Int)) × Int) x ∧ (match x with | .inl (met9a, more10) => wayR_k2a met9a more10 o | .inr x6 => wayR_k2b x6 o)
  else
    o = (.inr (.inl ()))
def wayR_k1a (r : (List Int)) : Prop :=
  r = ([])
def wayR_k1b (x6 : (List Int)) (r : (List Int)) : Prop :=
  r = (x6)
def wayR_S (l0 : (List (Nat → Int))) (from1 : Int) (to2 : Int) (r : (List Int)) : Prop :=
  (nodesR_P l0) ∧ (
  ∃ x : (Unit) ⊕ ((List Int)), Wh (fun (s : (List (List Int)) × (List Int)) (o : ((List (List Int)) × (List Int)) ⊕ ((Unit) ⊕ ((List Int)))) => wayR_l1 l0 to2 s.1 s.2 o) (([([from1] : List Int)], []) : (List (List Int)) × (List Int)) x ∧ (match x with | .inl _ => wayR_k1a r | .inr x6 => wayR_k1b x6 r))
end Go.E
/- The least way; rows, grown one by one, come to it. -/
namespace Go.E
open Go
/-! ### Lists in order -/
/-- The first place where r and s differ. -/
def LtI (r s : List Int) : Prop := ∃ i, i < r.length ∧ (∀ t, t < i → r[t]! = s[t]!) ∧ r[i]! < s[i]!
def LeI (r s : List Int) : Prop := r = s ∨ LtI r s
theorem LtI.trans {r s u : List Int} (hl : r.length = s.length) (h : LtI r s) (k : LtI s u) : LtI r u := by
  obtain ⟨i, i1, i2, i3⟩ := h
  obtain ⟨j, j1, j2, j3⟩ := k
  by_cases hij : i < j
  · exact ⟨i, i1, fun t ht => (i2 t ht).trans (j2 t (by omega)), by rw [← j2 i hij]; exact i3⟩
  · by_cases hji : j < i
    · exact ⟨j, by omega, fun t ht => (i2 t (by omega)).trans (j2 t ht), by rw [i2 j hji]; exact j3⟩
    · obtain rfl : i = j := by omega
      exact ⟨i, i1, fun t ht => (i2 t ht).trans (j2 t ht), Int.lt_trans i3 j3⟩
theorem LtI.le_trans {r s u : List Int} (hl : r.length = s.length) (h : LtI r s) (k : LeI s u) : LtI r u := by
  rcases k with rfl | k
  · exact h
  · exact h.trans hl k
theorem LeI.trans {r s u : List Int} (hl : r.length = s.length) (h : LeI r s) (k : LeI s u) : LeI r u := by
  rcases h with rfl | h
  · exact k
  · exact .inr (h.le_trans hl k)
theorem LeI.anti {r s : List Int} (h : LeI r s) (k : LeI s r) : r = s := by
  rcases h with h | ⟨i, i1, i2, i3⟩
  · exact h
  · rcases k with k | ⟨j, j1, j2, j3⟩
    · exact k.symm
    · exfalso
      by_cases hij : i < j
      · have := j2 i hij; omega
      · by_cases hji : j < i
        · have := i2 j hji; omega
        · obtain rfl : i = j := by omega
          omega
theorem first_diff (r s : List Int) : ∀ n : Nat, (∀ t, t < n → r[t]! = s[t]!) ∨ ∃ i, i < n ∧ (∀ t, t < i → r[t]! = s[t]!) ∧ r[i]! ≠ s[i]!
  | 0 => .inl fun t ht => by omega
  | n + 1 => by
    rcases first_diff r s n with h | ⟨i, i1, i2, i3⟩
    · by_cases e : r[n]! = s[n]!
      · exact .inl fun t ht => by
          by_cases h' : t < n
          · exact h t h'
          · rw [show t = n by omega]; exact e
      · exact .inr ⟨n, by omega, h, e⟩
    · exact .inr ⟨i, by omega, i2, i3⟩
theorem ext_at {r s : List Int} (hl : r.length = s.length) (h : ∀ t, t < r.length → r[t]! = s[t]!) : r = s := by
  refine List.ext_getElem hl fun i h1 h2 => ?_
  have := h i h1
  rwa [getElem!_pos r i h1, getElem!_pos s i h2] at this
theorem LtI.app {r s : List Int} (hl : r.length = s.length) (h : LtI r s) (x y : Int) : LtI (r ++ [x]) (s ++ [y]) := by
  obtain ⟨i, i1, i2, i3⟩ := h
  exact ⟨i, by simp; omega, fun t ht => by rw [app_l (by omega), app_l (by omega)]; exact i2 t ht, by rw [app_l i1, app_l (by omega)]; exact i3⟩
theorem LeI.app {r s : List Int} (hl : r.length = s.length) (h : LeI r s) (x : Int) : LeI (r ++ [x]) (s ++ [x]) := by
  rcases h with rfl | h
  · exact .inl rfl
  · exact .inr (h.app hl x x)
theorem LtI.last (r : List Int) {x y : Int} (h : x < y) : LtI (r ++ [x]) (r ++ [y]) :=
  ⟨r.length, by simp, fun t ht => by rw [app_l ht, app_l ht], by rw [app_r, app_r]; exact h⟩
/-! ### Ways of a length -/
structure Wk (l : List (Nat → Int)) (w : List Int) (a b : Int) (d : Nat) : Prop where
  len : w.length = d + 1
  fst : w[0]! = a
  lst : w[d]! = b
  adj : ∀ k, k < d → Adj l (w[k]!) (w[k + 1]!)
/-- There is a way of length n. -/
def Rn (l : List (Nat → Int)) (a : Int) : Nat → Int → Prop
  | 0, x => x = a
  | n + 1, x => ∃ y, Rn l a n y ∧ Adj l y x
section
variable {l : List (Nat → Int)} {a b : Int}
theorem Wk.snoc {w : List Int} {x : Int} {d : Nat} (h : Wk l w a x d) {y : Int} (e : Adj l x y) : Wk l (w ++ [y]) a y (d + 1) := by
  have hl := h.len
  refine ⟨by simp [hl], by rw [app_l (by omega)]; exact h.fst, by rw [← hl]; exact app_r w y, fun k hk => ?_⟩
  by_cases hkd : k < d
  · rw [app_l (by omega), app_l (by omega)]; exact h.adj k hkd
  · obtain rfl : k = d := by omega
    rw [app_l (by omega), h.lst, ← hl, app_r]
    exact e
theorem Wk.take {w : List Int} {d : Nat} (h : Wk l w a b (d + 1)) : Wk l (w.take (d + 1)) a (w[d]!) d ∧ Adj l (w[d]!) b ∧ w = w.take (d + 1) ++ [b] := by
  have hl := h.len
  have ht : ∀ t, t < d + 1 → (w.take (d + 1))[t]! = w[t]! := fun t ht => by
    rw [getElem!_pos (w.take (d + 1)) t (by simp; omega), getElem!_pos w t (by omega), List.getElem_take]
  refine ⟨⟨by simp; omega, by rw [ht 0 (by omega)]; exact h.fst, ht d (by omega), fun k hk => by rw [ht k (by omega), ht (k + 1) (by omega)]; exact h.adj k (by omega)⟩, ?_, ?_⟩
  · have := h.adj d (by omega)
    rwa [h.lst] at this
  · refine ext_at (by simp; omega) fun t h1 => ?_
    by_cases h2 : t < d + 1
    · rw [app_l (by simp; omega), ht t h2]
    · obtain rfl : t = d + 1 := by omega
      have e : (w.take (d + 1)).length = d + 1 := by simp; omega
      have q := app_r (w.take (d + 1)) b
      rw [e] at q
      rw [h.lst, q]
theorem Rn.wk : ∀ {n : Nat} {x : Int}, Rn l a n x → ∃ w, Wk l w a x n
  | 0, x, h => ⟨[a], rfl, rfl, (show x = a from h).symm, fun k hk => by omega⟩
  | n + 1, x, ⟨y, h, e⟩ => by
    obtain ⟨w, hw⟩ := Rn.wk h
    exact ⟨_, hw.snoc e⟩
theorem Wk.rn : ∀ {n : Nat} {w : List Int} {x : Int}, Wk l w a x n → Rn l a n x
  | 0, w, x, h => by
    show x = a
    rw [← h.lst, ← h.fst]
  | n + 1, w, x, h => ⟨_, h.take.1.rn, h.take.2.1⟩
theorem Rn.trans {x : Int} {n : Nat} (h : Rn l a n x) : ∀ {m : Nat} {y : Int}, Rn l x m y → Rn l a (n + m) y
  | 0, y, k => by
    have : y = x := k
    subst this; exact h
  | m + 1, y, ⟨z, k, e⟩ => ⟨z, h.trans k, e⟩
/-- A way's first part, and what is left. -/
theorem Rn.part : ∀ {m n : Nat} {b : Int}, Rn l a (n + m) b → ∃ x, Rn l a n x ∧ Rn l x m b
  | 0, n, b, h => ⟨b, h, rfl⟩
  | m + 1, n, b, ⟨y, h, e⟩ => by
    obtain ⟨x, h1, h2⟩ := Rn.part h
    exact ⟨x, h1, y, h2, e⟩
theorem Rn.rt : ∀ {n : Nat} {x : Int}, 1 ≤ n → Rn l a n x → Rt l a x
  | 1, x, _, ⟨y, h, e⟩ => by
    have : y = a := h
    subst this; exact .one e
  | n + 2, x, _, ⟨y, h, e⟩ => .more (Rn.rt (by omega) h) e
theorem Rn.of_rt (h : Rt l a b) : ∃ n, 1 ≤ n ∧ Rn l a n b := by
  induction h with
  | one e => exact ⟨1, by omega, _, rfl, e⟩
  | more _ e ih =>
    obtain ⟨n, h1, h2⟩ := ih
    exact ⟨n + 1, by omega, _, h2, e⟩
/-- The least of the shortest ways. -/
structure Least (l : List (Nat → Int)) (a b : Int) (w : List Int) (d : Nat) : Prop where
  pos : 1 ≤ d
  wk : Wk l w a b d
  sh : ∀ e, 1 ≤ e → Rn l a e b → d ≤ e
  le : ∀ u, Wk l u a b d → LeI w u
theorem Least.uniq {w u : List Int} {d e : Nat} (h : Least l a b w d) (k : Least l a b u e) : w = u := by
  have h1 := h.sh e k.pos k.wk.rn
  have h2 := k.sh d h.pos h.wk.rn
  obtain rfl : d = e := by omega
  exact (h.le u k.wk).anti (k.le w h.wk)
/-- A way that goes to the first of the nearest each time. -/
theorem WayI.least (hF : FarOk l b (gfar_F l b)) {w : List Int} (h : WayI l a b w) : Least l a b w (w.length - 1) := by
  obtain ⟨len, fst, lst, adj, mid, top, gr⟩ := h
  obtain ⟨d, hd⟩ : ∃ d, w.length = d + 1 := ⟨w.length - 1, by omega⟩
  rw [hd, Nat.add_sub_cancel]
  rw [hd] at lst adj mid gr
  rw [Nat.add_sub_cancel] at lst
  have dist : ∀ m : Nat, m + 1 ≤ d → mfind ieq (gfar_F l b) (w[d - m]!) = some (m : Int) := by
    intro m
    induction m with
    | zero => intro _; rw [Nat.sub_zero, lst, hF.z]; rfl
    | succ m ih =>
      intro hm
      have ih := ih (by omega)
      obtain ⟨v, v1, v2, v3⟩ := gr (d - (m + 1) - 1) (by omega)
      rw [show d - (m + 1) - 1 + 1 = d - (m + 1) by omega] at v1
      obtain ⟨u, u1, u2, u3⟩ := gr (d - (m + 1)) (by omega)
      rw [show d - (m + 1) + 1 = d - m by omega] at u1
      rw [u1] at ih
      simp only [Option.some.injEq] at ih
      have hne := mid (d - (m + 1)) (by omega) (by omega)
      obtain ⟨-, -, hdown⟩ := hF.v _ v v1
      obtain ⟨y, hy1, hy2⟩ := hdown hne
      have q1 := u2 y hy1 _ hy2
      obtain ⟨k', hk', q2⟩ := hF.mn _ _ (by have := adj (d - (m + 1)) (by omega); rwa [show d - (m + 1) + 1 = d - m by omega] at this) u u1
      rw [v1] at hk'
      simp only [Option.some.injEq] at hk'
      rw [v1]
      congr 1
      omega
  have far : ∀ {m : Nat} {x : Int}, Rn l x m b → ∃ v, mfind ieq (gfar_F l b) x = some v ∧ v ≤ m := by
    intro m
    induction m with
    | zero =>
      intro x hx
      have : b = x := hx
      subst this
      exact ⟨0, hF.z, by omega⟩
    | succ m ih =>
      intro x hx
      rw [Nat.add_comm] at hx
      obtain ⟨y, hy, hyb⟩ := Rn.part hx
      obtain ⟨z, hz, e⟩ := hy
      have : z = x := hz
      subst this
      obtain ⟨v, v1, v2⟩ := ih hyb
      obtain ⟨k', h1, h2⟩ := hF.mn _ _ e v v1
      exact ⟨k', h1, by omega⟩
  have hp : 1 ≤ d := by omega
  have hw : Wk l w a b d := ⟨hd, fst, lst, fun k hk => adj k (by omega)⟩
  refine ⟨hp, hw, fun e he hr => ?_, fun u hu => ?_⟩
  · obtain ⟨e, rfl⟩ : ∃ e', e = 1 + e' := ⟨e - 1, by omega⟩
    obtain ⟨y, ⟨z, hz, hy⟩, hyb⟩ := Rn.part hr
    have : z = a := hz
    subst this
    obtain ⟨v, v1, v2⟩ := far hyb
    obtain ⟨u, u1, u2, u3⟩ := gr 0 (by omega)
    have q := u2 y (by rw [fst]; exact hy) v v1
    have q2 := dist (d - 1) (by omega)
    rw [show d - (d - 1) = 0 + 1 by omega, u1] at q2
    simp only [Option.some.injEq] at q2
    omega
  · rcases first_diff w u (d + 1) with hall | ⟨i, i1, i2, i3⟩
    · exact .inl (ext_at (by rw [hd, hu.len]) fun t ht => hall t (by omega))
    · refine .inr ⟨i, by omega, i2, ?_⟩
      obtain ⟨i, rfl⟩ : ∃ i', i = i' + 1 := ⟨i - 1, by
        have : i ≠ 0 := fun e => i3 (by rw [e, fst, hu.fst])
        omega⟩
      have hpre := i2 i (by omega)
      have hadj : Adj l (w[i]!) (u[i + 1]!) := by rw [hpre]; exact hu.adj i (by omega)
      -- what is left of u
      have left : ∀ {m : Nat}, m ≤ d → Rn l (u[d - m]!) m b := by
        intro m
        induction m with
        | zero => intro _; show b = _; rw [Nat.sub_zero, hu.lst]
        | succ m ih =>
          intro hm
          have h1 : Rn l (u[d - (m + 1)]!) 1 (u[d - m]!) := ⟨_, rfl, by have := hu.adj (d - (m + 1)) (by omega); rwa [show d - (m + 1) + 1 = d - m by omega] at this⟩
          have := h1.trans (ih (by omega))
          rwa [Nat.add_comm 1 m] at this
      have hl := left (m := d - (i + 1)) (by omega)
      rw [show d - (d - (i + 1)) = i + 1 by omega] at hl
      obtain ⟨v, v1, v2⟩ := far hl
      obtain ⟨best, b1, b2, b3⟩ := gr i (by omega)
      have hb := dist (d - (i + 1)) (by omega)
      rw [show d - (d - (i + 1)) = i + 1 by omega, b1] at hb
      simp only [Option.some.injEq] at hb
      have q := b2 _ hadj v v1
      have hv : v = best := by omega
      have := b3 _ hadj (by rw [v1, hv])
      omega
/-! ### Rows, grown one by one -/
def lastOf (r : List Int) : Int := r[r.length - 1]!
/-- The rows of a length: one to each number that is not reached by less. -/
structure RowsI (l : List (Nat → Int)) (a b : Int) (j : Nat) (rows : List (List Int)) (met : List Int) : Prop where
  rl : ∀ r ∈ rows, Wk l r a (lastOf r) j ∧ ∀ u, Wk l u a (lastOf r) j → LeI r u
  so : rows.Pairwise LtI
  al : ∀ x, Rn l a j x → (∀ e, 1 ≤ e → e < j → ¬ Rn l a e x) → ∃ r ∈ rows, lastOf r = x
  mt : ∀ x, x ∈ met ↔ ∃ e, 1 ≤ e ∧ e ≤ j ∧ Rn l a e x
  nb : b ∉ met
  nd : met.Nodup
  jb : rows = [] ∨ j ≤ met.length
  rb : rows.length ≤ met.length + 1
theorem Rn.mem {n : Nat} {x : Int} (h : 1 ≤ n) (k : Rn l a n x) : x ∈ nodesL l := (k.rt h).right
theorem RowsI.met_len {j : Nat} {rows : List (List Int)} {met : List Int} (h : RowsI l a b j rows met) : met.length ≤ (nodesL l).length :=
  nodup_len h.nd fun x hx => by
    obtain ⟨e, e1, e2, e3⟩ := (h.mt x).1 hx
    exact e3.mem e1
/-- In the midst: rows ahead of i, and numbers ahead of k, are done. -/
structure MidI (l : List (Nat → Int)) (a b : Int) (j : Nat) (rows : List (List Int)) (met : List Int) (i k : Nat) (met2 : List Int) (more : List (List Int)) : Prop where
  mo : ∀ m ∈ more, lastOf m ∉ met ∧ Wk l m a (lastOf m) (j + 1) ∧ (∀ u, Wk l u a (lastOf m) (j + 1) → LeI m u) ∧ ∃ p q, p < rows.length ∧ q < (nodesL l).length ∧ (p < i ∨ p = i ∧ q < k) ∧ m = rows[p]! ++ [(nodesL l)[q]!]
  so : more.Pairwise LtI
  mt : ∀ x, x ∈ met2 ↔ x ∈ met ∨ ∃ m ∈ more, lastOf m = x
  cv : ∀ p q, p < rows.length → q < (nodesL l).length → (p < i ∨ p = i ∧ q < k) → Adj l (lastOf (rows[p]!)) ((nodesL l)[q]!) → (nodesL l)[q]! ∈ met2
  nb : b ∉ met2
  nd : met2.Nodup
  ln : met2.length = met.length + more.length
theorem last_app (r : List Int) (x : Int) : lastOf (r ++ [x]) = x := by
  unfold lastOf
  rw [List.length_append, List.length_singleton, Nat.add_sub_cancel]
  exact app_r r x
section
variable {j : Nat} {rows : List (List Int)} {met met2 : List Int} {i k : Nat} {more : List (List Int)}
theorem RowsI.mid (h : RowsI l a b j rows met) : MidI l a b j rows met 0 0 met [] :=
  ⟨fun m hm => by simp at hm, List.Pairwise.nil, fun x => by simp, fun p q _ _ h => by omega, h.nb, h.nd, by simp⟩
theorem MidI.met_len (h : RowsI l a b j rows met) (m : MidI l a b j rows met i k met2 more) : met2.length ≤ (nodesL l).length :=
  nodup_len m.nd fun x hx => by
    rcases (m.mt x).1 hx with hx | ⟨r, hr, rfl⟩
    · obtain ⟨e, e1, e2, e3⟩ := (h.mt x).1 hx
      exact e3.mem e1
    · exact (m.mo r hr).2.1.rn.mem (by omega)
theorem at_row {p : Nat} (hp : p < rows.length) : rows[p]! ∈ rows := by
  rw [getElem!_pos rows p hp]; exact List.getElem_mem hp
/-- One that is new: its row is the least. -/
theorem MidI.key (h : RowsI l a b j rows met) (m : MidI l a b j rows met i k met2 more) (hi : i < rows.length) (hk : k < (nodesL l).length) (he : Adj l (lastOf (rows[i]!)) ((nodesL l)[k]!)) (hn : (nodesL l)[k]! ∉ met2) :
    Wk l (rows[i]! ++ [(nodesL l)[k]!]) a ((nodesL l)[k]!) (j + 1) ∧ (∀ u, Wk l u a ((nodesL l)[k]!) (j + 1) → LeI (rows[i]! ++ [(nodesL l)[k]!]) u) ∧ ∀ e, 1 ≤ e → e ≤ j → ¬ Rn l a e ((nodesL l)[k]!) := by
  have hri := h.rl _ (at_row hi)
  have hsh : ∀ e, 1 ≤ e → e ≤ j → ¬ Rn l a e ((nodesL l)[k]!) := fun e e1 e2 e3 => hn ((m.mt _).2 (.inl ((h.mt _).2 ⟨e, e1, e2, e3⟩)))
  refine ⟨hri.1.snoc he, fun u hu => ?_, hsh⟩
  obtain ⟨u1, u2, u3⟩ := hu.take
  have hx : ∀ e, 1 ≤ e → e < j → ¬ Rn l a e (u[j]!) := fun e e1 e2 e3 => hsh (e + 1) (by omega) (by omega) ⟨_, e3, u2⟩
  obtain ⟨r, hr, hrl⟩ := h.al _ u1.rn hx
  obtain ⟨p, hp, rfl⟩ := List.getElem_of_mem hr
  have hpe : rows[p]! = rows[p] := getElem!_pos rows p hp
  have hle : LeI (rows[p]!) (u.take (j + 1)) := by
    rw [hpe]
    refine (h.rl _ hr).2 _ ?_
    rw [hrl]; exact u1
  have hpi : ¬ p < i := fun hpi => hn (m.cv p k hp hk (.inl hpi) (by rw [hpe, hrl]; exact u2))
  have hlr : (rows[i]!).length = j + 1 := hri.1.len
  have hlp : (rows[p]!).length = j + 1 := by rw [hpe]; exact (h.rl _ hr).1.len
  have hle2 : LeI (rows[i]!) (u.take (j + 1)) := by
    by_cases e : i = p
    · subst e; exact hle
    · have := List.pairwise_iff_getElem.1 h.so i p hi hp (by omega)
      rw [← getElem!_pos rows i hi, ← hpe] at this
      exact .inr (this.le_trans (by omega) hle)
  rw [u3]
  exact hle2.app (by rw [hlr, u1.len]) _
theorem MidI.skip (m : MidI l a b j rows met i k met2 more) (hs : ¬ Adj l (lastOf (rows[i]!)) ((nodesL l)[k]!) ∨ (nodesL l)[k]! ∈ met2) : MidI l a b j rows met i (k + 1) met2 more := by
  refine ⟨fun r hr => ?_, m.so, m.mt, fun p q hp hq hpq he => ?_, m.nb, m.nd, m.ln⟩
  · obtain ⟨h1, h2, h3, p, q, h4, h5, h6, h7⟩ := m.mo r hr
    exact ⟨h1, h2, h3, p, q, h4, h5, by omega, h7⟩
  · by_cases hq2 : p = i ∧ q = k
    · obtain ⟨rfl, rfl⟩ := hq2
      exact hs.elim (fun h => absurd he h) id
    · exact m.cv p q hp hq (by omega) he
theorem MidI.put (h : RowsI l a b j rows met) (m : MidI l a b j rows met i k met2 more) (hi : i < rows.length) (hk : k < (nodesL l).length) (he : Adj l (lastOf (rows[i]!)) ((nodesL l)[k]!)) (hn : (nodesL l)[k]! ∉ met2) (hb : (nodesL l)[k]! ≠ b) :
    MidI l a b j rows met i (k + 1) (met2 ++ [(nodesL l)[k]!]) (more ++ [rows[i]! ++ [(nodesL l)[k]!]]) := by
  obtain ⟨q1, q2, q3⟩ := m.key h hi hk he hn
  have hN : (nodesL l).Pairwise fun a b => a < b := rising_rising _
  refine ⟨fun r hr => ?_, ?_, fun x => ?_, fun p q hp hq hpq he' => ?_, ?_, ?_, ?_⟩
  · rcases List.mem_append.1 hr with hr | hr
    · obtain ⟨h1, h2, h3, p, q, h4, h5, h6, h7⟩ := m.mo r hr
      exact ⟨h1, h2, h3, p, q, h4, h5, by omega, h7⟩
    · rw [List.mem_singleton.1 hr, last_app]
      exact ⟨fun hx => hn ((m.mt _).2 (.inl hx)), q1, q2, i, k, hi, hk, by omega, rfl⟩
  · rw [List.pairwise_append]
    refine ⟨m.so, List.pairwise_singleton _ _, fun r hr r' hr' => ?_⟩
    rw [List.mem_singleton.1 hr']
    obtain ⟨h1, h2, h3, p, q, h4, h5, h6, h7⟩ := m.mo r hr
    rw [h7]
    rcases h6 with h6 | ⟨h6, h8⟩
    · have := List.pairwise_iff_getElem.1 h.so p i h4 hi h6
      rw [← getElem!_pos rows p h4, ← getElem!_pos rows i hi] at this
      exact this.app (by rw [(h.rl _ (at_row h4)).1.len, (h.rl _ (at_row hi)).1.len]) _ _
    · subst h6
      have := List.pairwise_iff_getElem.1 hN q k h5 hk h8
      rw [← getElem!_pos (nodesL l) q h5, ← getElem!_pos (nodesL l) k hk] at this
      exact LtI.last _ this
  · rw [List.mem_append, m.mt]
    constructor
    · rintro ((hx | ⟨r, hr, rfl⟩) | hx)
      · exact .inl hx
      · exact .inr ⟨r, List.mem_append_left _ hr, rfl⟩
      · exact .inr ⟨_, List.mem_append_right _ (List.mem_singleton.2 rfl), by rw [last_app, List.mem_singleton.1 hx]⟩
    · rintro (hx | ⟨r, hr, rfl⟩)
      · exact .inl (.inl hx)
      · rcases List.mem_append.1 hr with hr | hr
        · exact .inl (.inr ⟨r, hr, rfl⟩)
        · rw [List.mem_singleton.1 hr, last_app]
          exact .inr (List.mem_singleton.2 rfl)
  · by_cases hq2 : p = i ∧ q = k
    · obtain ⟨rfl, rfl⟩ := hq2
      exact List.mem_append_right _ (List.mem_singleton.2 rfl)
    · exact List.mem_append_left _ (m.cv p q hp hq (by omega) he')
  · intro hx
    rcases List.mem_append.1 hx with hx | hx
    · exact m.nb hx
    · exact hb (List.mem_singleton.1 hx).symm
  · rw [List.nodup_append]
    refine ⟨m.nd, by simp, fun x hx y hy => ?_⟩
    rw [List.mem_singleton.1 hy]
    exact fun e => hn (e ▸ hx)
  · simp only [List.length_append, List.length_singleton, m.ln]; omega
theorem MidI.next (m : MidI l a b j rows met i k met2 more) (hk : (nodesL l).length ≤ k) : MidI l a b j rows met (i + 1) 0 met2 more := by
  refine ⟨fun r hr => ?_, m.so, m.mt, fun p q hp hq hpq he => ?_, m.nb, m.nd, m.ln⟩
  · obtain ⟨h1, h2, h3, p, q, h4, h5, h6, h7⟩ := m.mo r hr
    exact ⟨h1, h2, h3, p, q, h4, h5, by omega, h7⟩
  · exact m.cv p q hp hq (by omega) he
theorem MidI.done (h : RowsI l a b j rows met) (m : MidI l a b j rows met i k met2 more) (hi : rows.length ≤ i) : RowsI l a b (j + 1) more met2 := by
  have grown : ∀ x, Rn l a (j + 1) x → (∀ e, 1 ≤ e → e < j + 1 → ¬ Rn l a e x) → x ∈ met2 ∧ x ∉ met := fun x hx hno => by
    have hnm : x ∉ met := fun hm => by
      obtain ⟨e, e1, e2, e3⟩ := (h.mt x).1 hm
      exact hno e e1 (by omega) e3
    obtain ⟨y, hy, he⟩ := hx
    obtain ⟨r, hr, hrl⟩ := h.al y hy fun e e1 e2 e3 => hno (e + 1) (by omega) (by omega) ⟨y, e3, he⟩
    obtain ⟨p, hp, rfl⟩ := List.getElem_of_mem hr
    obtain ⟨q, hq, hqx⟩ := List.getElem_of_mem (he.right)
    have hqe : (nodesL l)[q]! = x := by rw [getElem!_pos (nodesL l) q hq, hqx]
    have := m.cv p q hp hq (.inl (by omega)) (by rw [getElem!_pos rows p hp, hrl, hqe]; exact he)
    rw [hqe] at this
    exact ⟨this, hnm⟩
  refine ⟨fun r hr => ⟨(m.mo r hr).2.1, (m.mo r hr).2.2.1⟩, m.so, fun x hx hno => ?_, fun x => ?_, m.nb, m.nd, ?_, by have := m.ln; omega⟩
  · obtain ⟨g1, g2⟩ := grown x hx hno
    exact ((m.mt x).1 g1).elim (fun h => absurd h g2) id
  · rw [m.mt, h.mt]
    constructor
    · rintro (⟨e, e1, e2, e3⟩ | ⟨r, hr, rfl⟩)
      · exact ⟨e, e1, by omega, e3⟩
      · exact ⟨j + 1, by omega, by omega, (m.mo r hr).2.1.rn⟩
    · rintro ⟨e, e1, e2, e3⟩
      by_cases hex : ∃ e, 1 ≤ e ∧ e ≤ j ∧ Rn l a e x
      · exact .inl hex
      · have hej : e = j + 1 := by
          by_cases q : e ≤ j
          · exact absurd ⟨e, e1, q, e3⟩ hex
          · omega
        subst hej
        obtain ⟨g1, g2⟩ := grown x e3 fun e q1 q2 q3 => hex ⟨e, q1, by omega, q3⟩
        exact .inr (((m.mt x).1 g1).elim (fun h => absurd h g2) id)
  · cases more with
    | nil => exact .inl rfl
    | cons r rs =>
      refine .inr ?_
      have h1 := m.ln
      simp only [List.length_cons] at h1
      rcases h.jb with h2 | h2
      · subst h2
        obtain ⟨-, -, -, p, q, h4, -⟩ := m.mo r (by simp)
        simp at h4
      · omega
/-- The first row that comes to b is the least way. -/
theorem MidI.hit (h : RowsI l a b j rows met) (m : MidI l a b j rows met i k met2 more) (hi : i < rows.length) (hk : k < (nodesL l).length) (he : Adj l (lastOf (rows[i]!)) ((nodesL l)[k]!)) (hn : (nodesL l)[k]! ∉ met2) (hb : (nodesL l)[k]! = b) :
    Least l a b (rows[i]! ++ [b]) (j + 1) := by
  obtain ⟨q1, q2, q3⟩ := m.key h hi hk he hn
  rw [hb] at q1 q2 q3
  exact ⟨by omega, q1, fun e e1 e2 => by
    by_cases hej : e ≤ j
    · exact absurd e2 (q3 e e1 hej)
    · omega, q2⟩
/-- No rows are left: b is not reached. -/
theorem RowsI.none (h : RowsI l a b j [] met) : ¬ Rt l a b := by
  intro hr
  obtain ⟨n, n1, n2⟩ := Rn.of_rt hr
  have key : ∀ n, 1 ≤ n → ¬ Rn l a n b := by
    intro n
    induction n using Nat.strongRecOn with
    | ind n ih =>
      intro n1 n2
      by_cases hnj : n ≤ j
      · exact h.nb ((h.mt b).2 ⟨n, n1, hnj, n2⟩)
      · obtain ⟨d, rfl⟩ : ∃ d, n = j + d := ⟨n - j, by omega⟩
        obtain ⟨x, x1, x2⟩ := Rn.part n2
        have hex : ¬ ∀ e, 1 ≤ e → e < j → ¬ Rn l a e x := fun hno => by
          obtain ⟨r, hr, _⟩ := h.al x x1 hno
          simp at hr
        refine hex fun e e1 e2 e3 => ?_
        exact ih (e + d) (by omega) (by omega) (e3.trans x2)
  exact key n n1 n2
theorem RowsI.start (h : Rt l a b ∨ True) : RowsI l a b 0 [[a]] [] := by
  refine ⟨fun r hr => ?_, List.pairwise_singleton _ _, fun x hx _ => ⟨[a], by simp, (show x = a from hx).symm⟩, fun x => ?_, by simp, List.nodup_nil, .inr (Nat.le_refl _), by simp⟩
  · rw [List.mem_singleton.1 hr]
    refine ⟨⟨rfl, rfl, rfl, fun k hk => by omega⟩, fun u hu => .inl (ext_at (by rw [hu.len]; rfl) fun t ht => ?_)⟩
    obtain rfl : t = 0 := by simp at ht; omega
    rw [hu.fst]; rfl
  · constructor
    · intro hx; simp at hx
    · rintro ⟨e, e1, e2, _⟩; omega
end
end
end Go.E
/- The reference's rows come to the program's way. -/
namespace Go.E
open Go
noncomputable def wayR_F (l : List (Nat → Int)) (a b : Int) : List Int := gway_F l a b
def wayR_P (l : List (Nat → Int)) (_ _ : Int) : Prop := Edges l
theorem edge_iff {l : List (Nat → Int)} {a b : Int} : edgeR_F l a b = true ↔ Adj l a b := by
  unfold edgeR_F Adj
  rw [List.any_eq_true]
  constructor
  · rintro ⟨e, he, h⟩
    simp only [Bool.and_eq_true, decide_eq_true_eq] at h
    exact ⟨e, he, h⟩
  · rintro ⟨e, he, h⟩
    exact ⟨e, he, by simp only [Bool.and_eq_true, decide_eq_true_eq]; exact h⟩
section
variable {l : List (Nat → Int)} {a b : Int} {j : Nat} {rows : List (List Int)} {met : List Int}
theorem way_l3 (hl : l.length ≤ 100000) (h : RowsI l a b j rows met) {i : Nat} (hi : i < rows.length) {met2 : List Int} {more : List (List Int)} (m : MidI l a b j rows met i 0 met2 more) :
    ∃ x : ((List Int) × (List (List Int))) ⊕ (List Int), Wh (fun (s : (List Int) × (List (List Int)) × Int) (o : ((List Int) × (List (List Int)) × Int) ⊕ (((List Int) × (List (List Int))) ⊕ ((List Int)))) => wayR_l3 l b rows (i : Int) s.1 s.2.1 s.2.2 o) ((met2, more, 0) : (List Int) × (List (List Int)) × Int) x ∧
      (∀ p, x = .inl p → MidI l a b j rows met (i + 1) 0 p.1 p.2) ∧ ∀ w, x = .inr w → Least l a b w (j + 1) := by
  have hN := len_nodesL l
  refine Wh.by (fun (s : ((List Int) × (List (List Int)) × Int)) => ∃ k : Nat, s.2.2 = (k : Int) ∧ k ≤ (nodesL l).length ∧ MidI l a b j rows met i k s.1 s.2.1) (fun (s : ((List Int) × (List (List Int)) × Int)) => (nodesL l).length - s.2.2.toNat)
    (fun (x : (((List Int) × (List (List Int))) ⊕ (List Int))) => (∀ p, x = .inl p → MidI l a b j rows met (i + 1) 0 p.1 p.2) ∧ ∀ w, x = .inr w → Least l a b w (j + 1)) ⟨0, rfl, Nat.zero_le _, m⟩ ?_
  rintro ⟨met2, more, kk⟩ ⟨k, hkk, hk, m⟩
  simp only at hkk m
  subst hkk
  have hml := m.met_len h
  have hmn := m.ln
  have hlr : (rows[i]!).length = j + 1 := (h.rl _ (at_row hi)).1.len
  have hj : j ≤ met.length := h.jb.elim (fun e => by rw [e] at hi; simp at hi) id
  have hir : 0 ≤ (i : Int) ∧ (i : Int) < rows.length := ⟨by omega, by omega⟩
  have hlast : (rows[i]!)[(((rows[i]!).length : Int) - 1).toNat]! = lastOf (rows[i]!) := by
    unfold lastOf
    rw [show (((rows[i]!).length : Int) - 1).toNat = (rows[i]!).length - 1 by omega]
  by_cases hkn : k < (nodesL l).length
  · have hkr : 0 ≤ (k : Int) ∧ (k : Int) < (nodesR_F l).length := ⟨by omega, by show (k : Int) < ((nodesL l).length : Int); omega⟩
    have e1 : ((k + 1 : Nat) : Int) = (k : Int) + 1 := by omega
    have hin : inI64 ((k : Int) + 1) := ⟨by omega, by omega⟩
    have start : ∀ o, ((0 ≤ (k : Int) ∧ (k : Int) < (nodesR_F l).length) → (if ((!((edgeR_F l (lastOf (rows[i]!)) ((nodesR_F l)[k]!)))) || ((hasR_F met2 ((nodesR_F l)[k]!)))) = true then
      (inI64 ((k : Int) + 1)) ∧ (o = (.inl (met2, more, (k : Int) + 1)))
    else
      ((0 ≤ (k : Int) ∧ (k : Int) < (nodesR_F l).length) ∧ (((0 + (rows[i]!).length) * 8 ≤ 140737488355328) ∧ (((([] ++ (rows[i]!)).length + 1) * 8 ≤ 140737488355328) ∧ (True)))) ∧ (
      (0 ≤ (k : Int) ∧ (k : Int) < (nodesR_F l).length) ∧ (
      if (nodesR_F l)[k]! = b then
        o = (.inr (.inr (([] ++ (rows[i]!)) ++ [(nodesR_F l)[k]!])))
      else
        (0 ≤ (k : Int) ∧ (k : Int) < (nodesR_F l).length) ∧ (((met2.length + 1) * 8 ≤ 140737488355328) ∧ (((more.length + 1) * 24 ≤ 140737488355328) ∧ ((inI64 ((k : Int) + 1)) ∧ (
        o = (.inl ((met2 ++ [(nodesR_F l)[k]!]), (more ++ [(([] ++ (rows[i]!)) ++ [(nodesR_F l)[k]!])]), (k : Int) + 1)))))))))) → wayR_l3 l b rows (i : Int) met2 more (k : Int) o := by
      intro o ho
      unfold wayR_l3
      rw [if_pos hkr.2, Int.toNat_natCast, Int.toNat_natCast, hlast]
      exact ⟨hir, by unfold inI64; omega, by omega, hkr, by unfold edgeR_P; omega, fun _ => hkr, fun _ => by unfold hasR_P; omega, ho hkr⟩
    have hnn : (nodesR_F l)[k]! = (nodesL l)[k]! := rfl
    rw [hnn] at start
    by_cases hs : ¬ Adj l (lastOf (rows[i]!)) ((nodesL l)[k]!) ∨ (nodesL l)[k]! ∈ met2
    · refine .inl ⟨(met2, more, (k : Int) + 1), start _ fun _ => ?_, ⟨k + 1, e1.symm, by omega, m.skip hs⟩, by simp only; omega⟩
      rw [if_pos]
      · exact ⟨hin, rfl⟩
      · rw [Bool.or_eq_true]
        rcases hs with hs | hs
        · left
          rw [Bool.not_eq_true', ← Bool.not_eq_true, edge_iff]; exact hs
        · right
          unfold hasR_F; exact decide_eq_true hs
    · have he : Adj l (lastOf (rows[i]!)) ((nodesL l)[k]!) := Classical.byContradiction fun h => hs (.inl h)
      have hn : (nodesL l)[k]! ∉ met2 := fun h => hs (.inr h)
      have hc : ¬ ((!((edgeR_F l (lastOf (rows[i]!)) ((nodesL l)[k]!)))) || ((hasR_F met2 ((nodesL l)[k]!)))) = true := by
        rw [edge_iff.2 he]
        unfold hasR_F
        rw [decide_eq_false hn]; decide
      have hb8 : ((0 + (rows[i]!).length) * 8 ≤ 140737488355328) ∧ (((([] ++ (rows[i]!)).length + 1) * 8 ≤ 140737488355328) ∧ True) := ⟨by omega, by rw [List.nil_append]; omega, trivial⟩
      by_cases hb : (nodesL l)[k]! = b
      · refine .inr ⟨.inr (rows[i]! ++ [b]), start _ fun hr => ?_, fun p hp => (by cases hp), fun w hw => ?_⟩
        · rw [if_neg hc]
          refine ⟨⟨hr, hb8⟩, hr, ?_⟩
          rw [if_pos hb, hb]; rfl
        · cases hw
          exact m.hit h hi hkn he hn hb
      · refine .inl ⟨(met2 ++ [(nodesL l)[k]!], more ++ [rows[i]! ++ [(nodesL l)[k]!]], (k : Int) + 1), start _ fun hr => ?_, ⟨k + 1, e1.symm, by omega, m.put h hi hkn he hn hb⟩, by simp only; omega⟩
        rw [if_neg hc]
        refine ⟨⟨hr, hb8⟩, hr, ?_⟩
        rw [if_neg hb]
        exact ⟨hr, by omega, by omega, hin, rfl⟩
  · obtain rfl : k = (nodesL l).length := by omega
    refine .inr ⟨.inl (met2, more), ?_, fun p hp => ?_, fun w hw => (by cases hw)⟩
    · show wayR_l3 l b rows (i : Int) met2 more ((nodesL l).length : Int) _
      unfold wayR_l3
      rw [if_neg (by show ¬ (((nodesL l).length : Int) < ((nodesL l).length : Int)); omega)]
    · cases hp
      exact m.next (Nat.le_refl _)
theorem way_l2 (hl : l.length ≤ 100000) (h : RowsI l a b j rows met) :
    ∃ x : ((List Int) × (List (List Int))) ⊕ (List Int), Wh (fun (s : (List Int) × (List (List Int)) × Int) (o : ((List Int) × (List (List Int)) × Int) ⊕ (((List Int) × (List (List Int))) ⊕ ((List Int)))) => wayR_l2 l b rows s.1 s.2.1 s.2.2 o) ((met, [], 0) : (List Int) × (List (List Int)) × Int) x ∧
      (∀ p, x = .inl p → MidI l a b j rows met rows.length 0 p.1 p.2) ∧ ∀ w, x = .inr w → Least l a b w (j + 1) := by
  have hN := len_nodesL l
  have hrb := h.rb
  have hml0 := h.met_len
  refine Wh.by (fun (s : ((List Int) × (List (List Int)) × Int)) => ∃ i : Nat, s.2.2 = (i : Int) ∧ i ≤ rows.length ∧ MidI l a b j rows met i 0 s.1 s.2.1) (fun (s : ((List Int) × (List (List Int)) × Int)) => rows.length - s.2.2.toNat)
    (fun (x : (((List Int) × (List (List Int))) ⊕ (List Int))) => (∀ p, x = .inl p → MidI l a b j rows met rows.length 0 p.1 p.2) ∧ ∀ w, x = .inr w → Least l a b w (j + 1)) ⟨0, rfl, Nat.zero_le _, h.mid⟩ ?_
  rintro ⟨met2, more, ii⟩ ⟨i, hii, hi, m⟩
  simp only at hii m
  subst hii
  by_cases hin : i < rows.length
  · obtain ⟨x, hw, h1, h2⟩ := way_l3 hl h hin m
    have e1 : ((i + 1 : Nat) : Int) = (i : Int) + 1 := by omega
    cases x with
    | inl p =>
      refine .inl ⟨(p.1, p.2, (i : Int) + 1), ?_, ⟨i + 1, e1.symm, by omega, h1 p rfl⟩, by simp only; omega⟩
      show wayR_l2 l b rows met2 more (i : Int) _
      unfold wayR_l2
      rw [if_pos (by omega)]
      exact ⟨_, hw, by unfold inI64; omega, rfl⟩
    | inr w =>
      refine .inr ⟨.inr w, ?_, fun p hp => (by cases hp), fun w' hw' => by cases hw'; exact h2 w rfl⟩
      show wayR_l2 l b rows met2 more (i : Int) _
      unfold wayR_l2
      rw [if_pos (by omega)]
      exact ⟨_, hw, rfl⟩
  · obtain rfl : i = rows.length := by omega
    refine .inr ⟨.inl (met2, more), ?_, fun p hp => by cases hp; exact m, fun w hw => (by cases hw)⟩
    show wayR_l2 l b rows met2 more (rows.length : Int) _
    unfold wayR_l2
    rw [if_neg (by omega)]
theorem wayR_ok (l : List (Nat → Int)) (a b : Int) (h : wayR_P l a b) : wayR_S l a b (wayR_F l a b) := by
  have hE : Edges l := h
  have hl := hE.1
  have hN := len_nodesL l
  have hw := gway_is l a b hE
  unfold wayR_S wayR_F
  refine ⟨by unfold nodesR_P; omega, ?_⟩
  suffices hs : ∃ x : Unit ⊕ (List Int), Wh (fun (s : (List (List Int)) × (List Int)) (o : ((List (List Int)) × (List Int)) ⊕ ((Unit) ⊕ ((List Int)))) => wayR_l1 l b s.1 s.2 o) (([([a] : List Int)], []) : (List (List Int)) × (List Int)) x ∧ ((∀ u, x = .inl u → ¬ Rt l a b) ∧ ∀ w, x = .inr w → ∃ d, Least l a b w d) by
    obtain ⟨x, h1, h2, h3⟩ := hs
    refine ⟨x, h1, ?_⟩
    cases x with
    | inl u => exact hw.2 (h2 u rfl)
    | inr w =>
      obtain ⟨d, hd⟩ := h3 w rfl
      have hr : Rt l a b := hd.wk.rn.rt hd.pos
      exact ((hw.1 hr).least (gfar_is l b hE)).uniq hd
  refine Wh.by (fun (s : (List (List Int)) × (List Int)) => ∃ j, RowsI l a b j s.1 s.2) (fun (s : (List (List Int)) × (List Int)) => 2 * ((nodesL l).length - s.2.length) + (if s.1 = [] then 0 else 1)) (fun (x : Unit ⊕ (List Int)) => (∀ u, x = .inl u → ¬ Rt l a b) ∧ ∀ w, x = .inr w → ∃ d, Least l a b w d) ⟨0, RowsI.start (.inr trivial)⟩ ?_
  rintro ⟨rows, met⟩ ⟨j, hR⟩
  simp only at hR
  by_cases hr : rows = []
  · subst hr
    refine .inr ⟨.inl (), ?_, fun _ _ => hR.none, fun w hw => (by cases hw)⟩
    show wayR_l1 l b [] met _
    unfold wayR_l1
    rw [if_neg (by simp)]
  · have hpos : 0 < (rows.length : Int) := by
      cases rows with
      | nil => exact absurd rfl hr
      | cons r rs => simp only [List.length_cons]; omega
    obtain ⟨x, hwx, h1, h2⟩ := way_l2 hl hR
    cases x with
    | inl p =>
      have hm := h1 p rfl
      have hn := hm.done hR (Nat.le_refl _)
      have hln := hm.ln
      have hml := hn.met_len
      refine .inl ⟨(p.2, p.1), ?_, ⟨j + 1, hn⟩, ?_⟩
      · show wayR_l1 l b rows met _
        unfold wayR_l1
        rw [if_pos hpos]
        exact ⟨_, hwx, rfl⟩
      · simp only
        rw [if_neg hr]
        by_cases hp : p.2 = []
        · rw [if_pos hp]
          rw [hp] at hln
          simp only [List.length_nil] at hln
          omega
        · rw [if_neg hp]
          have : 0 < p.2.length := List.length_pos_iff.2 hp
          omega
    | inr w =>
      refine .inr ⟨.inr w, ?_, fun u hu => (by cases hu), fun w' hw' => by cases hw'; exact ⟨_, h2 w rfl⟩⟩
      show wayR_l1 l b rows met _
      unfold wayR_l1
      rw [if_pos hpos]
      exact ⟨_, hwx, rfl⟩
end
end Go.E
/- What functions of the program say, as relations. -/
namespace Go.E
open Go
def alive10_S (r : Bool) : Prop :=
  (greach_P ([(updI (updI (fun _ => 0) 0 1) 2 2), (updI (updI (fun _ => 0) 0 2) 2 3), (updI (updI (fun _ => 0) 0 3) 2 1), (updI (updI (fun _ => 0) 0 4) 2 1)]) 4) ∧ (
  (ints_P (greach_F ([(updI (updI (fun _ => 0) 0 1) 2 2), (updI (updI (fun _ => 0) 0 2) 2 3), (updI (updI (fun _ => 0) 0 3) 2 1), (updI (updI (fun _ => 0) 0 4) 2 1)]) 4) ([1, 2, 3])) ∧ (
  if ((ints_F (greach_F ([(updI (updI (fun _ => 0) 0 1) 2 2), (updI (updI (fun _ => 0) 0 2) 2 3), (updI (updI (fun _ => 0) 0 3) 2 1), (updI (updI (fun _ => 0) 0 4) 2 1)]) 4) ([1, 2, 3]))) = true then
    (gcirc_P ([(updI (updI (fun _ => 0) 0 1) 2 2), (updI (updI (fun _ => 0) 0 2) 2 3), (updI (updI (fun _ => 0) 0 3) 2 1), (updI (updI (fun _ => 0) 0 4) 2 1)])) ∧ (
    (ints_P (gcirc_F ([(updI (updI (fun _ => 0) 0 1) 2 2), (updI (updI (fun _ => 0) 0 2) 2 3), (updI (updI (fun _ => 0) 0 3) 2 1), (updI (updI (fun _ => 0) 0 4) 2 1)])) ([1, 2, 3])) ∧ (
    if ((ints_F (gcirc_F ([(updI (updI (fun _ => 0) 0 1) 2 2), (updI (updI (fun _ => 0) 0 2) 2 3), (updI (updI (fun _ => 0) 0 3) 2 1), (updI (updI (fun _ => 0) 0 4) 2 1)])) ([1, 2, 3]))) = true then
      (gway_P ([(updI (updI (fun _ => 0) 0 1) 2 2), (updI (updI (fun _ => 0) 0 2) 2 3), (updI (updI (fun _ => 0) 0 3) 2 1), (updI (updI (fun _ => 0) 0 4) 2 1)]) 4 3) ∧ (
      (ints_P (gway_F ([(updI (updI (fun _ => 0) 0 1) 2 2), (updI (updI (fun _ => 0) 0 2) 2 3), (updI (updI (fun _ => 0) 0 3) 2 1), (updI (updI (fun _ => 0) 0 4) 2 1)]) 4 3) ([4, 1, 2, 3])) ∧ (
      r = ((ints_F (gway_F ([(updI (updI (fun _ => 0) 0 1) 2 2), (updI (updI (fun _ => 0) 0 2) 2 3), (updI (updI (fun _ => 0) 0 3) 2 1), (updI (updI (fun _ => 0) 0 4) 2 1)]) 4 3) ([4, 1, 2, 3])))))
    else
      r = (false)))
  else
    r = (false)))
noncomputable def alive10_F : Bool :=
  if ((ints_F (greach_F ([(updI (updI (fun _ => 0) 0 1) 2 2), (updI (updI (fun _ => 0) 0 2) 2 3), (updI (updI (fun _ => 0) 0 3) 2 1), (updI (updI (fun _ => 0) 0 4) 2 1)]) 4) ([1, 2, 3]))) = true then
    if ((ints_F (gcirc_F ([(updI (updI (fun _ => 0) 0 1) 2 2), (updI (updI (fun _ => 0) 0 2) 2 3), (updI (updI (fun _ => 0) 0 3) 2 1), (updI (updI (fun _ => 0) 0 4) 2 1)])) ([1, 2, 3]))) = true then
      (ints_F (gway_F ([(updI (updI (fun _ => 0) 0 1) 2 2), (updI (updI (fun _ => 0) 0 2) 2 3), (updI (updI (fun _ => 0) 0 3) 2 1), (updI (updI (fun _ => 0) 0 4) 2 1)]) 4 3) ([4, 1, 2, 3]))
    else
      false
  else
    false
def alive10_P : Prop :=
  (greach_P ([(updI (updI (fun _ => 0) 0 1) 2 2), (updI (updI (fun _ => 0) 0 2) 2 3), (updI (updI (fun _ => 0) 0 3) 2 1), (updI (updI (fun _ => 0) 0 4) 2 1)]) 4) ∧ (
  (ints_P (greach_F ([(updI (updI (fun _ => 0) 0 1) 2 2), (updI (updI (fun _ => 0) 0 2) 2 3), (updI (updI (fun _ => 0) 0 3) 2 1), (updI (updI (fun _ => 0) 0 4) 2 1)]) 4) ([1, 2, 3])) ∧ (
  if ((ints_F (greach_F ([(updI (updI (fun _ => 0) 0 1) 2 2), (updI (updI (fun _ => 0) 0 2) 2 3), (updI (updI (fun _ => 0) 0 3) 2 1), (updI (updI (fun _ => 0) 0 4) 2 1)]) 4) ([1, 2, 3]))) = true then
    (gcirc_P ([(updI (updI (fun _ => 0) 0 1) 2 2), (updI (updI (fun _ => 0) 0 2) 2 3), (updI (updI (fun _ => 0) 0 3) 2 1), (updI (updI (fun _ => 0) 0 4) 2 1)])) ∧ (
    (ints_P (gcirc_F ([(updI (updI (fun _ => 0) 0 1) 2 2), (updI (updI (fun _ => 0) 0 2) 2 3), (updI (updI (fun _ => 0) 0 3) 2 1), (updI (updI (fun _ => 0) 0 4) 2 1)])) ([1, 2, 3])) ∧ (
    if ((ints_F (gcirc_F ([(updI (updI (fun _ => 0) 0 1) 2 2), (updI (updI (fun _ => 0) 0 2) 2 3), (updI (updI (fun _ => 0) 0 3) 2 1), (updI (updI (fun _ => 0) 0 4) 2 1)])) ([1, 2, 3]))) = true then
      (gway_P ([(updI (updI (fun _ => 0) 0 1) 2 2), (updI (updI (fun _ => 0) 0 2) 2 3), (updI (updI (fun _ => 0) 0 3) 2 1), (updI (updI (fun _ => 0) 0 4) 2 1)]) 4 3) ∧ (
      (ints_P (gway_F ([(updI (updI (fun _ => 0) 0 1) 2 2), (updI (updI (fun _ => 0) 0 2) 2 3), (updI (updI (fun _ => 0) 0 3) 2 1), (updI (updI (fun _ => 0) 0 4) 2 1)]) 4 3) ([4, 1, 2, 3])) ∧ (
      True))
    else
      True))
  else
    True))
theorem alive10_ok (hP : alive10_P) : alive10_S (alive10_F) := by
  obtain ⟨r, hr⟩ : ∃ r, r = alive10_F := ⟨_, rfl⟩
  rw [← hr]
  unfold alive10_F at hr
  unfold alive10_S
  unfold alive10_P at hP
  obtain ⟨hq0, hP⟩ := hP
  refine ⟨hq0, ?_⟩
  obtain ⟨hq0, hP⟩ := hP
  refine ⟨hq0, ?_⟩
  by_cases hp1 : ((ints_F (greach_F ([(updI (updI (fun _ => 0) 0 1) 2 2), (updI (updI (fun _ => 0) 0 2) 2 3), (updI (updI (fun _ => 0) 0 3) 2 1), (updI (updI (fun _ => 0) 0 4) 2 1)]) 4) ([1, 2, 3]))) = true
  · rw [if_pos hp1] at hr hP ⊢
    obtain ⟨hq0, hP⟩ := hP
    refine ⟨hq0, ?_⟩
    obtain ⟨hq0, hP⟩ := hP
    refine ⟨hq0, ?_⟩
    by_cases hp2 : ((ints_F (gcirc_F ([(updI (updI (fun _ => 0) 0 1) 2 2), (updI (updI (fun _ => 0) 0 2) 2 3), (updI (updI (fun _ => 0) 0 3) 2 1), (updI (updI (fun _ => 0) 0 4) 2 1)])) ([1, 2, 3]))) = true
    · rw [if_pos hp2] at hr hP ⊢
      obtain ⟨hq0, hP⟩ := hP
      refine ⟨hq0, ?_⟩
      obtain ⟨hq0, hP⟩ := hP
      refine ⟨hq0, ?_⟩
      exact hr
    · rw [if_neg hp2] at hr hP ⊢
      exact hr
  · rw [if_neg hp1] at hr hP ⊢
    exact hr
def way10_S (l0 : (List (Nat → Int))) (from1 : Int) (to2 : Int) (r : Bool) : Prop :=
  (alive10_P) ∧ (
  if (alive10_F) = true then
    if 60 < (l0.length : Int) then
      r = (true)
    else
      (gway_P l0 from1 to2) ∧ (
      (wayR_P l0 from1 to2) ∧ (
      (ints_P (gway_F l0 from1 to2) (wayR_F l0 from1 to2)) ∧ (
      r = ((ints_F (gway_F l0 from1 to2) (wayR_F l0 from1 to2))))))
  else
    r = (false))
end Go.E
/- Where the sort of the library, and the keys of maps, lie in the program. -/
namespace Go.Proofs.Ytdmibiefinhneaa
open Go Go.E Go.Shelf
def renO : Ren := ⟨fun x => match x with | 5 => 34 | 7 => 41 | 8 => 42 | 10 => 43 | 11 => 44 | 12 => 45 | 13 => 46 | 14 => 47 | 15 => 48 | 16 => 49 | 17 => 50 | 18 => 51 | 19 => 52 | 20 => 53 | 30 => 54 | 31 => 55 | 32 => 56 | 33 => 57 | 34 => 58 | 35 => 59 | 40 => 60 | n => n, fun x => match x with | 0 => 0 | 3 => 3 | 4 => 4 | 5 => 5 | 9 => 9 | 22 => 25 | 23 => 25 | 25 => 3 | 32 => 69 | 35 => 82 | 36 => 83 | 41 => 40 | 44 => 90 | 46 => 92 | 53 => 93 | 57 => 97 | 63 => 99 | 64 => 100 | n => n, fun x => x⟩
theorem layO : SlLaysM.n5 Try.prog renO where
  mixed := by kernel_rfl
  f5 := ⟨Try.f34.name, by kernel_rfl, Try.func34.trans (congrArg some (by kernel_rfl))⟩
  f7 := ⟨Try.f41.name, by kernel_rfl, Try.func41.trans (congrArg some (by kernel_rfl))⟩
  f8 := Try.func42.trans (congrArg some (by kernel_rfl))
  f10 := ⟨Try.f43.name, by kernel_rfl, Try.func43.trans (congrArg some (by kernel_rfl))⟩
  f11 := ⟨Try.f44.name, by kernel_rfl, Try.func44.trans (congrArg some (by kernel_rfl))⟩
  f12 := ⟨Try.f45.name, by kernel_rfl, Try.func45.trans (congrArg some (by kernel_rfl))⟩
  f13 := ⟨Try.f46.name, by kernel_rfl, Try.func46.trans (congrArg some (by kernel_rfl))⟩
  f14 := ⟨Try.f47.name, by kernel_rfl, Try.func47.trans (congrArg some (by kernel_rfl))⟩
  f15 := ⟨Try.f48.name, by kernel_rfl, Try.func48.trans (congrArg some (by kernel_rfl))⟩
  f16 := ⟨Try.f49.name, by kernel_rfl, Try.func49.trans (congrArg some (by kernel_rfl))⟩
  f17 := ⟨Try.f50.name, by kernel_rfl, Try.func50.trans (congrArg some (by kernel_rfl))⟩
  f18 := ⟨Try.f51.name, by kernel_rfl, Try.func51.trans (congrArg some (by kernel_rfl))⟩
  f19 := Try.func52.trans (congrArg some (by kernel_rfl))
  f20 := Try.func53.trans (congrArg some (by kernel_rfl))
  f30 := ⟨Try.f54.name, by kernel_rfl, Try.func54.trans (congrArg some (by kernel_rfl))⟩
  f31 := Try.func55.trans (congrArg some (by kernel_rfl))
  f32 := Try.func56.trans (congrArg some (by kernel_rfl))
  f33 := ⟨Try.f57.name, by kernel_rfl, Try.func57.trans (congrArg some (by kernel_rfl))⟩
  f34 := ⟨Try.f58.name, by kernel_rfl, Try.func58.trans (congrArg some (by kernel_rfl))⟩
  f35 := ⟨Try.f59.name, by kernel_rfl, Try.func59.trans (congrArg some (by kernel_rfl))⟩
  f40 := ⟨Try.f60.name, by kernel_rfl, Try.func60.trans (congrArg some (by kernel_rfl))⟩
  t0 := Try.underlying0
  a0 := Try.isAgg0
  z0 := Try.sizeOf0
  v0 := Try.zeroValue0
  t3 := Try.underlying3
  a3 := Try.isAgg3
  z3 := Try.sizeOf3
  v3 := Try.zeroValue3
  t4 := Try.underlying4
  a4 := Try.isAgg4
  z4 := Try.sizeOf4
  v4 := Try.zeroValue4
  t5 := Try.underlying5
  a5 := Try.isAgg5
  z5 := Try.sizeOf5
  v5 := Try.zeroValue5
  t9 := Try.underlying9
  a9 := Try.isAgg9
  z9 := Try.sizeOf9
  v9 := Try.zeroValue9
  t22 := Try.underlying25
  a22 := Try.isAgg25
  z22 := Try.sizeOf25
  v22 := Try.zeroValue25
  t23 := Try.underlying25
  a23 := Try.isAgg25
  z23 := Try.sizeOf25
  v23 := Try.zeroValue25
  t25 := Try.underlying3
  a25 := Try.isAgg3
  z25 := Try.sizeOf3
  v25 := Try.zeroValue3
  t32 := Try.underlying69
  a32 := Try.isAgg69
  z32 := Try.sizeOf69
  v32 := Try.zeroValue69
  t35 := Try.underlying82
  a35 := Try.isAgg82
  z35 := Try.sizeOf82
  v35 := Try.zeroValue82
  t36 := Try.underlying83
  a36 := Try.isAgg83
  z36 := Try.sizeOf83
  v36 := Try.zeroValue83
  t41 := Try.underlying40
  a41 := Try.isAgg40
  z41 := Try.sizeOf40
  v41 := Try.zeroValue40
  t44 := Try.underlying90
  a44 := Try.isAgg90
  z44 := Try.sizeOf90
  v44 := Try.zeroValue90
  t46 := Try.underlying92
  a46 := Try.isAgg92
  z46 := Try.sizeOf92
  v46 := Try.zeroValue92
  t53 := Try.underlying93
  a53 := Try.isAgg93
  z53 := Try.sizeOf93
  v53 := Try.zeroValue93
  t57 := Try.underlying97
  a57 := Try.isAgg97
  z57 := Try.sizeOf97
  v57 := Try.zeroValue97
  t63 := Try.underlying99
  a63 := Try.isAgg99
  z63 := Try.sizeOf99
  v63 := Try.zeroValue99
  t64 := Try.underlying100
  a64 := Try.isAgg100
  z64 := Try.sizeOf100
  v64 := Try.zeroValue100
theorem enO : Enters Try.prog 34 := enters_of Try.func34 (by kernel_rfl) rfl
def ren35 : Ren := ⟨fun x => match x with | 6 => 20 | 7 => 21 | 8 => 33 | 9 => 34 | 10 => 35 | 11 => 40 | n => n, fun x => match x with | 0 => 0 | 3 => 4 | 4 => 4 | 23 => 33 | 24 => 25 | 26 => 3 | 27 => 46 | 28 => 47 | 33 => 59 | n => n, fun x => x⟩
theorem layK35 : SlLaysZI.n10 Try.prog ren35 where
  mixed := by kernel_rfl
  f10 := ⟨Try.f35.name, by kernel_rfl, Try.func35.trans (congrArg some (by kernel_rfl))⟩
  t0 := Try.underlying0
  a0 := Try.isAgg0
  z0 := Try.sizeOf0
  v0 := Try.zeroValue0
  t4 := Try.underlying4
  a4 := Try.isAgg4
  z4 := Try.sizeOf4
  v4 := Try.zeroValue4
  t23 := Try.underlying33
  a23 := Try.isAgg33
  z23 := Try.sizeOf33
  v23 := Try.zeroValue33
  t26 := Try.underlying3
  a26 := Try.isAgg3
  z26 := Try.sizeOf3
  v26 := Try.zeroValue3
  t33 := Try.underlying59
  a33 := Try.isAgg59
  z33 := Try.sizeOf59
  v33 := Try.zeroValue59
theorem layS35 : SlLaysZI.n6 Try.prog ren35 where
  mixed := by kernel_rfl
  f6 := ⟨Try.f20.name, by kernel_rfl, Try.func20.trans (congrArg some (by kernel_rfl))⟩
  f8 := ⟨Try.f33.name, by kernel_rfl, Try.func33.trans (congrArg some (by kernel_rfl))⟩
  f11 := ⟨Try.f40.name, by kernel_rfl, Try.func40.trans (congrArg some (by kernel_rfl))⟩
  t0 := Try.underlying0
  a0 := Try.isAgg0
  z0 := Try.sizeOf0
  v0 := Try.zeroValue0
  t24 := Try.underlying25
  a24 := Try.isAgg25
  z24 := Try.sizeOf25
  v24 := Try.zeroValue25
  t26 := Try.underlying3
  a26 := Try.isAgg3
  z26 := Try.sizeOf3
  v26 := Try.zeroValue3
  t28 := Try.underlying47
  a28 := Try.isAgg47
  z28 := Try.sizeOf47
  v28 := Try.zeroValue47
  i26 := by kernel_rfl
theorem sk35_c {α : Type} {cv : α → Value} {w : World} {Bm : Nat} {T : TypeId} {v : Value} {B : GH} {d : List (Int × α)} (hm : w.heap[Bm]? = some (BK 1 (fun _ => v) T)) (hJ : MJ kI cv ieq B v d) (hB : ∀ x ∈ B, w.heap[x.1]? = some x.2) (hP : skeysP d) :
    Con Try.prog 20 #[.func (.func 35) [].toArray [.pointer (some ⟨Bm, 0, none⟩)].toArray] w (fun v F => ∃ (u : Value) (C : GH), v = u ∧ F = (C ++ []) ∧ OJ 3 1 ic C u (skeys d) ∧ Cov w [] C) :=
  con_sortedKeysJ layK35 layS35 layO rfl enO (enters_of Try.func35 (by kernel_rfl) rfl) hm hJ hB hP
end Go.Proofs.Ytdmibiefinhneaa
/- The code answers as the relations say. -/
namespace Go.Proofs.Ytdmibiefinhneaa
open Go Go.E
theorem gnext_con (l0 : (List (Nat → Int))) (from1 : Int) (v0 : Value) (w : World) (hs0 : SL w 4 iv v0 l0) (r : (List Int)) (h : gnext_S l0 from1 r) : Con Try.prog 19 #[v0,.int .i64 from1] w (fun v F=>∃ (u0 : Value) (C0 : GH),v=u0∧F=(C0++[])∧OJ 3 1 ic C0 u0 r∧Cov w [] C0) := by
 unfold gnext_S at h; refine ce Try.func19 rfl Try.ntmps19 rfl (wS (va rfl (nR (xr rfl (o_mkmap (α := Bool) (cv := kB) kt3 Try.underlying33) ?_)))); rintro vs1 _ ⟨Bs1,rfl,hns1,hJs1⟩; have hcBs1 := hns1
 refine va rfl (nS (xw_seq (wS (vm rfl (xQ rfl (o_lenL rfl Try.underlying22 rfl (SL.val hs0)) (vm rfl (nS (xw_block ?_)))))))); obtain ⟨to5,hx1,h⟩ := h; refine xw_wh (fun s e H=>match s with | (to5,x11)=>∃ (v5_1 : Value) (B5_1 : GH),e=[(1,.int .i64 from1),(5,v5_1),(9,v0),(10,.int .i64 (l0.length : Int)),(11,.int .i64 x11)]∧H=B5_1++([])∧MJ kI kB ieq B5_1 v5_1 to5∧Cov w [] B5_1) (fun (to5 : (List (Int × Bool))) ex e H=>∃ (v5_1o : Value) (B5_1o : GH),ex=.exit 0∧e=[(5,v5_1o)]∧H=B5_1o++([])∧MJ kI kB ieq B5_1o v5_1o to5∧Cov w [] B5_1o) hx1 ⟨[(1,.int .i64 from1),(5,vs1),(9,v0),(10,.int .i64 (l0.length : Int)),(11,.int .i64 0)],Bs1++([]),(sl rfl),fun _ h=>h,⟨vs1,Bs1,rfl,rfl,hJs1,hcBs1⟩⟩ ?_ ?_
 ·rintro ⟨to5,x11⟩ o _ _ ⟨v5_1,B5_1,rfl,rfl,hJ5_1,hcB5_1⟩ hb; have h : gnext_l1 l0 from1 to5 x11 o := hb
  clear hb; unfold gnext_l1 at h; refine wS (xQ rfl (o_lss rfl rfl) (nS (xw_seq (wd rfl h (fun hp2 h=>?_) fun hp2 h=>?_))))
  ·refine xw_skip (xq_then (xw_seq (xw_block (wS ?_)))); obtain ⟨ho3,h⟩ := h; refine xQ rfl (o_ixL el22 rfl rfl (fun w hw=>(hs0.keep hw (Fr.seg hcB5_1 Fr.nil))) rfl ho3) (xQ rfl (o_ldLI rfl ts32 rfl (fun w hw=>(hs0.keep hw (Fr.seg hcB5_1 Fr.nil))) (toNat_lt ho3) rfl) (xr rfl (o_alloc ze32 rfl) ?_)); rintro _ _ ⟨b7,hb7,rfl,rfl⟩; refine xZ rfl (o_stWI rfl rfl ts32 mH (.here _ _ _ _)) (nR (xQ rfl (o_fa0 fl32_0 rfl) (xQ rfl (o_ldI (v := (l0[x11.toNat]!) 0) rfl ts3 mH (by omega) rfl) (vm rfl (xQ rfl (o_eql rfl rfl) (nS (wd rfl h (fun hp4 h=>?_) fun hp4 h=>?_)))))))
   ·refine xw_region (vm rfl (xQ rfl (o_fa0 fl32_2 rfl) (xQ rfl (o_ldI (v := (l0[x11.toNat]!) 2) rfl ts3 mH (by omega) rfl) (xY rfl (OT.st (fun _ h=>Pull.st (.thereC _ (.here _ _)) h) (o_mset (k := (l0[x11.toNat]!) 2) (e := true) kt3 Try.underlying33 rfl rfl rfl hJ5_1)) ?_)))); rintro _ _ ⟨Bs5,rfl,hns5,hJs5⟩; have hcBs5 := Cov.trans hcB5_1 hns5
    refine xo_st ((b7,_)::(Bs5++([]))) (fun _ h=>Pull.push (.thereC _ (.here _ _)) h) (xo_nil (xq_blk 1 (xq_then (xw_region ?_)))); obtain ⟨ho6,h⟩ := h; exact xQ rfl (o_add rfl rfl rfl ho6) (vm rfl (xo_nil (xq_next (s' := ((mset ieq to5 ((l0[x11.toNat]!) 2) true,x11 + 1) : (List (Int × Bool)) × Int)) (e' := [(1,.int .i64 from1),(5,v5_1),(9,v0),(10,.int .i64 (l0.length : Int)),(11,.int .i64 (x11 + 1))]) (Bs5++([])) (sl rfl) (Kp.st (Kp.new hb7 (Kp.segKeep Kp.nil))) h ⟨v5_1,Bs5,rfl,rfl,hJs5,hcBs5⟩)))
   ·refine xw_skip (xq_blk 1 (xq_then (xw_region ?_))); obtain ⟨ho7,h⟩ := h; exact xQ rfl (o_add rfl rfl rfl ho7) (vm rfl (xo_nil (xq_next (s' := ((to5,x11 + 1) : (List (Int × Bool)) × Int)) (e' := [(1,.int .i64 from1),(5,v5_1),(9,v0),(10,.int .i64 (l0.length : Int)),(11,.int .i64 (x11 + 1))]) (B5_1++([])) (sl rfl) (Kp.st (Kp.new hb7 (Kp.segKeep Kp.nil))) h ⟨v5_1,B5_1,rfl,rfl,hJ5_1,hcB5_1⟩)))
  ·exact xw_exit (xq_then_exit (xq_out (r := (to5 : (List (Int × Bool)))) (e' := [(5,v5_1)]) (B5_1++([])) (sl rfl) (fun _ h=>h) h (by intro hh; cases hh) ⟨v5_1,B5_1,rfl,rfl,rfl,hJ5_1,hcB5_1⟩))
 ·rintro _ _ _ ⟨v5_1o,B5_1o,rfl,rfl,rfl,hJ5_1o,hcB5_1o⟩; replace h : gnext_k1a to5 r := h; unfold gnext_k1a at h; refine xq_blk_eq (xq_then (wS (vm rfl (xin rfl kf21 rfl Try.func21 rfl Try.ntmps21 rfl (wS (xr rfl (o_box1 rfl (MJ.one hJ5_1o)) ?_)))))); rintro _ _ ⟨b1,hb1,rfl,rfl⟩; refine va rfl (nR (xQ rfl (o_mkf rfl rfl) (va rfl (nS (xw_ret (rO Try.results21 rfl (?_))))))); obtain ⟨ho8,h⟩ := h; refine xcall rfl trivial kf20 rfl (fun w1 hw1=>sk35_c (hw1.own _ _ mH) hJ5_1o (fun x hx=>hw1.own x.1 x.2 (Pull.sub (.thereC _ (.here _ _)) x hx)) ho8) ?_; rintro w1 vs9 _ hw1 ⟨_,Bs9,rfl,rfl,hJs9,hcBs9⟩; refine ⟨_,.news (Cov.fresh hcBs9) (.nil _),?_⟩; replace hcBs9 := Cov.base (w0 := w) hcBs9 hw1.size; refine va rfl (nS (xw_ret ?_)); subst h
  exact yA Try.results19 rfl _ (Kp.st (Kp.segKeep (Kp.new hb1 (Kp.segNew (Cov.fresh hcB5_1o) Kp.nil)))) (⟨_,Bs9,rfl,rfl,hJs9,hcBs9⟩)
theorem gnodes_con (l0 : (List (Nat → Int))) (v0 : Value) (w : World) (hs0 : SL w 4 iv v0 l0) (r : (List Int)) (h : gnodes_S l0 r) : Con Try.prog 24 #[v0] w (fun v F=>∃ (u0 : Value) (C0 : GH),v=u0∧F=(C0++[])∧OJ 3 1 ic C0 u0 r∧Cov w [] C0) := by
 unfold gnodes_S at h; refine ce Try.func24 rfl Try.ntmps24 rfl (wS (va rfl (nR (xr rfl (o_mkmap (α := Bool) (cv := kB) kt3 Try.underlying33) ?_)))); rintro vs1 _ ⟨Bs1,rfl,hns1,hJs1⟩; have hcBs1 := hns1
 refine va rfl (nS (xw_seq (wS (vm rfl (xQ rfl (o_lenL rfl Try.underlying22 rfl (SL.val hs0)) (vm rfl (nS (xw_block ?_)))))))); obtain ⟨all3,hx1,h⟩ := h; refine xw_wh (fun s e H=>match s with | (all3,x9)=>∃ (v3_1 : Value) (B3_1 : GH),e=[(3,v3_1),(7,v0),(8,.int .i64 (l0.length : Int)),(9,.int .i64 x9)]∧H=B3_1++([])∧MJ kI kB ieq B3_1 v3_1 all3∧Cov w [] B3_1) (fun (all3 : (List (Int × Bool))) ex e H=>∃ (v3_1o : Value) (B3_1o : GH),ex=.exit 0∧e=[(3,v3_1o)]∧H=B3_1o++([])∧MJ kI kB ieq B3_1o v3_1o all3∧Cov w [] B3_1o) hx1 ⟨[(3,vs1),(7,v0),(8,.int .i64 (l0.length : Int)),(9,.int .i64 0)],Bs1++([]),(sl rfl),fun _ h=>h,⟨vs1,Bs1,rfl,rfl,hJs1,hcBs1⟩⟩ ?_ ?_
 ·rintro ⟨all3,x9⟩ o _ _ ⟨v3_1,B3_1,rfl,rfl,hJ3_1,hcB3_1⟩ hb; have h : gnodes_l1 l0 all3 x9 o := hb
  clear hb; unfold gnodes_l1 at h; refine wS (xQ rfl (o_lss rfl rfl) (nS (xw_seq (wd rfl h (fun hp2 h=>?_) fun hp2 h=>?_))))
  ·refine xw_skip (xq_then (xw_seq (xw_block (wS ?_)))); obtain ⟨ho3,h⟩ := h; refine xQ rfl (o_ixL el22 rfl rfl (fun w hw=>(hs0.keep hw (Fr.seg hcB3_1 Fr.nil))) rfl ho3) (xQ rfl (o_ldLI rfl ts32 rfl (fun w hw=>(hs0.keep hw (Fr.seg hcB3_1 Fr.nil))) (toNat_lt ho3) rfl) (xr rfl (o_alloc ze32 rfl) ?_)); rintro _ _ ⟨b5,hb5,rfl,rfl⟩; refine xZ rfl (o_stWI rfl rfl ts32 mH (.here _ _ _ _)) (nR (vm rfl (xQ rfl (o_fa0 fl32_0 rfl) (xQ rfl (o_ldI (v := (l0[x9.toNat]!) 0) rfl ts3 mH (by omega) rfl) (xY rfl (OT.st (fun _ h=>Pull.st (.thereC _ (.here _ _)) h) (o_mset (k := (l0[x9.toNat]!) 0) (e := true) kt3 Try.underlying33 rfl rfl rfl hJ3_1)) ?_))))); rintro _ _ ⟨Bs4,rfl,hns4,hJs4⟩; have hcBs4 := Cov.trans hcB3_1 hns4
   refine xo_st ((b5,_)::(Bs4++([]))) (fun _ h=>Pull.push (.thereC _ (.here _ _)) h) (nS (xw_region (vm rfl (xQ rfl (o_fa0 fl32_2 rfl) (xQ rfl (o_ldI (v := (l0[x9.toNat]!) 2) rfl ts3 mH (by omega) rfl) (xY rfl (OT.st (fun _ h=>Pull.st (.thereC _ (.here _ _)) h) (o_mset (k := (l0[x9.toNat]!) 2) (e := true) kt3 Try.underlying33 rfl rfl rfl hJs4)) ?_)))))); rintro _ _ ⟨Bs5,rfl,hns5,hJs5⟩; have hcBs5 := Cov.trans hcBs4 hns5
   refine xo_st ((b5,_)::(Bs5++([]))) (fun _ h=>Pull.push (.thereC _ (.here _ _)) h) (xo_nil (xq_blk 1 (xq_then (xw_region ?_)))); obtain ⟨ho6,h⟩ := h; exact xQ rfl (o_add rfl rfl rfl ho6) (vm rfl (xo_nil (xq_next (s' := ((mset ieq (mset ieq all3 ((l0[x9.toNat]!) 0) true) ((l0[x9.toNat]!) 2) true,x9 + 1) : (List (Int × Bool)) × Int)) (e' := [(3,v3_1),(7,v0),(8,.int .i64 (l0.length : Int)),(9,.int .i64 (x9 + 1))]) (Bs5++([])) (sl rfl) (Kp.st (Kp.new hb5 (Kp.segKeep Kp.nil))) h ⟨v3_1,Bs5,rfl,rfl,hJs5,hcBs5⟩)))
  ·exact xw_exit (xq_then_exit (xq_out (r := (all3 : (List (Int × Bool)))) (e' := [(3,v3_1)]) (B3_1++([])) (sl rfl) (fun _ h=>h) h (by intro hh; cases hh) ⟨v3_1,B3_1,rfl,rfl,rfl,hJ3_1,hcB3_1⟩))
 ·rintro _ _ _ ⟨v3_1o,B3_1o,rfl,rfl,rfl,hJ3_1o,hcB3_1o⟩; replace h : gnodes_k1a all3 r := h; unfold gnodes_k1a at h; refine xq_blk_eq (xq_then (wS (vm rfl (xin rfl kf21 rfl Try.func21 rfl Try.ntmps21 rfl (wS (xr rfl (o_box1 rfl (MJ.one hJ3_1o)) ?_)))))); rintro _ _ ⟨b1,hb1,rfl,rfl⟩; refine va rfl (nR (xQ rfl (o_mkf rfl rfl) (va rfl (nS (xw_ret (rO Try.results21 rfl (?_))))))); obtain ⟨ho7,h⟩ := h; refine xcall rfl trivial kf20 rfl (fun w1 hw1=>sk35_c (hw1.own _ _ mH) hJ3_1o (fun x hx=>hw1.own x.1 x.2 (Pull.sub (.thereC _ (.here _ _)) x hx)) ho7) ?_; rintro w1 vs8 _ hw1 ⟨_,Bs8,rfl,rfl,hJs8,hcBs8⟩; refine ⟨_,.news (Cov.fresh hcBs8) (.nil _),?_⟩; replace hcBs8 := Cov.base (w0 := w) hcBs8 hw1.size; refine va rfl (nS (xw_ret ?_)); subst h
  exact yA Try.results24 rfl _ (Kp.st (Kp.segKeep (Kp.new hb1 (Kp.segNew (Cov.fresh hcB3_1o) Kp.nil)))) (⟨_,Bs8,rfl,rfl,hJs8,hcBs8⟩)
theorem hasI_con (s0 : (List Int)) (v1 : Int) (v0 : Value) (w : World) (hs0 : SL w 1 ic v0 s0) (r : Bool) (h : hasI_S s0 v1 r) : Con Try.prog 25 #[v0,.int .i64 v1] w (Is (.bool r) []) := by
 unfold hasI_S at h; refine ce Try.func25 rfl Try.ntmps25 rfl (wS (va rfl (nR (vm rfl (vm rfl (xin rfl kf36 rfl Try.func36 rfl Try.ntmps36 rfl (wS (va rfl ?_)))))))); refine nS (xw_seq (wS (vm rfl (xQ rfl (o_lenL rfl Try.underlying25 rfl (SL.val hs0)) (vm rfl (nS (xw_block ?_))))))); obtain ⟨x1,hx1,h⟩ := h; refine xw_wh (fun (x8 : Int) e H=>e=[(0,v0),(1,.int .i64 v1),(7,.int .i64 (s0.length : Int)),(8,.int .i64 x8)]∧H=[]) (fun x ex e H=>match x with | .inl _=>ex=.exit 0∧e=[]∧H=[] | .inr x4=>ex=.ret∧e=[(4,.int .i64 x4)]∧H=[]) hx1 ⟨[(0,v0),(1,.int .i64 v1),(7,.int .i64 (s0.length : Int)),(8,.int .i64 0)],[],(sl rfl),fun _ h=>h,⟨rfl,rfl⟩⟩ ?_ ?_
 ·rintro x8 o _ _ ⟨rfl,rfl⟩ hb; have h : hasI_l1 s0 v1 x8 o := hb
  clear hb; unfold hasI_l1 at h; refine wS (xQ rfl (o_lss rfl rfl) (nS (xw_seq (wd rfl h (fun hp1 h=>?_) fun hp1 h=>?_))))
  ·refine xw_skip (xq_then (xw_seq (xw_block (wS (vm rfl (va rfl (nR (vm rfl (vm rfl ?_))))))))); refine vm rfl ?_; obtain ⟨ho2,h⟩ := h; refine xQ rfl (o_ixL el25 rfl rfl (fun w hw=>(hs0.keep hw Fr.nil)) rfl ho2) (xQ rfl (o_ldL1 (off := 0) (u := .int .i64 (s0[x8.toNat]!)) rfl ts3 rfl (fun w hw=>(hs0.keep hw Fr.nil)) (toNat_lt ho2) rfl rfl) (xQ rfl (o_eql rfl rfl) (nS (wd rfl h (fun hp3 h=>?_) fun hp3 h=>?_))))
   ·exact wS (vm rfl (va rfl (nS (xw_ret (xq_blk_ret (xq_then_ret (xq_out (r := (.inr x8 : (Unit) ⊕ (Int))) (e' := [(4,.int .i64 x8)]) ([]) (sl rfl) (fun _ h=>h) h (by intro hh; cases hh) ⟨rfl,rfl,rfl⟩)))))))
   ·refine xw_skip (xq_blk 1 (xq_then (xw_region ?_))); obtain ⟨ho4,h⟩ := h; exact xQ rfl (o_add rfl rfl rfl ho4) (vm rfl (xo_nil (xq_next (s' := (x8 + 1 : Int)) (e' := [(0,v0),(1,.int .i64 v1),(7,.int .i64 (s0.length : Int)),(8,.int .i64 (x8 + 1))]) ([]) (sl rfl) (fun _ h=>h) h ⟨rfl,rfl⟩)))
  ·exact xw_exit (xq_then_exit (xq_out (r := (.inl () : (Unit) ⊕ (Int))) (e' := []) ([]) (sl rfl) (fun _ h=>h) h (by intro hh; cases hh) ⟨rfl,rfl,rfl⟩))
 ·rcases x1 with _ | x4
  ·rintro _ _ _ ⟨rfl,rfl,rfl⟩; replace h : hasI_k1a r := h; unfold hasI_k1a at h; refine xq_blk_eq (xq_then (wS (va rfl (nS (xw_ret (rO Try.results36 rfl (?_))))))); refine xQ rfl (o_geq rfl rfl) (va rfl (nS (xw_ret ?_))); subst h
   exact rO Try.results25 rfl (⟨rfl,rfl⟩)
  rintro _ _ _ ⟨rfl,rfl,rfl⟩; replace h : hasI_k1b x4 r := h; unfold hasI_k1b at h; refine xq_blk_ret (xq_then_ret (rO Try.results36 rfl (?_))); refine xQ rfl (o_geq rfl rfl) (va rfl (nS (xw_ret ?_))); subst h
  exact rO Try.results25 rfl (⟨rfl,rfl⟩)
theorem ints_con (a0 : (List Int)) (b1 : (List Int)) (v0 : Value) (v1 : Value) (w : World) (hs0 : SL w 1 ic v0 a0) (hs1 : SL w 1 ic v1 b1) (r : Bool) (h : ints_S a0 b1 r) : Con Try.prog 9 #[v0,v1] w (Is (.bool r) []) := by
 unfold ints_S at h; refine ce Try.func9 rfl Try.ntmps9 rfl (wS (va rfl (nS (xw_seq (wS (vm rfl (xQ rfl (o_lenL rfl Try.underlying25 rfl (SL.val hs0)) (vm rfl (xQ rfl (o_lenL rfl Try.underlying25 rfl (SL.val hs1)) (xQ rfl (o_neq rfl rfl) ?_)))))))))); refine nS (wn rfl h (fun hp1 h=>?_) fun hp1 h=>?_)
 ·refine wS (va rfl (nS (xw_ret (xq_then_ret ?_)))); subst h
  exact rO Try.results9 rfl (⟨rfl,rfl⟩)
 ·refine xw_skip (xq_then (xw_seq (wS (va rfl (nS (xw_block ?_)))))); obtain ⟨x1,hx1,h⟩ := h; refine xw_wh (fun (i5 : Int) e H=>e=[(0,v0),(1,v1),(5,.int .i64 i5)]∧H=[]) (fun x ex e H=>match x with | .inl _=>ex=.exit 0∧e=[]∧H=[] | .inr _=>ex=.ret∧e=[(4,.bool false)]∧H=[]) hx1 ⟨[(0,v0),(1,v1),(5,.int .i64 0)],[],(sl rfl),fun _ h=>h,⟨rfl,rfl⟩⟩ ?_ ?_
  ·rintro i5 o _ _ ⟨rfl,rfl⟩ hb; have h : ints_l1 a0 b1 i5 o := hb
   clear hb; unfold ints_l1 at h; refine xw_seq (wS (vm rfl (vm rfl (xQ rfl (o_lenL rfl Try.underlying25 rfl (SL.val hs0)) (xQ rfl (o_lss rfl rfl) (nS (wd rfl h (fun hp2 h=>?_) fun hp2 h=>?_)))))))
   ·refine xw_skip (xq_then (xw_seq (xw_block (xw_seq (xd_start (by kernel_rfl) (by kernel_rfl) (fun hok=>?_)))))); refine xb hok 0 [0] rfl (by kernel_rfl) (fun _ hK=>o_mv rfl) (xb hok 1 [5] rfl (by kernel_rfl) (fun _ hK=>o_mv rfl) ?_); obtain ⟨ho3,h⟩ := h; refine xb hok 2 [17,18] rfl (by kernel_rfl) (fun _ hK=>o_ixL el25 rfl rfl (fun w hw=>(hs0.keep hw (fun k hk=>(hK k hk).elim (fun h=>Fr.nil k h) id))) rfl ho3) (xb hok 3 [19] rfl (by kernel_rfl) (fun _ hK=>o_ldL1 (off := 0) (u := .int .i64 (a0[i5.toNat]!)) rfl ts3 rfl (fun w hw=>(hs0.keep hw (fun k hk=>(hK k hk).elim (fun h=>Fr.nil k h) id))) (toNat_lt ho3) rfl rfl) (xb hok 4 [1] rfl (by kernel_rfl) (fun _ hK=>o_mv rfl) (xb hok 5 [5] rfl (by kernel_rfl) (fun _ hK=>o_mv rfl) ?_))); obtain ⟨ho4,h⟩ := h; refine xb hok 6 [21,22] rfl (by kernel_rfl) (fun _ hK=>o_ixL el25 rfl rfl (fun w hw=>(hs1.keep hw (fun k hk=>(hK k hk).elim (fun h=>Fr.nil k h) id))) rfl ho4) (xb hok 7 [23] rfl (by kernel_rfl) (fun _ hK=>o_ldL1 (off := 0) (u := .int .i64 (b1[i5.toNat]!)) rfl ts3 rfl (fun w hw=>(hs1.keep hw (fun k hk=>(hK k hk).elim (fun h=>Fr.nil k h) id))) (toNat_lt ho4) rfl rfl) (xb hok 8 [20,24] rfl (by kernel_rfl) (fun _ hK=>o_neq rfl rfl) (xd_end hok (by kernel_rfl) (xq_then (wn rfl h (fun hp5 h=>?_) fun hp5 h=>?_)))))
    ·exact wS (va rfl (nS (xw_ret (xq_blk_ret (xq_then_ret (xq_out (r := (.inr () : (Unit) ⊕ (Unit))) (e' := [(4,.bool false)]) ([]) (sl rfl) (fun _ h=>h) h (by intro hh; cases hh) ⟨rfl,rfl,rfl⟩))))))
    ·refine xw_skip (xq_blk 1 (xq_then (xw_region (vm rfl ?_)))); obtain ⟨ho6,h⟩ := h; exact xQ rfl (o_add rfl rfl rfl ho6) (va rfl (xo_nil (xq_next (s' := (i5 + 1 : Int)) (e' := [(0,v0),(1,v1),(5,.int .i64 (i5 + 1))]) ([]) (sl rfl) (fun _ h=>h) h ⟨rfl,rfl⟩)))
   ·exact xw_exit (xq_then_exit (xq_out (r := (.inl () : (Unit) ⊕ (Unit))) (e' := []) ([]) (sl rfl) (fun _ h=>h) h (by intro hh; cases hh) ⟨rfl,rfl,rfl⟩))
  ·rcases x1 with _ | x1
   ·rintro _ _ _ ⟨rfl,rfl,rfl⟩; replace h : ints_k1a r := h; unfold ints_k1a at h; refine xq_blk_eq (xq_then (wS (va rfl (nS (xw_ret ?_))))); subst h
    exact rO Try.results9 rfl (⟨rfl,rfl⟩)
   cases x1
   rintro _ _ _ ⟨rfl,rfl,rfl⟩; replace h : ints_k1b r := h; unfold ints_k1b at h; refine xq_blk_ret (xq_then_ret ?_); subst h
   exact rO Try.results9 rfl (⟨rfl,rfl⟩)
theorem risingR_con (l0 : (List Int)) (v0 : Value) (w : World) (hs0 : SL w 1 ic v0 l0) (r : (List Int)) (h : risingR_S l0 r) : Con Try.prog 23 #[v0] w (fun v F=>∃ (u0 : Value) (C0 : GH),v=u0∧F=(C0++[])∧OJ 3 1 ic C0 u0 r∧Cov w [] C0) := by
 unfold risingR_S at h; refine ce Try.func23 rfl Try.ntmps23 rfl (wS (va rfl (nR (va rfl (nS (xw_seq (wS ?_))))))); refine va rfl (nS (xw_block ?_)); obtain ⟨out3,hx1,h⟩ := h; refine xw_wh (fun s e H=>match s with | (out3,i4)=>∃ (v3_1 : Value) (B3_1 : GH),e=[(0,v0),(3,v3_1),(4,.int .i64 i4)]∧H=B3_1++([])∧OJ 3 1 ic B3_1 v3_1 out3∧Cov w [] B3_1) (fun (out3 : (List Int)) ex e H=>∃ (v3_1o : Value) (B3_1o : GH),ex=.exit 0∧e=[(3,v3_1o)]∧H=B3_1o++([])∧OJ 3 1 ic B3_1o v3_1o out3∧Cov w [] B3_1o) hx1 ⟨[(0,v0),(3,.slice none 0 0),(4,.int .i64 0)],[]++([]),(sl rfl),fun _ h=>h,⟨_,[],rfl,rfl,OJ.nil,(Cov.refl _)⟩⟩ ?_ ?_
 ·rintro ⟨out3,i4⟩ o _ _ ⟨v3_1,B3_1,rfl,rfl,hJ3_1,hcB3_1⟩ hb; have h : risingR_l1 l0 out3 i4 o := hb
  clear hb; unfold risingR_l1 at h; refine xw_seq (wS (vm rfl (vm rfl (xQ rfl (o_lenL rfl Try.underlying25 rfl (SL.val hs0)) (xQ rfl (o_lss rfl rfl) (nS (wd rfl h (fun hp1 h=>?_) fun hp1 h=>?_)))))))
  ·refine xw_skip (xq_then (xw_seq (xw_block (wS (va rfl (nS (xw_seq (xw_block ?_)))))))); obtain ⟨at5,hx2,h⟩ := h; refine xw_wh (fun (at5 : Int) e H=>e=[(0,v0),(3,v3_1),(4,.int .i64 i4),(5,.int .i64 at5)]∧H=B3_1++([])) (fun (at5 : Int) ex e H=>ex=.exit 2∧e=[(0,v0),(3,v3_1),(4,.int .i64 i4),(5,.int .i64 at5)]∧H=B3_1++([])) hx2 ⟨[(0,v0),(3,v3_1),(4,.int .i64 i4),(5,.int .i64 0)],B3_1++([]),(sl rfl),fun _ h=>h,⟨rfl,rfl⟩⟩ ?_ ?_
   ·rintro at5 o _ _ ⟨rfl,rfl⟩ hb; have h : risingR_l2 l0 out3 i4 at5 o := hb
    clear hb; unfold risingR_l2 at h; refine xw_seq (xw_seq ?_); obtain ⟨ho2,ho3,h⟩ := h; refine wk [0,3,4,5] rfl [(26,.bool ((decide (at5 < (out3.length : Int))) && (decide (out3[at5.toNat]! < l0[i4.toNat]!))))] ?_ ?_
    ·refine xd_start (by kernel_rfl) (by kernel_rfl) (fun hok=>?_); refine xb hok 0 [5] rfl (by kernel_rfl) (fun _ hK=>o_mv rfl) (xb hok 1 [3] rfl (by kernel_rfl) (fun _ hK=>o_mv rfl) (xb hok 2 [13] rfl (by kernel_rfl) (fun _ hK=>o_lenL rfl Try.underlying25 rfl (OJ.val hJ3_1)) (xb hok 3 [12,14] rfl (by kernel_rfl) (fun _ hK=>o_lss rfl rfl) (xb hok 4 [15] rfl (by kernel_rfl) (fun _ hK=>o_mv rfl) (dd' 16 rfl (fun hp4=>?_) fun hp4=>?_)))))
     ·exact xb hok 5 [3,16] rfl (by kernel_rfl) (fun _ hK=>o_mv rfl) (xb hok 6 [5,16] rfl (by kernel_rfl) (fun _ hK=>o_mv rfl) (xbr hok 7 [17,18,16] (B3_1++([])) (rsA (Pull.sub (.here _ _)) rsN) rfl (by kernel_rfl) (fun _ hy hK=>o_ixL el25 rfl rfl (fun w hw=>(hJ3_1.sl hw (fun x hx=>hy x (Pull.sub (.here _ _) x hx)))) rfl (ho2 (by first | exact (dT hp4) | (simp only [dT hp4,if_pos hp4,bS,reduceIte,Bool.false_eq_true]; done) | (simp [hp4]; done) | (simp_all; done)))) (xbr hok 8 [19,16] (B3_1++([])) (rsA (Pull.sub (.here _ _)) rsN) rfl (by kernel_rfl) (fun _ hy hK=>o_ldL1 (off := 0) (u := .int .i64 (out3[at5.toNat]!)) rfl ts3 rfl (fun w hw=>(hJ3_1.sl hw (fun x hx=>hy x (Pull.sub (.here _ _) x hx)))) (toNat_lt (ho2 (by first | exact (dT hp4) | (simp only [dT hp4,if_pos hp4,bS,reduceIte,Bool.false_eq_true]; done) | (simp [hp4]; done) | (simp_all; done)))) rfl rfl) (xb hok 9 [0,16] rfl (by kernel_rfl) (fun _ hK=>o_mv rfl) (xb hok 10 [4,16] rfl (by kernel_rfl) (fun _ hK=>o_mv rfl) (xb hok 11 [21,22,16] rfl (by kernel_rfl) (fun _ hK=>o_ixL el25 rfl rfl (fun w hw=>(hs0.keep hw (fun k hk=>(hK k hk).elim (fun h=>(Fr.seg hcB3_1 Fr.nil) k h) id))) rfl (ho3 (by first | exact (dT hp4) | (simp only [dT hp4,if_pos hp4,bS,reduceIte,Bool.false_eq_true]; done) | (simp [hp4]; done) | (simp_all; done)))) (xb hok 12 [23,16] rfl (by kernel_rfl) (fun _ hK=>o_ldL1 (off := 0) (u := .int .i64 (l0[i4.toNat]!)) rfl ts3 rfl (fun w hw=>(hs0.keep hw (fun k hk=>(hK k hk).elim (fun h=>(Fr.seg hcB3_1 Fr.nil) k h) id))) (toNat_lt (ho3 (by first | exact (dT hp4) | (simp only [dT hp4,if_pos hp4,bS,reduceIte,Bool.false_eq_true]; done) | (simp [hp4]; done) | (simp_all; done)))) rfl rfl) (xb hok 13 [20,24,16] rfl (by kernel_rfl) (fun _ hK=>o_lss rfl rfl) (xb hok 14 [16,25] rfl (by kernel_rfl) (fun _ hK=>o_pick_t rfl rfl) (xd_end hok (by kernel_rfl) (qk rfl (by simp [hp4]) rfl)))))))))))
     ·exact xbs hok 5 [3,16] rfl (by kernel_rfl) (xbs hok 6 [5,16] rfl (by kernel_rfl) (xbs hok 7 [17,18,16] rfl (by kernel_rfl) (xbs hok 8 [19,16] rfl (by kernel_rfl) (xbs hok 9 [0,16] rfl (by kernel_rfl) (xbs hok 10 [4,16] rfl (by kernel_rfl) (xbs hok 11 [21,22,16] rfl (by kernel_rfl) (xbs hok 12 [23,16] rfl (by kernel_rfl) (xbs hok 13 [20,24,16] rfl (by kernel_rfl) (xb hok 14 [16,25] rfl (by kernel_rfl) (fun _ hK=>o_pick_f rfl rfl) (xd_end hok (by kernel_rfl) (qk rfl (by simp [hp4]) rfl)))))))))))
    ·refine xq_then (wb rfl h (fun hp5 h=>?_) fun hp5 h=>?_)
     ·refine xw_skip (xq_then (xw_block (xw_region (vm rfl ?_)))); obtain ⟨ho6,h⟩ := h; exact xQ rfl (o_add rfl rfl rfl ho6) (va rfl (xo_nil (xq_blk 3 (xq_next (s' := (at5 + 1 : Int)) (e' := [(0,v0),(3,v3_1),(4,.int .i64 i4),(5,.int .i64 (at5 + 1))]) (B3_1++([])) (sl rfl) (fun _ h=>h) h ⟨rfl,rfl⟩))))
     ·exact xw_exit (xq_then_exit (xq_out (r := (at5 : Int)) (e' := [(0,v0),(3,v3_1),(4,.int .i64 i4),(5,.int .i64 at5)]) (B3_1++([])) (sl rfl) (fun _ h=>h) h (by intro hh; cases hh) ⟨rfl,rfl,rfl⟩))
   ·rintro _ _ _ ⟨rfl,rfl,rfl⟩; replace h : risingR_k2a l0 out3 i4 at5 o := h; unfold risingR_k2a at h; refine xq_blk_eq (xq_then (xw_seq (xw_seq ?_))); obtain ⟨ho7,ho8,h⟩ := h; refine wk [0,3,4,5] rfl [(43,.bool ((decide (at5 < (out3.length : Int))) && (decide (out3[at5.toNat]! = l0[i4.toNat]!))))] ?_ ?_
    ·refine xd_start (by kernel_rfl) (by kernel_rfl) (fun hok=>?_); refine xb hok 0 [5] rfl (by kernel_rfl) (fun _ hK=>o_mv rfl) (xb hok 1 [3] rfl (by kernel_rfl) (fun _ hK=>o_mv rfl) (xb hok 2 [30] rfl (by kernel_rfl) (fun _ hK=>o_lenL rfl Try.underlying25 rfl (OJ.val hJ3_1)) (xb hok 3 [29,31] rfl (by kernel_rfl) (fun _ hK=>o_lss rfl rfl) (xb hok 4 [32] rfl (by kernel_rfl) (fun _ hK=>o_mv rfl) (dd' 33 rfl (fun hp9=>?_) fun hp9=>?_)))))
     ·exact xb hok 5 [3,33] rfl (by kernel_rfl) (fun _ hK=>o_mv rfl) (xb hok 6 [5,33] rfl (by kernel_rfl) (fun _ hK=>o_mv rfl) (xbr hok 7 [34,35,33] (B3_1++([])) (rsA (Pull.sub (.here _ _)) rsN) rfl (by kernel_rfl) (fun _ hy hK=>o_ixL el25 rfl rfl (fun w hw=>(hJ3_1.sl hw (fun x hx=>hy x (Pull.sub (.here _ _) x hx)))) rfl (ho7 (by first | exact (dT hp9) | (simp only [dT hp9,if_pos hp9,bS,reduceIte,Bool.false_eq_true]; done) | (simp [hp9]; done) | (simp_all; done)))) (xbr hok 8 [36,33] (B3_1++([])) (rsA (Pull.sub (.here _ _)) rsN) rfl (by kernel_rfl) (fun _ hy hK=>o_ldL1 (off := 0) (u := .int .i64 (out3[at5.toNat]!)) rfl ts3 rfl (fun w hw=>(hJ3_1.sl hw (fun x hx=>hy x (Pull.sub (.here _ _) x hx)))) (toNat_lt (ho7 (by first | exact (dT hp9) | (simp only [dT hp9,if_pos hp9,bS,reduceIte,Bool.false_eq_true]; done) | (simp [hp9]; done) | (simp_all; done)))) rfl rfl) (xb hok 9 [0,33] rfl (by kernel_rfl) (fun _ hK=>o_mv rfl) (xb hok 10 [4,33] rfl (by kernel_rfl) (fun _ hK=>o_mv rfl) (xb hok 11 [38,39,33] rfl (by kernel_rfl) (fun _ hK=>o_ixL el25 rfl rfl (fun w hw=>(hs0.keep hw (fun k hk=>(hK k hk).elim (fun h=>(Fr.seg hcB3_1 Fr.nil) k h) id))) rfl (ho8 (by first | exact (dT hp9) | (simp only [dT hp9,if_pos hp9,bS,reduceIte,Bool.false_eq_true]; done) | (simp [hp9]; done) | (simp_all; done)))) (xb hok 12 [40,33] rfl (by kernel_rfl) (fun _ hK=>o_ldL1 (off := 0) (u := .int .i64 (l0[i4.toNat]!)) rfl ts3 rfl (fun w hw=>(hs0.keep hw (fun k hk=>(hK k hk).elim (fun h=>(Fr.seg hcB3_1 Fr.nil) k h) id))) (toNat_lt (ho8 (by first | exact (dT hp9) | (simp only [dT hp9,if_pos hp9,bS,reduceIte,Bool.false_eq_true]; done) | (simp [hp9]; done) | (simp_all; done)))) rfl rfl) (xb hok 13 [37,41,33] rfl (by kernel_rfl) (fun _ hK=>o_eql rfl rfl) (xb hok 14 [33,42] rfl (by kernel_rfl) (fun _ hK=>o_pick_t rfl rfl) (xd_end hok (by kernel_rfl) (qk rfl (by simp [hp9]) rfl)))))))))))
     ·exact xbs hok 5 [3,33] rfl (by kernel_rfl) (xbs hok 6 [5,33] rfl (by kernel_rfl) (xbs hok 7 [34,35,33] rfl (by kernel_rfl) (xbs hok 8 [36,33] rfl (by kernel_rfl) (xbs hok 9 [0,33] rfl (by kernel_rfl) (xbs hok 10 [4,33] rfl (by kernel_rfl) (xbs hok 11 [38,39,33] rfl (by kernel_rfl) (xbs hok 12 [40,33] rfl (by kernel_rfl) (xbs hok 13 [37,41,33] rfl (by kernel_rfl) (xb hok 14 [33,42] rfl (by kernel_rfl) (fun _ hK=>o_pick_f rfl rfl) (xd_end hok (by kernel_rfl) (qk rfl (by simp [hp9]) rfl)))))))))))
    ·refine xq_then (wb rfl h (fun hp10 h=>?_) fun hp10 h=>?_)
     ·refine xw_exit (xq_then_exit (xq_blk_eq (xq_then (xw_region (vm rfl ?_))))); obtain ⟨ho11,h⟩ := h; exact xQ rfl (o_add rfl rfl rfl ho11) (va rfl (xo_nil (xq_next (s' := ((out3,i4 + 1) : (List Int) × Int)) (e' := [(0,v0),(3,v3_1),(4,.int .i64 (i4 + 1))]) (B3_1++([])) (sl rfl) (fun _ h=>h) h ⟨v3_1,B3_1,rfl,rfl,hJ3_1,hcB3_1⟩)))
     ·refine xw_skip (xq_then ?_); have hk := h.2
      replace h := h.1; refine xw_cutI (fun e H=>∃ (vj13 : Value) (Bj12 : GH),e=[(0,v0),(3,vj13),(4,.int .i64 i4)]∧H=Bj12++([])∧Cov w [] Bj12∧OJ 3 1 ic Bj12 vj13 ((([]++(out3.take at5.toNat).drop 0)++[l0[i4.toNat]!])++(out3.take out3.length).drop at5.toNat)) ?_ ?_
      ·refine xd_start (by kernel_rfl) (by kernel_rfl) (fun hok=>?_); refine xb hok 1 [3] rfl (by kernel_rfl) (fun _ hK=>o_mv rfl) (xb hok 2 [5] rfl (by kernel_rfl) (fun _ hK=>o_mv rfl) ?_); obtain ⟨ho14,h⟩ := h; refine xbr hok 3 [45,46] (B3_1++([])) (rsA (Pull.sub (.here _ _)) rsN) rfl (by kernel_rfl) (fun _ hy hK=>o_cutH el25 rfl (fun w hw=>(hJ3_1.sl hw (fun x hx=>hy x (Pull.sub (.here _ _) x hx)))) rfl ho14) (xb hok 5 [0] rfl (by kernel_rfl) (fun _ hK=>o_mv rfl) (xb hok 6 [4] rfl (by kernel_rfl) (fun _ hK=>o_mv rfl) ?_)); obtain ⟨ho15,h⟩ := h; refine xb hok 7 [49,50] rfl (by kernel_rfl) (fun _ hK=>o_ixL el25 rfl rfl (fun w hw=>(hs0.keep hw (fun k hk=>(hK k hk).elim (fun h=>(Fr.seg hcB3_1 Fr.nil) k h) id))) rfl ho15) (xb hok 8 [51] rfl (by kernel_rfl) (fun _ hK=>o_ldL1 (off := 0) (u := .int .i64 (l0[i4.toNat]!)) rfl ts3 rfl (fun w hw=>(hs0.keep hw (fun k hk=>(hK k hk).elim (fun h=>(Fr.seg hcB3_1 Fr.nil) k h) id))) (toNat_lt ho15) rfl rfl) (xb hok 11 [3] rfl (by kernel_rfl) (fun _ hK=>o_mv rfl) (xb hok 12 [5] rfl (by kernel_rfl) (fun _ hK=>o_mv rfl) ?_))); obtain ⟨ho16,h⟩ := h; refine xbr hok 13 [55,56] (B3_1++([])) (rsA (Pull.sub (.here _ _)) rsN) rfl (by kernel_rfl) (fun _ hy hK=>o_cutL el25 rfl (fun w hw=>(hJ3_1.sl hw (fun x hx=>hy x (Pull.sub (.here _ _) x hx)))) rfl ho16) (xd_step2 hok 0 9 [] [(52,_)] rfl rfl rfl rfl (by kernel_rfl) ln (lc rfl ln) (by kernel_rfl) (by kernel_rfl) trivial trivial (o_bsl el25 ze3 (cells_one rfl) rfl rfl (.nil _)) (o_bsl el25 ze3 (cells_one rfl) rfl rfl (.int rfl rfl (.nil _))) ?_ ?_)
       ·rintro _ _ ⟨b44,hb44,rfl,rfl⟩; refine ⟨(rsA (rsA (Pull.sub (.thereC _ (.here _ _))) rsN) (rsA (rsA (Pull.sub (.thereC _ (.here _ _))) rsN) rsN)),(Ks.consN hb44 (Ks.segK (fun k hk=>by simp [hk]) Ks.nil)),?_⟩; obtain ⟨ho18,h⟩ := h; refine xd_step2 hok 4 9 [(44,_),(47,_)] [(52,_)] rfl rfl rfl rfl (by kernel_rfl) (lc rfl (lc rfl ln)) (lc rfl ln) (by kernel_rfl) (by kernel_rfl) trivial trivial (OT.st (fun _ h=>Pull.st (.hereC _ _) h) (o_appJ (l := []) (l' := (out3.take at5.toNat).drop 0) (B := [_]) ap25 rfl rfl (litO 0 (l := []) mH rfl rfl (fun i hi=>match i,hi with  | q + 0,h=>absurd h (by omega))) (fun w2 hw2=>((hJ3_1.cut (Nat.zero_le _) (toNat_le ho14) (by decide)).sl hw2 (Pull.sub (.there _ (.here _ _))))) (fun _ _=>rfl) ho18 (len_max ho18 (by decide)))) (o_bsl el25 ze3 (cells_one rfl) rfl rfl (.int rfl rfl (.nil _))) ?_ ?_
        ·rintro vs17 _ ⟨Bs17,rfl,hns17,hJs17⟩; have hcBs17 := Cov.trans (Cov.new hb44) hns17
         refine ⟨(rsA (rsA (Pull.sub (.there _ (.here _ _))) rsN) (rsA (rsA (Pull.sub (.there _ (.here _ _))) rsN) rsN)),(Ks.segN hcBs17 (Ks.segK (fun k hk=>by simp [hk]) Ks.nil)),?_⟩; refine xd_step hok 9 [(52,_)] rfl rfl (by kernel_rfl) (lc rfl ln) (by kernel_rfl) trivial (o_bsl el25 ze3 (cells_one rfl) rfl rfl (.int rfl rfl (.nil _))) ?_; rintro _ _ ⟨b53,hb53,rfl,rfl⟩; refine ⟨(rsA (rsA (Pull.sub (.thereC _ (.there _ (.here _ _)))) rsN) (rsA (rsA (Pull.sub (.thereC _ (.there _ (.here _ _)))) rsN) rsN)),(Ks.consN hb53 (Ks.segN hcBs17 (Ks.segK (fun k hk=>by simp [hk]) Ks.nil))),?_⟩; obtain ⟨ho20,h⟩ := h; refine xd_step hok 10 [(48,_),(53,_)] rfl rfl (by kernel_rfl) (lc rfl (lc rfl ln)) (by kernel_rfl) trivial (OT.push (fun q_=>(b53,_)::(q_++(B3_1++([])))) (fun _=>(.thereC _ (.here _ _))) (OT.st (fun _ h=>Pull.st (.thereC _ (.here _ _)) h) (o_appJ (l := ([]++(out3.take at5.toNat).drop 0)) (l' := [l0[i4.toNat]!]) (B := Bs17) ap25 rfl rfl hJs17 (fun w2 hw2=>(litS 1 (l := [l0[i4.toNat]!]) hw2 (mR mH) rfl rfl (M1 rfl))) (fun _ _=>rfl) ho20 (len_max ho20 (by decide))))) ?_; rintro vs19 _ ⟨Bs19,rfl,hns19,hJs19⟩; have hcBs19 := Cov.trans hcBs17 hns19
         refine ⟨(rsA (rsA (Pull.sub (.thereC _ (.there _ (.here _ _)))) rsN) (rsA (rsA (Pull.sub (.thereC _ (.there _ (.here _ _)))) rsN) rsN)),(Ks.consN hb53 (Ks.segN hcBs19 (Ks.segK (fun k hk=>by simp [hk]) Ks.nil))),?_⟩; refine xd_show (H' := (b53,_)::(Bs19++(B3_1++([])))) rfl ?_; obtain ⟨ho22,h⟩ := h; refine xd_fl hok 4 14 [(54,_),(57,_)] rfl rfl (by kernel_rfl) (by kernel_rfl) (lc rfl (lc rfl ln)) (by kernel_rfl) trivial (OT.push (fun q_=>(b53,_)::(q_++(B3_1++([])))) (fun _=>(.thereC _ (.here _ _))) (OT.st (fun _ h=>Pull.st (.thereC _ (.here _ _)) h) (o_appJ (l := (([]++(out3.take at5.toNat).drop 0)++[l0[i4.toNat]!])) (l' := (out3.take out3.length).drop at5.toNat) (B := Bs19) ap25 rfl rfl hJs19 (fun w2 hw2=>((hJ3_1.cut (toNat_le ho16) (Nat.le_refl _) (by decide)).sl hw2 (Pull.sub (.there _ (.thereC _ (.here _ _)))))) (fun _ _=>rfl) ho22 (len_max ho22 (by decide))))) ?_; rintro vs21 _ ⟨Bs21,rfl,hns21,hJs21⟩; have hcBs21 := Cov.trans hcBs19 hns21
         refine ⟨(Ks.consN hb53 (Ks.segN hcBs21 (Ks.segK (fun k hk=>by simp [hk]) Ks.nil))),?_⟩; exact xd_show (H' := (b53,_)::(Bs21++(B3_1++([])))) rfl (xb hok 15 [58] rfl (by kernel_rfl) (fun _ hK=>o_as rfl) (xd_end hok (by kernel_rfl) (xq_cutI (e' := [(0,v0),(3,vs21),(4,.int .i64 i4)]) (Bs21++([])) (sl rfl) (Kp.st (Kp.new hb53 (Kp.segKeep (Kp.segNew (Cov.fresh hcB3_1) Kp.nil)))) ⟨vs21,Bs21,rfl,rfl,hcBs21,hJs21⟩)))
        ·rintro _ _ ⟨b53,hb53,rfl,rfl⟩; refine ⟨(rsA (rsA (Pull.sub (.thereC _ (.thereC _ (.here _ _)))) rsN) (rsA (rsA (Pull.sub (.thereC _ (.thereC _ (.here _ _)))) rsN) rsN)),(Ks.consN hb53 (Ks.consN hb44 (Ks.segK (fun k hk=>by simp [hk]) Ks.nil))),?_⟩; refine xd_step hok 4 [(44,_),(47,_)] rfl rfl (by kernel_rfl) (lc rfl (lc rfl ln)) (by kernel_rfl) trivial (OT.push (fun q_=>(b53,_)::(q_++(B3_1++([])))) (fun _=>(.thereC _ (.here _ _))) (OT.st (fun _ h=>Pull.st (.thereC _ (.hereC _ _)) h) (o_appJ (l := []) (l' := (out3.take at5.toNat).drop 0) (B := [_]) ap25 rfl rfl (litO 0 (l := []) mH rfl rfl (fun i hi=>match i,hi with  | q + 0,h=>absurd h (by omega))) (fun w2 hw2=>((hJ3_1.cut (Nat.zero_le _) (toNat_le ho14) (by decide)).sl hw2 (Pull.sub (.there _ (.thereC _ (.here _ _)))))) (fun _ _=>rfl) ho18 (len_max ho18 (by decide))))) ?_; rintro vs23 _ ⟨Bs23,rfl,hns23,hJs23⟩; have hcBs23 := Cov.trans (Cov.new hb44) hns23
         refine ⟨(rsA (rsA (Pull.sub (.thereC _ (.there _ (.here _ _)))) rsN) (rsA (rsA (Pull.sub (.thereC _ (.there _ (.here _ _)))) rsN) rsN)),(Ks.consN hb53 (Ks.segN hcBs23 (Ks.segK (fun k hk=>by simp [hk]) Ks.nil))),?_⟩; refine xd_show (H' := (b53,_)::(Bs23++(B3_1++([])))) rfl ?_; obtain ⟨ho25,h⟩ := h; refine xd_step hok 10 [(48,_),(53,_)] rfl rfl (by kernel_rfl) (lc rfl (lc rfl ln)) (by kernel_rfl) trivial (OT.push (fun q_=>(b53,_)::(q_++(B3_1++([])))) (fun _=>(.thereC _ (.here _ _))) (OT.st (fun _ h=>Pull.st (.thereC _ (.here _ _)) h) (o_appJ (l := ([]++(out3.take at5.toNat).drop 0)) (l' := [l0[i4.toNat]!]) (B := Bs23) ap25 rfl rfl hJs23 (fun w2 hw2=>(litS 1 (l := [l0[i4.toNat]!]) hw2 (mR mH) rfl rfl (M1 rfl))) (fun _ _=>rfl) ho25 (len_max ho25 (by decide))))) ?_; rintro vs24 _ ⟨Bs24,rfl,hns24,hJs24⟩; have hcBs24 := Cov.trans hcBs23 hns24
         refine ⟨(rsA (rsA (Pull.sub (.thereC _ (.there _ (.here _ _)))) rsN) (rsA (rsA (Pull.sub (.thereC _ (.there _ (.here _ _)))) rsN) rsN)),(Ks.consN hb53 (Ks.segN hcBs24 (Ks.segK (fun k hk=>by simp [hk]) Ks.nil))),?_⟩; refine xd_show (H' := (b53,_)::(Bs24++(B3_1++([])))) rfl ?_; obtain ⟨ho27,h⟩ := h; refine xd_fl hok 4 14 [(54,_),(57,_)] rfl rfl (by kernel_rfl) (by kernel_rfl) (lc rfl (lc rfl ln)) (by kernel_rfl) trivial (OT.push (fun q_=>(b53,_)::(q_++(B3_1++([])))) (fun _=>(.thereC _ (.here _ _))) (OT.st (fun _ h=>Pull.st (.thereC _ (.here _ _)) h) (o_appJ (l := (([]++(out3.take at5.toNat).drop 0)++[l0[i4.toNat]!])) (l' := (out3.take out3.length).drop at5.toNat) (B := Bs24) ap25 rfl rfl hJs24 (fun w2 hw2=>((hJ3_1.cut (toNat_le ho16) (Nat.le_refl _) (by decide)).sl hw2 (Pull.sub (.there _ (.thereC _ (.here _ _)))))) (fun _ _=>rfl) ho27 (len_max ho27 (by decide))))) ?_; rintro vs26 _ ⟨Bs26,rfl,hns26,hJs26⟩; have hcBs26 := Cov.trans hcBs24 hns26
         refine ⟨(Ks.consN hb53 (Ks.segN hcBs26 (Ks.segK (fun k hk=>by simp [hk]) Ks.nil))),?_⟩; exact xd_show (H' := (b53,_)::(Bs26++(B3_1++([])))) rfl (xb hok 15 [58] rfl (by kernel_rfl) (fun _ hK=>o_as rfl) (xd_end hok (by kernel_rfl) (xq_cutI (e' := [(0,v0),(3,vs26),(4,.int .i64 i4)]) (Bs26++([])) (sl rfl) (Kp.st (Kp.new hb53 (Kp.segKeep (Kp.segNew (Cov.fresh hcB3_1) Kp.nil)))) ⟨vs26,Bs26,rfl,rfl,hcBs26,hJs26⟩)))
       ·rintro _ _ ⟨b53,hb53,rfl,rfl⟩; refine ⟨(rsA (rsA (Pull.sub (.thereC _ (.here _ _))) rsN) (rsA (rsA (Pull.sub (.thereC _ (.here _ _))) rsN) rsN)),(Ks.consN hb53 (Ks.segK (fun k hk=>by simp [hk]) Ks.nil)),?_⟩; refine xd_step hok 0 [] rfl rfl (by kernel_rfl) ln (by kernel_rfl) trivial (o_bsl el25 ze3 (cells_one rfl) rfl rfl (.nil _)) ?_; rintro _ _ ⟨b44,hb44,rfl,rfl⟩; refine ⟨(rsA (rsA (Pull.sub (.thereC _ (.thereC _ (.here _ _)))) rsN) (rsA (rsA (Pull.sub (.thereC _ (.thereC _ (.here _ _)))) rsN) rsN)),(Ks.consN hb44 (Ks.consN hb53 (Ks.segK (fun k hk=>by simp [hk]) Ks.nil))),?_⟩; obtain ⟨ho29,h⟩ := h; refine xd_step hok 4 [(44,_),(47,_)] rfl rfl (by kernel_rfl) (lc rfl (lc rfl ln)) (by kernel_rfl) trivial (OT.st (fun _ h=>Pull.st (.hereC _ _) h) (o_appJ (l := []) (l' := (out3.take at5.toNat).drop 0) (B := [_]) ap25 rfl rfl (litO 0 (l := []) mH rfl rfl (fun i hi=>match i,hi with  | q + 0,h=>absurd h (by omega))) (fun w2 hw2=>((hJ3_1.cut (Nat.zero_le _) (toNat_le ho14) (by decide)).sl hw2 (Pull.sub (.there _ (.thereC _ (.here _ _)))))) (fun _ _=>rfl) ho29 (len_max ho29 (by decide)))) ?_; rintro vs28 _ ⟨Bs28,rfl,hns28,hJs28⟩; have hcBs28 := Cov.trans (Cov.new hb44) hns28
        refine ⟨(rsA (rsA (Pull.sub (.there _ (.thereC _ (.here _ _)))) rsN) (rsA (rsA (Pull.sub (.there _ (.thereC _ (.here _ _)))) rsN) rsN)),(Ks.segN hcBs28 (Ks.consN hb53 (Ks.segK (fun k hk=>by simp [hk]) Ks.nil))),?_⟩; obtain ⟨ho31,h⟩ := h; refine xd_step hok 10 [(48,_),(53,_)] rfl rfl (by kernel_rfl) (lc rfl (lc rfl ln)) (by kernel_rfl) trivial (OT.st (fun _ h=>Pull.st (.here _ _) h) (o_appJ (l := ([]++(out3.take at5.toNat).drop 0)) (l' := [l0[i4.toNat]!]) (B := Bs28) ap25 rfl rfl hJs28 (fun w2 hw2=>(litS 1 (l := [l0[i4.toNat]!]) hw2 (mR mH) rfl rfl (M1 rfl))) (fun _ _=>rfl) ho31 (len_max ho31 (by decide)))) ?_; rintro vs30 _ ⟨Bs30,rfl,hns30,hJs30⟩; have hcBs30 := Cov.trans hcBs28 hns30
        refine ⟨(rsA (rsA (Pull.sub (.there _ (.thereC _ (.here _ _)))) rsN) (rsA (rsA (Pull.sub (.there _ (.thereC _ (.here _ _)))) rsN) rsN)),(Ks.segN hcBs30 (Ks.consN hb53 (Ks.segK (fun k hk=>by simp [hk]) Ks.nil))),?_⟩; obtain ⟨ho33,h⟩ := h; refine xd_fl hok 4 14 [(54,_),(57,_)] rfl rfl (by kernel_rfl) (by kernel_rfl) (lc rfl (lc rfl ln)) (by kernel_rfl) trivial (OT.st (fun _ h=>Pull.st (.here _ _) h) (o_appJ (l := (([]++(out3.take at5.toNat).drop 0)++[l0[i4.toNat]!])) (l' := (out3.take out3.length).drop at5.toNat) (B := Bs30) ap25 rfl rfl hJs30 (fun w2 hw2=>((hJ3_1.cut (toNat_le ho16) (Nat.le_refl _) (by decide)).sl hw2 (Pull.sub (.there _ (.thereC _ (.here _ _)))))) (fun _ _=>rfl) ho33 (len_max ho33 (by decide)))) ?_; rintro vs32 _ ⟨Bs32,rfl,hns32,hJs32⟩; have hcBs32 := Cov.trans hcBs30 hns32
        refine ⟨(Ks.segN hcBs32 (Ks.consN hb53 (Ks.segK (fun k hk=>by simp [hk]) Ks.nil))),?_⟩; exact xb hok 15 [58] rfl (by kernel_rfl) (fun _ hK=>o_as rfl) (xd_end hok (by kernel_rfl) (xq_cutI (e' := [(0,v0),(3,vs32),(4,.int .i64 i4)]) (Bs32++([])) (sl rfl) (Kp.st (Kp.segKeep (Kp.new hb53 (Kp.segNew (Cov.fresh hcB3_1) Kp.nil)))) ⟨vs32,Bs32,rfl,rfl,hcBs32,hJs32⟩))
      ·rintro _ _ ⟨vj13,Bj12,rfl,rfl,hcBj12,hJvj13⟩; replace h := hk; refine xq_blk 1 (xq_then (xw_region (vm rfl ?_))); obtain ⟨ho34,h⟩ := h; exact xQ rfl (o_add rfl rfl rfl ho34) (va rfl (xo_nil (xq_next (s' := ((((([]++(out3.take at5.toNat).drop 0)++[l0[i4.toNat]!])++(out3.take out3.length).drop at5.toNat),i4 + 1) : (List Int) × Int)) (e' := [(0,v0),(3,vj13),(4,.int .i64 (i4 + 1))]) (Bj12++([])) (sl rfl) (fun _ h=>h) h ⟨vj13,Bj12,rfl,rfl,hJvj13,hcBj12⟩)))
  ·exact xw_exit (xq_then_exit (xq_out (r := (out3 : (List Int))) (e' := [(3,v3_1)]) (B3_1++([])) (sl rfl) (fun _ h=>h) h (by intro hh; cases hh) ⟨v3_1,B3_1,rfl,rfl,rfl,hJ3_1,hcB3_1⟩))
 ·rintro _ _ _ ⟨v3_1o,B3_1o,rfl,rfl,rfl,hJ3_1o,hcB3_1o⟩; replace h : risingR_k1a out3 r := h; unfold risingR_k1a at h; refine xq_blk_eq (xq_then (wS (vm rfl (va rfl (nS (xw_ret ?_)))))); subst h
  exact rO Try.results23 rfl (⟨_,B3_1o,rfl,rfl,hJ3_1o,hcB3_1o⟩)
theorem hasR_con (l0 : (List Int)) (n1 : Int) (v0 : Value) (w : World) (hs0 : SL w 1 ic v0 l0) (r : Bool) (h : hasR_S l0 n1 r) : Con Try.prog 22 #[v0,.int .i64 n1] w (Is (.bool r) []) := by
 unfold hasR_S at h; refine ce Try.func22 rfl Try.ntmps22 rfl (wS (va rfl (nS (xw_seq (wS (va rfl (nS (xw_block ?_)))))))); obtain ⟨x1,hx1,h⟩ := h; refine xw_wh (fun (i5 : Int) e H=>e=[(0,v0),(1,.int .i64 n1),(5,.int .i64 i5)]∧H=[]) (fun x ex e H=>match x with | .inl _=>ex=.exit 0∧e=[]∧H=[] | .inr _=>ex=.ret∧e=[(4,.bool true)]∧H=[]) hx1 ⟨[(0,v0),(1,.int .i64 n1),(5,.int .i64 0)],[],(sl rfl),fun _ h=>h,⟨rfl,rfl⟩⟩ ?_ ?_
 ·rintro i5 o _ _ ⟨rfl,rfl⟩ hb; have h : hasR_l1 l0 n1 i5 o := hb
  clear hb; unfold hasR_l1 at h; refine xw_seq (wS (vm rfl (vm rfl (xQ rfl (o_lenL rfl Try.underlying25 rfl (SL.val hs0)) (xQ rfl (o_lss rfl rfl) (nS (wd rfl h (fun hp1 h=>?_) fun hp1 h=>?_)))))))
  ·refine xw_skip (xq_then (xw_seq (xw_block (wS (vm rfl (vm rfl ?_)))))); obtain ⟨ho2,h⟩ := h; refine xQ rfl (o_ixL el25 rfl rfl (fun w hw=>(hs0.keep hw Fr.nil)) rfl ho2) (xQ rfl (o_ldL1 (off := 0) (u := .int .i64 (l0[i5.toNat]!)) rfl ts3 rfl (fun w hw=>(hs0.keep hw Fr.nil)) (toNat_lt ho2) rfl rfl) (vm rfl (xQ rfl (o_eql rfl rfl) (nS (wd rfl h (fun hp3 h=>?_) fun hp3 h=>?_)))))
   ·exact wS (va rfl (nS (xw_ret (xq_blk_ret (xq_then_ret (xq_out (r := (.inr () : (Unit) ⊕ (Unit))) (e' := [(4,.bool true)]) ([]) (sl rfl) (fun _ h=>h) h (by intro hh; cases hh) ⟨rfl,rfl,rfl⟩))))))
   ·refine xw_skip (xq_blk 1 (xq_then (xw_region (vm rfl ?_)))); obtain ⟨ho4,h⟩ := h; exact xQ rfl (o_add rfl rfl rfl ho4) (va rfl (xo_nil (xq_next (s' := (i5 + 1 : Int)) (e' := [(0,v0),(1,.int .i64 n1),(5,.int .i64 (i5 + 1))]) ([]) (sl rfl) (fun _ h=>h) h ⟨rfl,rfl⟩)))
  ·exact xw_exit (xq_then_exit (xq_out (r := (.inl () : (Unit) ⊕ (Unit))) (e' := []) ([]) (sl rfl) (fun _ h=>h) h (by intro hh; cases hh) ⟨rfl,rfl,rfl⟩))
 ·rcases x1 with _ | x1
  ·rintro _ _ _ ⟨rfl,rfl,rfl⟩; replace h : hasR_k1a r := h; unfold hasR_k1a at h; refine xq_blk_eq (xq_then (wS (va rfl (nS (xw_ret ?_))))); subst h
   exact rO Try.results22 rfl (⟨rfl,rfl⟩)
  cases x1
  rintro _ _ _ ⟨rfl,rfl,rfl⟩; replace h : hasR_k1b r := h; unfold hasR_k1b at h; refine xq_blk_ret (xq_then_ret ?_); subst h
  exact rO Try.results22 rfl (⟨rfl,rfl⟩)
theorem edgeR_con (l0 : (List (Nat → Int))) (from1 : Int) (to2 : Int) (v0 : Value) (w : World) (hs0 : SL w 4 iv v0 l0) (r : Bool) (h : edgeR_S l0 from1 to2 r) : Con Try.prog 28 #[v0,.int .i64 from1,.int .i64 to2] w (Is (.bool r) []) := by
 unfold edgeR_S at h; refine ce Try.func28 rfl Try.ntmps28 rfl (wS (va rfl (nS (xw_seq (wS (va rfl (nS (xw_block ?_)))))))); obtain ⟨x1,hx1,h⟩ := h; refine xw_wh (fun (i7 : Int) e H=>e=[(0,v0),(1,.int .i64 from1),(2,.int .i64 to2),(7,.int .i64 i7)]∧H=[]) (fun x ex e H=>match x with | .inl _=>ex=.exit 0∧e=[]∧H=[] | .inr _=>ex=.ret∧e=[(6,.bool true)]∧H=[]) hx1 ⟨[(0,v0),(1,.int .i64 from1),(2,.int .i64 to2),(7,.int .i64 0)],[],(sl rfl),fun _ h=>h,⟨rfl,rfl⟩⟩ ?_ ?_
 ·rintro i7 o _ _ ⟨rfl,rfl⟩ hb; have h : edgeR_l1 l0 from1 to2 i7 o := hb
  clear hb; unfold edgeR_l1 at h; refine xw_seq (wS (vm rfl (vm rfl (xQ rfl (o_lenL rfl Try.underlying22 rfl (SL.val hs0)) (xQ rfl (o_lss rfl rfl) (nS (wd rfl h (fun hp1 h=>?_) fun hp1 h=>?_)))))))
  ·refine xw_skip (xq_then (xw_seq (xw_block (xw_seq ?_)))); obtain ⟨ho2,ho3,h⟩ := h; refine wk [0,1,2,7] rfl [(29,.bool ((decide (l0[i7.toNat]! 0=from1)) && (decide (l0[i7.toNat]! 2=to2))))] ?_ ?_
   ·refine xw_region (vm rfl (vm rfl (xQ rfl (o_ixL el22 rfl rfl (fun w hw=>(hs0.keep hw Fr.nil)) rfl (ho2)) (xQ rfl (o_faL fl32_0 rfl rfl (fun w hw=>(hs0.keep hw Fr.nil)) (toNat_lt (ho2))) (xQ rfl (o_ldL1 (off := 0) (u := .int .i64 (l0[i7.toNat]! 0)) rfl ts3 rfl (fun w hw=>(hs0.keep hw Fr.nil)) (toNat_lt (ho2)) rfl rfl) (vm rfl (xQ rfl (o_eql rfl rfl) (vm rfl (od' 21 rfl (fun hp4=>?_) fun hp4=>?_)))))))))
    ·exact vm rfl (vm rfl (xQ rfl (o_ixL el22 rfl rfl (fun w hw=>(hs0.keep hw Fr.nil)) rfl (ho3 (by first | exact (dT hp4) | (simp only [dT hp1,dT hp4,if_pos hp1,if_pos hp4,bS,reduceIte,Bool.false_eq_true]; done) | (simp [hp1,hp4]; done) | (simp_all; done)))) (xQ rfl (o_faL fl32_2 rfl rfl (fun w hw=>(hs0.keep hw Fr.nil)) (toNat_lt (ho3 (by first | exact (dT hp4) | (simp only [dT hp1,dT hp4,if_pos hp1,if_pos hp4,bS,reduceIte,Bool.false_eq_true]; done) | (simp [hp1,hp4]; done) | (simp_all; done))))) (xQ rfl (o_ldL1 (off := 2) (u := .int .i64 (l0[i7.toNat]! 2)) rfl ts3 rfl (fun w hw=>(hs0.keep hw Fr.nil)) (toNat_lt (ho3 (by first | exact (dT hp4) | (simp only [dT hp1,dT hp4,if_pos hp1,if_pos hp4,bS,reduceIte,Bool.false_eq_true]; done) | (simp [hp1,hp4]; done) | (simp_all; done)))) rfl rfl) (vm rfl (xQ rfl (o_eql rfl rfl) (vt rfl (xo_nil (qk rfl (by first | rfl | (simp only [dT hp1,dT hp4,if_pos hp1,if_pos hp4,bS,reduceIte,Bool.false_eq_true]; done) | (simp [hp1,hp4]; done) | (simp_all; done)) rfl)))))))))
    ·exact vs rfl (vs rfl (vs rfl (vs rfl (vs rfl (vs rfl (vs rfl (vf rfl (xo_nil (qk rfl (by first | rfl | (simp only [dT hp1,dF hp4,if_pos hp1,if_neg hp4,bS,reduceIte,Bool.false_eq_true]; done) | (simp [hp1,hp4]; done) | (simp_all; done)) rfl)))))))))
   ·refine xq_then (wb rfl h (fun hp5 h=>?_) fun hp5 h=>?_)
    ·exact wS (va rfl (nS (xw_ret (xq_blk_ret (xq_then_ret (xq_out (r := (.inr () : (Unit) ⊕ (Unit))) (e' := [(6,.bool true)]) ([]) (sl rfl) (fun _ h=>h) h (by intro hh; cases hh) ⟨rfl,rfl,rfl⟩))))))
    ·refine xw_skip (xq_blk 1 (xq_then (xw_region (vm rfl ?_)))); obtain ⟨ho6,h⟩ := h; exact xQ rfl (o_add rfl rfl rfl ho6) (va rfl (xo_nil (xq_next (s' := (i7 + 1 : Int)) (e' := [(0,v0),(1,.int .i64 from1),(2,.int .i64 to2),(7,.int .i64 (i7 + 1))]) ([]) (sl rfl) (fun _ h=>h) h ⟨rfl,rfl⟩)))
  ·exact xw_exit (xq_then_exit (xq_out (r := (.inl () : (Unit) ⊕ (Unit))) (e' := []) ([]) (sl rfl) (fun _ h=>h) h (by intro hh; cases hh) ⟨rfl,rfl,rfl⟩))
 ·rcases x1 with _ | x1
  ·rintro _ _ _ ⟨rfl,rfl,rfl⟩; replace h : edgeR_k1a r := h; unfold edgeR_k1a at h; refine xq_blk_eq (xq_then (wS (va rfl (nS (xw_ret ?_))))); subst h
   exact rO Try.results28 rfl (⟨rfl,rfl⟩)
  cases x1
  rintro _ _ _ ⟨rfl,rfl,rfl⟩; replace h : edgeR_k1b r := h; unfold edgeR_k1b at h; refine xq_blk_ret (xq_then_ret ?_); subst h
  exact rO Try.results28 rfl (⟨rfl,rfl⟩)
end Go.Proofs.Ytdmibiefinhneaa
/- The code answers as the relations say. -/
namespace Go.Proofs.Ytdmibiefinhneaa
open Go Go.E
theorem nodesR_con (l0 : (List (Nat → Int))) (v0 : Value) (w : World) (hs0 : SL w 4 iv v0 l0) (r : (List Int)) (h : nodesR_S l0 r) : Con Try.prog 26 #[v0] w (fun v F=>∃ (u0 : Value) (C0 : GH),v=u0∧F=(C0++[])∧OJ 3 1 ic C0 u0 r∧Cov w [] C0) := by
 unfold nodesR_S at h; refine ce Try.func26 rfl Try.ntmps26 rfl (wS (va rfl (nR (va rfl (nS (xw_seq (wS ?_))))))); refine va rfl (nS (xw_block ?_)); obtain ⟨out3,hx1,h⟩ := h; refine xw_wh (fun s e H=>match s with | (out3,i4)=>∃ (v3_1 : Value) (B3_1 : GH),e=[(0,v0),(3,v3_1),(4,.int .i64 i4)]∧H=B3_1++([])∧OJ 3 1 ic B3_1 v3_1 out3∧Cov w [] B3_1) (fun (out3 : (List Int)) ex e H=>∃ (v3_1o : Value) (B3_1o : GH),ex=.exit 0∧e=[(3,v3_1o)]∧H=B3_1o++([])∧OJ 3 1 ic B3_1o v3_1o out3∧Cov w [] B3_1o) hx1 ⟨[(0,v0),(3,.slice none 0 0),(4,.int .i64 0)],[]++([]),(sl rfl),fun _ h=>h,⟨_,[],rfl,rfl,OJ.nil,(Cov.refl _)⟩⟩ ?_ ?_
 ·rintro ⟨out3,i4⟩ o _ _ ⟨v3_1,B3_1,rfl,rfl,hJ3_1,hcB3_1⟩ hb; have h : nodesR_l1 l0 out3 i4 o := hb
  clear hb; unfold nodesR_l1 at h; refine xw_seq (wS (vm rfl (vm rfl (xQ rfl (o_lenL rfl Try.underlying22 rfl (SL.val hs0)) (xQ rfl (o_lss rfl rfl) (nS (wd rfl h (fun hp1 h=>?_) fun hp1 h=>?_)))))))
  ·refine xw_skip (xq_then (xw_seq (xw_block (xd_start (by kernel_rfl) (by kernel_rfl) (fun hok=>?_))))); refine xb hok 0 [3] rfl (by kernel_rfl) (fun _ hK=>o_mv rfl) (xb hok 1 [0] rfl (by kernel_rfl) (fun _ hK=>o_mv rfl) (xb hok 2 [4] rfl (by kernel_rfl) (fun _ hK=>o_mv rfl) ?_)); obtain ⟨ho2,h⟩ := h; refine xb hok 3 [12,13] rfl (by kernel_rfl) (fun _ hK=>o_ixL el22 rfl rfl (fun w hw=>(hs0.keep hw (fun k hk=>(hK k hk).elim (fun h=>(Fr.seg hcB3_1 Fr.nil) k h) id))) rfl ho2) (xb hok 4 [14] rfl (by kernel_rfl) (fun _ hK=>o_faL fl32_0 rfl rfl (fun w hw=>(hs0.keep hw (fun k hk=>(hK k hk).elim (fun h=>(Fr.seg hcB3_1 Fr.nil) k h) id))) (toNat_lt ho2)) (xb hok 5 [15] rfl (by kernel_rfl) (fun _ hK=>o_ldL1 (off := 0) (u := .int .i64 (l0[i4.toNat]! 0)) rfl ts3 rfl (fun w hw=>(hs0.keep hw (fun k hk=>(hK k hk).elim (fun h=>(Fr.seg hcB3_1 Fr.nil) k h) id))) (toNat_lt ho2) rfl rfl) (xb hok 6 [0] rfl (by kernel_rfl) (fun _ hK=>o_mv rfl) (xb hok 7 [4] rfl (by kernel_rfl) (fun _ hK=>o_mv rfl) ?_)))); obtain ⟨ho3,h⟩ := h; refine xb hok 8 [17,18] rfl (by kernel_rfl) (fun _ hK=>o_ixL el22 rfl rfl (fun w hw=>(hs0.keep hw (fun k hk=>(hK k hk).elim (fun h=>(Fr.seg hcB3_1 Fr.nil) k h) id))) rfl ho3) (xb hok 9 [19] rfl (by kernel_rfl) (fun _ hK=>o_faL fl32_2 rfl rfl (fun w hw=>(hs0.keep hw (fun k hk=>(hK k hk).elim (fun h=>(Fr.seg hcB3_1 Fr.nil) k h) id))) (toNat_lt ho3)) (xb hok 10 [20] rfl (by kernel_rfl) (fun _ hK=>o_ldL1 (off := 2) (u := .int .i64 (l0[i4.toNat]! 2)) rfl ts3 rfl (fun w hw=>(hs0.keep hw (fun k hk=>(hK k hk).elim (fun h=>(Fr.seg hcB3_1 Fr.nil) k h) id))) (toNat_lt ho3) rfl rfl) (xd_step hok 11 [(16,_),(21,_)] rfl rfl (by kernel_rfl) (lc rfl (lc rfl ln)) (by kernel_rfl) trivial (o_bsl el25 ze3 (cells_one rfl) rfl rfl (.int rfl rfl (.int rfl rfl (.nil _)))) ?_))); rintro _ _ ⟨b22,hb22,rfl,rfl⟩; refine ⟨rsN,(Ks.consN hb22 (Ks.segK (fun k hk=>by simp [hk]) Ks.nil)),?_⟩; obtain ⟨ho5,h⟩ := h; refine xd_fl hok 4 12 [(11,_),(22,_)] rfl rfl (by kernel_rfl) (by kernel_rfl) (lc rfl (lc rfl ln)) (by kernel_rfl) trivial (OT.push (fun q_=>(b22,_)::(q_++([]))) (fun _=>(.thereC _ (.here _ _))) (OT.st (fun _ h=>Pull.st (.thereC _ (.here _ _)) h) (o_appJ (l := out3) (l' := [l0[i4.toNat]! 0,l0[i4.toNat]! 2]) (B := B3_1) ap25 rfl rfl hJ3_1 (fun w2 hw2=>(litS 2 (l := [l0[i4.toNat]! 0,l0[i4.toNat]! 2]) hw2 (mR mH) rfl rfl (M2 rfl rfl))) (fun _ _=>rfl) ho5 (len_max ho5 (by decide))))) ?_; rintro vs4 _ ⟨Bs4,rfl,hns4,hJs4⟩; have hcBs4 := Cov.trans hcB3_1 hns4
   refine ⟨(Ks.consN hb22 (Ks.segN hcBs4 Ks.nil)),?_⟩; refine xd_show (H' := (b22,_)::(Bs4++([]))) rfl (xb hok 13 [23] rfl (by kernel_rfl) (fun _ hK=>o_as rfl) (xd_end hok (by kernel_rfl) (xq_blk 1 (xq_then (xw_region (vm rfl ?_)))))); obtain ⟨ho6,h⟩ := h; exact xQ rfl (o_add rfl rfl rfl ho6) (va rfl (xo_nil (xq_next (s' := (((out3++[l0[i4.toNat]! 0,l0[i4.toNat]! 2]),i4 + 1) : (List Int) × Int)) (e' := [(0,v0),(3,vs4),(4,.int .i64 (i4 + 1))]) (Bs4++([])) (sl rfl) (Kp.st (Kp.new hb22 (Kp.segKeep Kp.nil))) h ⟨vs4,Bs4,rfl,rfl,hJs4,hcBs4⟩)))
  ·exact xw_exit (xq_then_exit (xq_out (r := (out3 : (List Int))) (e' := [(3,v3_1)]) (B3_1++([])) (sl rfl) (fun _ h=>h) h (by intro hh; cases hh) ⟨v3_1,B3_1,rfl,rfl,rfl,hJ3_1,hcB3_1⟩))
 ·rintro _ _ _ ⟨v3_1o,B3_1o,rfl,rfl,rfl,hJ3_1o,hcB3_1o⟩; replace h : nodesR_k1a out3 r := h; unfold nodesR_k1a at h; refine xq_blk_eq (xq_then (wS (vm rfl ?_))); obtain ⟨ho7,h⟩ := h; refine xcall rfl trivial kf23 rfl (fun w1 hw1=>risingR_con _ _ w1 (hJ3_1o.sl hw1 (Pull.sub (.here _ _))) _ (risingR_ok _ ho7)) ?_; rintro w1 vs8 _ hw1 ⟨_,Bs8,rfl,rfl,hJs8,hcBs8⟩; refine ⟨_,Mg.news (Cov.fresh hcBs8) (.nil _),?_⟩; replace hcBs8 := Cov.base (w0 := w) hcBs8 hw1.size; refine va rfl (nS (xw_ret ?_)); subst h
  exact yA Try.results26 rfl _ (Kp.st (Kp.segKeep (Kp.segNew (Cov.fresh hcB3_1o) Kp.nil))) (⟨_,Bs8,rfl,rfl,hJs8,hcBs8⟩)
theorem greach_con (l0 : (List (Nat → Int))) (from1 : Int) (v0 : Value) (w : World) (hs0 : SL w 4 iv v0 l0) (r : (List Int)) (h : greach_S l0 from1 r) : Con Try.prog 10 #[v0,.int .i64 from1] w (fun v F=>∃ (u0 : Value) (C0 : GH),v=u0∧F=(C0++[])∧OJ 3 1 ic C0 u0 r∧Cov w [] C0) := by
 unfold greach_S at h; refine ce Try.func10 rfl Try.ntmps10 rfl (wS (va rfl (nR (xr rfl (o_mkmap (α := Bool) (cv := kB) kt3 Try.underlying33) ?_)))); rintro vs1 _ ⟨Bs1,rfl,hns1,hJs1⟩; have hcBs1 := hns1
 refine va rfl (nR (vm rfl (vm rfl ?_))); obtain ⟨ho2,h⟩ := h; refine xcall rfl trivial kf19 rfl (fun w1 hw1=>gnext_con _ _ _ w1 (hs0.keep hw1 (Fr.seg hcBs1 Fr.nil)) _ (gnext_ok _ _ ho2)) ?_; rintro w1 vs3 _ hw1 ⟨_,Bs3,rfl,rfl,hJs3,hcBs3⟩; refine ⟨_,Mg.news (Cov.fresh hcBs3) (.nil _),?_⟩; replace hcBs3 := Cov.base (w0 := w) hcBs3 hw1.size; refine va rfl (nS (xw_seq (xw_block ?_))); obtain ⟨met5,hx1,h⟩ := h; refine xw_wh (fun s e H=>match s with | (met5,at6)=>∃ (v6_1 : Value) (v5_1 : Value) (B5_1 : GH) (B6_1 : GH),e=[(0,v0),(5,v5_1),(6,v6_1)]∧H=B6_1++(B5_1++([]))∧MJ kI kB ieq B5_1 v5_1 met5∧OJ 3 1 ic B6_1 v6_1 at6∧Cov w [] B5_1∧Cov w [] B6_1) (fun (met5 : (List (Int × Bool))) ex e H=>∃ (v5_1o : Value) (B5_1o : GH) (B6_1o : GH),ex=.exit 0∧e=[(5,v5_1o)]∧H=B6_1o++(B5_1o++([]))∧MJ kI kB ieq B5_1o v5_1o met5∧Cov w [] B5_1o∧Cov w [] B6_1o) hx1 ⟨[(0,v0),(5,vs1),(6,vs3)],Bs3++(Bs1++([])),(sl rfl),fun _ h=>h,⟨vs3,vs1,Bs1,Bs3,rfl,rfl,hJs1,hJs3,hcBs1,hcBs3⟩⟩ ?_ ?_
 ·rintro ⟨met5,at6⟩ o _ _ ⟨v6_1,v5_1,B5_1,B6_1,rfl,rfl,hJ5_1,hJ6_1,hcB5_1,hcB6_1⟩ hb; have h : greach_l1 l0 met5 at6 o := hb
  clear hb; unfold greach_l1 at h; refine xw_seq (wS (vm rfl (xQ rfl (o_lenL rfl Try.underlying25 rfl (OJ.val hJ6_1)) (xQ rfl (o_gtr rfl rfl) (nS (wd rfl h (fun hp4 h=>?_) fun hp4 h=>?_))))))
  ·refine xw_skip (xq_then (xw_block (wS (vm rfl ?_)))); obtain ⟨ho5,h⟩ := h; refine xQ rfl (o_ixL el25 rfl rfl (fun w hw=>(hJ6_1.sl hw (Pull.sub (.here _ _)))) rfl ho5) (xQ rfl (o_ldL1 (off := 0) (u := .int .i64 (at6[0]!)) rfl ts3 rfl (fun w hw=>(hJ6_1.sl hw (Pull.sub (.here _ _)))) (toNat_lt ho5) rfl rfl) (va rfl (nR (vm rfl ?_)))); obtain ⟨ho6,h⟩ := h; refine xQ rfl (o_cutL el25 rfl (fun w hw=>(hJ6_1.sl hw (Pull.sub (.here _ _)))) rfl ho6) (va rfl (nS (xw_seq (wS (vm rfl (vm rfl (xQ rfl (o_lk (z := false) (k := at6[0]!) kt3 Try.underlying33 ze4 rfl rfl hJ5_1 (Pull.sub (.there _ (.here _ _)))) (nS (wb rfl h (fun hp7 h=>?_) fun hp7 h=>?_)))))))))
   ·exact xw_exit (xq_then_exit (xq_blk_eq (xq_next (s' := ((met5,(at6.take at6.length).drop 1) : (List (Int × Bool)) × (List Int))) (e' := [(0,v0),(5,v5_1),(6,(cutV v6_1 1 1 at6.length))]) (B6_1++(B5_1++([]))) (sl rfl) (fun _ h=>h) h ⟨(cutV v6_1 1 1 at6.length),v5_1,B5_1,B6_1,rfl,rfl,hJ5_1,(hJ6_1.cut (toNat_le ho6) (Nat.le_refl _) (by decide)),hcB5_1,hcB6_1⟩)))
   ·refine xw_skip (xq_then (wS (vm rfl (vm rfl (xY rfl (OT.st (fun _ h=>Pull.st (.there _ (.here _ _)) h) (o_mset (k := at6[0]!) (e := true) kt3 Try.underlying33 rfl rfl rfl hJ5_1)) ?_))))); rintro _ _ ⟨Bs8,rfl,hns8,hJs8⟩; have hcBs8 := Cov.trans hcB5_1 hns8
    refine xo_st (B6_1++(Bs8++([]))) (fun _ h=>Pull.push (.there _ (.here _ _)) h) (nS (xw_region (vm rfl (vm rfl (vm rfl ?_))))); obtain ⟨ho9,h⟩ := h; refine xcall rfl trivial kf19 rfl (fun w1 hw1=>gnext_con _ _ _ w1 (hs0.keep hw1 (Fr.seg hcB6_1 (Fr.seg hcBs8 Fr.nil))) _ (gnext_ok _ _ ho9)) ?_; rintro w1 vs10 _ hw1 ⟨_,Bs10,rfl,rfl,hJs10,hcBs10⟩; refine ⟨_,Mg.news (Cov.fresh hcBs10) (.nil _),?_⟩; replace hcBs10 := Cov.base (w0 := w) hcBs10 hw1.size; obtain ⟨ho12,h⟩ := h; refine xr rfl (OT.st (fun _ h=>Pull.st (.there _ (.here _ _)) h) (o_appJ (l := (at6.take at6.length).drop 1) (l' := (gnext_F l0 (at6[0]!))) (B := B6_1) ap25 rfl rfl (hJ6_1.cut (toNat_le ho6) (Nat.le_refl _) (by decide)) (fun w2 hw2=>(hJs10.sl hw2 (Pull.sub (.there _ (.here _ _))))) (fun _ _=>rfl) ho12 (len_max ho12 (by decide)))) ?_; rintro vs11 _ ⟨Bs11,rfl,hns11,hJs11⟩; have hcBs11 := Cov.trans hcB6_1 hns11
    exact xo_st (Bs10++(Bs11++(Bs8++([])))) (fun _ h=>Pull.push (.there _ (.here _ _)) h) (va rfl (xo_nil (xq_blk 1 (xq_next (s' := ((mset ieq met5 (at6[0]!) true,((at6.take at6.length).drop 1++(gnext_F l0 (at6[0]!)))) : (List (Int × Bool)) × (List Int))) (e' := [(0,v0),(5,v5_1),(6,vs11)]) (Bs11++(Bs8++([]))) (sl rfl) (Kp.st (Kp.segNew (Cov.fresh hcBs10) (Kp.segKeep (Kp.segKeep Kp.nil)))) h ⟨vs11,v5_1,Bs8,Bs11,rfl,rfl,hJs8,hJs11,hcBs8,hcBs11⟩))))
  ·exact xw_exit (xq_then_exit (xq_out (r := (met5 : (List (Int × Bool)))) (e' := [(5,v5_1)]) (B6_1++(B5_1++([]))) (sl rfl) (fun _ h=>h) h (by intro hh; cases hh) ⟨v5_1,B5_1,B6_1,rfl,rfl,rfl,hJ5_1,hcB5_1,hcB6_1⟩))
 ·rintro _ _ _ ⟨v5_1o,B5_1o,B6_1o,rfl,rfl,rfl,hJ5_1o,hcB5_1o,hcB6_1o⟩; replace h : greach_k1a met5 r := h; unfold greach_k1a at h; refine xq_blk_eq (xq_then (wS (vm rfl (xin rfl kf21 rfl Try.func21 rfl Try.ntmps21 rfl (wS (xr rfl (o_box1 rfl (MJ.one hJ5_1o)) ?_)))))); rintro _ _ ⟨b1,hb1,rfl,rfl⟩; refine va rfl (nR (xQ rfl (o_mkf rfl rfl) (va rfl (nS (xw_ret (rO Try.results21 rfl (?_))))))); obtain ⟨ho13,h⟩ := h; refine xcall rfl trivial kf20 rfl (fun w1 hw1=>sk35_c (hw1.own _ _ mH) hJ5_1o (fun x hx=>hw1.own x.1 x.2 (Pull.sub (.thereC _ (.there _ (.here _ _))) x hx)) ho13) ?_; rintro w1 vs14 _ hw1 ⟨_,Bs14,rfl,rfl,hJs14,hcBs14⟩; refine ⟨_,.news (Cov.fresh hcBs14) (.nil _),?_⟩; replace hcBs14 := Cov.base (w0 := w) hcBs14 hw1.size; refine va rfl (nS (xw_ret ?_)); subst h
  exact yA Try.results10 rfl _ (Kp.st (Kp.segKeep (Kp.new hb1 (Kp.segNew (Cov.fresh hcB6_1o) (Kp.segNew (Cov.fresh hcB5_1o) Kp.nil))))) (⟨_,Bs14,rfl,rfl,hJs14,hcBs14⟩)
theorem gfar_con (l0 : (List (Nat → Int))) (to1 : Int) (v0 : Value) (w : World) (hs0 : SL w 4 iv v0 l0) (r : (List (Int × Int))) (h : gfar_S l0 to1 r) : Con Try.prog 27 #[v0,.int .i64 to1] w (fun v F=>∃ (u0 : Value) (C0 : GH),v=u0∧F=(C0++[])∧MJ kI kI ieq C0 u0 r∧Cov w [] C0) := by
 unfold gfar_S at h; refine ce Try.func27 rfl Try.ntmps27 rfl (wS (va rfl (nR (xr rfl (o_mkmap (α := Int) (cv := kI) kt3 Try.underlying39) ?_)))); rintro vs1 _ ⟨Bs1,rfl,hns1,hJs1⟩; have hcBs1 := hns1
 refine vm rfl (xY rfl (OT.st (fun _ h=>Pull.st (.here _ _) h) (o_minsert (k := to1) (e := 0) kt3 Try.underlying39 rfl rfl rfl hJs1)) ?_); rintro _ _ ⟨Bs2,rfl,hns2,hJs2⟩; have hcBs2 := Cov.trans hcBs1 hns2
 refine vm rfl (va rfl (nR (vm rfl (xr rfl (o_bsl el25 ze3 (cells_one rfl) rfl rfl (.int rfl rfl (.nil _))) ?_)))); rintro _ _ ⟨b16,hb16,rfl,rfl⟩; refine xo_lit fun Bs3 hEBs3=>?_
 have hJs3 : OJ 3 1 ic Bs3 (.slice (some ⟨b16,0,none⟩) 1 1) [to1] := by rw [hEBs3]; exact litO 1 (l := [to1]) mH rfl rfl (M1 rfl)
 have hcBs3 : Cov w [] Bs3 := by rw [hEBs3]; exact Cov.new hb16
 refine va rfl (nS (xw_seq (xw_block ?_))); obtain ⟨steps5,hx1,h⟩ := h; refine xw_wh (fun s e H=>match s with | (steps5,at6)=>∃ (v6_1 : Value) (v5_1 : Value) (B5_1 : GH) (B6_1 : GH),e=[(0,v0),(5,v5_1),(6,v6_1)]∧H=B6_1++(B5_1++([]))∧MJ kI kI ieq B5_1 v5_1 steps5∧OJ 3 1 ic B6_1 v6_1 at6∧Cov w [] B5_1∧Cov w [] B6_1) (fun (steps5 : (List (Int × Int))) ex e H=>∃ (v5_1o : Value) (B5_1o : GH) (B6_1o : GH),ex=.exit 0∧e=[(5,v5_1o)]∧H=B6_1o++(B5_1o++([]))∧MJ kI kI ieq B5_1o v5_1o steps5∧Cov w [] B5_1o∧Cov w [] B6_1o) hx1 ⟨[(0,v0),(5,vs1),(6,(.slice (some ⟨b16,0,none⟩) 1 1))],Bs3++(Bs2++([])),(sl rfl),fun _ h=>h,⟨(.slice (some ⟨b16,0,none⟩) 1 1),vs1,Bs2,Bs3,rfl,rfl,hJs2,hJs3,hcBs2,hcBs3⟩⟩ ?_ ?_
 ·rintro ⟨steps5,at6⟩ o _ _ ⟨v6_1,v5_1,B5_1,B6_1,rfl,rfl,hJ5_1,hJ6_1,hcB5_1,hcB6_1⟩ hb; have h : gfar_l1 l0 steps5 at6 o := hb
  clear hb; unfold gfar_l1 at h; refine xw_seq (wS (vm rfl (xQ rfl (o_lenL rfl Try.underlying25 rfl (OJ.val hJ6_1)) (xQ rfl (o_gtr rfl rfl) (nS (wd rfl h (fun hp4 h=>?_) fun hp4 h=>?_))))))
  ·refine xw_skip (xq_then (xw_block (wS (vm rfl ?_)))); obtain ⟨ho5,h⟩ := h; refine xQ rfl (o_ixL el25 rfl rfl (fun w hw=>(hJ6_1.sl hw (Pull.sub (.here _ _)))) rfl ho5) (xQ rfl (o_ldL1 (off := 0) (u := .int .i64 (at6[0]!)) rfl ts3 rfl (fun w hw=>(hJ6_1.sl hw (Pull.sub (.here _ _)))) (toNat_lt ho5) rfl rfl) (va rfl (nR (vm rfl ?_)))); obtain ⟨ho6,h⟩ := h; refine xQ rfl (o_cutL el25 rfl (fun w hw=>(hJ6_1.sl hw (Pull.sub (.here _ _)))) rfl ho6) (va rfl (nR (vm rfl (xQ rfl (o_lenL rfl Try.underlying22 rfl (SL.val hs0)) (vm rfl (nS (xw_block ?_))))))); obtain ⟨x2,hx2,h⟩ := h; refine xw_wh (fun s e H=>match s with | (steps5a,at6a,x27)=>∃ (v6_2 : Value) (v5_2 : Value) (B5_2 : GH) (B6_2 : GH),e=[(0,v0),(5,v5_2),(6,v6_2),(7,.int .i64 (at6[0]!)),(25,v0),(26,.int .i64 (l0.length : Int)),(27,.int .i64 x27)]∧H=B6_2++(B5_2++([]))∧MJ kI kI ieq B5_2 v5_2 steps5a∧OJ 3 1 ic B6_2 v6_2 at6a∧Cov w [] B5_2∧Cov w [] B6_2) (fun s ex e H=>match s with | (steps5a,at6a)=>∃ (v6_2o : Value) (v5_2o : Value) (B5_2o : GH) (B6_2o : GH),ex=.exit 2∧e=[(0,v0),(5,v5_2o),(6,v6_2o)]∧H=B6_2o++(B5_2o++([]))∧MJ kI kI ieq B5_2o v5_2o steps5a∧OJ 3 1 ic B6_2o v6_2o at6a∧Cov w [] B5_2o∧Cov w [] B6_2o) hx2 ⟨[(0,v0),(5,v5_1),(6,(cutV v6_1 1 1 at6.length)),(7,.int .i64 (at6[0]!)),(25,v0),(26,.int .i64 (l0.length : Int)),(27,.int .i64 0)],B6_1++(B5_1++([])),(sl rfl),fun _ h=>h,⟨(cutV v6_1 1 1 at6.length),v5_1,B5_1,B6_1,rfl,rfl,hJ5_1,(hJ6_1.cut (toNat_le ho6) (Nat.le_refl _) (by decide)),hcB5_1,hcB6_1⟩⟩ ?_ ?_
   ·rintro ⟨steps5a,at6a,x27⟩ o _ _ ⟨v6_2,v5_2,B5_2,B6_2,rfl,rfl,hJ5_2,hJ6_2,hcB5_2,hcB6_2⟩ hb; have h : gfar_l2 l0 at6 steps5a at6a x27 o := hb
    clear hb; unfold gfar_l2 at h; refine wS (xQ rfl (o_lss rfl rfl) (nS (xw_seq (wd rfl h (fun hp7 h=>?_) fun hp7 h=>?_))))
    ·refine xw_skip (xq_then (xw_seq (xw_block (wS ?_)))); obtain ⟨ho8,h⟩ := h; refine xQ rfl (o_ixL el22 rfl rfl (fun w hw=>(hs0.keep hw (Fr.seg hcB6_2 (Fr.seg hcB5_2 Fr.nil)))) rfl ho8) (xQ rfl (o_ldLI rfl ts32 rfl (fun w hw=>(hs0.keep hw (Fr.seg hcB6_2 (Fr.seg hcB5_2 Fr.nil)))) (toNat_lt ho8) rfl) (xr rfl (o_alloc ze32 rfl) ?_)); rintro _ _ ⟨b9,hb9,rfl,rfl⟩; refine xZ rfl (o_stWI rfl rfl ts32 mH (.here _ _ _ _)) (nR (vm rfl (xQ rfl (o_fa0 fl32_0 rfl) (xQ rfl (o_ldI (v := (l0[x27.toNat]!) 0) rfl ts3 mH (by omega) rfl) (xQ rfl (o_lkok (z := 0) (k := (l0[x27.toNat]!) 0) kt3 Try.underlying39 ze3 rfl rfl hJ5_2 (Pull.sub (.thereC _ (.there _ (.here _ _))))) (vm rfl (ve rfl (ve rfl (va rfl (va rfl ?_)))))))))); refine nS (xw_seq (wk [0,5,6,7,9,25,26,27] rfl [(45,.bool ((decide ((l0[x27.toNat]!) 2=at6[0]!)) && (!((mhas ieq steps5a ((l0[x27.toNat]!) 0))))))] ?_ ?_))
     ·refine xw_region (xQ rfl (o_fa0 fl32_2 rfl) (xQ rfl (o_ldI (v := (l0[x27.toNat]!) 2) rfl ts3 mH (by omega) rfl) (vm rfl (xQ rfl (o_eql rfl rfl) (vm rfl (od' 42 rfl (fun hp9=>?_) fun hp9=>?_))))))
      ·exact vm rfl (xQ rfl (o_not rfl) (vt rfl (xo_nil (qk rfl (by first | rfl | (simp only [dT hp7,dT hp9,if_pos hp7,if_pos hp9,bS,reduceIte,Bool.false_eq_true]; done) | (simp [hp7,hp9]; done) | (simp_all; done)) rfl))))
      ·exact vs rfl (vs rfl (vf rfl (xo_nil (qk rfl (by first | rfl | (simp only [dT hp7,dF hp9,if_pos hp7,if_neg hp9,bS,reduceIte,Bool.false_eq_true]; done) | (simp [hp7,hp9]; done) | (simp_all; done)) rfl))))
     ·refine xq_then (wb rfl h (fun hp10 h=>?_) fun hp10 h=>?_)
      ·refine wS (vm rfl (xQ rfl (o_fa0 fl32_0 rfl) (xQ rfl (o_ldI (v := (l0[x27.toNat]!) 0) rfl ts3 mH (by omega) rfl) (vm rfl (vm rfl (xQ rfl (o_lk (z := 0) (k := at6[0]!) kt3 Try.underlying39 ze3 rfl rfl hJ5_2 (Pull.sub (.thereC _ (.there _ (.here _ _))))) ?_)))))); obtain ⟨ho11,h⟩ := h; refine xQ rfl (o_add rfl rfl rfl ho11) (xY rfl (OT.st (fun _ h=>Pull.st (.thereC _ (.there _ (.here _ _))) h) (o_mset (k := (l0[x27.toNat]!) 0) (e := (mget ieq steps5a (at6[0]!) 0) + 1) kt3 Try.underlying39 rfl rfl rfl hJ5_2)) ?_); rintro _ _ ⟨Bs12,rfl,hns12,hJs12⟩; have hcBs12 := Cov.trans hcB5_2 hns12
       refine xo_st ((b9,_)::(B6_2++(Bs12++([])))) (fun _ h=>Pull.push (.thereC _ (.there _ (.here _ _))) h) (nS (xw_region (vm rfl (xQ rfl (o_fa0 fl32_0 rfl) (xQ rfl (o_ldI (v := (l0[x27.toNat]!) 0) rfl ts3 mH (by omega) rfl) (xr rfl (o_bsl el25 ze3 (cells_one rfl) rfl rfl (.int rfl rfl (.nil _))) ?_)))))); rintro _ _ ⟨b56,hb56,rfl,rfl⟩; obtain ⟨ho14,h⟩ := h; refine xr rfl (OT.st (fun _ h=>Pull.st (.thereC _ (.thereC _ (.here _ _))) h) (o_appJ (l := at6a) (l' := [(l0[x27.toNat]!) 0]) (B := B6_2) ap25 rfl rfl hJ6_2 (fun w2 hw2=>(litS 1 (l := [(l0[x27.toNat]!) 0]) hw2 (mR mH) rfl rfl (M1 rfl))) (fun _ _=>rfl) ho14 (len_max ho14 (by decide)))) ?_; rintro vs13 _ ⟨Bs13,rfl,hns13,hJs13⟩; have hcBs13 := Cov.trans hcB6_2 hns13
       refine xo_st ((b56,_)::((b9,_)::(Bs13++(Bs12++([]))))) (fun _ h=>Pull.push (.thereC _ (.thereC _ (.here _ _))) h) (va rfl (xo_nil (xq_blk 3 (xq_then (xw_region ?_))))); obtain ⟨ho15,h⟩ := h; exact xQ rfl (o_add rfl rfl rfl ho15) (vm rfl (xo_nil (xq_next (s' := ((mset ieq steps5a ((l0[x27.toNat]!) 0) ((mget ieq steps5a (at6[0]!) 0) + 1),(at6a++[(l0[x27.toNat]!) 0]),x27 + 1) : (List (Int × Int)) × (List Int) × Int)) (e' := [(0,v0),(5,v5_2),(6,vs13),(7,.int .i64 (at6[0]!)),(25,v0),(26,.int .i64 (l0.length : Int)),(27,.int .i64 (x27 + 1))]) (Bs13++(Bs12++([]))) (sl rfl) (Kp.st (Kp.new hb56 (Kp.new hb9 (Kp.segKeep (Kp.segKeep Kp.nil))))) h ⟨vs13,v5_2,Bs12,Bs13,rfl,rfl,hJs12,hJs13,hcBs12,hcBs13⟩)))
      ·refine xw_skip (xq_blk 3 (xq_then (xw_region ?_))); obtain ⟨ho16,h⟩ := h; exact xQ rfl (o_add rfl rfl rfl ho16) (vm rfl (xo_nil (xq_next (s' := ((steps5a,at6a,x27 + 1) : (List (Int × Int)) × (List Int) × Int)) (e' := [(0,v0),(5,v5_2),(6,v6_2),(7,.int .i64 (at6[0]!)),(25,v0),(26,.int .i64 (l0.length : Int)),(27,.int .i64 (x27 + 1))]) (B6_2++(B5_2++([]))) (sl rfl) (Kp.st (Kp.new hb9 (Kp.segKeep (Kp.segKeep Kp.nil)))) h ⟨v6_2,v5_2,B5_2,B6_2,rfl,rfl,hJ5_2,hJ6_2,hcB5_2,hcB6_2⟩)))
    ·exact xw_exit (xq_then_exit (xq_out (r := ((steps5a,at6a) : (List (Int × Int)) × (List Int))) (e' := [(0,v0),(5,v5_2),(6,v6_2)]) (B6_2++(B5_2++([]))) (sl rfl) (fun _ h=>h) h (by intro hh; cases hh) ⟨v6_2,v5_2,B5_2,B6_2,rfl,rfl,rfl,hJ5_2,hJ6_2,hcB5_2,hcB6_2⟩))
   ·obtain ⟨steps5a,at6a⟩ := x2; rintro _ _ _ ⟨v6_2o,v5_2o,B5_2o,B6_2o,rfl,rfl,rfl,hJ5_2o,hJ6_2o,hcB5_2o,hcB6_2o⟩; replace h : gfar_k2a steps5a at6a o := h; unfold gfar_k2a at h; exact xq_blk_eq (xq_blk 1 (xq_next (s' := ((steps5a,at6a) : (List (Int × Int)) × (List Int))) (e' := [(0,v0),(5,v5_2o),(6,v6_2o)]) (B6_2o++(B5_2o++([]))) (sl rfl) (fun _ h=>h) h ⟨v6_2o,v5_2o,B5_2o,B6_2o,rfl,rfl,hJ5_2o,hJ6_2o,hcB5_2o,hcB6_2o⟩))
  ·exact xw_exit (xq_then_exit (xq_out (r := (steps5 : (List (Int × Int)))) (e' := [(5,v5_1)]) (B6_1++(B5_1++([]))) (sl rfl) (fun _ h=>h) h (by intro hh; cases hh) ⟨v5_1,B5_1,B6_1,rfl,rfl,rfl,hJ5_1,hcB5_1,hcB6_1⟩))
 ·rintro _ _ _ ⟨v5_1o,B5_1o,B6_1o,rfl,rfl,rfl,hJ5_1o,hcB5_1o,hcB6_1o⟩; replace h : gfar_k1a steps5 r := h; unfold gfar_k1a at h; refine xq_blk_eq (xq_then (wS (vm rfl (va rfl (nS (xw_ret ?_)))))); subst h
  exact yA Try.results27 rfl _ (Kp.st (Kp.segNew (Cov.fresh hcB6_1o) (Kp.segKeep Kp.nil))) (⟨_,B5_1o,rfl,rfl,hJ5_1o,hcB5_1o⟩)
end Go.Proofs.Ytdmibiefinhneaa
/- The code answers as the relations say. -/
namespace Go.Proofs.Ytdmibiefinhneaa
open Go Go.E
theorem gcirc_con (l0 : (List (Nat → Int))) (v0 : Value) (w : World) (hs0 : SL w 4 iv v0 l0) (r : (List Int)) (h : gcirc_S l0 r) : Con Try.prog 12 #[v0] w (fun v F=>∃ (u0 : Value) (C0 : GH),v=u0∧F=(C0++[])∧OJ 3 1 ic C0 u0 r∧Cov w [] C0) := by
 unfold gcirc_S at h; refine ce Try.func12 rfl Try.ntmps12 rfl (wS (va rfl (nR (va rfl (nS (xw_seq (wS ?_))))))); refine vm rfl ?_; obtain ⟨ho1,h⟩ := h; refine xcall rfl trivial kf24 rfl (fun w1 hw1=>gnodes_con _ _ w1 (hs0.keep hw1 Fr.nil) _ (gnodes_ok _ ho1)) ?_; rintro w1 vs2 _ hw1 ⟨_,Bs2,rfl,rfl,hJs2,hcBs2⟩; refine ⟨_,Mg.news (Cov.fresh hcBs2) (.nil _),?_⟩; replace hcBs2 := Cov.base (w0 := w) hcBs2 hw1.size; refine xQ rfl (o_lenL rfl Try.underlying25 rfl (OJ.val hJs2)) (vm rfl (nS (xw_block ?_))); obtain ⟨out3,hx1,h⟩ := h; refine xw_wh (fun s e H=>match s with | (out3,x9)=>∃ (v3_1 : Value) (B3_1 : GH),e=[(0,v0),(3,v3_1),(7,vs2),(8,.int .i64 ((gnodes_F l0).length : Int)),(9,.int .i64 x9)]∧H=B3_1++(Bs2++([]))∧OJ 3 1 ic B3_1 v3_1 out3∧Cov w [] B3_1) (fun (out3 : (List Int)) ex e H=>∃ (v3_1o : Value) (B3_1o : GH),ex=.exit 0∧e=[(3,v3_1o)]∧H=B3_1o++(Bs2++([]))∧OJ 3 1 ic B3_1o v3_1o out3∧Cov w [] B3_1o) hx1 ⟨[(0,v0),(3,.slice none 0 0),(7,vs2),(8,.int .i64 ((gnodes_F l0).length : Int)),(9,.int .i64 0)],[]++(Bs2++([])),(sl rfl),fun _ h=>h,⟨_,[],rfl,rfl,OJ.nil,(Cov.refl _)⟩⟩ ?_ ?_
 ·rintro ⟨out3,x9⟩ o _ _ ⟨v3_1,B3_1,rfl,rfl,hJ3_1,hcB3_1⟩ hb; have h : gcirc_l1 l0 out3 x9 o := hb
  clear hb; unfold gcirc_l1 at h; refine wS (xQ rfl (o_lss rfl rfl) (nS (xw_seq (wd rfl h (fun hp3 h=>?_) fun hp3 h=>?_))))
  ·refine xw_skip (xq_then (xw_seq (xw_block (wS ?_)))); obtain ⟨ho4,h⟩ := h; refine xQ rfl (o_ixL el25 rfl rfl (fun w hw=>(hJs2.sl hw (Pull.sub (.there _ (.here _ _))))) rfl ho4) (xQ rfl (o_ldL1 (off := 0) (u := .int .i64 ((gnodes_F l0)[x9.toNat]!)) rfl ts3 rfl (fun w hw=>(hJs2.sl hw (Pull.sub (.there _ (.here _ _))))) (toNat_lt ho4) rfl rfl) (va rfl (nR (vm rfl (vm rfl ?_))))); obtain ⟨ho5,h⟩ := h; refine xcall rfl trivial kf10 rfl (fun w1 hw1=>greach_con _ _ _ w1 (hs0.keep hw1 (Fr.seg hcB3_1 (Fr.seg hcBs2 Fr.nil))) _ (greach_ok _ _ ho5)) ?_; rintro w1 vs6 _ hw1 ⟨_,Bs6,rfl,rfl,hJs6,hcBs6⟩; refine ⟨_,Mg.news (Cov.fresh hcBs6) (.nil _),?_⟩; replace hcBs6 := Cov.base (w0 := w) hcBs6 hw1.size; refine vm rfl ?_; obtain ⟨ho7,h⟩ := h; refine xc rfl kf25 rfl (fun w1 hw1=>hasI_con _ _ _ w1 (hJs6.sl hw1 (Pull.sub (.here _ _))) _ (hasI_ok _ _ ho7)) (nS (wb rfl h (fun hp8 h=>?_) fun hp8 h=>?_))
   ·refine xw_region (vm rfl (vm rfl (xr rfl (o_bsl el25 ze3 (cells_one rfl) rfl rfl (.int rfl rfl (.nil _))) ?_))); rintro _ _ ⟨b20,hb20,rfl,rfl⟩; obtain ⟨ho10,h⟩ := h; refine xr rfl (OT.st (fun _ h=>Pull.st (.thereC _ (.there _ (.here _ _))) h) (o_appJ (l := out3) (l' := [(gnodes_F l0)[x9.toNat]!]) (B := B3_1) ap25 rfl rfl hJ3_1 (fun w2 hw2=>(litS 1 (l := [(gnodes_F l0)[x9.toNat]!]) hw2 (mR mH) rfl rfl (M1 rfl))) (fun _ _=>rfl) ho10 (len_max ho10 (by decide)))) ?_; rintro vs9 _ ⟨Bs9,rfl,hns9,hJs9⟩; have hcBs9 := Cov.trans hcB3_1 hns9
    refine xo_st ((b20,_)::(Bs6++(Bs9++(Bs2++([]))))) (fun _ h=>Pull.push (.thereC _ (.there _ (.here _ _))) h) (va rfl (xo_nil (xq_blk 1 (xq_then (xw_region ?_))))); obtain ⟨ho11,h⟩ := h; exact xQ rfl (o_add rfl rfl rfl ho11) (vm rfl (xo_nil (xq_next (s' := (((out3++[(gnodes_F l0)[x9.toNat]!]),x9 + 1) : (List Int) × Int)) (e' := [(0,v0),(3,vs9),(7,vs2),(8,.int .i64 ((gnodes_F l0).length : Int)),(9,.int .i64 (x9 + 1))]) (Bs9++(Bs2++([]))) (sl rfl) (Kp.st (Kp.new hb20 (Kp.segNew (Cov.fresh hcBs6) (Kp.segKeep (Kp.segKeep Kp.nil))))) h ⟨vs9,Bs9,rfl,rfl,hJs9,hcBs9⟩)))
   ·refine xw_skip (xq_blk 1 (xq_then (xw_region ?_))); obtain ⟨ho12,h⟩ := h; exact xQ rfl (o_add rfl rfl rfl ho12) (vm rfl (xo_nil (xq_next (s' := ((out3,x9 + 1) : (List Int) × Int)) (e' := [(0,v0),(3,v3_1),(7,vs2),(8,.int .i64 ((gnodes_F l0).length : Int)),(9,.int .i64 (x9 + 1))]) (B3_1++(Bs2++([]))) (sl rfl) (Kp.st (Kp.segNew (Cov.fresh hcBs6) (Kp.segKeep (Kp.segKeep Kp.nil)))) h ⟨v3_1,B3_1,rfl,rfl,hJ3_1,hcB3_1⟩)))
  ·exact xw_exit (xq_then_exit (xq_out (r := (out3 : (List Int))) (e' := [(3,v3_1)]) (B3_1++(Bs2++([]))) (sl rfl) (fun _ h=>h) h (by intro hh; cases hh) ⟨v3_1,B3_1,rfl,rfl,rfl,hJ3_1,hcB3_1⟩))
 ·rintro _ _ _ ⟨v3_1o,B3_1o,rfl,rfl,rfl,hJ3_1o,hcB3_1o⟩; replace h : gcirc_k1a out3 r := h; unfold gcirc_k1a at h; refine xq_blk_eq (xq_then (wS (vm rfl (va rfl (nS (xw_ret ?_)))))); subst h
  exact yA Try.results12 rfl _ (Kp.st (Kp.segKeep (Kp.segNew (Cov.fresh hcBs2) Kp.nil))) (⟨_,B3_1o,rfl,rfl,hJ3_1o,hcB3_1o⟩)
theorem gway_con (l0 : (List (Nat → Int))) (from1 : Int) (to2 : Int) (v0 : Value) (w : World) (hs0 : SL w 4 iv v0 l0) (r : (List Int)) (h : gway_S l0 from1 to2 r) : Con Try.prog 14 #[v0,.int .i64 from1,.int .i64 to2] w (fun v F=>∃ (u0 : Value) (C0 : GH),v=u0∧F=(C0++[])∧OJ 3 1 ic C0 u0 r∧Cov w [] C0) := by
 unfold gway_S at h; refine ce Try.func14 rfl Try.ntmps14 rfl (wS (va rfl (nS (xw_seq (wS (vm rfl (vm rfl ?_))))))); obtain ⟨ho1,h⟩ := h; refine xcall rfl trivial kf10 rfl (fun w1 hw1=>greach_con _ _ _ w1 (hs0.keep hw1 Fr.nil) _ (greach_ok _ _ ho1)) ?_; rintro w1 vs2 _ hw1 ⟨_,Bs2,rfl,rfl,hJs2,hcBs2⟩; refine ⟨_,Mg.news (Cov.fresh hcBs2) (.nil _),?_⟩; replace hcBs2 := Cov.base (w0 := w) hcBs2 hw1.size; refine vm rfl ?_; obtain ⟨ho3,h⟩ := h; refine xc rfl kf25 rfl (fun w1 hw1=>hasI_con _ _ _ w1 (hJs2.sl hw1 (Pull.sub (.here _ _))) _ (hasI_ok _ _ ho3)) (xQ rfl (o_not rfl) (nS (wc rfl h (fun hp4 h=>?_) fun hp4 h=>?_)))
 ·refine wS (va rfl (nS (xw_ret (xq_then_ret ?_)))); subst h
  exact yA Try.results14 rfl _ (Kp.st (Kp.segNew (Cov.fresh hcBs2) Kp.nil)) (⟨_,[],rfl,rfl,OJ.nil,Cov.refl _⟩)
 ·refine xw_skip (xq_then (wS (vm rfl (vm rfl ?_)))); obtain ⟨ho5,h⟩ := h; refine xcall rfl trivial kf27 rfl (fun w1 hw1=>gfar_con _ _ _ w1 (hs0.keep hw1 (Fr.seg hcBs2 Fr.nil)) _ (gfar_ok _ _ ho5)) ?_; rintro w1 vs6 _ hw1 ⟨_,Bs6,rfl,rfl,hJs6,hcBs6⟩; refine ⟨_,Mg.news (Cov.fresh hcBs6) (.nil _),?_⟩; replace hcBs6 := Cov.base (w0 := w) hcBs6 hw1.size; refine va rfl (nR (vm rfl (xr rfl (o_bsl el25 ze3 (cells_one rfl) rfl rfl (.int rfl rfl (.nil _))) ?_))); rintro _ _ ⟨b29,hb29,rfl,rfl⟩; refine xo_lit fun Bs7 hEBs7=>?_
  have hJs7 : OJ 3 1 ic Bs7 (.slice (some ⟨b29,0,none⟩) 1 1) [from1] := by rw [hEBs7]; exact litO 1 (l := [from1]) mH rfl rfl (M1 rfl)
  have hcBs7 : Cov w [] Bs7 := by rw [hEBs7]; exact Cov.new hb29
  refine va rfl (nR (vm rfl (va rfl (nS (xw_seq (xw_block ?_)))))); obtain ⟨out8,hx1,h⟩ := h; refine xw_wh (fun s e H=>match s with | (out8,n9)=>∃ (v8_1 : Value) (B8_1 : GH),e=[(0,v0),(2,.int .i64 to2),(7,vs6),(8,v8_1),(9,.int .i64 n9)]∧H=B8_1++(Bs6++([]))∧OJ 3 1 ic B8_1 v8_1 out8∧Cov w [] B8_1) (fun (out8 : (List Int)) ex e H=>∃ (v8_1o : Value) (B8_1o : GH),ex=.exit 0∧e=[(8,v8_1o)]∧H=B8_1o++(Bs6++([]))∧OJ 3 1 ic B8_1o v8_1o out8∧Cov w [] B8_1o) hx1 ⟨[(0,v0),(2,.int .i64 to2),(7,vs6),(8,(.slice (some ⟨b29,0,none⟩) 1 1)),(9,.int .i64 from1)],Bs7++(Bs6++([])),(sl rfl),Kp.st (Kp.segKeep (Kp.segKeep (Kp.segNew (Cov.fresh hcBs2) Kp.nil))),⟨(.slice (some ⟨b29,0,none⟩) 1 1),Bs7,rfl,rfl,hJs7,hcBs7⟩⟩ ?_ ?_
  ·rintro ⟨out8,n9⟩ o _ _ ⟨v8_1,B8_1,rfl,rfl,hJ8_1,hcB8_1⟩ hb; have h : gway_l1 l0 to2 out8 n9 o := hb
   clear hb; unfold gway_l1 at h; refine xw_seq (xw_seq (wk [0,2,7,8,9] rfl [(38,.bool ((!(decide (n9=to2))) || (decide ((out8.length : Int)=1))))] ?_ ?_))
   ·refine xw_region (vm rfl (vm rfl (xQ rfl (o_neq rfl rfl) (vm rfl (on' 34 rfl (fun hp8=>?_) fun hp8=>?_)))))
    ·exact vs rfl (vs rfl (vs rfl (vt rfl (xo_nil (qk rfl (by simp [hp8]) rfl)))))
    ·exact vm rfl (xQ rfl (o_lenL rfl Try.underlying25 rfl (OJ.val hJ8_1)) (xQ rfl (o_eql rfl rfl) (vf rfl (xo_nil (qk rfl (by simp [hp8]) rfl)))))
   ·refine xq_then (wb rfl h (fun hp9 h=>?_) fun hp9 h=>?_)
    ·refine xw_skip (xq_then (xw_block (wS (va rfl (nS (xw_seq (wS (vm rfl (vm rfl ?_))))))))); obtain ⟨ho10,h⟩ := h; refine xcall rfl trivial kf19 rfl (fun w1 hw1=>gnext_con _ _ _ w1 (hs0.keep hw1 (Fr.seg hcB8_1 (Fr.seg hcBs6 Fr.nil))) _ (gnext_ok _ _ ho10)) ?_; rintro w1 vs11 _ hw1 ⟨_,Bs11,rfl,rfl,hJs11,hcBs11⟩; refine ⟨_,Mg.news (Cov.fresh hcBs11) (.nil _),?_⟩; replace hcBs11 := Cov.base (w0 := w) hcBs11 hw1.size; refine xQ rfl (o_lenL rfl Try.underlying25 rfl (OJ.val hJs11)) (vm rfl (nS (xw_block ?_))); obtain ⟨best10,hx2,h⟩ := h; refine xw_wh (fun s e H=>match s with | (best10,x43)=>e=[(0,v0),(2,.int .i64 to2),(7,vs6),(8,v8_1),(9,.int .i64 n9),(10,.int .i64 best10),(41,vs11),(42,.int .i64 ((gnext_F l0 n9).length : Int)),(43,.int .i64 x43)]∧H=Bs11++(B8_1++(Bs6++([])))) (fun (best10 : Int) ex e H=>ex=.exit 2∧e=[(0,v0),(2,.int .i64 to2),(7,vs6),(8,v8_1),(9,.int .i64 n9),(10,.int .i64 best10)]∧H=Bs11++(B8_1++(Bs6++([])))) hx2 ⟨[(0,v0),(2,.int .i64 to2),(7,vs6),(8,v8_1),(9,.int .i64 n9),(10,.int .i64 (-1)),(41,vs11),(42,.int .i64 ((gnext_F l0 n9).length : Int)),(43,.int .i64 0)],Bs11++(B8_1++(Bs6++([]))),(sl rfl),fun _ h=>h,⟨rfl,rfl⟩⟩ ?_ ?_
     ·rintro ⟨best10,x43⟩ o _ _ ⟨rfl,rfl⟩ hb; have h : gway_l2 l0 to2 n9 best10 x43 o := hb
      clear hb; unfold gway_l2 at h; refine wS (xQ rfl (o_lss rfl rfl) (nS (xw_seq (wd rfl h (fun hp12 h=>?_) fun hp12 h=>?_))))
      ·refine xw_skip (xq_then (xw_seq (xw_block (wS ?_)))); obtain ⟨ho13,h⟩ := h; refine xQ rfl (o_ixL el25 rfl rfl (fun w hw=>(hJs11.sl hw (Pull.sub (.here _ _)))) rfl ho13) (xQ rfl (o_ldL1 (off := 0) (u := .int .i64 ((gnext_F l0 n9)[x43.toNat]!)) rfl ts3 rfl (fun w hw=>(hJs11.sl hw (Pull.sub (.here _ _)))) (toNat_lt ho13) rfl rfl) (va rfl (nR (vm rfl (vm rfl (xQ rfl (o_lkok (z := 0) (k := (gnext_F l0 n9)[x43.toNat]!) kt3 Try.underlying39 ze3 rfl rfl hJs6 (Pull.sub (.there _ (.there _ (.here _ _))))) (vm rfl (ve rfl (ve rfl (va rfl ?_)))))))))); refine va rfl (nS (xw_seq (wk [0,2,7,8,9,10,13,41,42,43] rfl [(62,.bool (((mhas ieq (gfar_F l0 to2) ((gnext_F l0 n9)[x43.toNat]!))) && ((decide (best10 < 0)) || (decide (mget ieq (gfar_F l0 to2) ((gnext_F l0 n9)[x43.toNat]!) 0 < best10)))))] ?_ ?_)))
       ·refine xw_region (vm rfl (vm rfl (ob' 54 rfl (fun hp14=>?_) fun hp14=>?_)))
        ·refine vm rfl (xQ rfl (o_lss rfl rfl) (vm rfl (od' 57 rfl (fun hp15=>?_) fun hp15=>?_)))
         ·exact vs rfl (vs rfl (vs rfl (vt rfl (vt rfl (xo_nil (qk rfl (by first | rfl | (simp only [dT hp12,hp14,dT hp15,if_pos hp12,if_pos hp14,if_pos hp15,bS,reduceIte,Bool.false_eq_true]; done) | (simp [hp12,hp14,hp15]; done) | (simp_all; done)) rfl))))))
         ·exact vm rfl (vm rfl (xQ rfl (o_lss rfl rfl) (vf rfl (vt rfl (xo_nil (qk rfl (by first | rfl | (simp only [dT hp12,hp14,dF hp15,if_pos hp12,if_pos hp14,if_neg hp15,bS,reduceIte,Bool.false_eq_true]; done) | (simp [hp12,hp14,hp15]; done) | (simp_all; done)) rfl))))))
        ·exact vs rfl (vs rfl (vs rfl (vs rfl (vs rfl (vs rfl (vs rfl (vf rfl (xo_nil (qk rfl (by first | rfl | (simp only [dT hp12,bF hp14,if_pos hp12,if_neg hp14,bS,reduceIte,Bool.false_eq_true]; done) | (simp [hp12,hp14]; done) | (simp_all; done)) rfl)))))))))
       ·refine xq_then (wk [0,2,7,8,9,41,42,43] rfl [(10,.int .i64 (if (((mhas ieq (gfar_F l0 to2) ((gnext_F l0 n9)[x43.toNat]!))) && ((decide (best10 < 0)) || (decide (mget ieq (gfar_F l0 to2) ((gnext_F l0 n9)[x43.toNat]!) 0 < best10))))=true then mget ieq (gfar_F l0 to2) ((gnext_F l0 n9)[x43.toNat]!) 0 else best10))] ?_ ?_)
        ·refine wb' rfl (fun hp16=>?_) fun hp16=>?_
         ·exact xw_region (vm rfl (va rfl (xo_nil (qk rfl (by first | rfl | (simp only [dT hp12,hp16,if_pos hp12,if_pos hp16,bS,reduceIte,Bool.false_eq_true]; done) | (simp [hp12,hp16]; done) | (simp_all; done)) rfl))))
         ·exact xw_skip (qk rfl (by first | rfl | (simp only [dT hp12,bF hp16,if_pos hp12,if_neg hp16,bS,reduceIte,Bool.false_eq_true]; done) | (simp [hp12,hp16]; done) | (simp_all; done)) rfl)
        ·refine xq_blk 3 (xq_then (xw_region ?_)); obtain ⟨ho17,h⟩ := h; exact xQ rfl (o_add rfl rfl rfl ho17) (vm rfl (xo_nil (xq_next (s' := (((if (((mhas ieq (gfar_F l0 to2) ((gnext_F l0 n9)[x43.toNat]!))) && ((decide (best10 < 0)) || (decide (mget ieq (gfar_F l0 to2) ((gnext_F l0 n9)[x43.toNat]!) 0 < best10))))=true then mget ieq (gfar_F l0 to2) ((gnext_F l0 n9)[x43.toNat]!) 0 else best10),x43 + 1) : Int × Int)) (e' := [(0,v0),(2,.int .i64 to2),(7,vs6),(8,v8_1),(9,.int .i64 n9),(10,.int .i64 (if (((mhas ieq (gfar_F l0 to2) ((gnext_F l0 n9)[x43.toNat]!))) && ((decide (best10 < 0)) || (decide (mget ieq (gfar_F l0 to2) ((gnext_F l0 n9)[x43.toNat]!) 0 < best10))))=true then mget ieq (gfar_F l0 to2) ((gnext_F l0 n9)[x43.toNat]!) 0 else best10)),(41,vs11),(42,.int .i64 ((gnext_F l0 n9).length : Int)),(43,.int .i64 (x43 + 1))]) (Bs11++(B8_1++(Bs6++([])))) (sl rfl) (fun _ h=>h) h ⟨rfl,rfl⟩)))
      ·exact xw_exit (xq_then_exit (xq_out (r := (best10 : Int)) (e' := [(0,v0),(2,.int .i64 to2),(7,vs6),(8,v8_1),(9,.int .i64 n9),(10,.int .i64 best10)]) (Bs11++(B8_1++(Bs6++([])))) (sl rfl) (fun _ h=>h) h (by intro hh; cases hh) ⟨rfl,rfl,rfl⟩))
     ·rintro _ _ _ ⟨rfl,rfl,rfl⟩; replace h : gway_k2a l0 to2 out8 n9 best10 o := h; unfold gway_k2a at h; refine xq_blk_eq (xq_then (xw_seq (wS (vm rfl (vm rfl ?_))))); obtain ⟨ho18,h⟩ := h; refine xcall rfl trivial kf19 rfl (fun w1 hw1=>gnext_con _ _ _ w1 (hs0.keep hw1 (Fr.seg hcBs11 (Fr.seg hcB8_1 (Fr.seg hcBs6 Fr.nil)))) _ (gnext_ok _ _ ho18)) ?_; rintro w1 vs19 _ hw1 ⟨_,Bs19,rfl,rfl,hJs19,hcBs19⟩; refine ⟨_,Mg.news (Cov.fresh hcBs19) (.nil _),?_⟩; replace hcBs19 := Cov.base (w0 := w) hcBs19 hw1.size; refine xQ rfl (o_lenL rfl Try.underlying25 rfl (OJ.val hJs19)) (vm rfl (nS (xw_block ?_))); obtain ⟨n9a,hx3,h⟩ := h; refine xw_wh (fun s e H=>match s with | (n9a,x69)=>e=[(0,v0),(2,.int .i64 to2),(7,vs6),(8,v8_1),(9,.int .i64 n9a),(10,.int .i64 best10),(67,vs19),(68,.int .i64 ((gnext_F l0 n9).length : Int)),(69,.int .i64 x69)]∧H=Bs19++(B8_1++(Bs6++([])))) (fun (n9a : Int) ex e H=>ex=.exit 4∧e=[(0,v0),(2,.int .i64 to2),(7,vs6),(8,v8_1),(9,.int .i64 n9a)]∧H=Bs19++(B8_1++(Bs6++([])))) hx3 ⟨[(0,v0),(2,.int .i64 to2),(7,vs6),(8,v8_1),(9,.int .i64 n9),(10,.int .i64 best10),(67,vs19),(68,.int .i64 ((gnext_F l0 n9).length : Int)),(69,.int .i64 0)],Bs19++(B8_1++(Bs6++([]))),(sl rfl),Kp.st (Kp.segKeep (Kp.segNew (Cov.fresh hcBs11) (Kp.segKeep (Kp.segKeep Kp.nil)))),⟨rfl,rfl⟩⟩ ?_ ?_
      ·rintro ⟨n9a,x69⟩ o _ _ ⟨rfl,rfl⟩ hb; have h : gway_l3 l0 to2 n9 best10 n9a x69 o := hb
       clear hb; unfold gway_l3 at h; refine wS (xQ rfl (o_lss rfl rfl) (nS (xw_seq (wd rfl h (fun hp20 h=>?_) fun hp20 h=>?_))))
       ·refine xw_skip (xq_then (xw_seq (xw_block (wS ?_)))); obtain ⟨ho21,h⟩ := h; refine xQ rfl (o_ixL el25 rfl rfl (fun w hw=>(hJs19.sl hw (Pull.sub (.here _ _)))) rfl ho21) (xQ rfl (o_ldL1 (off := 0) (u := .int .i64 ((gnext_F l0 n9)[x69.toNat]!)) rfl ts3 rfl (fun w hw=>(hJs19.sl hw (Pull.sub (.here _ _)))) (toNat_lt ho21) rfl rfl) (va rfl (nR (vm rfl (vm rfl (xQ rfl (o_lkok (z := 0) (k := (gnext_F l0 n9)[x69.toNat]!) kt3 Try.underlying39 ze3 rfl rfl hJs6 (Pull.sub (.there _ (.there _ (.here _ _))))) (vm rfl (ve rfl (ve rfl (va rfl ?_)))))))))); refine va rfl (nS (xw_seq (wk [0,2,7,8,9,10,16,67,68,69] rfl [(84,.bool (((mhas ieq (gfar_F l0 to2) ((gnext_F l0 n9)[x69.toNat]!))) && (decide (mget ieq (gfar_F l0 to2) ((gnext_F l0 n9)[x69.toNat]!) 0=best10))))] ?_ ?_)))
        ·refine xw_region (vm rfl (vm rfl (ob' 80 rfl (fun hp22=>?_) fun hp22=>?_)))
         ·exact vm rfl (vm rfl (xQ rfl (o_eql rfl rfl) (vt rfl (xo_nil (qk rfl (by first | rfl | (simp only [dT hp20,hp22,if_pos hp20,if_pos hp22,bS,reduceIte,Bool.false_eq_true]; done) | (simp [hp20,hp22]; done) | (simp_all; done)) rfl)))))
         ·exact vs rfl (vs rfl (vs rfl (vf rfl (xo_nil (qk rfl (by first | rfl | (simp only [dT hp20,bF hp22,if_pos hp20,if_neg hp22,bS,reduceIte,Bool.false_eq_true]; done) | (simp [hp20,hp22]; done) | (simp_all; done)) rfl)))))
        ·refine xq_then (wb rfl h (fun hp23 h=>?_) fun hp23 h=>?_)
         ·exact wS (vm rfl (va rfl (nS (xw_exit (xq_blk_ne rfl (xq_then_exit (xq_out (r := ((gnext_F l0 n9)[x69.toNat]! : Int)) (e' := [(0,v0),(2,.int .i64 to2),(7,vs6),(8,v8_1),(9,.int .i64 ((gnext_F l0 n9)[x69.toNat]!))]) (Bs19++(B8_1++(Bs6++([])))) (sl rfl) (fun _ h=>h) h (by intro hh; cases hh) ⟨rfl,rfl,rfl⟩)))))))
         ·refine xw_skip (xq_blk 5 (xq_then (xw_region ?_))); obtain ⟨ho24,h⟩ := h; exact xQ rfl (o_add rfl rfl rfl ho24) (vm rfl (xo_nil (xq_next (s' := ((n9a,x69 + 1) : Int × Int)) (e' := [(0,v0),(2,.int .i64 to2),(7,vs6),(8,v8_1),(9,.int .i64 n9a),(10,.int .i64 best10),(67,vs19),(68,.int .i64 ((gnext_F l0 n9).length : Int)),(69,.int .i64 (x69 + 1))]) (Bs19++(B8_1++(Bs6++([])))) (sl rfl) (fun _ h=>h) h ⟨rfl,rfl⟩)))
       ·exact xw_exit (xq_then_exit (xq_out (r := (n9a : Int)) (e' := [(0,v0),(2,.int .i64 to2),(7,vs6),(8,v8_1),(9,.int .i64 n9a)]) (Bs19++(B8_1++(Bs6++([])))) (sl rfl) (fun _ h=>h) h (by intro hh; cases hh) ⟨rfl,rfl,rfl⟩))
      ·rintro _ _ _ ⟨rfl,rfl,rfl⟩; replace h : gway_k3a out8 n9a o := h; unfold gway_k3a at h; refine xq_blk_eq (xq_then (xw_region (vm rfl (vm rfl (xr rfl (o_bsl el25 ze3 (cells_one rfl) rfl rfl (.int rfl rfl (.nil _))) ?_))))); rintro _ _ ⟨b89,hb89,rfl,rfl⟩; obtain ⟨ho26,h⟩ := h; refine xr rfl (OT.st (fun _ h=>Pull.st (.thereC _ (.there _ (.here _ _))) h) (o_appJ (l := out8) (l' := [n9a]) (B := B8_1) ap25 rfl rfl hJ8_1 (fun w2 hw2=>(litS 1 (l := [n9a]) hw2 (mR mH) rfl rfl (M1 rfl))) (fun _ _=>rfl) ho26 (len_max ho26 (by decide)))) ?_; rintro vs25 _ ⟨Bs25,rfl,hns25,hJs25⟩; have hcBs25 := Cov.trans hcB8_1 hns25
       exact xo_st ((b89,_)::(Bs19++(Bs25++(Bs6++([]))))) (fun _ h=>Pull.push (.thereC _ (.there _ (.here _ _))) h) (va rfl (xo_nil (xq_blk 1 (xq_next (s' := (((out8++[n9a]),n9a) : (List Int) × Int)) (e' := [(0,v0),(2,.int .i64 to2),(7,vs6),(8,vs25),(9,.int .i64 n9a)]) (Bs25++(Bs6++([]))) (sl rfl) (Kp.st (Kp.new hb89 (Kp.segNew (Cov.fresh hcBs19) (Kp.segKeep (Kp.segKeep Kp.nil))))) h ⟨vs25,Bs25,rfl,rfl,hJs25,hcBs25⟩))))
    ·exact xw_exit (xq_then_exit (xq_out (r := (out8 : (List Int))) (e' := [(8,v8_1)]) (B8_1++(Bs6++([]))) (sl rfl) (fun _ h=>h) h (by intro hh; cases hh) ⟨v8_1,B8_1,rfl,rfl,rfl,hJ8_1,hcB8_1⟩))
  ·rintro _ _ _ ⟨v8_1o,B8_1o,rfl,rfl,rfl,hJ8_1o,hcB8_1o⟩; replace h : gway_k1a out8 r := h; unfold gway_k1a at h; refine xq_blk_eq (xq_then (wS (vm rfl (va rfl (nS (xw_ret ?_)))))); subst h
   exact yA Try.results14 rfl _ (Kp.st (Kp.segKeep (Kp.segNew (Cov.fresh hcBs6) Kp.nil))) (⟨_,B8_1o,rfl,rfl,hJ8_1o,hcB8_1o⟩)
end Go.Proofs.Ytdmibiefinhneaa
