/- What is reached, how far it is, an order (of the chapter on graphs). -/
import Derived.Test.YtcnbdkkmcdjncaaF11S
import Derived.Test.YtcnbdkkmcdjncaaP11e
namespace Go.E
open Go
set_option linter.unusedVariables false
set_option maxRecDepth 100000

theorem mem_gnext {l : List (Nat → Int)} {a b : Int} : b ∈ gnext_F l a ↔ Adj l a b := by
  unfold gnext_F
  rw [mem_rising, mem_outs]
  rfl
theorem len_gnext (l : List (Nat → Int)) (a : Int) : (gnext_F l a).length ≤ l.length := Nat.le_trans (len_rising _) (len_outs l a)
def greach_P (l : List (Nat → Int)) (_ : Int) : Prop := Edges l
/-- A map that is a set. -/
structure IsSet (d : List (Int × Bool)) : Prop where
  u : Uniq d
  t : ∀ p ∈ d, p.2 = true
theorem IsSet.get {d : List (Int × Bool)} (h : IsSet d) (x : Int) : mget ieq d x false = mhas ieq d x := by
  unfold mget mhas
  cases hf : mfind ieq d x with
  | none => rfl
  | some v => exact h.t _ (mem_of_mfind hf)
theorem IsSet.put {d : List (Int × Bool)} (h : IsSet d) (x : Int) : IsSet (mset ieq d x true) :=
  ⟨uniq_mset h.u _ _, fun p hp => (mem_mset hp).elim (fun e => by rw [e]) (h.t p)⟩
structure ReachI (l : List (Nat → Int)) (a : Int) (s : List (Int × Bool) × List Int) : Prop where
  st : IsSet s.1
  rm : ∀ x, mhas ieq s.1 x = true → Rt l a x
  ra : ∀ x ∈ s.2, Rt l a x
  c0 : ∀ x, Adj l a x → x ∈ s.2 ∨ mhas ieq s.1 x = true
  c1 : ∀ y x, mhas ieq s.1 y = true → Adj l y x → x ∈ s.2 ∨ mhas ieq s.1 x = true
  len : s.2.length ≤ (s.1.length + 1) * l.length
theorem set_keys {d : List (Int × Bool)} {l : List (Nat → Int)} (h : IsSet d) (hr : ∀ x, mhas ieq d x = true → x ∈ nodesL l) : d.length ≤ (nodesL l).length := by
  have := nodup_len (l := d.map fun p : Int × Bool => p.1) (m := nodesL l) h.u fun x hx => hr x (mhas_mem.2 hx)
  simpa using this
theorem set_more {d : List (Int × Bool)} {l : List (Nat → Int)} (h : IsSet d) (hr : ∀ x, mhas ieq d x = true → x ∈ nodesL l) {y : Int} (hy : y ∈ nodesL l) (hn : ¬ mhas ieq d y = true) : d.length < (nodesL l).length := by
  have := nodup_lt (l := d.map fun p : Int × Bool => p.1) (m := nodesL l) h.u (fun x hx => hr x (mhas_mem.2 hx)) hy fun hx => hn (mhas_mem.2 hx)
  simpa using this
theorem len_mset_new {d : List (Int × Bool)} {k : Int} {v : Bool} (h : ¬ mhas ieq d k = true) : (mset ieq d k v).length = d.length + 1 := by
  have := congrArg List.length (keys_mset d k v)
  rw [List.length_map, if_neg (fun hx => h (mhas_mem.2 hx))] at this
  simpa using this
theorem greach_ok (l : List (Nat → Int)) (a : Int) (h : greach_P l a) : greach_S l a (greach_F l a) := by
  obtain ⟨hl, hr⟩ := h
  have hN := len_nodesL l
  unfold greach_S
  refine ⟨⟨hl, hr⟩, ?_⟩
  suffices hs : ∃ r, Wh (fun (s : (List (Int × Bool)) × (List Int)) (o : ((List (Int × Bool)) × (List Int)) ⊕ ((List (Int × Bool)))) => greach_l1 l s.1 s.2 o) (([], (gnext_F l a)) : (List (Int × Bool)) × (List Int)) r ∧ ReachI l a (r, []) by
    obtain ⟨r, hw, hI⟩ := hs
    refine ⟨r, hw, ?_⟩
    unfold greach_k1a
    have hm : ∀ x, mhas ieq r x = true ↔ Rt l a x := fun x => ⟨hI.rm x, fun hx => by
      induction hx with
      | one e => exact (hI.c0 _ e).elim (fun h => by simp at h) id
      | more _ e ih => exact (hI.c1 _ _ ih e).elim (fun h => by simp at h) id⟩
    have hk : r.length ≤ (nodesL l).length := set_keys (l := l) hI.st fun x hx => (hI.rm x hx).right
    refine ⟨⟨fun p hp => ?_, by omega⟩, (greach_eq (rising_skeys hI.st.u) fun x => by rw [mem_skeys, hm]).symm⟩
    obtain ⟨e, he, h1⟩ := mem_nodesL.1 (hI.rm p.1 (mhas_mem.2 (List.mem_map.2 ⟨p, hp, rfl⟩))).right
    rcases h1 with h1 | h1
    · rw [h1]; exact (hr e he).1
    · rw [h1]; exact (hr e he).2
  refine Wh.by (ReachI l a) (fun s => ((nodesL l).length - s.1.length) * (l.length + 1) + s.2.length) (fun r => ReachI l a (r, [])) ⟨⟨List.nodup_nil, fun p hp => by simp at hp⟩, fun x hx => by simp [mhas, mfind] at hx, fun x hx => .one (mem_gnext.1 hx), fun x hx => .inl (mem_gnext.2 hx), fun y x hy => by simp [mhas, mfind] at hy, by have := len_gnext l a; simp only [List.length_nil]; omega⟩ ?_
  rintro ⟨met, at_⟩ ⟨st, rm, ra, c0, c1, len⟩
  simp only at st rm ra c0 c1 len
  cases at_ with
  | nil =>
    refine .inr ⟨met, ?_, st, rm, ra, c0, c1, by simp⟩
    show greach_l1 l met [] _
    unfold greach_l1
    rw [if_neg (by simp)]
  | cons n rest =>
    have hn := ra n List.mem_cons_self
    have hm := set_keys (l := l) st fun x hx => (rm x hx).right
    have hb : (met.length + 1) * l.length ≤ 200001 * 100000 := Nat.mul_le_mul (by omega) hl
    simp only [List.length_cons] at len
    have hd : ((n :: rest).take (n :: rest).length).drop 1 = rest := by rw [take_len]; rfl
    have h0 : (0 : Int) < ((n :: rest).length : Int) := by simp only [List.length_cons]; omega
    by_cases hmet : mhas ieq met n = true
    · refine .inl ⟨(met, rest), ?_, ⟨st, rm, fun x hx => ra x (List.mem_cons_of_mem _ hx), fun x hx => ?_, fun y x hy hx => ?_, by simp only; omega⟩, by simp only [List.length_cons]; omega⟩
      · show greach_l1 l met (n :: rest) _
        unfold greach_l1
        rw [if_pos h0, hd, st.get, if_pos (by simpa using hmet)]
        exact ⟨⟨by omega, h0⟩, ⟨by omega, by omega⟩, rfl⟩
      · rcases c0 x hx with h | h
        · rcases List.mem_cons.1 h with rfl | h
          · exact .inr hmet
          · exact .inl h
        · exact .inr h
      · rcases c1 y x hy hx with h | h
        · rcases List.mem_cons.1 h with rfl | h
          · exact .inr hmet
          · exact .inl h
        · exact .inr h
    · have hmore := set_more (l := l) st (fun x hx => (rm x hx).right) hn.right hmet
      have hgl := len_gnext l n
      have hml := len_mset_new (v := true) hmet
      have hmul : (met.length + 1 + 1) * l.length = (met.length + 1) * l.length + l.length := Nat.succ_mul _ _
      refine .inl ⟨(mset ieq met n true, rest ++ gnext_F l n), ?_, ⟨st.put n, fun x hx => ?_, fun x hx => ?_, fun x hx => ?_, fun y x hy hx => ?_, ?_⟩, ?_⟩
      · show greach_l1 l met (n :: rest) _
        unfold greach_l1
        rw [if_pos h0, hd, st.get, if_neg (by simpa using hmet)]
        exact ⟨⟨by omega, h0⟩, ⟨by omega, by omega⟩, ⟨hl, hr⟩, by simp only [List.getElem!_cons_zero]; omega, rfl⟩
      · rcases (mhas_mset' met n true x).1 hx with rfl | hx
        · exact hn
        · exact rm x hx
      · rcases List.mem_append.1 hx with hx | hx
        · exact ra x (List.mem_cons_of_mem _ hx)
        · exact hn.more (mem_gnext.1 hx)
      · simp only
        rw [mhas_mset', List.mem_append]
        rcases c0 x hx with h | h
        · rcases List.mem_cons.1 h with rfl | h
          · exact .inr (.inl rfl)
          · exact .inl (.inl h)
        · exact .inr (.inr h)
      · simp only at hy ⊢
        rw [mhas_mset', List.mem_append]
        rcases (mhas_mset' met n true y).1 hy with rfl | hy
        · exact .inl (.inr (mem_gnext.2 hx))
        · rcases c1 y x hy hx with h | h
          · rcases List.mem_cons.1 h with rfl | h
            · exact .inr (.inl rfl)
            · exact .inl (.inl h)
          · exact .inr (.inr h)
      · simp only [List.length_append]
        rw [hml, hmul]
        omega
      · simp only [List.length_append, List.length_cons]
        rw [hml]
        have e : ((nodesL l).length - met.length) * (l.length + 1) = ((nodesL l).length - (met.length + 1)) * (l.length + 1) + (l.length + 1) := by
          rw [← Nat.succ_mul]
          congr 1
          omega
        omega
structure FarI (l : List (Nat → Int)) (to : Int) (ex : Int → Prop) (s : List (Int × Int) × List Int) : Prop where
  u : Uniq s.1
  z : mfind ieq s.1 to = some 0
  v : ∀ x k, mfind ieq s.1 x = some k → 0 ≤ k ∧ k < s.1.length ∧ (x ≠ to → ∃ y, Adj l x y ∧ mfind ieq s.1 y = some (k - 1))
  rt : ∀ x, mhas ieq s.1 x = true → x = to ∨ Rt l x to
  ina : ∀ x ∈ s.2, mhas ieq s.1 x = true
  cl : ∀ y, mhas ieq s.1 y = true → y ∉ s.2 → ¬ ex y → ∀ x, Adj l x y → mhas ieq s.1 x = true
  al : s.2.length ≤ s.1.length
theorem FarI.bound {l : List (Nat → Int)} {to : Int} {ex : Int → Prop} {s : List (Int × Int) × List Int} (h : FarI l to ex s) : s.1.length ≤ (nodesL l).length + 1 := by
  have := nodup_len (l := s.1.map fun p : Int × Int => p.1) (m := to :: nodesL l) h.u fun x hx => by
    rcases h.rt x (mhas_mem.2 hx) with rfl | h
    · exact List.mem_cons_self
    · exact List.mem_cons_of_mem _ h.left
  simpa using this
theorem len_mset_new' {α : Type} {d : List (Int × α)} {k : Int} {v : α} (h : ¬ mhas ieq d k = true) : (mset ieq d k v).length = d.length + 1 := by
  have := congrArg List.length (keys_mset d k v)
  rw [List.length_map, if_neg (fun hx => h (mhas_mem.2 hx))] at this
  simpa using this
theorem FarI.add {l : List (Nat → Int)} {to n a k : Int} {s : List (Int × Int) × List Int} (h : FarI l to (· = n) s) (hn : mfind ieq s.1 n = some k) (ha : Adj l a n) (hno : ¬ mhas ieq s.1 a = true) : FarI l to (· = n) (mset ieq s.1 a (k + 1), s.2 ++ [a]) := by
  have hne : ∀ x, mhas ieq s.1 x = true → x ≠ a := fun x hx e => hno (e ▸ hx)
  have hold : ∀ x k', mfind ieq s.1 x = some k' → mfind ieq (mset ieq s.1 a (k + 1)) x = some k' := fun x k' hx => by
    rw [mfind_mset', if_neg (hne x (by rw [mhas_mfind, hx]; rfl)), hx]
  have hl := len_mset_new' (v := k + 1) hno
  have hnv := h.v n k hn
  refine ⟨uniq_mset h.u _ _, hold _ _ h.z, fun x k' hx => ?_, fun x hx => ?_, fun x hx => ?_, fun y hy hya hex x hx => ?_, ?_⟩
  · simp only at hx ⊢
    rw [mfind_mset'] at hx
    by_cases hxa : x = a
    · rw [if_pos hxa] at hx
      simp only [Option.some.injEq] at hx
      subst hx
      refine ⟨by omega, by omega, fun _ => ⟨n, by rw [hxa]; exact ha, ?_⟩⟩
      rw [hold n k hn]
      congr 1
      omega
    · rw [if_neg hxa] at hx
      obtain ⟨h1, h2, h3⟩ := h.v x k' hx
      refine ⟨h1, by omega, fun hxt => ?_⟩
      obtain ⟨y, hy, hyk⟩ := h3 hxt
      exact ⟨y, hy, hold y _ hyk⟩
  · rcases (mhas_mset' s.1 a (k + 1) x).1 hx with rfl | hx
    · refine .inr ?_
      rcases h.rt n (by rw [mhas_mfind, hn]; rfl) with rfl | hr
      · exact .one ha
      · exact (Rt.one ha).trans hr
    · exact h.rt x hx
  · rcases List.mem_append.1 hx with hx | hx
    · exact (mhas_mset' s.1 a (k + 1) x).2 (.inr (h.ina x hx))
    · exact (mhas_mset' s.1 a (k + 1) x).2 (.inl (List.mem_singleton.1 hx))
  · simp only at hya
    rcases (mhas_mset' s.1 a (k + 1) y).1 hy with rfl | hy
    · exact absurd (List.mem_append_right _ (List.mem_singleton.2 rfl)) hya
    · exact (mhas_mset' s.1 a (k + 1) x).2 (.inr (h.cl y hy (fun h => hya (List.mem_append_left _ h)) hex x hx))
  · simp only [List.length_append, List.length_singleton]
    have := h.al
    omega
structure FarJ (l : List (Nat → Int)) (to n : Int) (c : Nat) (s : List (Int × Int) × List Int × Int) : Prop where
  f : FarI l to (· = n) (s.1, s.2.1)
  i0 : 0 ≤ s.2.2
  i1 : s.2.2 ≤ l.length
  hn : mhas ieq s.1 n = true
  hd : ∀ j : Nat, (j : Int) < s.2.2 → l[j]! 2 = n → mhas ieq s.1 (l[j]! 0) = true
  hc : s.2.1.length + c = s.1.length
theorem gfar_pass (l : List (Nat → Int)) (to n : Int) (rest : List Int) (st : List (Int × Int)) (hl : l.length ≤ 100000) (c : Nat) (hI : FarI l to (· = n) (st, rest)) (hn : mhas ieq st n = true) (hc : rest.length + c = st.length) :
    ∃ r : List (Int × Int) × List Int, Wh (fun (s : (List (Int × Int)) × (List Int) × Int) (o : ((List (Int × Int)) × (List Int) × Int) ⊕ ((List (Int × Int)) × (List Int))) => gfar_l2 l (n :: rest) s.1 s.2.1 s.2.2 o) ((st, rest, 0) : (List (Int × Int)) × (List Int) × Int) r ∧ FarJ l to n c (r.1, r.2, (l.length : Int)) := by
  have hN := len_nodesL l
  refine Wh.by (FarJ l to n c) (fun s => ((l.length : Int) - s.2.2).toNat) (fun (r : List (Int × Int) × List Int) => FarJ l to n c (r.1, r.2, (l.length : Int))) { f := hI, i0 := by simp, i1 := by simp, hn := hn, hd := fun j hj => by simp only at hj; omega, hc := hc } ?_
  rintro ⟨s1, a1, i⟩ ⟨f, i0, i1, hn, hd, hcc⟩
  simp only at f i0 i1 hn hd hcc
  have hb := f.bound
  have hal := f.al
  simp only at hb hal
  by_cases hi : i < l.length
  · have hi' : 0 ≤ i ∧ i < l.length := ⟨i0, hi⟩
    have hin : inI64 (i + 1) := ⟨by omega, by omega⟩
    have hmem := at_mem' hi'
    obtain ⟨k, hk⟩ : ∃ k, mfind ieq s1 n = some k := Option.isSome_iff_exists.1 hn
    have hkv := f.v n k hk
    have hg : mget ieq s1 n 0 = k := by rw [mget_mfind, hk]; rfl
    simp only at hkv
    by_cases hcnd : l[i.toNat]! 2 = n ∧ ¬ mhas ieq s1 (l[i.toNat]! 0) = true
    · have hadj : Adj l (l[i.toNat]! 0) n := ⟨_, hmem, rfl, hcnd.1⟩
      have hl1 := len_mset_new' (v := k + 1) hcnd.2
      refine .inl ⟨(mset ieq s1 (l[i.toNat]! 0) (k + 1), a1 ++ [l[i.toNat]! 0], i + 1), ?_, ⟨f.add hk hadj hcnd.2, by simp only; omega, by simp only; omega, (mhas_mset' _ _ _ _).2 (.inr hn), fun j hj hj2 => ?_, ?_⟩, by simp only; omega⟩
      · show gfar_l2 l (n :: rest) s1 a1 i _
        unfold gfar_l2
        rw [if_pos hi, List.getElem!_cons_zero, hg, if_pos (by simp only [Bool.and_eq_true, decide_eq_true_eq, Bool.not_eq_true']; exact ⟨hcnd.1, by simpa using hcnd.2⟩)]
        exact ⟨hi', ⟨by omega, by omega⟩, by omega, hin, rfl⟩
      · simp only at hj ⊢
        rw [mhas_mset']
        by_cases hji : (j : Int) = i
        · exact .inl (by rw [show j = i.toNat by omega])
        · exact .inr (hd j (by omega) hj2)
      · simp only [List.length_append, List.length_singleton]
        omega
    · refine .inl ⟨(s1, a1, i + 1), ?_, ⟨f, by simp only; omega, by simp only; omega, hn, fun j hj hj2 => ?_, hcc⟩, by simp only; omega⟩
      · show gfar_l2 l (n :: rest) s1 a1 i _
        unfold gfar_l2
        rw [if_pos hi, List.getElem!_cons_zero, if_neg (by
          intro h
          simp only [Bool.and_eq_true, decide_eq_true_eq, Bool.not_eq_true'] at h
          exact hcnd ⟨h.1, by rw [h.2]; decide⟩)]
        exact ⟨hi', hin, rfl⟩
      · simp only at hj ⊢
        by_cases hji : (j : Int) = i
        · rw [show j = i.toNat by omega] at hj2 ⊢
          by_cases hm : mhas ieq s1 (l[i.toNat]! 0) = true
          · exact hm
          · exact absurd ⟨hj2, hm⟩ hcnd
        · exact hd j (by omega) hj2
  · obtain rfl : i = l.length := by omega
    refine .inr ⟨(s1, a1), ?_, f, i0, i1, hn, hd, hcc⟩
    show gfar_l2 l (n :: rest) s1 a1 (l.length : Int) _
    unfold gfar_l2
    rw [if_neg (by omega)]
structure FarOk (l : List (Nat → Int)) (to : Int) (d : List (Int × Int)) : Prop where
  z : mfind ieq d to = some 0
  v : ∀ x k, mfind ieq d x = some k → 0 ≤ k ∧ k < d.length ∧ (x ≠ to → ∃ y, Adj l x y ∧ mfind ieq d y = some (k - 1))
  rt : ∀ x, Rt l x to → mhas ieq d x = true
  n : d.length ≤ 2 * l.length + 1
def gfar_P (l : List (Nat → Int)) (_ : Int) : Prop := Edges l
theorem gfar_ex (l : List (Nat → Int)) (to : Int) (h : gfar_P l to) : ∃ d, gfar_S l to d ∧ FarOk l to d := by
  obtain ⟨hl, _⟩ := h
  have hN := len_nodesL l
  suffices hs : ∃ r, Wh (fun (s : (List (Int × Int)) × (List Int)) (o : ((List (Int × Int)) × (List Int)) ⊕ ((List (Int × Int)))) => gfar_l1 l s.1 s.2 o) ((mset ieq ([]) to 0, ([to] : List Int)) : (List (Int × Int)) × (List Int)) r ∧ FarI l to (fun _ => False) (r, []) by
    obtain ⟨r, hw, hI⟩ := hs
    refine ⟨r, ?_, hI.z, hI.v, fun x hx => ?_, by have : r.length ≤ _ := hI.bound; omega⟩
    · unfold gfar_S
      exact ⟨r, hw, rfl⟩
    · have hto : mhas ieq r to = true := by rw [mhas_mfind, hI.z]; rfl
      have key : ∀ y, Rt l x y → mhas ieq r y = true → mhas ieq r x = true := fun y hy => by
        induction hy with
        | one e => exact fun h => hI.cl _ h (by simp) (fun h => h) _ e
        | more _ e ih => exact fun h => ih (hI.cl _ h (by simp) (fun h => h) _ e)
      exact key to hx hto
  refine Wh.by (FarI l to (fun _ => False)) (fun s => s.2.length + ((nodesL l).length + 1 - s.1.length)) (fun r => FarI l to (fun _ => False) (r, [])) ?_ ?_
  · refine ⟨by simp [mset, Uniq], by simp [mset, mfind, ieq], fun x k hx => ?_, fun x hx => ?_, fun x hx => ?_, fun y hy hya => ?_, by simp [mset]⟩
    · simp only [mset, mfind, ieq] at hx ⊢
      by_cases hxt : x = to
      · simp [hxt] at hx
        subst hx
        exact ⟨by omega, by simp, fun h => absurd hxt h⟩
      · simp [hxt] at hx
    · simp only [mset, mhas, mfind, ieq] at hx
      by_cases hxt : x = to
      · exact .inl hxt
      · simp [hxt] at hx
    · rw [List.mem_singleton.1 hx]; simp [mset, mhas, mfind, ieq]
    · simp only [mset, mhas, mfind, ieq] at hy
      by_cases hyt : y = to
      · exact absurd (List.mem_singleton.2 hyt) hya
      · simp [hyt] at hy
  rintro ⟨st, at_⟩ hI
  cases at_ with
  | nil =>
    refine .inr ⟨st, ?_, hI⟩
    show gfar_l1 l st [] _
    unfold gfar_l1
    rw [if_neg (by simp)]
  | cons n rest =>
    have hn := hI.ina n List.mem_cons_self
    have hal : rest.length + 1 ≤ st.length := hI.al
    have hI2 : FarI l to (· = n) (st, rest) := ⟨hI.u, hI.z, hI.v, hI.rt, fun x hx => hI.ina x (List.mem_cons_of_mem _ hx), fun y hy hya hyn x hx => hI.cl y hy (fun h => by
      rcases List.mem_cons.1 h with h | h
      · exact hyn h
      · exact hya h) (fun h => h) x hx, by simp only; omega⟩
    obtain ⟨⟨s1, a1⟩, hw, hJ⟩ := gfar_pass l to n rest st hl (st.length - rest.length) hI2 hn (by omega)
    have hb : s1.length ≤ _ := hJ.f.bound
    have hc : a1.length + (st.length - rest.length) = s1.length := hJ.hc
    have hb0 : st.length ≤ _ := hI.bound
    have hd : ((n :: rest).take (n :: rest).length).drop 1 = rest := by rw [take_len]; rfl
    have h0 : (0 : Int) < ((n :: rest).length : Int) := by simp only [List.length_cons]; omega
    refine .inl ⟨(s1, a1), ?_, ⟨hJ.f.u, hJ.f.z, hJ.f.v, hJ.f.rt, hJ.f.ina, fun y hy hya _ x hx => ?_, hJ.f.al⟩, by simp only [List.length_cons]; omega⟩
    · show gfar_l1 l st (n :: rest) _
      unfold gfar_l1
      rw [if_pos h0, hd]
      exact ⟨⟨by omega, h0⟩, ⟨by omega, by omega⟩, (s1, a1), hw, rfl⟩
    · by_cases hyn : y = n
      · obtain ⟨e, he, h1, h2⟩ := hx
        obtain ⟨j, hj, rfl⟩ := List.getElem_of_mem he
        have := hJ.hd j (by simp only; omega) (by rw [getElem!_pos l j hj, h2, hyn])
        rw [getElem!_pos l j hj, h1] at this
        exact this
      · exact hJ.f.cl y hy hya hyn x hx
noncomputable def gfar_F (l : List (Nat → Int)) (to : Int) : List (Int × Int) := Classical.epsilon fun d => gfar_S l to d ∧ FarOk l to d
theorem gfar_ok (l : List (Nat → Int)) (to : Int) (h : gfar_P l to) : gfar_S l to (gfar_F l to) := (Classical.epsilon_spec (gfar_ex l to h)).1
theorem gfar_is (l : List (Nat → Int)) (to : Int) (h : gfar_P l to) : FarOk l to (gfar_F l to) := (Classical.epsilon_spec (gfar_ex l to h)).2
def blocks (left : List Int) (n : Int) (e : Nat → Int) : Bool := decide (e 2 = n) && decide (e 0 ∈ left)
def freeL (l : List (Nat → Int)) (left : List Int) (n : Int) : Bool := !(l.any (blocks left n))
def ordL (l : List (Nat → Int)) : Nat → List Int → List Int → Option (List Int)
  | 0, _, out => some out
  | k + 1, left, out => match left.find? (freeL l left) with
    | none => none
    | some n => ordL l k (left.erase n) (out ++ [n])
def gorder_F (l : List (Nat → Int)) : List Int × Int := match ordL l (nodesL l).length (nodesL l) [] with
  | some o => (o, 0)
  | none => ([], 11)
def gorder_P (l : List (Nat → Int)) : Prop := Edges l
theorem gorder_free (l : List (Nat → Int)) (left : List Int) (p : Nat) (hl : l.length ≤ 100000) (hb : left.length ≤ 300000) :
    ∃ r, Wh (fun (s : Int) (o : (Int) ⊕ ((Unit) ⊕ (Int))) => gorder_l3 l left (p : Int) s o) (0 : Int) r ∧ (if freeL l left (left[p]!) = true then r = .inl () else ∃ x : Int, r = .inr x ∧ 0 ≤ x) := by
  obtain ⟨r, hr, h2⟩ := Wh.find (f := fun (s : Int) (o : (Int) ⊕ ((Unit) ⊕ (Int))) => gorder_l3 l left (p : Int) s o) l.length (fun k => blocks left (left[p]!) (l[k]!)) (.inl ()) (fun k => .inr (k : Int)) (fun k hk hp => by
      unfold gorder_l3
      rw [if_pos (by omega), Int.toNat_natCast, Int.toNat_natCast, if_neg (by unfold blocks at hp; unfold hasI_F; rw [hp]; decide)]
      exact ⟨⟨by omega, by omega⟩, fun _ => by unfold hasI_P; omega, step1 (by omega), rfl⟩) (fun k hk hp => by
      unfold gorder_l3
      rw [if_pos (by omega), Int.toNat_natCast, Int.toNat_natCast, if_pos (by unfold blocks at hp; unfold hasI_F; exact hp)]
      exact ⟨⟨by omega, by omega⟩, fun _ => by unfold hasI_P; omega, rfl⟩) (by
      unfold gorder_l3
      rw [if_neg (by omega)])
  refine ⟨r, hr, ?_⟩
  rw [any_range l (blocks left (left[p]!))] at h2
  unfold freeL
  rcases h2 with ⟨rfl, h2⟩ | ⟨k, hk, rfl, h2⟩
  · rw [h2, if_pos (by decide)]
  · rw [h2, if_neg (by decide)]
    exact ⟨_, rfl, by omega⟩
theorem gorder_turn (l : List (Nat → Int)) (left out : List Int) (hl : l.length ≤ 100000) (hb : left.length ≤ 300000) (ho : out.length ≤ 300000) (hn : left.Nodup) :
    ∃ r, Wh (fun (s : (List Int) × Int) (o : ((List Int) × Int) ⊕ (((List Int) × (List Int)) ⊕ (Unit))) => gorder_l2 l left s.1 s.2 o) ((out, 0) : (List Int) × Int) r ∧ (match left.find? (freeL l left) with | none => r = .inr () | some n => r = .inl (out ++ [n], left.erase n)) := by
  refine Wh.by (fun (s : List Int × Int) => s.1 = out ∧ 0 ≤ s.2 ∧ s.2 ≤ left.length ∧ ∀ j : Nat, (j : Int) < s.2 → freeL l left (left[j]!) = false) (fun s => ((left.length : Int) - s.2).toNat) (fun (r : ((List Int) × (List Int)) ⊕ (Unit)) => match left.find? (freeL l left) with | none => r = .inr () | some n => r = .inl (out ++ [n], left.erase n)) ⟨rfl, by simp, by simp, fun j hj => by simp only at hj; omega⟩ ?_
  rintro ⟨o1, i⟩ ⟨rfl, i0, i1, hno⟩
  simp only at i0 i1 hno ho
  by_cases hi : i < left.length
  · have hi' : 0 ≤ i ∧ i < left.length := ⟨i0, hi⟩
    have hin : inI64 (i + 1) := ⟨by omega, by omega⟩
    obtain ⟨r, hr, hf⟩ := gorder_free l left i.toNat hl hb
    rw [Int.toNat_of_nonneg i0] at hr
    by_cases hfr : freeL l left (left[i.toNat]!) = true
    · rw [if_pos hfr] at hf
      subst hf
      have hlt : i.toNat < left.length := by omega
      have hsplit : left = left.take i.toNat ++ left[i.toNat]! :: left.drop (i.toNat + 1) := by
        rw [getElem!_pos left i.toNat hlt, ← List.drop_eq_getElem_cons hlt, List.take_append_drop]
      have hfind : left.find? (freeL l left) = some (left[i.toNat]!) := by
        rw [List.find?_eq_some_iff_append]
        refine ⟨hfr, _, _, hsplit, fun x hx => ?_⟩
        obtain ⟨j, hj, rfl⟩ := List.getElem_of_mem hx
        simp only [List.length_take] at hj
        have := hno j (by omega)
        rw [getElem!_pos left j (by omega)] at this
        rw [List.getElem_take, this]
        rfl
      have hnot : left[i.toNat]! ∉ left.take i.toNat := fun hx => by
        rw [hsplit] at hn
        exact (List.nodup_append.1 hn).2.2 _ hx _ List.mem_cons_self rfl
      have herase : left.erase (left[i.toNat]!) = (left.take i.toNat).drop 0 ++ (left.take left.length).drop (i + 1).toNat := by
        rw [List.drop_zero, take_len, show (i + 1).toNat = i.toNat + 1 by omega]
        have key : ∀ (p q : List Int) (x : Int), x ∉ p → (p ++ x :: q).erase x = p ++ q := fun p q x hx => by rw [List.erase_append_right _ hx, List.erase_cons_head]
        have := key _ (left.drop (i.toNat + 1)) _ hnot
        rw [← hsplit] at this
        exact this
      refine .inr ⟨.inl (o1 ++ [left[i.toNat]!], left.erase (left[i.toNat]!)), ?_, ?_⟩
      · show gorder_l2 l left o1 i _
        unfold gorder_l2
        rw [if_pos hi]
        refine ⟨hi', _, hr, ?_⟩
        show gorder_k3a left o1 i _
        unfold gorder_k3a
        rw [if_neg (by omega), herase]
        refine ⟨by omega, hin, ⟨by omega, by omega, by omega⟩, ⟨by omega, by omega⟩, ⟨by omega, by omega⟩, ?_, rfl⟩
        simp only [List.length_append, List.length_drop, List.length_take]
        omega
      · rw [hfind]
    · rw [if_neg hfr] at hf
      obtain ⟨x, rfl, hx⟩ := hf
      refine .inl ⟨(o1, i + 1), ?_, ⟨rfl, by simp only; omega, by simp only; omega, fun j hj => ?_⟩, by simp only; omega⟩
      · show gorder_l2 l left o1 i _
        unfold gorder_l2
        rw [if_pos hi]
        refine ⟨hi', _, hr, ?_⟩
        show gorder_k3b left o1 i x _
        unfold gorder_k3b
        rw [if_pos hx]
        exact ⟨hin, rfl⟩
      · simp only at hj
        by_cases hji : (j : Int) = i
        · rw [show j = i.toNat by omega]
          simpa using hfr
        · exact hno j (by omega)
  · obtain rfl : i = left.length := by omega
    refine .inr ⟨.inr (), ?_, ?_⟩
    · show gorder_l2 l left o1 (left.length : Int) _
      unfold gorder_l2
      rw [if_neg (by omega)]
    · have : left.find? (freeL l left) = none := by
        rw [List.find?_eq_none]
        intro x hx
        obtain ⟨j, hj, rfl⟩ := List.getElem_of_mem hx
        have := hno j (by omega)
        rw [getElem!_pos left j hj] at this
        simp [this]
      rw [this]
theorem gorder_run (l : List (Nat → Int)) (hl : l.length ≤ 100000) : ∀ (k : Nat) (left out : List Int), left.length = k → left.Nodup → left.length + out.length ≤ 300000 →
    ∃ r, Wh (fun (s : (List Int) × (List Int)) (o : ((List Int) × (List Int)) ⊕ (((List Int) × (List Int)) ⊕ ((List Int)))) => gorder_l1 l s.1 s.2 o) (out, left) r ∧ (match ordL l k left out with | some o => r = .inl (o, []) | none => ∃ z, r = .inr z)
  | 0, left, out, hk, _, _ => by
    obtain rfl := List.eq_nil_of_length_eq_zero hk
    refine ⟨.inl (out, []), .out ?_, rfl⟩
    show gorder_l1 l out [] _
    unfold gorder_l1
    rw [if_neg (by simp)]
  | k + 1, left, out, hk, hn, hb => by
    obtain ⟨r1, hw, hr1⟩ := gorder_turn l left out hl (by omega) (by omega) hn
    unfold ordL
    cases hf : left.find? (freeL l left) with
    | none =>
      rw [hf] at hr1
      subst hr1
      refine ⟨.inr left, .out ?_, left, rfl⟩
      show gorder_l1 l out left _
      unfold gorder_l1
      rw [if_pos (by omega)]
      exact ⟨_, hw, rfl⟩
    | some n =>
      rw [hf] at hr1
      subst hr1
      have hmem : n ∈ left := List.mem_of_find?_eq_some hf
      have hle := List.length_erase_of_mem hmem
      obtain ⟨r, hr, h2⟩ := gorder_run l hl k (left.erase n) (out ++ [n]) (by omega) (hn.erase n) (by simp only [List.length_append, List.length_singleton]; omega)
      refine ⟨r, .again (s' := (out ++ [n], left.erase n)) ?_ hr, h2⟩
      show gorder_l1 l out left _
      unfold gorder_l1
      rw [if_pos (by omega)]
      exact ⟨_, hw, rfl⟩
theorem gorder_ok (l : List (Nat → Int)) (h : gorder_P l) : gorder_S l (gorder_F l) := by
  have hN := len_nodesL l
  have hl := h.1
  unfold gorder_S
  have e : gnodes_F l = nodesL l := rfl
  rw [e]
  obtain ⟨r, hr, h2⟩ := gorder_run l hl _ (nodesL l) [] rfl (rising_nodup (rising_rising _)) (by simp only [List.length_nil]; omega)
  refine ⟨h, r, hr, ?_⟩
  unfold gorder_F
  cases ho : ordL l (nodesL l).length (nodesL l) [] with
  | none =>
    rw [ho] at h2
    obtain ⟨z, rfl⟩ := h2
    rfl
  | some o =>
    rw [ho] at h2
    subst h2
    rfl
end Go.E
