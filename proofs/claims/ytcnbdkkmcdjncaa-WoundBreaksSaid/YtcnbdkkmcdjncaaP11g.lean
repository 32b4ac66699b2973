/- Ways (of the chapter on graphs). -/
import Derived.Test.YtcnbdkkmcdjncaaG11S
import Derived.Test.YtcnbdkkmcdjncaaP11f
namespace Go.E
open Go
set_option linter.unusedVariables false
set_option maxRecDepth 100000

structure WayI (l : List (Nat → Int)) (a b : Int) (w : List Int) : Prop where
  len : 2 ≤ w.length
  fst : w[0]! = a
  lst : w[w.length - 1]! = b
  adj : ∀ k, k + 1 < w.length → Adj l (w[k]!) (w[k + 1]!)
  mid : ∀ k, 0 < k → k + 1 < w.length → w[k]! ≠ b
  top : w.length ≤ 2 * l.length + 3
def WayOk (l : List (Nat → Int)) (a b : Int) (w : List Int) : Prop := (Rt l a b → WayI l a b w) ∧ (¬ Rt l a b → w = [])
theorem app_l {w : List Int} {x : Int} {k : Nat} (h : k < w.length) : (w ++ [x])[k]! = w[k]! := by
  rw [getElem!_pos (w ++ [x]) k (by simp; omega), getElem!_pos w k h, List.getElem_append_left h]
theorem app_r (w : List Int) (x : Int) : (w ++ [x])[w.length]! = x := by
  rw [getElem!_pos (w ++ [x]) w.length (by simp)]
  simp
theorem gway_best (l : List (Nat → Int)) (b n : Int) (hl : l.length ≤ 100000) (hF : FarOk l b (gfar_F l b)) (hy : ∃ y, Adj l n y ∧ mhas ieq (gfar_F l b) y = true) :
    ∃ best, Wh (fun (s : Int × Int) (o : (Int × Int) ⊕ (Int)) => gway_l2 l b n s.1 s.2 o) (((-1), 0) : Int × Int) best ∧ 0 ≤ best ∧ (∃ y ∈ gnext_F l n, mfind ieq (gfar_F l b) y = some best) ∧ ∀ y ∈ gnext_F l n, ∀ k, mfind ieq (gfar_F l b) y = some k → best ≤ k := by
  have hg := len_gnext l n
  refine (Wh.by (f := fun (s : Int × Int) (o : (Int × Int) ⊕ (Int)) => gway_l2 l b n s.1 s.2 o) (s := ((-1), 0)) (fun (s : Int × Int) => 0 ≤ s.2 ∧ s.2 ≤ (gnext_F l n).length ∧ ((s.1 = -1 ∧ ∀ j : Nat, (j : Int) < s.2 → mfind ieq (gfar_F l b) ((gnext_F l n)[j]!) = none) ∨ (0 ≤ s.1 ∧ (∃ y ∈ gnext_F l n, mfind ieq (gfar_F l b) y = some s.1) ∧ ∀ j : Nat, (j : Int) < s.2 → ∀ k, mfind ieq (gfar_F l b) ((gnext_F l n)[j]!) = some k → s.1 ≤ k))) (fun s => (((gnext_F l n).length : Int) - s.2).toNat) (fun best => 0 ≤ best ∧ (∃ y ∈ gnext_F l n, mfind ieq (gfar_F l b) y = some best) ∧ ∀ y ∈ gnext_F l n, ∀ k, mfind ieq (gfar_F l b) y = some k → best ≤ k) ⟨by simp, by simp, .inl ⟨rfl, fun j hj => by simp only at hj; omega⟩⟩ ?_)
  rintro ⟨best, i⟩ ⟨i0, i1, hB⟩
  simp only at i0 i1 hB
  by_cases hi : i < (gnext_F l n).length
  · have hi' : 0 ≤ i ∧ i < (gnext_F l n).length := ⟨i0, hi⟩
    have hmem := at_mem' hi'
    refine .inl ⟨(_, i + 1), (by
      show gway_l2 l b n best i _
      unfold gway_l2
      rw [if_pos hi]
      exact ⟨hi', ⟨by omega, by omega⟩, rfl⟩), ⟨by simp only; omega, by simp only; omega, ?_⟩, by simp only; omega⟩
    simp only
    rw [mhas_mfind, mget_mfind]
    have hj : ∀ j : Nat, (j : Int) < i + 1 → (j : Int) < i ∨ j = i.toNat := fun j h => by omega
    cases hk : mfind ieq (gfar_F l b) ((gnext_F l n)[i.toNat]!) with
    | none =>
      rw [if_neg (by simp)]
      rcases hB with ⟨h1, h2⟩ | ⟨h1, h2, h3⟩
      · exact .inl ⟨h1, fun j hjl => (hj j hjl).elim (h2 j) fun e => by rw [e]; exact hk⟩
      · exact .inr ⟨h1, h2, fun j hjl k hjk => (hj j hjl).elim (fun h => h3 j h k hjk) fun e => by rw [e, hk] at hjk; cases hjk⟩
    | some v =>
      have hv := (hF.v _ v hk).1
      simp only [Option.isSome_some, Option.getD_some, Bool.true_and, Bool.or_eq_true, decide_eq_true_eq]
      rcases hB with ⟨h1, h2⟩ | ⟨h1, h2, h3⟩
      · rw [if_pos (.inl (by omega))]
        refine .inr ⟨hv, ⟨_, hmem, hk⟩, fun j hjl k hjk => (hj j hjl).elim (fun h => by rw [h2 j h] at hjk; cases hjk) fun e => ?_⟩
        rw [e, hk] at hjk
        cases hjk
        exact Int.le_refl _
      · by_cases hlt : v < best
        · rw [if_pos (.inr hlt)]
          refine .inr ⟨hv, ⟨_, hmem, hk⟩, fun j hjl k hjk => (hj j hjl).elim (fun h => by have := h3 j h k hjk; omega) fun e => ?_⟩
          rw [e, hk] at hjk
          cases hjk
          exact Int.le_refl _
        · rw [if_neg (by omega)]
          refine .inr ⟨h1, h2, fun j hjl k hjk => (hj j hjl).elim (fun h => h3 j h k hjk) fun e => ?_⟩
          rw [e, hk] at hjk
          cases hjk
          omega
  · obtain rfl : i = (gnext_F l n).length := by omega
    refine .inr ⟨best, (by
      show gway_l2 l b n best ((gnext_F l n).length : Int) _
      unfold gway_l2
      rw [if_neg (by omega)]), ?_⟩
    have hat : ∀ y ∈ gnext_F l n, ∃ j : Nat, j < (gnext_F l n).length ∧ (gnext_F l n)[j]! = y := fun y hy => by
      obtain ⟨j, hj, rfl⟩ := List.getElem_of_mem hy
      exact ⟨j, hj, getElem!_pos _ j hj⟩
    rcases hB with ⟨h1, h2⟩ | ⟨h1, h2, h3⟩
    · obtain ⟨y, hy1, hy2⟩ := hy
      obtain ⟨j, hj, rfl⟩ := hat y (mem_gnext.2 hy1)
      rw [mhas_mfind, h2 j (by omega)] at hy2
      cases hy2
    · refine ⟨h1, h2, fun y hy k hk => ?_⟩
      obtain ⟨j, hj, rfl⟩ := hat y hy
      exact h3 j (by omega) k hk
theorem gway_pick (l : List (Nat → Int)) (b n best : Int) (hl : l.length ≤ 100000) (hy : ∃ y ∈ gnext_F l n, mfind ieq (gfar_F l b) y = some best) :
    ∃ k, Wh (fun (s : Int × Int) (o : (Int × Int) ⊕ (Int)) => gway_l3 l b n best s.1 s.2 o) ((n, 0) : Int × Int) k ∧ k ∈ gnext_F l n ∧ mfind ieq (gfar_F l b) k = some best := by
  have hg := len_gnext l n
  refine (Wh.by (f := fun (s : Int × Int) (o : (Int × Int) ⊕ (Int)) => gway_l3 l b n best s.1 s.2 o) (s := (n, 0)) (fun (s : Int × Int) => 0 ≤ s.2 ∧ s.2 ≤ (gnext_F l n).length ∧ ∀ j : Nat, (j : Int) < s.2 → mfind ieq (gfar_F l b) ((gnext_F l n)[j]!) ≠ some best) (fun s => (((gnext_F l n).length : Int) - s.2).toNat) (fun k => k ∈ gnext_F l n ∧ mfind ieq (gfar_F l b) k = some best) ⟨by simp, by simp, fun j hj => by simp only at hj; omega⟩ ?_)
  rintro ⟨m, i⟩ ⟨i0, i1, hno⟩
  simp only at i0 i1 hno
  by_cases hi : i < (gnext_F l n).length
  · have hi' : 0 ≤ i ∧ i < (gnext_F l n).length := ⟨i0, hi⟩
    have hmem := at_mem' hi'
    by_cases hk : mfind ieq (gfar_F l b) ((gnext_F l n)[i.toNat]!) = some best
    · refine .inr ⟨(gnext_F l n)[i.toNat]!, (by
        show gway_l3 l b n best m i _
        unfold gway_l3
        rw [if_pos hi, mhas_mfind, mget_mfind, hk, if_pos (by simp)]
        exact ⟨hi', rfl⟩), hmem, hk⟩
    · refine .inl ⟨(m, i + 1), (by
        show gway_l3 l b n best m i _
        unfold gway_l3
        rw [if_pos hi, mhas_mfind, mget_mfind, if_neg (by
          intro h
          cases hv : mfind ieq (gfar_F l b) ((gnext_F l n)[i.toNat]!) with
          | none => rw [hv] at h; simp at h
          | some v =>
            rw [hv] at h
            simp at h
            exact hk (by rw [hv, h]))]
        exact ⟨hi', ⟨by omega, by omega⟩, rfl⟩), ⟨by simp only; omega, by simp only; omega, fun j hj => ?_⟩, by simp only; omega⟩
      simp only at hj
      by_cases hji : (j : Int) = i
      · rw [show j = i.toNat by omega]; exact hk
      · exact hno j (by omega)
  · obtain ⟨y, hy1, hy2⟩ := hy
    obtain ⟨j, hj, rfl⟩ := List.getElem_of_mem hy1
    exact absurd (by rw [getElem!_pos (gnext_F l n) j hj]; exact hy2) (hno j (by omega))
structure WalkI (l : List (Nat → Int)) (a b : Int) (s : List Int × Int) : Prop where
  len : 1 ≤ s.1.length
  fst : s.1[0]! = a
  lst : s.1[s.1.length - 1]! = s.2
  adj : ∀ k, k + 1 < s.1.length → Adj l (s.1[k]!) (s.1[k + 1]!)
  mid : ∀ k, 0 < k → k + 1 < s.1.length → s.1[k]! ≠ b
  one : s.1.length = 1 → s.2 = a
  far : s.1.length ≠ 1 → ∃ k, mfind ieq (gfar_F l b) s.2 = some k ∧ (s.1.length : Int) + k ≤ (gfar_F l b).length + 1
def gway_P (l : List (Nat → Int)) (_ _ : Int) : Prop := Edges l
theorem gway_ex (l : List (Nat → Int)) (a b : Int) (h : gway_P l a b) : ∃ w, gway_S l a b w ∧ WayOk l a b w := by
  have hF := gfar_is l b h
  have hl := h.1
  unfold gway_S
  have hP : hasI_P (greach_F l a) b := by unfold hasI_P; have := len_greach l a; omega
  by_cases hr : Rt l a b
  · suffices hs : ∃ w, Wh (fun (s : (List Int) × Int) (o : ((List Int) × Int) ⊕ ((List Int))) => gway_l1 l b s.1 s.2 o) ((([a] : List Int), a) : (List Int) × Int) w ∧ WayI l a b w by
      obtain ⟨w, hw, hI⟩ := hs
      refine ⟨w, ⟨h, hP, ?_⟩, fun _ => hI, fun hn => absurd hr hn⟩
      rw [if_pos (by unfold hasI_F; exact decide_eq_true (mem_greach.2 hr))]
      exact ⟨h, w, hw, rfl⟩
    refine Wh.by (WalkI l a b) (fun s => if s.1.length = 1 then (gfar_F l b).length + 1 else (mget ieq (gfar_F l b) s.2 0).toNat) (WayI l a b) ⟨by simp, rfl, rfl, fun k hk => by simp at hk, fun k h1 hk => by simp at hk, fun _ => rfl, fun h => absurd rfl h⟩ ?_
    rintro ⟨out, n⟩ ⟨len, fst, lst, adj, mid, one, far⟩
    simp only at len fst lst adj mid one far
    by_cases hend : n = b ∧ out.length ≠ 1
    · obtain ⟨k, hk, hkl⟩ := far hend.2
      have hkv := (hF.v _ k hk).1
      have hn := hF.n
      refine .inr ⟨out, ?_, by omega, fst, by rw [lst, hend.1], adj, mid, by omega⟩
      show gway_l1 l b out n _
      unfold gway_l1
      rw [if_neg (by
        simp only [Bool.or_eq_true, Bool.not_eq_true', decide_eq_true_eq, decide_eq_false_iff_not]
        rintro (h1 | h1)
        · exact h1 hend.1
        · exact hend.2 (by omega))]
    · have hgo : ∃ y, Adj l n y ∧ mhas ieq (gfar_F l b) y = true ∧ (out.length ≠ 1 → ∃ k, mfind ieq (gfar_F l b) n = some k ∧ mfind ieq (gfar_F l b) y = some (k - 1)) := by
        by_cases h1 : out.length = 1
        · obtain ⟨c, hc1, hc2⟩ := hr.first
          refine ⟨c, by rw [one h1]; exact hc1, ?_, fun h => absurd h1 h⟩
          rcases hc2 with rfl | hc2
          · rw [mhas_mfind, hF.z]; rfl
          · exact hF.rt _ hc2
        · obtain ⟨k, hk, _⟩ := far h1
          obtain ⟨y, hy1, hy2⟩ := (hF.v _ k hk).2.2 (fun e => hend ⟨e, h1⟩)
          exact ⟨y, hy1, by rw [mhas_mfind, hy2]; rfl, fun _ => ⟨k, hk, hy2⟩⟩
      obtain ⟨y, hy1, hy2, hy3⟩ := hgo
      obtain ⟨best, hw2, hb0, hb1, hb2⟩ := gway_best l b n hl hF ⟨y, hy1, hy2⟩
      obtain ⟨k, hw3, hk1, hk2⟩ := gway_pick l b n best hl hb1
      have hka : Adj l n k := mem_gnext.1 hk1
      have hkv := hF.v _ best hk2
      have hn := hF.n
      have hout : out.length ≤ 2 * l.length + 3 := by
        by_cases h1 : out.length = 1
        · omega
        · obtain ⟨k', hk', hkl⟩ := far h1
          have := (hF.v _ k' hk').1
          omega
      have hlen' : (out ++ [k]).length = out.length + 1 := by simp
      refine .inl ⟨(out ++ [k], k), ?_, ⟨by simp only [hlen']; omega, by simp only; rw [app_l (by omega)]; exact fst, by simp only [hlen', Nat.add_sub_cancel]; exact app_r out k, fun j hj => ?_, fun j h0 hj => ?_, fun h => by simp only [hlen'] at h; omega, fun _ => ⟨best, hk2, ?_⟩⟩, ?_⟩
      · show gway_l1 l b out n _
        unfold gway_l1
        rw [if_pos (by
          simp only [Bool.or_eq_true, Bool.not_eq_true', decide_eq_true_eq, decide_eq_false_iff_not]
          by_cases h1 : out.length = 1
          · exact .inr (by omega)
          · exact .inl fun e => hend ⟨e, h1⟩)]
        refine ⟨h, best, hw2, ?_⟩
        unfold gway_k2a
        refine ⟨h, k, hw3, ?_⟩
        unfold gway_k3a
        exact ⟨by omega, rfl⟩
      · simp only [hlen'] at hj ⊢
        by_cases hjl : j + 1 < out.length
        · rw [app_l (by omega), app_l hjl]; exact adj j hjl
        · rw [app_l (by omega), show j + 1 = out.length by omega, app_r, show j = out.length - 1 by omega, lst]
          exact hka
      · simp only [hlen'] at hj ⊢
        rw [app_l (by omega)]
        by_cases hjl : j + 1 < out.length
        · exact mid j h0 hjl
        · rw [show j = out.length - 1 by omega, lst]
          exact fun e => hend ⟨e, by omega⟩
      · simp only [hlen']
        by_cases h1 : out.length = 1
        · omega
        · obtain ⟨k', hk', hkl⟩ := far h1
          obtain ⟨k'', hk'', hy4⟩ := hy3 h1
          rw [hk'] at hk''
          cases hk''
          have := hb2 y (mem_gnext.2 hy1) _ hy4
          omega
      · simp only [hlen']
        rw [if_neg (by omega), mget_mfind, hk2]
        simp only [Option.getD_some]
        by_cases h1 : out.length = 1
        · rw [if_pos h1]; omega
        · rw [if_neg h1, mget_mfind]
          obtain ⟨k'', hk'', hy4⟩ := hy3 h1
          rw [hk'']
          have := hb2 y (mem_gnext.2 hy1) _ hy4
          simp only [Option.getD_some]
          omega
  · refine ⟨[], ⟨h, hP, ?_⟩, fun h => absurd h hr, fun _ => rfl⟩
    rw [if_neg (by unfold hasI_F; rw [decide_eq_true_eq, mem_greach]; exact hr)]
noncomputable def gway_F (l : List (Nat → Int)) (a b : Int) : List Int := Classical.epsilon fun w => gway_S l a b w ∧ WayOk l a b w
theorem gway_ok (l : List (Nat → Int)) (a b : Int) (h : gway_P l a b) : gway_S l a b (gway_F l a b) := (Classical.epsilon_spec (gway_ex l a b h)).1
theorem gway_is (l : List (Nat → Int)) (a b : Int) (h : Edges l) : WayOk l a b (gway_F l a b) := (Classical.epsilon_spec (gway_ex l a b h)).2
theorem len_ordL {l : List (Nat → Int)} : ∀ (k : Nat) (left out : List Int) {o : List Int}, ordL l k left out = some o → o.length = out.length + k
  | 0, left, out, o, h => by unfold ordL at h; cases h; rfl
  | k + 1, left, out, o, h => by
    unfold ordL at h
    cases hf : left.find? (freeL l left) with
    | none => rw [hf] at h; cases h
    | some n =>
      rw [hf] at h
      have := len_ordL k _ _ h
      simp only [List.length_append, List.length_singleton] at this
      omega
/-- An order: whoever leads to one stands ahead of it. -/
structure Ord (l : List (Nat → Int)) (o : List Int) : Prop where
  nd : o.Nodup
  ah : ∀ j, j < o.length → ∀ a, Adj l a (o[j]!) → a ∈ o.take j
theorem at_eq {o : List Int} {j : Nat} (h : j < o.length) : o[j]! = o[j] := getElem!_pos o j h
theorem free_iff {l : List (Nat → Int)} {left : List Int} {n : Int} : freeL l left n = true ↔ ∀ a, Adj l a n → a ∉ left := by
  unfold freeL blocks
  rw [Bool.not_eq_true', List.any_eq_false]
  constructor
  · rintro h a ⟨e, he, h1, h2⟩ ha
    exact h e he (by rw [h1, h2, decide_eq_true rfl, decide_eq_true ha]; rfl)
  · intro h e he hb
    simp only [Bool.and_eq_true, decide_eq_true_eq] at hb
    exact h (e 0) ⟨e, he, rfl, hb.1⟩ hb.2
theorem ordL_none {l : List (Nat → Int)} : ∀ (k : Nat) (left out : List Int), left.length = k → left.Nodup → (∀ x ∈ left, x ∈ nodesL l) → ordL l k left out = none → ∃ x, Rt l x x
  | 0, left, out, hk, hn, hm, h => by unfold ordL at h; cases h
  | k + 1, left, out, hk, hn, hm, h => by
    unfold ordL at h
    cases hf : left.find? (freeL l left) with
    | none =>
      obtain ⟨x, hx⟩ := List.exists_mem_of_length_pos (show 0 < left.length by omega)
      rw [List.find?_eq_none] at hf
      obtain ⟨y, _, hy⟩ := circ_of_stuck (l := l) (S := left) (fun z hz => by
        have := hf z hz
        rw [free_iff] at this
        simp only [Classical.not_forall] at this
        obtain ⟨a, ha, hb⟩ := this
        exact ⟨a, by simpa using hb, ha⟩) hx
      exact ⟨y, hy⟩
    | some n =>
      rw [hf] at h
      have hmem : n ∈ left := List.mem_of_find?_eq_some hf
      have hl := List.length_erase_of_mem hmem
      exact ordL_none k _ _ (by omega) (hn.erase n) (fun x hx => hm x (List.mem_of_mem_erase hx)) h
end Go.E
