/- A message is delivered at most as often as it was sent and doubled. -/
import Derived.Test.YthikmldodgijdaaP05e
namespace Go.E
open Go
set_option linter.unusedVariables false
set_option maxRecDepth 100000

def cnt (l : List (Nat → Int)) (m : Nat → Int) : Nat := l.countP fun x => eqN 28 m x
def G5 (x : List ((Nat → Int) × Int)) (m : Nat → Int) : Int := mget (eqN 28) x m 0
theorem G5_set (x : List ((Nat → Int) × Int)) (k : Nat → Int) (v : Int) (m : Nat → Int) : G5 (mset (eqN 28) x k v) m = if eqN 28 m k = true then v else G5 x m := mget_mset (eqk_flat 28) x k v m 0
theorem G5_congr (x : List ((Nat → Int) × Int)) {m k : Nat → Int} (h : eqN 28 m k = true) : G5 x m = G5 x k := by
  unfold G5 mget
  rw [mfind_congr (eqk_flat 28) x h]
theorem cnt_add (l : List (Nat → Int)) (k m : Nat → Int) : cnt (l ++ [k]) m = cnt l m + if eqN 28 m k = true then 1 else 0 := by
  unfold cnt
  rw [List.countP_append, List.countP_singleton]
theorem cnt_without (l : List (Nat → Int)) (p : Nat) (hp : p < l.length) (m : Nat → Int) : cnt (without l p) m + (if eqN 28 m l[p] = true then 1 else 0) = cnt l m := by
  have e : l = l.take p ++ l[p] :: l.drop (p + 1) := by
    rw [← List.drop_eq_getElem_cons hp, List.take_append_drop]
  unfold cnt without
  conv => rhs; rw [e]
  rw [List.countP_append, List.countP_append, List.countP_cons]
  omega

/-- What something that is done comes to. -/
theorem act_kinds {lim : Int} {l : List (Nat → Int)} {a : Nat → Int} (hok : OkL l) :
    ((act_F lim l a).2.1 ≠ 0 ∧ (act_F lim l a).2.2 = l) ∨
    ((act_F lim l a).2.1 = 0 ∧ a 0 = 0 ∧ (act_F lim l a).2.2 = l ++ [fun i => a (2 + i)]) ∨
    ((act_F lim l a).2.1 = 0 ∧ a 0 = 1 ∧ ∃ p, ∃ h : p < l.length, (act_F lim l a).1 = l[p] ∧ (act_F lim l a).2.2 = without l p) ∨
    ((act_F lim l a).2.1 = 0 ∧ a 0 ≠ 0 ∧ a 0 ≠ 1 ∧ a 0 ≠ 3 ∧ ∀ m, cnt (act_F lim l a).2.2 m ≤ cnt l m) ∨
    ((act_F lim l a).2.1 = 0 ∧ a 0 = 3 ∧ ∃ p, ∃ h : p < l.length, (act_F lim l a).2.2 = l ++ [l[p]]) := by
  unfold act_F
  by_cases c0 : a 0 = 0
  · rw [if_pos c0, send_eq]
    by_cases hm : okB (fun i => a (2 + i)) = true
    · rw [if_pos hm]
      by_cases hf : (l.length : Int) = lim
      · rw [if_pos hf]; exact .inl ⟨by simp [code_F], rfl⟩
      · rw [if_neg hf]; exact .inr (.inl ⟨by simp [code_F], c0, rfl⟩)
    · rw [if_neg hm]; exact .inl ⟨by simp [code_F], rfl⟩
  · rw [if_neg c0]
    by_cases hne : l = []
    · unfold drop_F
      rw [deliver_eq, twice_eq]
      simp only [if_pos hne]
      by_cases c1 : a 0 = 1
      · rw [if_pos c1]; exact .inl ⟨by simp [code_F], rfl⟩
      · rw [if_neg c1]
        by_cases c2 : a 0 = 2
        · rw [if_pos c2]; exact .inl ⟨by simp [code_F], rfl⟩
        · rw [if_neg c2]
          by_cases c3 : a 0 = 3
          · rw [if_pos c3]; exact .inl ⟨by simp [code_F], rfl⟩
          · rw [if_neg c3]
            refine .inr (.inr (.inr (.inl ?_)))
            split
            · exact ⟨rfl, c0, c1, c3, fun m => by simp [ntake_F, cnt]⟩
            · exact ⟨rfl, c0, c1, c3, fun m => Nat.le_refl _⟩
    · unfold drop_F
      rw [deliver_eq, twice_eq]
      simp only [if_neg hne]
      have hlt := (at_mem (k := a 1) hne).2
      have hmem := (at_mem (k := a 1) hne).1
      by_cases c1 : a 0 = 1
      · rw [if_pos c1]
        exact .inr (.inr (.inl ⟨by simp [code_F], c1, _, hlt, getElem!_pos l _ hlt, rfl⟩))
      · rw [if_neg c1]
        by_cases c2 : a 0 = 2
        · rw [if_pos c2]
          refine .inr (.inr (.inr (.inl ⟨by simp [code_F], c0, c1, by omega, fun m => ?_⟩)))
          have := cnt_without l _ hlt m
          simp only
          omega
        · rw [if_neg c2]
          by_cases c3 : a 0 = 3
          · rw [if_pos c3, send_eq, if_pos (hok _ hmem)]
            by_cases hf : (l.length : Int) = lim
            · rw [if_pos hf]; exact .inl ⟨by simp [code_F], rfl⟩
            · rw [if_neg hf]
              refine .inr (.inr (.inr (.inr ⟨by simp [code_F], c3, _, hlt, ?_⟩)))
              rw [getElem!_pos l _ hlt]
          · rw [if_neg c3]
            refine .inr (.inr (.inr (.inl ?_)))
            split
            · exact ⟨rfl, c0, c1, c3, fun m => by simp [ntake_F, cnt]⟩
            · exact ⟨rfl, c0, c1, c3, fun m => Nat.le_refl _⟩

structure OftenI (lim : Int) (n : Nat) (s : List ((Nat → Int) × Int) × List ((Nat → Int) × Int) × Int × List (Nat → Int)) : Prop where
  i0 : 0 ≤ s.2.2.1
  i1 : s.2.2.1 ≤ n
  ok : OkL s.2.2.2
  le : (s.2.2.2.length : Int) ≤ lim
  li : (s.2.2.2.length : Int) ≤ s.2.2.1
  sum : ∀ m, G5 s.2.1 m + cnt s.2.2.2 m ≤ G5 s.1 m
  pos : ∀ m, 0 ≤ G5 s.2.1 m
  top : ∀ m, G5 s.1 m ≤ s.2.2.1

theorem often5_all (limit : Int) (l : List (Nat → Int)) : often5_S limit l true := by
  unfold often5_S
  refine ⟨alive05_p, ?_⟩
  rw [if_pos alive05_t]
  refine ite_intro (fun _ => rfl) fun hlen => ?_
  refine ite_intro (fun h => h.symm) fun hlim => ?_
  simp only [Bool.or_eq_true, decide_eq_true_eq, not_or, Int.not_lt] at hlim
  suffices h : ∃ r, Wh (fun (s : List ((Nat → Int) × Int) × List ((Nat → Int) × Int) × Int × List (Nat → Int)) (o : (List ((Nat → Int) × Int) × List ((Nat → Int) × Int) × Int × List (Nat → Int)) ⊕ (List (Nat → Int) ⊕ List (Nat → Int))) => often5_l1 limit l s.1 s.2.1 s.2.2.1 s.2.2.2 o) ([], [], 0, []) r ∧ ∃ d, r = .inl d by
    obtain ⟨r, hr, d, rfl⟩ := h
    exact ⟨.inl d, hr, rfl⟩
  refine Wh.by (OftenI limit l.length) (fun s => ((l.length : Int) - s.2.2.1).toNat) (fun r => ∃ d, r = Sum.inl d) ?_ ?_
  · exact ⟨by simp, by simp, fun m hm => by simp at hm, by simp; omega, by simp, fun m => by simp [G5, mget, mfind, cnt], fun m => by simp [G5, mget, mfind], fun m => by simp [G5, mget, mfind]⟩
  rintro ⟨inn, out, i, d⟩ ⟨i0, i1, hok, hd, hdi, hsum, hpos, htop⟩
  simp only at i0 i1 hok hd hdi hsum hpos htop
  by_cases hn : ¬ i < l.length
  · refine .inr ⟨.inl d, ?_, d, rfl⟩
    show often5_l1 limit l inn out i d _
    unfold often5_l1
    rw [if_neg hn]
  have hi : i < l.length := by omega
  have hin : inI64 (i + 1) := ⟨by omega, by omega⟩
  have hnp : ∀ x : List (Nat → Int), x.length ≤ 1000000 → nall_P limit x := fun x h => ⟨by unfold cloneM_P; omega, trivial⟩
  have hna : ∀ x : List (Nat → Int), nall_F limit x = x := fun _ => rfl
  generalize hx : l[i.toNat]! = x
  obtain ⟨g1, g2, _⟩ := act_inv (a := x) hok hd hlim.1
  have g3 := act_len (lim := limit) (a := x) hok
  have hmeas : ((l.length : Int) - (i + 1)).toNat < ((l.length : Int) - i).toNat := by omega
  have bnd : ∀ m, 0 ≤ G5 inn m ∧ G5 inn m ≤ 200 ∧ G5 out m ≤ 200 := fun m => by
    have := hsum m; have := hpos m; have := htop m
    omega
  generalize hr : act_F limit d x = r at g1 g2 g3
  have hk := act_kinds (lim := limit) (a := x) hok
  rw [hr] at hk
  rcases hk with ⟨k1, k2⟩ | ⟨k1, k2, k3⟩ | ⟨k1, k2, p, hp, k3, k4⟩ | ⟨k1, k2, k3, k4, k5⟩ | ⟨k1, k2, p, hp, k3⟩
  · refine .inl ⟨(inn, out, i + 1, r.2.2), ?_, ⟨by simp only; omega, by simp only; omega, g1, g2, by simp only; omega, fun m => by rw [k2]; exact hsum m, hpos, fun m => by have := htop m; simp only; omega⟩, hmeas⟩
    show often5_l1 limit l inn out i d _
    unfold often5_l1
    rw [if_pos hi, hx, hr]
    refine ⟨hnp d (by omega), ⟨i0, hi⟩, act_pre (by omega), ?_⟩
    rw [if_neg k1]
    exact ⟨hin, rfl⟩
  · have hb := bnd (fun i => x (2 + i))
    refine .inl ⟨(mset (eqN 28) inn (fun i => x (2 + i)) (G5 inn (fun i => x (2 + i)) + 1), out, i + 1, r.2.2), ?_, ⟨by simp only; omega, by simp only; omega, g1, g2, by simp only; omega, fun m => ?_, hpos, fun m => ?_⟩, hmeas⟩
    · show often5_l1 limit l inn out i d _
      unfold often5_l1
      rw [if_pos hi, hx, hr]
      refine ⟨hnp d (by omega), ⟨i0, hi⟩, act_pre (by omega), ?_⟩
      rw [if_pos k1]
      refine ⟨⟨i0, hi⟩, ?_⟩
      rw [if_pos k2]
      exact ⟨⟨i0, hi⟩, ⟨by unfold G5 at hb; omega, by unfold G5 at hb; omega⟩, hin, rfl⟩
    · have := hsum m
      simp only
      rw [k3, cnt_add, G5_set]
      by_cases h : eqN 28 m (fun i => x (2 + i)) = true
      · rw [if_pos h, if_pos h, ← G5_congr inn h]; omega
      · rw [if_neg h, if_neg h]; omega
    · have := htop m
      simp only
      rw [G5_set]
      by_cases h : eqN 28 m (fun i => x (2 + i)) = true
      · rw [if_pos h, ← G5_congr inn h]; omega
      · rw [if_neg h]; omega
  · have hb := bnd d[p]
    have hs := hsum d[p]
    have hcw := cnt_without d p hp d[p]
    rw [if_pos (eqN_refl _ _)] at hcw
    refine .inl ⟨(inn, mset (eqN 28) out d[p] (G5 out d[p] + 1), i + 1, r.2.2), ?_, ⟨by simp only; omega, by simp only; omega, g1, g2, by simp only; omega, fun m => ?_, fun m => ?_, fun m => by have := htop m; simp only; omega⟩, hmeas⟩
    · show often5_l1 limit l inn out i d _
      unfold often5_l1
      rw [if_pos hi, hx, hr, k3]
      refine ⟨hnp d (by omega), ⟨i0, hi⟩, act_pre (by omega), ?_⟩
      rw [if_pos k1]
      refine ⟨⟨i0, hi⟩, ?_⟩
      rw [if_neg (by omega), if_pos k2]
      refine ⟨⟨by have := hpos d[p]; unfold G5 at this hb; omega, by unfold G5 at hb; omega⟩, ?_⟩
      have e : mget (eqN 28) (mset (eqN 28) out d[p] (mget (eqN 28) out d[p] 0 + 1)) d[p] 0 = G5 out d[p] + 1 := by
        have := G5_set out d[p] (G5 out d[p] + 1) d[p]
        rw [if_pos (eqN_refl _ _)] at this
        exact this
      rw [e, if_neg (by unfold G5 at hs ⊢; omega)]
      exact ⟨hin, rfl⟩
    · have h0 := hsum m
      have h1 := cnt_without d p hp m
      simp only
      rw [k4, G5_set]
      by_cases h : eqN 28 m d[p] = true
      · rw [if_pos h] at h1 ⊢
        rw [← G5_congr out h]; omega
      · rw [if_neg h] at h1 ⊢; omega
    · have := hpos m
      simp only
      rw [G5_set]
      by_cases h : eqN 28 m d[p] = true
      · rw [if_pos h, ← G5_congr out h]; omega
      · rw [if_neg h]; omega
  · refine .inl ⟨(inn, out, i + 1, r.2.2), ?_, ⟨by simp only; omega, by simp only; omega, g1, g2, by simp only; omega, fun m => by have := hsum m; have := k5 m; simp only; omega, hpos, fun m => by have := htop m; simp only; omega⟩, hmeas⟩
    show often5_l1 limit l inn out i d _
    unfold often5_l1
    rw [if_pos hi, hx, hr]
    refine ⟨hnp d (by omega), ⟨i0, hi⟩, act_pre (by omega), ?_⟩
    rw [if_pos k1]
    refine ⟨⟨i0, hi⟩, ?_⟩
    rw [if_neg k2, if_neg k3, if_neg k4]
    exact ⟨hin, rfl⟩
  · have hb := bnd d[p]
    refine .inl ⟨(mset (eqN 28) inn d[p] (G5 inn d[p] + 1), out, i + 1, r.2.2), ?_, ⟨by simp only; omega, by simp only; omega, g1, g2, by simp only; omega, fun m => ?_, hpos, fun m => ?_⟩, hmeas⟩
    · show often5_l1 limit l inn out i d _
      unfold often5_l1
      rw [if_pos hi, hx, hr]
      refine ⟨hnp d (by omega), ⟨i0, hi⟩, act_pre (by omega), ?_⟩
      rw [if_pos k1]
      refine ⟨⟨i0, hi⟩, ?_⟩
      rw [if_neg (by omega), if_neg (by omega), if_pos k2]
      have hlr : r.2.2.length = d.length + 1 := by rw [k3]; simp
      rw [hna, hna, hlr]
      refine ⟨hnp _ (by omega), ⟨by omega, by omega⟩, ?_⟩
      rw [if_pos (by omega)]
      have e : r.2.2[(((d.length + 1 : Nat) : Int) - 1).toNat]! = d[p] := by
        rw [show (((d.length + 1 : Nat) : Int) - 1).toNat = d.length by omega, k3, getElem!_pos _ _ (by simp)]
        simp
      rw [e]
      exact ⟨⟨by omega, by omega⟩, ⟨by omega, by omega⟩, ⟨by unfold G5 at hb; omega, by unfold G5 at hb; omega⟩, hin, rfl⟩
    · have := hsum m
      simp only
      rw [k3, cnt_add, G5_set]
      by_cases h : eqN 28 m d[p] = true
      · rw [if_pos h, if_pos h, ← G5_congr inn h]; omega
      · rw [if_neg h, if_neg h]; omega
    · have := htop m
      simp only
      rw [G5_set]
      by_cases h : eqN 28 m d[p] = true
      · rw [if_pos h, ← G5_congr inn h]; omega
      · rw [if_neg h]; omega
end Go.E
