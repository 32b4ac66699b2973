/- The edges that are left, and the document's answers. -/
import Derived.Test.YtcnbdkkmcdjncaaC11S
namespace Go.E
open Go
set_option linter.unusedVariables false
set_option maxRecDepth 100000

theorem hurt_iff (l : List (Nat → Int)) (t : Int) : hasW_F (wof_F l) (woundOf t (mget ieq (wby_F l) t 0)) = mhas ieq (wby_F l) t := by
  rw [Bool.eq_iff_iff]
  unfold hasW_F wof_F
  rw [List.any_map, List.any_eq_true]
  constructor
  · rintro ⟨k, hk, h⟩
    have : t = k := by
      have := eqN_iff.1 h 0 (by omega)
      exact this
    rw [this, ← mem_skeys]
    exact hk
  · intro h
    exact ⟨t, mem_skeys.2 h, eqN_refl _ _⟩
theorem wby_has (l : List (Nat → Int)) (t : Int) : mhas ieq (wby_F l) t = (byR_F l t).2 := by
  rw [mhas_mfind, wby_by]
  unfold optB
  cases (byR_F l t).2 <;> rfl
theorem wby_get (l : List (Nat → Int)) (t : Int) (h : (byR_F l t).2 = true) : mget ieq (wby_F l) t 0 = (byR_F l t).1 := by
  rw [mget_mfind, wby_by]
  unfold optB
  rw [if_pos h]; rfl
def leftR (l : List (Nat → Int)) (e : Nat → Int) : Bool := (!((byR_F l (e 0)).2)) && (!((byR_F l (e 2)).2))
def restR_F (l : List (Nat → Int)) : List (Nat → Int) := l.filter (leftR l)
def restR_P (l : List (Nat → Int)) : Prop := l.length ≤ 1000000
theorem restR_ok (l : List (Nat → Int)) (h : restR_P l) : restR_S l (restR_F l) := by
  unfold restR_P at h
  unfold restR_S
  refine ⟨restR_F l, ?_, rfl⟩
  have := Wh.upto (f := fun (s : (List (Nat → Int)) × Int) (o : ((List (Nat → Int)) × Int) ⊕ ((List (Nat → Int)))) => restR_l1 l s.1 s.2 o) (fun k : Nat => ((l.take k).filter (leftR l), (k : Int))) l.length (r := restR_F l) (fun k hk => by
      have hb : ((l.take k).filter (leftR l)).length ≤ 1000000 := Nat.le_trans (List.length_filter_le _ _) (by simp only [List.length_take]; omega)
      have hk' : 0 ≤ (k : Int) ∧ (k : Int) < l.length := ⟨by omega, by omega⟩
      have hp : ∀ t, byR_P l t := fun t => by unfold byR_P; omega
      dsimp only
      unfold restR_l1
      rw [if_pos (by omega), Int.toNat_natCast, filter_take _ _ _ hk]
      refine ⟨hk', hp _, hk', hp _, ite_intro (fun h1 => ?_) fun h1 => ?_⟩
      · rw [if_pos (by unfold leftR; exact h1)]
        exact ⟨hk', by omega, ⟨by omega, by omega⟩, rfl⟩
      · rw [if_neg (by unfold leftR; exact h1), List.append_nil]
        exact ⟨⟨by omega, by omega⟩, rfl⟩) (by
      dsimp only
      unfold restR_l1
      rw [if_neg (by omega), take_len]
      rfl)
  simpa using this
def wrest_F (l : List (Nat → Int)) : List (Nat → Int) := restR_F l
def wrest_P (l : List (Nat → Int)) : Prop := wof_P l
theorem wrest_ok (l : List (Nat → Int)) (h : wrest_P l) : wrest_S l (wrest_F l) := by
  have hl := h.1
  unfold wrest_S
  refine ⟨h, wrest_F l, ?_, rfl⟩
  have := Wh.upto (f := fun (s : (List (Nat → Int)) × Int) (o : ((List (Nat → Int)) × Int) ⊕ ((List (Nat → Int)))) => wrest_l1 l s.1 s.2 o) (fun k : Nat => ((l.take k).filter (leftR l), (k : Int))) l.length (r := wrest_F l) (fun k hk => by
      have hb : ((l.take k).filter (leftR l)).length ≤ 1000000 := Nat.le_trans (List.length_filter_le _ _) (by simp only [List.length_take]; omega)
      have hk' : 0 ≤ (k : Int) ∧ (k : Int) < l.length := ⟨by omega, by omega⟩
      have hp : wby_P l := by unfold wby_P; omega
      have hq : ∀ v, hasW_P (wof_F l) v := fun v => by unfold hasW_P; have := len_wof l; omega
      dsimp only
      unfold wrest_l1
      rw [if_pos (by omega), Int.toNat_natCast, filter_take _ _ _ hk, hurt_iff, hurt_iff, wby_has, wby_has]
      refine ⟨hk', hp, hq _, ?_⟩
      unfold leftR
      by_cases h1 : (byR_F l (l[k]! 0)).2 = true
      · rw [if_pos h1, if_neg (by rw [h1]; simp), List.append_nil]
        exact ⟨⟨by omega, by omega⟩, rfl⟩
      · rw [if_neg h1]
        refine ⟨hp, hq _, ?_⟩
        by_cases h2 : (byR_F l (l[k]! 2)).2 = true
        · rw [if_pos h2, if_neg (by rw [h2]; simp), List.append_nil]
          exact ⟨⟨by omega, by omega⟩, rfl⟩
        · simp only [Bool.not_eq_true] at h1 h2
          rw [h1, h2, if_neg (by decide), if_pos (by decide)]
          exact ⟨by unfold leftR at hb; omega, ⟨by omega, by omega⟩, rfl⟩) (by
      dsimp only
      unfold wrest_l1
      rw [if_neg (by omega), take_len]
      rfl)
  simpa using this
def ofR_F (l : List (Nat → Int)) : List (Nat → Int) := ((nodesR_F l).filter fun t => (byR_F l t).2).map fun t => woundOf t (byR_F l t).1
def ofR_P (l : List (Nat → Int)) : Prop := l.length ≤ 1000000
theorem ofR_ok (l : List (Nat → Int)) (h : ofR_P l) : ofR_S l (ofR_F l) := by
  unfold ofR_P at h
  unfold ofR_S
  refine ⟨h, ofR_F l, ?_, rfl⟩
  have hn : (nodesR_F l).length ≤ 2000000 := Nat.le_trans (len_nodesR l) (by omega)
  have := Wh.upto (f := fun (s : (List (Nat → Int)) × Int) (o : ((List (Nat → Int)) × Int) ⊕ ((List (Nat → Int)))) => ofR_l1 l s.1 s.2 o) (fun k : Nat => ((((nodesR_F l).take k).filter fun t => (byR_F l t).2).map fun t => woundOf t (byR_F l t).1, (k : Int))) (nodesR_F l).length (r := ofR_F l) (fun k hk => by
      have hb : ((((nodesR_F l).take k).filter fun t => (byR_F l t).2).map fun t => woundOf t (byR_F l t).1).length ≤ 2000000 := by
        rw [List.length_map]
        exact Nat.le_trans (List.length_filter_le _ _) (by simp only [List.length_take]; omega)
      have hk' : 0 ≤ (k : Int) ∧ (k : Int) < (nodesR_F l).length := ⟨by omega, by omega⟩
      dsimp only
      unfold ofR_l1
      rw [if_pos (by omega), Int.toNat_natCast, filter_take _ _ _ hk]
      refine ⟨hk', by unfold byR_P; omega, ite_intro (fun h1 => ?_) fun h1 => ?_⟩
      · rw [if_pos h1, List.map_append]
        exact ⟨hk', by omega, ⟨by omega, by omega⟩, rfl⟩
      · rw [if_neg h1, List.append_nil]
        exact ⟨⟨by omega, by omega⟩, rfl⟩) (by
      dsimp only
      unfold ofR_l1
      rw [if_neg (by omega), take_len]
      rfl)
  simpa using this
theorem wof_ofR (l : List (Nat → Int)) : wof_F l = ofR_F l := by
  have hs : skeys (wby_F l) = (nodesR_F l).filter fun t => (byR_F l t).2 := by
    refine skeys_eq (wby_uniq l) (List.Pairwise.sublist List.filter_sublist (rising_rising _)) fun x => ?_
    rw [List.mem_filter, wby_has, mem_nodesR]
    refine ⟨fun h => h.2, fun h => ⟨?_, h⟩⟩
    have := byR_spec l x
    rw [if_pos h] at this
    obtain ⟨⟨e, he, h1, _⟩, _⟩ := this
    exact ⟨e, he, .inr h1.symm⟩
  unfold wof_F ofR_F
  rw [hs]
  refine List.map_congr_left fun t ht => ?_
  rw [wby_get l t (List.mem_filter.1 ht).2]
theorem mem_wof {l : List (Nat → Int)} {w : Nat → Int} (h : w ∈ wof_F l) : ∃ t, (byR_F l t).2 = true ∧ w = woundOf t (byR_F l t).1 := by
  rw [wof_ofR] at h
  unfold ofR_F at h
  obtain ⟨t, ht, rfl⟩ := List.mem_map.1 h
  exact ⟨t, (List.mem_filter.1 ht).2, rfl⟩
theorem wof_mem {l : List (Nat → Int)} {t : Int} (h : (byR_F l t).2 = true) : woundOf t (byR_F l t).1 ∈ wof_F l := by
  unfold wof_F
  refine List.mem_map.2 ⟨t, mem_skeys.2 (by rw [wby_has]; exact h), ?_⟩
  rw [wby_get l t h]
end Go.E
