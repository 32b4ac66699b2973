/- Clients: who is lost. -/
import Derived.Test.YteomcjiiiilhmaaB16S
namespace Go.E
open Go
set_option linter.unusedVariables false
set_option maxRecDepth 100000

/-! ### Sorted -/
def insS (x : Int) : List Int → List Int
  | [] => [x]
  | y :: r => if x ≤ y then x :: y :: r else y :: insS x r
def isort (l : List Int) : List Int := l.foldr insS []
theorem perm_insS (x : Int) (l : List Int) : (insS x l).Perm (x :: l) := by
  induction l with
  | nil => exact .refl _
  | cons y l ih =>
    unfold insS
    split
    · exact .refl _
    · exact (List.Perm.cons y ih).trans (List.Perm.swap x y l)
theorem perm_isort (l : List Int) : (isort l).Perm l := by
  induction l with
  | nil => exact .refl _
  | cons x l ih => exact (perm_insS x _).trans (ih.cons x)
theorem sorted_insS {x : Int} {l : List Int} (h : l.Pairwise fun a b => a ≤ b) : (insS x l).Pairwise fun a b => a ≤ b := by
  induction l with
  | nil => simp [insS]
  | cons y l ih =>
    have hy := List.pairwise_cons.1 h
    unfold insS
    split
    · rename_i hxy
      refine List.pairwise_cons.2 ⟨fun z hz => ?_, h⟩
      rcases List.mem_cons.1 hz with rfl | hz
      · exact hxy
      · have := hy.1 z hz; omega
    · rename_i hxy
      refine List.pairwise_cons.2 ⟨fun z hz => ?_, ih hy.2⟩
      rcases List.mem_cons.1 ((perm_insS x l).mem_iff.1 hz) with rfl | hz
      · omega
      · exact hy.1 z hz
theorem sorted_isort (l : List Int) : (isort l).Pairwise fun a b => a ≤ b := by
  induction l with
  | nil => exact .nil
  | cons x l ih => exact sorted_insS ih
theorem sortL_eq (l : List Int) : sortL l = isort l := by
  have hs : (sortL l).Pairwise (fun a b => a ≤ b) := by
    have := List.pairwise_mergeSort (le := leI) (fun a b c h1 h2 => by simp only [leI, decide_eq_true_eq] at *; omega) (fun a b => by simp only [leI, Bool.or_eq_true, decide_eq_true_eq]; omega) l
    exact this.imp fun h => by simpa [leI] using h
  exact List.Perm.eq_of_pairwise (le := fun a b => a ≤ b) (fun a b _ _ h1 h2 => by omega) hs (sorted_isort l) ((List.mergeSort_perm _ _).trans (perm_isort l).symm)
theorem len_isort (l : List Int) : (isort l).length = l.length := (perm_isort l).length_eq
theorem mem_isort {x : Int} {l : List Int} : x ∈ isort l ↔ x ∈ l := (perm_isort l).mem_iff
theorem isort_rising {l m : List Int} (hn : l.Nodup) (hm : ∀ x, x ∈ l ↔ x ∈ m) : isort l = rising_F m := by
  refine rising_ext (sorted_lt (sorted_isort l) ((perm_isort l).nodup_iff.2 hn)) (rising_rising m) fun x => ?_
  rw [mem_isort, mem_rising, hm]

/-! ### Lost ones -/
def lostB (c : Nat → Int) (now span : Int) (j : Nat) : Bool := ((nz (c (1 + (j * 3 + 2)))) && (!(decide (c (1 + j * 3) = 0)))) && (decide (span ≤ now - c (1 + (j * 3 + 1))))
def lostL (c : Nat → Int) (now span : Int) (k : Nat) : List Int := ((List.range k).filter (lostB c now span)).map fun j => c (1 + j * 3)
def badT (now span : Int) : Bool := ((decide (now < 0)) || (decide (1099511627776 < now))) || (decide (span < 0))
def clost_F (c : Nat → Int) (now span : Int) : List Int := if badT now span = true then [] else isort (lostL c now span 9)
def clost_P (c : Nat → Int) (_ _ : Int) : Prop := ∀ j, j < 9 → 0 ≤ c (1 + (j * 3 + 1)) ∧ c (1 + (j * 3 + 1)) ≤ 1099511627776
theorem lostL_len (c : Nat → Int) (now span : Int) (k : Nat) : (lostL c now span k).length ≤ k := by
  unfold lostL
  rw [List.length_map]
  exact Nat.le_trans (List.length_filter_le _ _) (by simp)
theorem lostL_succ (c : Nat → Int) (now span : Int) (k : Nat) : lostL c now span (k + 1) = lostL c now span k ++ (if lostB c now span k = true then [c (1 + k * 3)] else []) := by
  unfold lostL
  rw [List.range_succ, List.filter_append, List.map_append]
  congr 1
  by_cases h : lostB c now span k = true <;> simp [h]
theorem clost_ok (c : Nat → Int) (now span : Int) (h : clost_P c now span) : clost_S c now span (clost_F c now span) := by
  unfold clost_S clost_F
  refine ite_intro (fun h1 => ?_) fun h1 => ?_
  · rw [if_pos (c := badT now span = true) h1]
  · rw [if_neg (c := badT now span = true) h1]
    simp only [Bool.or_eq_true, decide_eq_true_eq, not_or, Int.not_lt] at h1
    refine ⟨lostL c now span 9, ?_, ?_⟩
    · have := Wh.upto (f := fun (s : (List Int) × Int) (o : ((List Int) × Int) ⊕ ((List Int))) => clost_l1 c now span s.1 s.2 o) (fun k : Nat => (lostL c now span k, (k : Int))) 9 (r := lostL c now span 9) (fun k hk => by
        have hb := lostL_len c now span k
        have hc := h k hk
        dsimp only
        unfold clost_l1
        rw [if_pos (by omega), Int.toNat_natCast, lostL_succ]
        refine ⟨⟨by omega, by omega⟩, fun _ => ⟨by omega, by omega⟩, ite_intro (fun h2 => ?_) fun h2 => ?_⟩
        · rw [if_pos (c := lostB c now span k = true) h2]
          exact ⟨by omega, ⟨by omega, by omega⟩, rfl⟩
        · rw [if_neg (c := lostB c now span k = true) h2, List.append_nil]
          exact ⟨⟨by omega, by omega⟩, rfl⟩) (by
        dsimp only
        unfold clost_l1
        rw [if_neg (by omega)])
      simpa [lostL] using this
    · unfold clost_k1a
      have := lostL_len c now span 9
      exact ⟨by unfold sortP; omega, (sortL_eq _).symm⟩

def lostQ (now span : Int) (x : Nat → Int) : Bool := ((nz (x 1)) && (decide (0 < x 0))) && (decide (span ≤ now - x 2))
def lostR_F (l : List (Nat → Int)) (now span : Int) : List Int := if (timeR_F now && decide (0 ≤ span)) = true then rising_F ((l.filter (lostQ now span)).map fun x => x 0) else []
def lostR_P (l : List (Nat → Int)) (_ _ : Int) : Prop := l.length ≤ 1000000 ∧ ∀ x ∈ l, 0 ≤ x 2 ∧ x 2 ≤ 1099511627776
theorem lostR_ok (l : List (Nat → Int)) (now span : Int) (h : lostR_P l now span) : lostR_S l now span (lostR_F l now span) := by
  obtain ⟨hl, hx⟩ := h
  unfold lostR_S lostR_F
  by_cases ht : (timeR_F now && decide (0 ≤ span)) = true
  · rw [if_pos ht]
    have hT : timeR_F now = true := by simp only [Bool.and_eq_true] at ht; exact ht.1
    have hS : 0 ≤ span := by simp only [Bool.and_eq_true, decide_eq_true_eq] at ht; exact ht.2
    have hnow : 0 ≤ now ∧ now ≤ 1099511627776 := by
      unfold timeR_F at hT
      simp only [Bool.and_eq_true, decide_eq_true_eq] at hT
      exact hT
    refine ⟨(l.filter (lostQ now span)).map fun x => x 0, ?_, ?_⟩
    · have := Wh.upto (f := fun (s : (List Int) × Int) (o : ((List Int) × Int) ⊕ ((List Int))) => lostR_l1 l now span s.1 s.2 o) (fun k : Nat => (((l.take k).filter (lostQ now span)).map (fun x => x 0), (k : Int))) l.length (r := (l.filter (lostQ now span)).map fun x => x 0) (fun k hk => by
        have hb : (((l.take k).filter (lostQ now span)).map (fun x => x 0)).length ≤ 1000000 := by
          rw [List.length_map]
          exact Nat.le_trans (List.length_filter_le _ _) (by simp; omega)
        have hk' : 0 ≤ (k : Int) ∧ (k : Int) < l.length := ⟨by omega, by omega⟩
        have hc := hx _ (mem_at hk)
        dsimp only
        unfold lostR_l1
        rw [if_pos (by rw [hT, decide_eq_true hS]; simp only [Bool.and_true, decide_eq_true_eq]; omega), Int.toNat_natCast, filter_take _ _ _ hk, List.map_append]
        refine ⟨hk', fun _ => hk', fun _ => hk', fun _ => ⟨by omega, by omega⟩, ite_intro (fun h2 => ?_) fun h2 => ?_⟩
        · rw [if_pos (c := lostQ now span (l[k]!) = true) h2]
          exact ⟨hk', by omega, ⟨by omega, by omega⟩, rfl⟩
        · rw [if_neg (c := lostQ now span (l[k]!) = true) h2, List.map_nil, List.append_nil]
          exact ⟨⟨by omega, by omega⟩, rfl⟩) (by
        dsimp only
        unfold lostR_l1
        rw [if_neg (by simp), take_len])
      simpa using this
    · unfold lostR_k1a
      refine ⟨?_, rfl⟩
      unfold rising_P
      rw [List.length_map]
      have := List.length_filter_le (lostQ now span) l
      omega
  · rw [if_neg ht]
    refine ⟨[], .out ?_, ?_⟩
    · show lostR_l1 l now span [] 0 _
      unfold lostR_l1
      rw [if_neg]
      intro hh
      refine ht ?_
      simp only [Bool.and_eq_true] at hh ⊢
      exact ⟨hh.1.2, hh.2⟩
    · unfold lostR_k1a
      exact ⟨by unfold rising_P; simp, rfl⟩
end Go.E
