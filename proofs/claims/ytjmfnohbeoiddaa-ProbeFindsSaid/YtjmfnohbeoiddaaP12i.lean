/- Walks that avoid, probes as paths: plain facts for what a chase finds. -/
import Derived.Test.YtjmfnohbeoiddaaJ12S
import Derived.Test.YtjmfnohbeoiddaaP12b
namespace Go.E
open Go
set_option linter.unusedVariables false
set_option maxRecDepth 100000

/-! ### Walks to one that avoid some -/
def Wk (l : List (Nat → Int)) (who : Int) (A : Int → Prop) : Int → Nat → Prop
  | x, 0 => Adj l x who
  | x, k + 1 => ∃ y, Adj l x y ∧ ¬ A y ∧ Wk l who A y k
theorem Wk.add {l : List (Nat → Int)} {who : Int} {A : Int → Prop} {x : Int} : ∀ {k : Nat} {y : Int}, Wk l who A y k → (∀ j, j ≤ k → ¬ Wk l who A x j) → Wk l who (fun z => A z ∨ z = x) y k
  | 0, _, h, _ => h
  | k + 1, y, ⟨z, h1, h2, h3⟩, hm => ⟨z, h1, by
      rintro (h | rfl)
      · exact h2 h
      · exact hm k (by omega) h3, Wk.add h3 fun j hj => hm j (by omega)⟩
/-- One step on, by a shortest walk. -/
theorem Wk.step {l : List (Nat → Int)} {who : Int} {A : Int → Prop} {x : Int} : ∀ (k : Nat), Wk l who A x k → ∃ y, Adj l x y ∧ (y = who ∨ (¬ (A y ∨ y = x) ∧ ∃ j, Wk l who (fun z => A z ∨ z = x) y j)) := by
  intro k
  induction k using Nat.strongRecOn with
  | _ k ih =>
    intro h
    by_cases hm : ∃ j, j < k ∧ Wk l who A x j
    · obtain ⟨j, hj, hw⟩ := hm
      exact ih j hj hw
    · cases k with
      | zero => exact ⟨who, h, .inl rfl⟩
      | succ k =>
        obtain ⟨y, h1, h2, h3⟩ := h
        have hm' : ∀ j, j ≤ k → ¬ Wk l who A x j := fun j hj hw => hm ⟨j, by omega, hw⟩
        refine ⟨y, h1, .inr ⟨?_, k, h3.add hm'⟩⟩
        rintro (h | rfl)
        · exact h2 h
        · exact hm' k (Nat.le_refl _) h3
theorem Wk.back {l : List (Nat → Int)} {who a b : Int} (h : Rt l a b) : ∀ {k : Nat}, Wk l who (fun _ => False) b k → ∃ j, Wk l who (fun _ => False) a j := by
  induction h with
  | one e => exact fun {k} hk => ⟨k + 1, _, e, fun h => h, hk⟩
  | more _ e ih => exact fun {k} hk => ih (k := k + 1) ⟨_, e, fun h => h, hk⟩
theorem Wk.of {l : List (Nat → Int)} {who a : Int} (h : Rt l a who) : ∃ j, Wk l who (fun _ => False) a j := by
  cases h with
  | one e => exact ⟨0, e⟩
  | more h e => exact Wk.back h (k := 0) e

/-! ### The edges -/
structure EdgeOk (l : List (Nat → Int)) : Prop where
  a : ∀ e ∈ l, (1 ≤ e 0 ∧ e 0 ≤ 6) ∧ (1 ≤ e 2 ∧ e 2 ≤ 6) ∧ e 0 ≠ e 2 ∧ e 1 = e 0 ∧ (e 3 = 0 ∨ e 3 = e 2)
  p : l.Pairwise fun e f => ¬ (e 0 = f 0 ∧ e 2 = f 2)
theorem EdgeOk.l {l : List (Nat → Int)} (h : EdgeOk l) {a b : Int} (hb : Adj l a b) : (1 ≤ a ∧ a ≤ 6) ∧ (1 ≤ b ∧ b ≤ 6) ∧ a ≠ b := by
  obtain ⟨e, he, rfl, rfl⟩ := hb
  have := h.a e he
  exact ⟨this.1, this.2.1, this.2.2.1⟩
def six : List Int := [1, 2, 3, 4, 5, 6]
theorem mem_six {x : Int} (h : 1 ≤ x ∧ x ≤ 6) : x ∈ six := by
  unfold six
  rcases (show x = 1 ∨ x = 2 ∨ x = 3 ∨ x = 4 ∨ x = 5 ∨ x = 6 by omega) with rfl | rfl | rfl | rfl | rfl | rfl <;> simp
theorem six_len {P : List Int} (hn : P.Nodup) (h : ∀ x ∈ P, 1 ≤ x ∧ x ≤ 6) : P.length ≤ 6 := nodup_len hn fun x hx => mem_six (h x hx)

/-! ### A message with a path -/
structure Pf (P : List Int) (m : Nat → Int) : Prop where
  z : ∀ i, 3 ≤ i → i ≤ 8 → m i = 0
  n : m 11 = P.length
  s : ∀ k, k < 8 → m (12 + k * 2) = P.getD k 0 ∧ m (12 + k * 2 + 1) = P.getD k 0
theorem Pf.nil : Pf [] (fun _ => 0) := ⟨fun _ _ _ => rfl, rfl, fun k _ => by simp⟩
theorem getD_app {P : List Int} {x : Int} {k : Nat} : (P ++ [x]).getD k 0 = if k = P.length then x else P.getD k 0 := by
  rw [List.getD_eq_getElem?_getD, List.getD_eq_getElem?_getD, List.getElem?_append]
  by_cases h : k < P.length
  · rw [if_pos h, if_neg (by omega)]
  · rw [if_neg h]
    by_cases h2 : k = P.length
    · rw [if_pos h2, h2]; simp
    · rw [if_neg h2, List.getElem?_eq_none (by simp; omega), List.getElem?_eq_none (by omega)]
theorem Pf.on {P : List Int} {m : Nat → Int} (h : Pf P m) (hl : P.length < 8) (x : Int) (e : Nat → Int) :
    Pf (P ++ [x]) (onE 1 m (updI (updI (fun _ => 0) 0 x) 1 x) e) ∧ onE 1 m (updI (updI (fun _ => 0) 0 x) 1 x) e 0 = 11 ∧ onE 1 m (updI (updI (fun _ => 0) 0 x) 1 x) e 1 = 1 ∧ onE 1 m (updI (updI (fun _ => 0) 0 x) 1 x) e 2 = 0 ∧
      onE 1 m (updI (updI (fun _ => 0) 0 x) 1 x) e 9 = e 2 ∧ onE 1 m (updI (updI (fun _ => 0) 0 x) 1 x) e 10 = e 3 := by
  have hn := h.n
  have e11 := onM_n (shard := 1) (m := m) (ww := updI (updI (fun _ => 0) 0 x) 1 x) ⟨by omega, by omega⟩
  refine ⟨⟨fun i h1 h2 => ?_, ?_, fun k hk => ?_⟩, ?_, ?_, ?_, ?_, ?_⟩
  · unfold onE onM
    simp only [updI, updRI]
    rw [if_neg (by omega), if_neg (by omega), if_neg (by omega), if_neg (by omega), if_neg (by omega), if_neg (by omega), if_neg (by omega)]
    exact h.z i h1 h2
  · unfold onE onM
    rw [e11, hn]
    simp [updI]
  · have hk2 := h.s k hk
    rw [getD_app]
    unfold onE onM
    simp only [updI, updRI]
    have hN : (m 11).toNat = P.length := by omega
    rw [hN]
    by_cases hkn : k = P.length
    · subst hkn
      rw [if_pos rfl]
      constructor
      · rw [if_neg (by omega), if_neg (by omega), if_neg (by omega), if_pos (by omega), Nat.sub_self]; rfl
      · rw [if_neg (by omega), if_neg (by omega), if_neg (by omega), if_pos (by omega), Nat.add_sub_cancel_left]; rfl
    · rw [if_neg hkn]
      constructor
      · rw [if_neg (by omega), if_neg (by omega), if_neg (by omega), if_neg (by omega), if_neg (by omega), if_neg (by omega), if_neg (by omega)]
        exact hk2.1
      · rw [if_neg (by omega), if_neg (by omega), if_neg (by omega), if_neg (by omega), if_neg (by omega), if_neg (by omega), if_neg (by omega)]
        exact hk2.2
  · unfold onE onM
    simp only [updI, updRI]
    rw [if_neg (by omega), if_neg (by omega), if_neg (by omega), if_neg (by omega), if_neg (by omega), if_neg (by omega), if_pos trivial]
  · unfold onE onM
    simp only [updI, updRI]
    rw [if_neg (by omega), if_neg (by omega), if_neg (by omega), if_neg (by omega), if_neg (by omega), if_pos trivial]
  · unfold onE onM
    simp only [updI, updRI]
    rw [if_neg (by omega), if_neg (by omega), if_neg (by omega), if_neg (by omega), if_pos trivial]
  · rfl
  · rfl
theorem Pf.is {P : List Int} {m : Nat → Int} (h : Pf P m) (h0 : m 0 = 11) (h1 : m 1 = 1) (h2 : m 2 = 0) (h9 : 1 ≤ m 9 ∧ m 9 ≤ 6) (h10 : m 10 = 0 ∨ m 10 = m 9) (hn : P.Nodup) (hp : P ≠ []) (hP : ∀ x ∈ P, 1 ≤ x ∧ x ≤ 6) : isP_F m = true := by
  have hl := six_len hn hP
  have hl0 : 0 < P.length := List.length_pos_iff.2 hp
  have hN := h.n
  refine (isP_iff m).2 ⟨h0, ?_⟩
  have e1 : endsB m = true := by
    unfold endsB
    rw [if_pos h0, if_neg (by omega), h1, h2]; decide
  have e2 : mayB m = true := by
    unfold mayB
    rw [if_neg (by omega), if_neg (by omega), if_neg (by omega), if_neg (by omega), if_neg (by omega), if_pos h0]
    unfold pathB inB txB inB
    simp only [Bool.and_eq_true, decide_eq_true_eq]
    refine ⟨⟨⟨⟨by omega, by omega⟩, by omega, by omega⟩, by omega, by omega⟩, List.all_eq_true.2 fun i hi => ?_⟩
    have hi := List.mem_range.1 hi
    obtain ⟨s1, s2⟩ := h.s i hi
    unfold stepB
    simp only [Nat.add_zero, ← Nat.add_assoc, s1, s2]
    by_cases hiN : m 11 ≤ i
    · rw [if_pos hiN]
      have : P.getD i 0 = 0 := by rw [List.getD_eq_getElem?_getD, List.getElem?_eq_none (by omega)]; rfl
      rw [this]; decide
    · rw [if_neg hiN]
      have hiP : i < P.length := by omega
      have hg : P.getD i 0 = P[i] := by rw [List.getD_eq_getElem?_getD, List.getElem?_eq_getElem hiP]; rfl
      have := hP P[i] (List.getElem_mem hiP)
      unfold txB inB newB
      simp only [Bool.and_eq_true, decide_eq_true_eq, hg]
      refine ⟨⟨⟨by omega, by omega⟩, by omega, by omega⟩, List.all_eq_true.2 fun k hk => ?_⟩
      have hk := List.mem_range.1 hk
      have hkP : k < P.length := by omega
      have hg2 : P.getD k 0 = P[k] := by rw [List.getD_eq_getElem?_getD, List.getElem?_eq_getElem hkP]; rfl
      simp only [Nat.add_zero, s1, (h.s k (by omega)).1, hg, hg2, Bool.not_eq_true', decide_eq_false_iff_not]
      intro hh
      have := (List.pairwise_iff_getElem.1 hn) k i hkP hiP hk
      exact this hh
  have e3 : eqN 28 (mayZ m) (headM m) = true := by
    rw [eqN_iff]
    intro i hi
    unfold mayZ
    rw [if_neg (by omega), if_neg (by omega), if_neg (by omega), if_neg (by omega), if_neg (by omega), if_pos h0]
    simp only [headM, updRI, updI]
    by_cases g : 12 ≤ i
    · rw [if_pos ⟨g, by omega⟩, if_neg (by omega), if_neg (by omega), if_neg (by omega)]
    · rw [if_neg (fun h => g h.1)]
      rcases (show i = 0 ∨ i = 1 ∨ i = 2 ∨ i = 9 ∨ i = 10 ∨ i = 11 ∨ (3 ≤ i ∧ i ≤ 8) by omega) with rfl | rfl | rfl | rfl | rfl | rfl | ⟨g1, g2⟩
      · rfl
      · rfl
      · rfl
      · rfl
      · rfl
      · rfl
      · rw [if_neg (by omega), if_neg (by omega), if_neg (by omega), if_neg (by omega), if_neg (by omega), if_neg (by omega)]
        exact h.z i g1 g2
  unfold okB
  rw [e1, e2, e3]; rfl

/-! ### A probe that is on its way -/
structure Pb (l : List (Nat → Int)) (who : Int) (P : List Int) (m : Nat → Int) : Prop where
  f : Pf P m
  h0 : m 0 = 11
  h1 : m 1 = 1
  h2 : m 2 = 0
  h10 : m 10 = 0 ∨ m 10 = m 9
  n : P.Nodup
  o : P[0]? = some who
  c : ∀ k, k + 1 < P.length → Adj l P[k]! P[k + 1]!
  e : Adj l P[P.length - 1]! (m 9)
theorem Pb.pos {l : List (Nat → Int)} {who : Int} {P : List Int} {m : Nat → Int} (h : Pb l who P m) : 0 < P.length := by
  obtain ⟨h, _⟩ := List.getElem?_eq_some_iff.1 h.o
  exact h
theorem Pb.six {l : List (Nat → Int)} (hl : EdgeOk l) {who : Int} {P : List Int} {m : Nat → Int} (h : Pb l who P m) : ∀ x ∈ P, 1 ≤ x ∧ x ≤ 6 := by
  intro x hx
  obtain ⟨k, hk, rfl⟩ := List.getElem_of_mem hx
  by_cases hk1 : k + 1 < P.length
  · have := (hl.l (h.c k hk1)).1
    rwa [getElem!_pos P k hk] at this
  · have := (hl.l h.e).1
    rwa [show P.length - 1 = k by omega, getElem!_pos P k hk] at this
theorem Pb.is {l : List (Nat → Int)} (hl : EdgeOk l) {who : Int} {P : List Int} {m : Nat → Int} (h : Pb l who P m) : isP_F m = true :=
  h.f.is h.h0 h.h1 h.h2 (hl.l h.e).2.1 h.h10 h.n (List.length_pos_iff.1 h.pos) (h.six hl)
theorem Pb.first {l : List (Nat → Int)} {who : Int} {P : List Int} {m : Nat → Int} (h : Pb l who P m) : m 12 = who ∧ m 13 = who := by
  have := h.f.s 0 (by omega)
  rw [List.getD_eq_getElem?_getD, h.o] at this
  exact this
theorem Pb.mem {l : List (Nat → Int)} {who : Int} {P : List Int} {m : Nat → Int} (h : Pb l who P m) : who ∈ P := List.mem_of_getElem? h.o
theorem Pb.back {l : List (Nat → Int)} (hl : EdgeOk l) {who : Int} {P : List Int} {m : Nat → Int} (h : Pb l who P m) : back_F m = decide (m 9 = who) := by
  obtain ⟨e1, e2⟩ := h.first
  have := h.h10
  unfold back_F
  rw [h.is hl, e1, e2]
  by_cases hw : m 9 = who
  · rw [decide_eq_true hw, if_neg (by decide)]
    by_cases h0 : m 10 = 0
    · rw [if_pos h0]
    · rw [if_neg h0, if_pos (by omega)]
  · rw [decide_eq_false hw, if_pos (by decide)]
theorem Pb.met {l : List (Nat → Int)} (hl : EdgeOk l) {who : Int} {P : List Int} {m : Nat → Int} (h : Pb l who P m) : metB m = decide (m 9 ∈ P) := by
  have hn := h.f.n
  have h6 := six_len h.n (h.six hl)
  unfold metB
  rw [hn, Int.toNat_natCast, Bool.eq_iff_iff, List.any_eq_true, decide_eq_true_eq]
  constructor
  · rintro ⟨k, hk, he⟩
    have hk := List.mem_range.1 hk
    rw [decide_eq_true_eq, (h.f.s k (by omega)).1, List.getD_eq_getElem?_getD, List.getElem?_eq_getElem hk] at he
    rw [← he]; exact List.getElem_mem hk
  · intro hm
    obtain ⟨k, hk, he⟩ := List.getElem_of_mem hm
    refine ⟨k, List.mem_range.2 hk, ?_⟩
    rw [decide_eq_true_eq, (h.f.s k (by omega)).1, List.getD_eq_getElem?_getD, List.getElem?_eq_getElem hk]
    exact he
/-- The next ones of one. -/
def nexts (l : List (Nat → Int)) (x : Int) : List (Nat → Int) := l.filter fun e => decide (e 0 = x)
theorem ofB_nexts {l : List (Nat → Int)} (hl : EdgeOk l) (x : Int) : l.filter (ofB (updI (updI (fun _ => 0) 0 x) 1 x)) = nexts l x := by
  unfold nexts
  refine List.filter_congr fun e he => ?_
  have := (hl.a e he).2.2.2.1
  have e0 : (updI (updI (fun _ => 0) 0 x) 1 x) 0 = x := rfl
  have e1 : (updI (updI (fun _ => 0) 0 x) 1 x) 1 = x := rfl
  unfold ofB
  rw [this, e0, e1, Bool.and_self]
theorem mem_nexts {l : List (Nat → Int)} {x : Int} {e : Nat → Int} : e ∈ nexts l x ↔ e ∈ l ∧ e 0 = x := by
  unfold nexts
  rw [List.mem_filter, decide_eq_true_eq]
theorem app_l {w : List Int} {x : Int} {k : Nat} (h : k < w.length) : (w ++ [x])[k]! = w[k]! := by
  rw [getElem!_pos _ k (by simp; omega), getElem!_pos w k h, List.getElem_append_left h]
theorem app_r (w : List Int) (x : Int) : (w ++ [x])[w.length]! = x := by
  rw [getElem!_pos _ _ (by simp)]; simp
theorem Pb.on {l : List (Nat → Int)} (hl : EdgeOk l) {who : Int} {P : List Int} {m : Nat → Int} (h : Pb l who P m) (hm : m 9 ∉ P) {e : Nat → Int} (he : e ∈ nexts l (m 9)) :
    Pb l who (P ++ [m 9]) (onE 1 m (updI (updI (fun _ => 0) 0 (m 9)) 1 (m 9)) e) ∧ onE 1 m (updI (updI (fun _ => 0) 0 (m 9)) 1 (m 9)) e 9 = e 2 := by
  have h6 := six_len h.n (h.six hl)
  have hpos := h.pos
  obtain ⟨f, f0, f1, f2, f9, f10⟩ := h.f.on (by omega) (m 9) e
  obtain ⟨he1, he2⟩ := mem_nexts.1 he
  refine ⟨⟨f, f0, f1, f2, ?_, ?_, ?_, fun k hk => ?_, ?_⟩, f9⟩
  · rw [f9, f10]; exact (hl.a e he1).2.2.2.2
  · exact List.nodup_append.2 ⟨h.n, by simp, fun a ha b hb => by
      rw [List.mem_singleton] at hb
      rintro rfl
      exact hm (hb ▸ ha)⟩
  · rw [List.getElem?_append_left hpos]; exact h.o
  · simp only [List.length_append, List.length_singleton] at hk
    rw [app_l (by omega)]
    by_cases hk1 : k + 1 < P.length
    · rw [app_l hk1]; exact h.c k hk1
    · have := h.e
      rw [show k + 1 = P.length by omega, app_r]
      rwa [show P.length - 1 = k by omega] at this
  · rw [f9, List.length_append, List.length_singleton, Nat.add_sub_cancel, app_r]
    exact ⟨e, he1, he2, rfl⟩
theorem Pb.start {l : List (Nat → Int)} (hl : EdgeOk l) {who : Int} {e : Nat → Int} (he : e ∈ nexts l who) :
    Pb l who [who] (onE 1 (fun _ => 0) (updI (updI (fun _ => 0) 0 who) 1 who) e) ∧ onE 1 (fun _ => 0) (updI (updI (fun _ => 0) 0 who) 1 who) e 9 = e 2 := by
  obtain ⟨f, f0, f1, f2, f9, f10⟩ := Pf.nil.on (by decide) who e
  obtain ⟨he1, he2⟩ := mem_nexts.1 he
  refine ⟨⟨f, f0, f1, f2, ?_, by simp, rfl, fun k hk => by simp at hk, ?_⟩, f9⟩
  · rw [f9, f10]; exact (hl.a e he1).2.2.2.2
  · rw [f9]; exact ⟨e, he1, he2, rfl⟩
/-- From a probe that comes back there is a circle. -/
theorem Pb.rt {l : List (Nat → Int)} {who : Int} {P : List Int} {m : Nat → Int} (h : Pb l who P m) : Rt l who (m 9) := by
  have key : ∀ k, k < P.length → k = 0 ∨ Rt l who P[k]! := by
    intro k
    induction k with
    | zero => exact fun _ => .inl rfl
    | succ k ih =>
      intro hk
      have hc := h.c k hk
      rcases ih (by omega) with rfl | hr
      · have : P[0]! = who := by rw [List.getElem!_eq_getElem?_getD, h.o]; rfl
        rw [this] at hc
        exact .inr (.one hc)
      · exact .inr (.more hr hc)
  have he := h.e
  have hpos := h.pos
  rcases key (P.length - 1) (by omega) with h0 | hr
  · rw [h0] at he
    have : P[0]! = who := by rw [List.getElem!_eq_getElem?_getD, h.o]; rfl
    rw [this] at he
    exact .one he
  · exact .more hr he
end Go.E
