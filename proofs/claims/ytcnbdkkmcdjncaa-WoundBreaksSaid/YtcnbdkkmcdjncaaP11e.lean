/- Edges: what stands at them (of the chapter on graphs). -/
import Derived.Test.YtcnbdkkmcdjncaaE11S
import Derived.Test.YtcnbdkkmcdjncaaP11d
import Derived.Test.YtcnbdkkmcdjncaaL6
namespace Go.E
open Go
set_option linter.unusedVariables false
set_option maxRecDepth 100000

theorem hasI_ok (s : List Int) (v : Int) (h : hasI_P s v) : hasI_S s v (hasI_F s v) := by
  unfold hasI_P at h
  unfold hasI_S
  obtain ⟨r, hr, h2⟩ := Wh.find (f := fun (t : Int) (o : (Int) ⊕ ((Unit) ⊕ (Int))) => hasI_l1 s v t o) s.length (fun k => decide (v = s[k]!)) (.inl ()) (fun k => .inr (k : Int)) (fun k hk hp => by
      unfold hasI_l1
      rw [if_pos (by omega), Int.toNat_natCast, if_neg (by simpa using hp)]
      exact ⟨⟨by omega, by omega⟩, step1 (by omega), rfl⟩) (fun k hk hp => by
      unfold hasI_l1
      rw [if_pos (by omega), Int.toNat_natCast, if_pos (by simpa using hp)]
      exact ⟨⟨by omega, by omega⟩, rfl⟩) (by
      unfold hasI_l1
      rw [if_neg (by omega)])
  refine ⟨r, hr, ?_⟩
  rw [any_range s fun x => decide (v = x), any_has] at h2
  rcases h2 with ⟨rfl, h2⟩ | ⟨k, hk, rfl, h2⟩
  · rw [h2]; rfl
  · rw [h2]
    show hasI_k1b (k : Int) true
    unfold hasI_k1b
    rw [decide_eq_true (by omega)]
theorem mhas_mset' {α : Type} (d : List (Int × α)) (k : Int) (v : α) (x : Int) : mhas ieq (mset ieq d k v) x = true ↔ x = k ∨ mhas ieq d x = true := by
  rw [mhas_mfind, mfind_mset', mhas_mfind]
  by_cases h : x = k
  · simp [h]
  · simp [h]
def setOf (l : List Int) : List (Int × Bool) := l.foldl (fun d x => mset ieq d x true) []
theorem setOf_snoc (l : List Int) (x : Int) : setOf (l ++ [x]) = mset ieq (setOf l) x true := by
  unfold setOf
  rw [List.foldl_append]; rfl
theorem setOf_spec (l : List Int) : Uniq (setOf l) ∧ (setOf l).length ≤ l.length ∧ (∀ x, mhas ieq (setOf l) x = true ↔ x ∈ l) ∧ ∀ p ∈ setOf l, p.1 ∈ l := by
  suffices h : ∀ r : List Int, Uniq (setOf r.reverse) ∧ (setOf r.reverse).length ≤ r.length ∧ (∀ x, mhas ieq (setOf r.reverse) x = true ↔ x ∈ r) ∧ ∀ p ∈ setOf r.reverse, p.1 ∈ r by
    have := h l.reverse
    simpa using this
  intro r
  induction r with
  | nil => exact ⟨List.nodup_nil, Nat.zero_le _, fun x => by simp [setOf, mhas, mfind], fun p hp => by simp [setOf] at hp⟩
  | cons y r ih =>
    obtain ⟨h1, h2, h3, h4⟩ := ih
    rw [List.reverse_cons, setOf_snoc]
    refine ⟨uniq_mset h1 _ _, ?_, fun x => ?_, fun p hp => ?_⟩
    · have := len_mset (setOf r.reverse) y true
      simp only [List.length_cons]; omega
    · rw [mhas_mset', h3, List.mem_cons]
    · rcases mem_mset hp with rfl | hp
      · exact List.mem_cons_self
      · exact List.mem_cons_of_mem _ (h4 p hp)
theorem skeys_setOf (l : List Int) : skeys (setOf l) = rising_F l :=
  skeys_eq (setOf_spec l).1 (rising_rising l) fun x => by rw [mem_rising, (setOf_spec l).2.2.1]
theorem setOf_P {l : List Int} (h : ∀ x ∈ l, inI64 x) (hl : l.length ≤ 1000000) : skeysP (setOf l) :=
  ⟨fun p hp => h _ ((setOf_spec l).2.2.2 p hp), by have := (setOf_spec l).2.1; omega⟩
/-- Edges whose numbers are numbers. -/
def Edges (l : List (Nat → Int)) : Prop := l.length ≤ 100000 ∧ ∀ e ∈ l, inI64 (e 0) ∧ inI64 (e 2)
def outs (l : List (Nat → Int)) (a : Int) : List Int := (l.filter fun e => decide (e 0 = a)).map fun e => e 2
def gnext_F (l : List (Nat → Int)) (a : Int) : List Int := rising_F (outs l a)
def gnext_P (l : List (Nat → Int)) (_ : Int) : Prop := Edges l
theorem mem_outs {l : List (Nat → Int)} {a b : Int} : b ∈ outs l a ↔ ∃ e ∈ l, e 0 = a ∧ e 2 = b := by
  unfold outs
  rw [List.mem_map]
  constructor
  · rintro ⟨e, he, rfl⟩
    rw [List.mem_filter, decide_eq_true_eq] at he
    exact ⟨e, he.1, he.2, rfl⟩
  · rintro ⟨e, he, h1, h2⟩
    exact ⟨e, List.mem_filter.2 ⟨he, by simpa using h1⟩, h2⟩
theorem len_outs (l : List (Nat → Int)) (a : Int) : (outs l a).length ≤ l.length := by
  unfold outs
  rw [List.length_map]
  exact List.length_filter_le _ _
theorem gnext_ok (l : List (Nat → Int)) (a : Int) (h : gnext_P l a) : gnext_S l a (gnext_F l a) := by
  obtain ⟨hl, hr⟩ := h
  unfold gnext_S
  refine ⟨setOf (outs l a), ?_, ?_⟩
  · have := Wh.upto (f := fun (s : (List (Int × Bool)) × Int) (o : ((List (Int × Bool)) × Int) ⊕ ((List (Int × Bool)))) => gnext_l1 l a s.1 s.2 o) (fun k : Nat => (setOf (outs (l.take k) a), (k : Int))) l.length (r := setOf (outs l a)) (fun k hk => by
      dsimp only
      unfold gnext_l1
      have e : outs (l.take (k + 1)) a = outs (l.take k) a ++ if decide (l[k]! 0 = a) = true then [l[k]! 2] else [] := by
        unfold outs
        rw [filter_take _ _ _ hk, List.map_append]
        split <;> rfl
      rw [if_pos (by omega), Int.toNat_natCast, e]
      refine ⟨⟨by omega, by omega⟩, ite_intro (fun h1 => ?_) fun h1 => ?_⟩
      · rw [if_pos (by simpa using h1), setOf_snoc]
        exact ⟨⟨by omega, by omega⟩, rfl⟩
      · rw [if_neg (by simpa using h1), List.append_nil]
        exact ⟨⟨by omega, by omega⟩, rfl⟩) (by
      dsimp only
      unfold gnext_l1
      rw [if_neg (by omega), take_len])
    simpa [outs, setOf] using this
  · unfold gnext_k1a gnext_F
    rw [skeys_setOf]
    refine ⟨setOf_P (fun x hx => ?_) (by have := len_outs l a; omega), rfl⟩
    obtain ⟨e, he, _, rfl⟩ := mem_outs.1 hx
    exact (hr e he).2
def gnodes_F (l : List (Nat → Int)) : List Int := rising_F (ends2 l)
def gnodes_P (l : List (Nat → Int)) : Prop := Edges l
theorem ends2_take (l : List (Nat → Int)) (k : Nat) (hk : k < l.length) : ends2 (l.take (k + 1)) = ends2 (l.take k) ++ [l[k]! 0] ++ [l[k]! 2] := by
  unfold ends2
  rw [flatMap_take _ _ _ hk]
  simp
theorem mem_ends2 {l : List (Nat → Int)} {x : Int} : x ∈ ends2 l ↔ ∃ e ∈ l, x = e 0 ∨ x = e 2 := by
  unfold ends2
  rw [List.mem_flatMap]
  simp
theorem gnodes_ok (l : List (Nat → Int)) (h : gnodes_P l) : gnodes_S l (gnodes_F l) := by
  obtain ⟨hl, hr⟩ := h
  unfold gnodes_S
  refine ⟨setOf (ends2 l), ?_, ?_⟩
  · have := Wh.upto (f := fun (s : (List (Int × Bool)) × Int) (o : ((List (Int × Bool)) × Int) ⊕ ((List (Int × Bool)))) => gnodes_l1 l s.1 s.2 o) (fun k : Nat => (setOf (ends2 (l.take k)), (k : Int))) l.length (r := setOf (ends2 l)) (fun k hk => by
      dsimp only
      unfold gnodes_l1
      rw [if_pos (by omega), Int.toNat_natCast, ends2_take _ _ hk, setOf_snoc, setOf_snoc]
      exact ⟨⟨by omega, by omega⟩, ⟨by omega, by omega⟩, rfl⟩) (by
      dsimp only
      unfold gnodes_l1
      rw [if_neg (by omega), take_len])
    simpa [ends2, setOf] using this
  · unfold gnodes_k1a gnodes_F
    rw [skeys_setOf]
    refine ⟨setOf_P (fun x hx => ?_) (by rw [len_ends2]; omega), rfl⟩
    obtain ⟨e, he, h1⟩ := mem_ends2.1 hx
    rcases h1 with rfl | rfl
    · exact (hr e he).1
    · exact (hr e he).2
theorem mem_gnodes {l : List (Nat → Int)} {x : Int} : x ∈ gnodes_F l ↔ ∃ e ∈ l, x = e 0 ∨ x = e 2 := by
  unfold gnodes_F
  rw [mem_rising, mem_ends2]
theorem len_gnodes (l : List (Nat → Int)) : (gnodes_F l).length ≤ 2 * l.length := by
  unfold gnodes_F
  have := len_rising (ends2 l)
  rw [len_ends2] at this
  exact this
end Go.E
