/- What probes are, in plain words. -/
import Derived.Test.YtjmfnohbeoiddaaA12S
import Derived.Test.YtjmfnohbeoiddaaEB
namespace Go.E
open Go
set_option linter.unusedVariables false

theorem isP_iff (m : Nat → Int) : isP_F m = true ↔ m 0 = 11 ∧ okB m = true := by
  unfold isP_F
  rw [Bool.and_eq_true, decide_eq_true_eq, decide_eq_true_eq, msgOk_0]
theorem isP_path {m : Nat → Int} (h : isP_F m = true) : pathB m = true := by
  obtain ⟨h0, h1⟩ := (isP_iff m).1 h
  unfold okB at h1
  simp only [Bool.and_eq_true] at h1
  have := h1.1.2
  unfold mayB at this
  rw [if_neg (by omega), if_neg (by omega), if_neg (by omega), if_neg (by omega), if_neg (by omega), if_pos h0] at this
  exact this
theorem isP_n {m : Nat → Int} (h : isP_F m = true) : 1 ≤ m 11 ∧ m 11 ≤ 8 := by
  have := isP_path h
  unfold pathB inB at this
  simp only [Bool.and_eq_true, decide_eq_true_eq] at this
  exact this.1.1.1

/-! ### The victim -/
def vicF (m : Nat → Int) : Nat → Int
  | 0 => 0
  | k + 1 => if vicF m k < m (12 + k * 2) then m (12 + k * 2) else vicF m k
def victim_F (m : Nat → Int) : Int × Int := if isP_F m = true then (vicF m (m 11).toNat, 0) else (0, 5)
theorem victim_ok (m : Nat → Int) : victim_S m (victim_F m) := by
  unfold victim_S victim_F
  by_cases h : isP_F m = true
  · rw [if_pos h, if_pos h]
    have hn := isP_n h
    refine ⟨⟨by omega, by omega⟩, vicF m (m 11).toNat, ?_, rfl⟩
    refine Wh.upto (fun k : Nat => ((vicF m k, (k : Int)) : Int × Int)) (m 11).toNat (fun k hk => ?_) ?_
    · unfold victim_l1
      simp only
      rw [if_pos (by omega)]
      exact ⟨⟨by omega, by omega⟩, step1 (by omega), rfl⟩
    · show victim_l1 m _ _ _
      unfold victim_l1
      rw [if_neg (by omega)]
  · rw [if_neg h, if_neg h]

/-! ### Open steps -/
def stepE (m : Nat → Int) (i : Nat) : Nat → Int := fun j => m (12 + i * 2 + j)
def thereB (l : List (Nat → Int)) (s : Nat → Int) : Bool := l.any fun x => eqN 2 s x
def live_F (m : Nat → Int) (l : List (Nat → Int)) : Bool := isP_F m && (List.range (m 11).toNat).all fun i => thereB l (stepE m i)
def live_P (m : Nat → Int) (l : List (Nat → Int)) : Prop := l.length < 9000000000000000000
theorem live_ok (m : Nat → Int) (l : List (Nat → Int)) (hl : live_P m l) : live_S m l (live_F m l) := by
  unfold live_P at hl
  unfold live_S live_F
  by_cases h : isP_F m = true
  · rw [if_pos h, h, Bool.true_and]
    have hn := isP_n h
    have inner : ∀ x : Nat, ∃ r, Wh (fun (s : Int) (o : Int ⊕ (Unit ⊕ Int)) => live_l2 m l (x : Int) s o) 0 r ∧ ((r = .inl () ∧ thereB l (stepE m x) = false) ∨ ∃ k : Int, 0 ≤ k ∧ r = .inr k ∧ thereB l (stepE m x) = true) := by
      intro x
      refine (Wh.find (f := fun (s : Int) (o : Int ⊕ (Unit ⊕ Int)) => live_l2 m l (x : Int) s o) l.length (fun k => eqN 2 (stepE m x) (l[k]!)) (.inl ()) (fun k => .inr (k : Int)) ?_ ?_ ?_).elim fun r hr => ?_
      · intro k hk hp
        unfold live_l2
        rw [if_pos (by omega)]
        refine ⟨⟨by omega, by omega⟩, ?_⟩
        rw [if_neg]
        · exact ⟨step1 (by omega), rfl⟩
        · intro hh
          rw [Int.toNat_natCast, Int.toNat_natCast] at hh
          have : eqN 2 (stepE m x) (l[k]!) = true := hh
          rw [hp] at this; cases this
      · intro k hk hp
        unfold live_l2
        rw [if_pos (by omega)]
        refine ⟨⟨by omega, by omega⟩, ?_⟩
        rw [if_pos]
        rw [Int.toNat_natCast, Int.toNat_natCast]
        exact hp
      · unfold live_l2
        rw [if_neg (by omega)]
      · obtain ⟨h1, h2⟩ := hr
        refine ⟨r, h1, ?_⟩
        rw [any_range l fun y => eqN 2 (stepE m x) y] at h2
        rcases h2 with ⟨h2, h3⟩ | ⟨k, h2, h3, h4⟩
        · exact .inl ⟨h2, h3⟩
        · exact .inr ⟨k, by omega, h3, h4⟩
    have round : ∀ k : Nat, (k : Int) < 9000000000000000000 → ∀ (r : Unit ⊕ Int), ((r = .inl () ∧ thereB l (stepE m k) = false) ∨ ∃ q : Int, 0 ≤ q ∧ r = .inr q ∧ thereB l (stepE m k) = true) → ∀ o : Int ⊕ (Unit ⊕ Int),
        (thereB l (stepE m k) = true → o = .inl ((k : Int) + 1)) → (thereB l (stepE m k) = false → o = .inr (.inr (k : Int))) → (match r with | .inl _ => live_k2a (k : Int) o | .inr x4 => live_k2b (k : Int) x4 o) := by
      intro k hk r hr o h1 h2
      rcases hr with ⟨rfl, h3⟩ | ⟨q, hq, rfl, h3⟩
      · exact h2 h3
      · show live_k2b (k : Int) q o
        unfold live_k2b
        rw [if_pos hq]
        exact ⟨⟨by omega, by omega⟩, h1 h3⟩
    refine (Wh.find (f := fun (s : Int) (o : Int ⊕ (Unit ⊕ Int)) => live_l1 m l s o) (m 11).toNat (fun k => !thereB l (stepE m k)) (.inl ()) (fun k => .inr (k : Int)) ?_ ?_ ?_).elim fun r hr => ?_
    · intro k hk hp
      unfold live_l1
      rw [if_pos (by omega)]
      obtain ⟨r, h1, h2⟩ := inner k
      exact ⟨⟨by omega, by omega⟩, r, h1, round k (by omega) r h2 _ (fun _ => rfl) fun hf => by simp only [hf, Bool.not_false] at hp; cases hp⟩
    · intro k hk hp
      unfold live_l1
      rw [if_pos (by omega)]
      obtain ⟨r, h1, h2⟩ := inner k
      exact ⟨⟨by omega, by omega⟩, r, h1, round k (by omega) r h2 _ (fun hf => by simp only [hf, Bool.not_true] at hp; cases hp) fun _ => rfl⟩
    · unfold live_l1
      rw [if_neg (by omega)]
    · obtain ⟨h1, h2⟩ := hr
      refine ⟨⟨by omega, by omega⟩, r, h1, ?_⟩
      rcases h2 with ⟨rfl, h3⟩ | ⟨k, hk, rfl, h3⟩
      · show _ = true
        rw [← Bool.not_eq_false, List.all_eq_not_any_not, h3]; simp
      · show _ = (!decide (0 ≤ (k : Int)))
        rw [List.all_eq_not_any_not, h3]; simp
  · rw [if_neg h]
    have : isP_F m = false := by simpa using h
    rw [this, Bool.false_and]

/-! ### Going on -/
def metB (m : Nat → Int) : Bool := (List.range (m 11).toNat).any fun i => decide (m (12 + i * 2) = m 9)
def stops_F (m : Nat → Int) (q : Int) : Int :=
  if isP_F m = true then
    if ((!(decide (m 10 = 0))) && (!(decide (m 10 = q)))) = true then 14
    else if metB m = true then 11
    else if m 11 = 8 then 7 else 0
  else 5
theorem stops_ok (m : Nat → Int) (q : Int) : stops_S m q (stops_F m q) := by
  unfold stops_S stops_F
  by_cases h : isP_F m = true
  · rw [if_pos h, if_pos h]
    refine ite_intro (fun h1 => by rw [if_pos h1]) fun h1 => ?_
    rw [if_neg h1]
    have hn := isP_n h
    refine (Wh.find (f := fun (s : Int) (o : Int ⊕ (Unit ⊕ Int)) => stops_l1 m s o) (m 11).toNat (fun i => decide (m (12 + i * 2) = m 9)) (.inl ()) (fun k => .inr (k : Int)) ?_ ?_ ?_).elim fun r hr => ?_
    · intro k hk hp
      unfold stops_l1
      rw [if_pos (by omega), Int.toNat_natCast]
      refine ⟨⟨by omega, by omega⟩, ?_⟩
      rw [if_neg (by simpa using hp)]
      exact ⟨step1 (by omega), rfl⟩
    · intro k hk hp
      unfold stops_l1
      rw [if_pos (by omega), Int.toNat_natCast]
      refine ⟨⟨by omega, by omega⟩, ?_⟩
      rw [if_pos (by simpa using hp)]
    · unfold stops_l1
      rw [if_neg (by omega)]
    · obtain ⟨h1, h2⟩ := hr
      refine ⟨⟨by omega, by omega⟩, r, h1, ?_⟩
      rcases h2 with ⟨rfl, h3⟩ | ⟨k, hk, rfl, h3⟩
      · show stops_k1a m _
        unfold stops_k1a metB
        rw [h3]
        by_cases h8 : m 11 = 8
        · rw [if_pos h8]; simp [h8]
        · rw [if_neg h8]; simp [h8]
      · show stops_k1b m _ _
        unfold stops_k1b metB
        rw [h3, if_pos (by omega)]; simp
  · rw [if_neg h, if_neg h]

/-- A probe with one step more. -/
def onM (shard : Int) (m ww : Nat → Int) : Nat → Int := updI (updRI (updI (updI (updI m 0 11) 1 shard) 2 0) (12 + (m 11).toNat * 2) 2 ww) 11 ((updRI (updI (updI (updI m 0 11) 1 shard) 2 0) (12 + (m 11).toNat * 2) 2 ww) 11 + 1)
def onE (shard : Int) (m ww e : Nat → Int) : Nat → Int := updI (updI (onM shard m ww) 9 (e 2)) 10 (e 3)
def ofB (ww e : Nat → Int) : Bool := decide (e 0 = ww 0) && decide (e 1 = ww 1)
def longF (shard : Int) (m ww : Nat → Int) (l : List (Nat → Int)) : List (Nat → Int) := (l.filter (ofB ww)).map (onE shard m ww)
def longer_F (shard : Int) (m ww : Nat → Int) (l : List (Nat → Int)) : List (Nat → Int) × Int := if (longF shard m ww l).all isP_F = true then (longF shard m ww l, 0) else ([], 1)
def longer_P (shard : Int) (m ww : Nat → Int) (l : List (Nat → Int)) : Prop := 0 ≤ m 11 ∧ m 11 < 8 ∧ l.length ≤ 1000000
theorem onM_n {shard : Int} {m ww : Nat → Int} (h : 0 ≤ m 11 ∧ m 11 < 8) : (updRI (updI (updI (updI m 0 11) 1 shard) 2 0) (12 + (m 11).toNat * 2) 2 ww) 11 = m 11 := by
  simp only [updRI]
  rw [if_neg (by omega)]
  simp [updI]
theorem longer_ok (shard : Int) (m ww : Nat → Int) (l : List (Nat → Int)) (hP : longer_P shard m ww l) : longer_S shard m ww l (longer_F shard m ww l) := by
  obtain ⟨h1, h2, h3⟩ := hP
  unfold longer_S
  refine ⟨⟨h1, h2⟩, by rw [onM_n ⟨h1, h2⟩]; exact ⟨by omega, by omega⟩, ?_⟩
  suffices h : ∃ r, Wh (fun (s : List (Nat → Int) × Int) (o : (List (Nat → Int) × Int) ⊕ (List (Nat → Int) ⊕ Unit)) => longer_l1 shard m ww l s.1 s.2 o) ([], 0) r ∧ ((r = .inl (longF shard m ww l) ∧ (longF shard m ww l).all isP_F = true) ∨ (r = .inr () ∧ (longF shard m ww l).all isP_F = false)) by
    obtain ⟨r, hr, h⟩ := h
    refine ⟨r, hr, ?_⟩
    rcases h with ⟨rfl, h⟩ | ⟨rfl, h⟩
    · show longer_k1a _ _
      unfold longer_k1a longer_F
      rw [if_pos h]
    · show longer_k1b _
      unfold longer_k1b longer_F
      rw [h]; rfl
  refine Wh.by (ρ := List (Nat → Int) ⊕ Unit) (fun (s : List (Nat → Int) × Int) => 0 ≤ s.2 ∧ s.2 ≤ l.length ∧ s.1 = longF shard m ww (l.take s.2.toNat) ∧ s.1.all isP_F = true) (fun s => ((l.length : Int) - s.2).toNat)
    (fun r => (r = .inl (longF shard m ww l) ∧ (longF shard m ww l).all isP_F = true) ∨ (r = .inr () ∧ (longF shard m ww l).all isP_F = false)) ⟨by simp, by simp, rfl, rfl⟩ ?_
  rintro ⟨out, i⟩ ⟨i0, i1, ho, ha⟩
  simp only at i0 i1 ho ha
  by_cases hn : ¬ i < l.length
  · refine .inr ⟨.inl out, ?_, .inl ?_⟩
    · show longer_l1 shard m ww l out i _
      unfold longer_l1
      rw [if_neg hn]
    · rw [List.take_of_length_le (by omega)] at ho
      exact ⟨by rw [ho], by rw [← ho]; exact ha⟩
  have hi : i < l.length := by omega
  have hi' : i.toNat < l.length := by omega
  have htake : l.take (i + 1).toNat = l.take i.toNat ++ [l[i.toNat]] := by
    rw [show (i + 1).toNat = i.toNat + 1 by omega, List.take_add_one, List.getElem?_eq_getElem hi']; rfl
  have hlen : out.length ≤ 1000000 := by
    rw [ho]
    unfold longF
    rw [List.length_map]
    have := List.length_filter_le (ofB ww) (l.take i.toNat)
    simp only [List.length_take] at this
    omega
  have hone : longF shard m ww (l.take (i + 1).toNat) = out ++ longF shard m ww [l[i.toNat]] := by
    rw [htake, ho]; unfold longF; rw [List.filter_append, List.map_append]
  by_cases hof : ofB ww l[i.toNat] = true
  · have hthis : longF shard m ww [l[i.toNat]] = [onE shard m ww l[i.toNat]] := by
      unfold longF; rw [List.filter_cons, if_pos hof]; rfl
    by_cases hp : isP_F (onE shard m ww l[i.toNat]) = true
    · refine .inl ⟨(out ++ [onE shard m ww l[i.toNat]], i + 1), ?_, ⟨by simp only; omega, by simp only; omega, ?_, ?_⟩, by simp only; omega⟩
      · show longer_l1 shard m ww l out i _
        unfold longer_l1
        rw [if_pos hi, getElem!_pos l i.toNat hi']
        refine ⟨⟨i0, hi⟩, ?_⟩
        rw [if_neg (by unfold ofB at hof; simp only [Bool.and_eq_true, decide_eq_true_eq] at hof; simp [hof.1, hof.2])]
        rw [if_pos (by exact hp)]
        exact ⟨by omega, ⟨by omega, by omega⟩, rfl⟩
      · simp only; rw [hone, hthis]
      · simp only; rw [List.all_append, ha]; simp [hp]
    · refine .inr ⟨.inr (), ?_, .inr ⟨rfl, ?_⟩⟩
      · show longer_l1 shard m ww l out i _
        unfold longer_l1
        rw [if_pos hi, getElem!_pos l i.toNat hi']
        refine ⟨⟨i0, hi⟩, ?_⟩
        rw [if_neg (by unfold ofB at hof; simp only [Bool.and_eq_true, decide_eq_true_eq] at hof; simp [hof.1, hof.2])]
        rw [if_neg (by exact hp)]
      · rw [← Bool.not_eq_true]
        intro hall
        rw [List.all_eq_true] at hall
        exact hp (hall _ (by unfold longF; exact List.mem_map_of_mem (List.mem_filter.2 ⟨List.getElem_mem hi', hof⟩)))
  · have hthis : longF shard m ww [l[i.toNat]] = [] := by
      unfold longF; rw [List.filter_cons, if_neg hof]; rfl
    refine .inl ⟨(out, i + 1), ?_, ⟨by simp only; omega, by simp only; omega, ?_, ha⟩, by simp only; omega⟩
    · show longer_l1 shard m ww l out i _
      unfold longer_l1
      rw [if_pos hi, getElem!_pos l i.toNat hi']
      refine ⟨⟨i0, hi⟩, ?_⟩
      rw [if_pos (by
        unfold ofB at hof
        cases h1 : decide (l[i.toNat] 0 = ww 0) <;> cases h2 : decide (l[i.toNat] 1 = ww 1) <;> simp_all)]
      exact ⟨⟨by omega, by omega⟩, rfl⟩
    · simp only; rw [hone, hthis, List.append_nil]
end Go.E
