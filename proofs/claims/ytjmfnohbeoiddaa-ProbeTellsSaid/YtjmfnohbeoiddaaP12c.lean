/- The document's words on probes, and that they are the program's. -/
import Derived.Test.YtjmfnohbeoiddaaD12S
import Derived.Test.YtjmfnohbeoiddaaPR
namespace Go.E
open Go
set_option linter.unusedVariables false

/-! ### A message's first cells are all that is asked -/
theorem newB_congr {m k : Nat → Int} (h : ∀ i, i < 28 → m i = k i) (i j : Nat) (hi : i < 8) (hj : j ≤ 8) : newB m i j = newB k i j := by
  unfold newB
  rw [Bool.eq_iff_iff, List.all_eq_true, List.all_eq_true]
  have e : ∀ q ∈ List.range j, (!decide (m (12 + q * 2 + 0) = m (12 + (i * 2 + 0)))) = (!decide (k (12 + q * 2 + 0) = k (12 + (i * 2 + 0)))) := by
    intro q hq
    have := List.mem_range.1 hq
    rw [h _ (by omega), h _ (by omega)]
  exact ⟨fun hh q hq => by rw [← e q hq]; exact hh q hq, fun hh q hq => by rw [e q hq]; exact hh q hq⟩
theorem stepB_congr {m k : Nat → Int} (h : ∀ i, i < 28 → m i = k i) (i : Nat) (hi : i < 8) : stepB m i = stepB k i := by
  unfold stepB
  rw [h 11 (by omega), h (12 + (i * 2 + 0)) (by omega), h (12 + (i * 2 + 1)) (by omega), newB_congr h i i hi (by omega)]
theorem pathB_congr {m k : Nat → Int} (h : ∀ i, i < 28 → m i = k i) : pathB m = pathB k := by
  unfold pathB
  rw [h 11 (by omega), h 9 (by omega), h 10 (by omega)]
  congr 1
  rw [Bool.eq_iff_iff, List.all_eq_true, List.all_eq_true]
  exact ⟨fun hh q hq => by rw [← stepB_congr h q (List.mem_range.1 hq)]; exact hh q hq, fun hh q hq => by rw [stepB_congr h q (List.mem_range.1 hq)]; exact hh q hq⟩
theorem okB_congr {m k : Nat → Int} (h : ∀ i, i < 28 → m i = k i) : okB m = okB k := by
  unfold okB
  have e1 : endsB m = endsB k := by
    unfold endsB
    rw [h 0 (by omega), h 1 (by omega), h 2 (by omega)]
  have e2 : mayB m = mayB k := by
    unfold mayB
    rw [h 0 (by omega), h 3 (by omega), h 4 (by omega), h 5 (by omega), h 6 (by omega), h 7 (by omega), h 8 (by omega), h 9 (by omega), pathB_congr h]
  have e3 : eqN 28 (mayZ m) (headM m) = eqN 28 (mayZ k) (headM k) := by
    have a : ∀ i, i < 28 → mayZ m i = mayZ k i := by
      intro i hi
      unfold mayZ
      rw [h 0 (by omega)]
      have g := h i hi
      repeat' split
      all_goals simp only [updI, updRI, g]
    have b : ∀ i, i < 28 → headM m i = headM k i := by
      intro i hi
      unfold headM
      simp only [updI, h 0 (by omega), h 1 (by omega), h 2 (by omega)]
    rw [Bool.eq_iff_iff, eqN_iff, eqN_iff]
    exact ⟨fun hh i hi => by rw [← a i hi, ← b i hi]; exact hh i hi, fun hh i hi => by rw [a i hi, b i hi]; exact hh i hi⟩
  rw [e1, e2, e3]

theorem isR_eq (m : Nat → Int) : isR_F m = isP_F m := by
  rw [Bool.eq_iff_iff, isP_iff]
  unfold isR_F
  rw [Bool.and_eq_true, decide_eq_true_eq]
theorem isR_congr {m k : Nat → Int} (h : ∀ i, i < 28 → m i = k i) : isR_F m = isR_F k := by
  unfold isR_F
  rw [okB_congr h, h 0 (by omega)]
theorem isP_rest {m : Nat → Int} (h : isP_F m = true) : ∀ i, 3 ≤ i → i ≤ 8 → m i = 0 := by
  obtain ⟨h0, h1⟩ := (isP_iff m).1 h
  unfold okB at h1
  simp only [Bool.and_eq_true] at h1
  have h2 := eqN_iff.1 h1.2
  intro i hi hi'
  have h3 := h2 i (by omega)
  unfold mayZ headM at h3
  rw [if_neg (by omega), if_neg (by omega), if_neg (by omega), if_neg (by omega), if_neg (by omega), if_pos h0] at h3
  simp only [updI, updRI] at h3
  rw [if_neg (by omega), if_neg (by omega), if_neg (by omega), if_neg (by omega), if_neg (by omega), if_neg (by omega), if_neg (by omega)] at h3
  exact h3

/-! ### The same messages -/
def msgs_F (a b : List (Nat → Int)) : Bool := decide (a.length = b.length) && (List.range a.length).all fun k => eqN 28 (a[k]!) (b[k]!)
def msgs_P (a _ : List (Nat → Int)) : Prop := a.length < 9000000000000000000
theorem msgs_ok (a b : List (Nat → Int)) (h : msgs_P a b) : msgs_S a b (msgs_F a b) := by
  unfold msgs_P at h
  unfold msgs_S msgs_F
  by_cases hl : a.length = b.length
  · rw [if_pos (by omega), decide_eq_true hl, Bool.true_and]
    have := Wh.all (f := fun (s : Int) (o : Int ⊕ (Unit ⊕ Unit)) => msgs_l1 a b s o) a.length (fun k => eqN 28 (a[k]!) (b[k]!)) (.inl ()) (.inr ()) (fun k hk hp => by
        unfold msgs_l1
        rw [if_pos (by omega)]
        refine ⟨⟨by omega, by omega⟩, ⟨by omega, by omega⟩, ?_⟩
        rw [Int.toNat_natCast, if_pos hp]
        exact ⟨step1 (by omega), rfl⟩) (fun k hk hp => by
        unfold msgs_l1
        rw [if_pos (by omega)]
        refine ⟨⟨by omega, by omega⟩, ⟨by omega, by omega⟩, ?_⟩
        rw [Int.toNat_natCast, if_neg (by rw [hp]; decide)]) (by
        unfold msgs_l1
        rw [if_neg (by omega)])
    refine ⟨_, this, ?_⟩
    by_cases hall : (List.range a.length).all (fun k => eqN 28 (a[k]!) (b[k]!)) = true
    · rw [if_pos hall, hall]; rfl
    · rw [if_neg hall]
      have : (List.range a.length).all (fun k => eqN 28 (a[k]!) (b[k]!)) = false := by simpa using hall
      rw [this]; rfl
  · rw [if_neg (by omega), decide_eq_false hl, Bool.false_and]
theorem msgs_map {α : Type} (f g : α → Nat → Int) (l : List α) (h : ∀ x ∈ l, ∀ i, i < 28 → f x i = g x i) : msgs_F (l.map f) (l.map g) = true := by
  unfold msgs_F
  rw [Bool.and_eq_true, decide_eq_true_eq, List.all_eq_true]
  refine ⟨by simp, fun k hk => ?_⟩
  have hk' : k < l.length := by simpa using List.mem_range.1 hk
  rw [getElem!_pos (l.map f) k (by simpa using hk'), getElem!_pos (l.map g) k (by simpa using hk'), List.getElem_map, List.getElem_map, eqN_iff]
  exact h _ (List.getElem_mem hk')

/-! ### On -/
def refE (shard : Int) (m ww e : Nat → Int) : Nat → Int :=
  updRI (updRI (updI (updI (updI (updI (updI (fun _ => 0) 0 11) 1 shard) 11 ((m 11) + 1)) 9 (e 2)) 10 (e 3)) 12 16 (fun i => m (12 + i))) (12 + ((m 11).toNat * 2)) 2 ww
theorem refE_eq {shard : Int} {m ww e : Nat → Int} (hn : 0 ≤ m 11 ∧ m 11 < 8) (hz : ∀ i, 3 ≤ i → i ≤ 8 → m i = 0) : ∀ i, i < 28 → onE shard m ww e i = refE shard m ww e i := by
  intro i hi
  unfold onE onM refE
  rw [onM_n hn]
  by_cases h12 : 12 ≤ i
  · simp only [updI, updRI]
    rw [if_neg (by omega), if_neg (by omega), if_neg (by omega)]
    by_cases hp : 12 + (m 11).toNat * 2 ≤ i ∧ i < 12 + (m 11).toNat * 2 + 2
    · rw [if_pos hp, if_pos hp]
    · rw [if_neg hp, if_neg hp, if_neg (by omega), if_neg (by omega), if_neg (by omega), if_pos (by omega)]
      congr 1; omega
  · have r1 : ¬ (12 + (m 11).toNat * 2 ≤ i ∧ i < 12 + (m 11).toNat * 2 + 2) := by omega
    have r2 : ¬ (12 ≤ i ∧ i < 12 + 16) := by omega
    simp only [updI, updRI, if_neg r1, if_neg r2]
    clear r1 r2
    rcases (show i = 0 ∨ i = 1 ∨ i = 2 ∨ (3 ≤ i ∧ i ≤ 8) ∨ i = 9 ∨ i = 10 ∨ i = 11 by omega) with rfl | rfl | rfl | h | rfl | rfl | rfl
    · simp
    · simp
    · simp
    · rw [if_neg (by omega), if_neg (by omega), if_neg (by omega), if_neg (by omega), if_neg (by omega), if_neg (by omega), if_neg (by omega), if_neg (by omega), if_neg (by omega), if_neg (by omega), if_neg (by omega)]
      exact hz i h.1 h.2
    · simp
    · simp
    · simp
def onRl (shard : Int) (m ww : Nat → Int) (l : List (Nat → Int)) : List (Nat → Int) := (l.filter (ofB ww)).map (refE shard m ww)
def onR_F (shard : Int) (m ww : Nat → Int) (l : List (Nat → Int)) : List (Nat → Int) × Bool := if (onRl shard m ww l).all isR_F = true then (onRl shard m ww l, true) else ([], false)
def onR_P (shard : Int) (m ww : Nat → Int) (l : List (Nat → Int)) : Prop := 0 ≤ m 11 ∧ m 11 < 8 ∧ l.length ≤ 1000000
theorem onR_ok (shard : Int) (m ww : Nat → Int) (l : List (Nat → Int)) (hP : onR_P shard m ww l) : onR_S shard m ww l (onR_F shard m ww l) := by
  obtain ⟨h1, h2, h3⟩ := hP
  unfold onR_S
  suffices h : ∃ r, Wh (fun (s : List (Nat → Int) × Int) (o : (List (Nat → Int) × Int) ⊕ (List (Nat → Int) ⊕ Unit)) => onR_l1 shard m ww l s.1 s.2 o) ([], 0) r ∧ ((r = .inl (onRl shard m ww l) ∧ (onRl shard m ww l).all isR_F = true) ∨ (r = .inr () ∧ (onRl shard m ww l).all isR_F = false)) by
    obtain ⟨r, hr, h⟩ := h
    refine ⟨r, hr, ?_⟩
    rcases h with ⟨rfl, h⟩ | ⟨rfl, h⟩
    · show onR_k1a _ _
      unfold onR_k1a onR_F
      rw [if_pos h]
    · show onR_k1b _
      unfold onR_k1b onR_F
      rw [h]; rfl
  refine Wh.by (ρ := List (Nat → Int) ⊕ Unit) (fun (s : List (Nat → Int) × Int) => 0 ≤ s.2 ∧ s.2 ≤ l.length ∧ s.1 = onRl shard m ww (l.take s.2.toNat) ∧ s.1.all isR_F = true) (fun s => ((l.length : Int) - s.2).toNat)
    (fun r => (r = .inl (onRl shard m ww l) ∧ (onRl shard m ww l).all isR_F = true) ∨ (r = .inr () ∧ (onRl shard m ww l).all isR_F = false)) ⟨by simp, by simp, rfl, rfl⟩ ?_
  rintro ⟨out, i⟩ ⟨i0, i1, ho, ha⟩
  simp only at i0 i1 ho ha
  by_cases hn : ¬ i < l.length
  · refine .inr ⟨.inl out, ?_, .inl ?_⟩
    · show onR_l1 shard m ww l out i _
      unfold onR_l1
      rw [if_neg hn]
    · rw [List.take_of_length_le (by omega)] at ho
      exact ⟨by rw [ho], by rw [← ho]; exact ha⟩
  have hi : i < l.length := by omega
  have hi' : i.toNat < l.length := by omega
  have htake : l.take (i + 1).toNat = l.take i.toNat ++ [l[i.toNat]] := by
    rw [show (i + 1).toNat = i.toNat + 1 by omega, List.take_add_one, List.getElem?_eq_getElem hi']; rfl
  have hlen : out.length ≤ 1000000 := by
    rw [ho]
    unfold onRl
    rw [List.length_map]
    have := List.length_filter_le (ofB ww) (l.take i.toNat)
    simp only [List.length_take] at this
    omega
  have hone : onRl shard m ww (l.take (i + 1).toNat) = out ++ onRl shard m ww [l[i.toNat]] := by
    rw [htake, ho]; unfold onRl; rw [List.filter_append, List.map_append]
  by_cases hof : ofB ww l[i.toNat] = true
  · have hthis : onRl shard m ww [l[i.toNat]] = [refE shard m ww l[i.toNat]] := by
      unfold onRl; rw [List.filter_cons, if_pos hof]; rfl
    by_cases hp : isR_F (refE shard m ww l[i.toNat]) = true
    · refine .inl ⟨(out ++ [refE shard m ww l[i.toNat]], i + 1), ?_, ⟨by simp only; omega, by simp only; omega, ?_, ?_⟩, by simp only; omega⟩
      · show onR_l1 shard m ww l out i _
        unfold onR_l1
        rw [if_pos hi, getElem!_pos l i.toNat hi']
        refine ⟨⟨i0, hi⟩, fun _ => ⟨i0, hi⟩, ?_⟩
        rw [if_pos (by exact hof)]
        refine ⟨⟨by omega, by omega⟩, ⟨i0, hi⟩, ⟨i0, hi⟩, ⟨h1, h2⟩, ?_⟩
        rw [if_pos (by exact hp)]
        exact ⟨by omega, ⟨by omega, by omega⟩, rfl⟩
      · simp only; rw [hone, hthis]
      · simp only; rw [List.all_append, ha]; simp [hp]
    · refine .inr ⟨.inr (), ?_, .inr ⟨rfl, ?_⟩⟩
      · show onR_l1 shard m ww l out i _
        unfold onR_l1
        rw [if_pos hi, getElem!_pos l i.toNat hi']
        refine ⟨⟨i0, hi⟩, fun _ => ⟨i0, hi⟩, ?_⟩
        rw [if_pos (by exact hof)]
        refine ⟨⟨by omega, by omega⟩, ⟨i0, hi⟩, ⟨i0, hi⟩, ⟨h1, h2⟩, ?_⟩
        rw [if_neg (by exact hp)]
      · rw [← Bool.not_eq_true]
        intro hall
        rw [List.all_eq_true] at hall
        exact hp (hall _ (by unfold onRl; exact List.mem_map_of_mem (List.mem_filter.2 ⟨List.getElem_mem hi', hof⟩)))
  · have hthis : onRl shard m ww [l[i.toNat]] = [] := by
      unfold onRl; rw [List.filter_cons, if_neg hof]; rfl
    refine .inl ⟨(out, i + 1), ?_, ⟨by simp only; omega, by simp only; omega, ?_, ha⟩, by simp only; omega⟩
    · show onR_l1 shard m ww l out i _
      unfold onR_l1
      rw [if_pos hi, getElem!_pos l i.toNat hi']
      refine ⟨⟨i0, hi⟩, fun _ => ⟨i0, hi⟩, ?_⟩
      rw [if_neg (by exact hof)]
      exact ⟨⟨by omega, by omega⟩, rfl⟩
    · simp only; rw [hone, hthis, List.append_nil]
/-- The program's probes and the document's. -/
theorem long_on {shard : Int} {m ww : Nat → Int} {l : List (Nat → Int)} (hn : 0 ≤ m 11 ∧ m 11 < 8) (hz : ∀ i, 3 ≤ i → i ≤ 8 → m i = 0) :
    msgs_F (longF shard m ww l) (onRl shard m ww l) = true ∧ (longF shard m ww l).all isP_F = (onRl shard m ww l).all isR_F := by
  refine ⟨msgs_map _ _ _ fun e _ => refE_eq hn hz, ?_⟩
  unfold longF onRl
  rw [List.all_map, List.all_map]
  congr 1
  funext e
  show isP_F (onE shard m ww e) = isR_F (refE shard m ww e)
  rw [← isR_eq]
  exact isR_congr (refE_eq hn hz)

/-! ### Live -/
def liveR_F (m : Nat → Int) (l : List (Nat → Int)) : Bool := isR_F m && (List.range (m 11).toNat).all fun i => l.any fun x => eqN 2 x (stepE m i)
theorem liveR_ok (m : Nat → Int) (l : List (Nat → Int)) (hl : live_P m l) : liveR_S m l (liveR_F m l) := by
  unfold live_P at hl
  unfold liveR_S liveR_F
  by_cases h : isR_F m = true
  · rw [if_pos h, h, Bool.true_and]
    have hn := isP_n (by rw [← isR_eq]; exact h)
    have inner : ∀ x : Nat, x < 8 → Wh (fun (s : Bool × Int) (o : (Bool × Int) ⊕ Bool) => liveR_l2 m l (x : Int) s.1 s.2 o) (false, 0) (l.any fun y => eqN 2 y (stepE m x)) := by
      intro x hx
      have := Wh.upto (f := fun (s : Bool × Int) (o : (Bool × Int) ⊕ Bool) => liveR_l2 m l (x : Int) s.1 s.2 o) (fun k : Nat => ((l.take k).any (fun y => eqN 2 y (stepE m x)), (k : Int))) l.length (r := l.any fun y => eqN 2 y (stepE m x)) (fun k hk => by
          show liveR_l2 m l (x : Int) _ _ _
          unfold liveR_l2
          rw [if_pos (by omega)]
          refine ⟨fun _ => ⟨by omega, by omega⟩, fun _ => ⟨by omega, by omega⟩, step1 (by omega), ?_⟩
          rw [Int.toNat_natCast, Int.toNat_natCast, getElem!_pos l k hk, List.take_add_one, List.getElem?_eq_getElem hk, List.any_append]
          have : (some l[k]).toList.any (fun y => eqN 2 y (stepE m x)) = eqN 2 l[k] (fun i => m (12 + x * 2 + i)) := by simp; rfl
          rw [this]; rfl) (by
          show liveR_l2 m l (x : Int) _ _ _
          unfold liveR_l2
          rw [if_neg (by omega), List.take_of_length_le (Nat.le_refl _)])
      exact this
    have := Wh.all (f := fun (s : Int) (o : Int ⊕ (Unit ⊕ Unit)) => liveR_l1 m l s o) (m 11).toNat (fun i => l.any fun x => eqN 2 x (stepE m i)) (.inl ()) (.inr ()) (fun k hk hp => by
        unfold liveR_l1
        rw [if_pos (by omega)]
        refine ⟨_, inner k (by omega), ?_⟩
        unfold liveR_k2a
        rw [if_pos hp]
        exact ⟨step1 (by omega), rfl⟩) (fun k hk hp => by
        unfold liveR_l1
        rw [if_pos (by omega)]
        refine ⟨_, inner k (by omega), ?_⟩
        unfold liveR_k2a
        rw [if_neg (by rw [hp]; decide)]) (by
        unfold liveR_l1
        rw [if_neg (by omega)])
    refine ⟨_, this, ?_⟩
    by_cases hall : ((List.range (m 11).toNat).all fun i => l.any fun x => eqN 2 x (stepE m i)) = true
    · rw [if_pos hall, hall]; rfl
    · rw [if_neg hall]
      have : ((List.range (m 11).toNat).all fun i => l.any fun x => eqN 2 x (stepE m i)) = false := by simpa using hall
      rw [this]; rfl
  · rw [if_neg h]
    have : isR_F m = false := by simpa using h
    rw [this, Bool.false_and]
theorem live_same (m : Nat → Int) (l : List (Nat → Int)) : live_F m l = liveR_F m l := by
  unfold live_F liveR_F thereB
  rw [isR_eq]
  congr 2
  funext i
  congr 1
  funext x
  rw [Bool.eq_iff_iff, eqN_iff, eqN_iff]
  exact ⟨fun h i hi => (h i hi).symm, fun h i hi => (h i hi).symm⟩
theorem back_same (m : Nat → Int) : back_F m = backR_F m := by
  unfold back_F backR_F
  rw [isR_eq]
  by_cases h1 : isP_F m = true <;> by_cases h2 : m 9 = m 12 <;> by_cases h3 : m 10 = 0 <;> by_cases h4 : m 10 = m 13 <;> simp [h1, h2, h3, h4]

/-! ### The victim -/
def vicRF (m : Nat → Int) : Nat → Int
  | 0 => m 12
  | k + 1 => if vicRF m k < m (12 + k * 2) then m (12 + k * 2) else vicRF m k
def victimR_F (m : Nat → Int) : Int := vicRF m (m 11).toNat
def victimR_P (m : Nat → Int) : Prop := m 11 ≤ 8
theorem victimR_ok (m : Nat → Int) (hP : victimR_P m) : victimR_S m (victimR_F m) := by
  unfold victimR_P at hP
  unfold victimR_S victimR_F
  refine ⟨vicRF m (m 11).toNat, ?_, rfl⟩
  refine Wh.upto (fun k : Nat => ((vicRF m k, (k : Int)) : Int × Int)) (m 11).toNat (fun k hk => ?_) ?_
  · show victimR_l1 m _ _ _
    unfold victimR_l1
    rw [if_pos (by omega)]
    refine ⟨⟨by omega, by omega⟩, ?_, step1 (by omega), rfl⟩
    exact ite_intro (fun _ => ⟨⟨by omega, by omega⟩, trivial⟩) fun _ => trivial
  · show victimR_l1 m _ _ _
    unfold victimR_l1
    rw [if_neg (by omega)]
theorem vic_same {m : Nat → Int} (h : 1 ≤ m 12) : ∀ k, 1 ≤ k → vicF m k = vicRF m k
  | 0, hk => by omega
  | 1, _ => by
    have a : vicF m 1 = m 12 := if_pos (show (0 : Int) < m 12 by omega)
    have b : vicRF m 1 = m 12 := by
      show (if m 12 < m (12 + 0 * 2) then m (12 + 0 * 2) else m 12) = m 12
      split <;> rfl
    rw [a, b]
  | k + 2, _ => by
    have := vic_same h (k + 1) (by omega)
    rw [vicF, vicRF, this]
theorem isP_first {m : Nat → Int} (h : isP_F m = true) : 1 ≤ m 12 := by
  have h1 := isP_path h
  have hn := isP_n h
  unfold pathB at h1
  simp only [Bool.and_eq_true, List.all_eq_true] at h1
  have := h1.2 0 (List.mem_range.2 (by omega))
  unfold stepB at this
  rw [if_neg (by omega)] at this
  simp only [Bool.and_eq_true] at this
  have := this.1.1
  unfold txB inB at this
  simp only [Bool.and_eq_true, decide_eq_true_eq] at this
  exact this.1
end Go.E
