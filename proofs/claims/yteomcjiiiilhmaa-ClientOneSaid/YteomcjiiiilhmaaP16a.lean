/- Clients: whose a transaction is. -/
import Derived.Test.YteomcjiiiilhmaaA16S
namespace Go.E
open Go
set_option linter.unusedVariables false
set_option maxRecDepth 100000

theorem ints_ok (a b : List Int) (h : ints_P a b) : ints_S a b (ints_F a b) := by
  unfold ints_P at h
  unfold ints_S ints_F
  by_cases hl : a.length = b.length
  · rw [if_pos (by omega)]
    have := Wh.all (f := fun (s : Int) (o : Int ⊕ (Unit ⊕ Unit)) => ints_l1 a b s o) a.length (fun k => decide (a[k]! = b[k]!)) (.inl ()) (.inr ()) (fun k hk hp => by
        unfold ints_l1
        rw [if_pos (by omega)]
        refine ⟨⟨by omega, by omega⟩, ⟨by omega, by omega⟩, ?_⟩
        rw [Int.toNat_natCast, if_pos (by simpa using hp)]
        exact ⟨step1 (by omega), rfl⟩) (fun k hk hp => by
        unfold ints_l1
        rw [if_pos (by omega)]
        refine ⟨⟨by omega, by omega⟩, ⟨by omega, by omega⟩, ?_⟩
        rw [Int.toNat_natCast, if_neg (by simpa using hp)]) (by
        unfold ints_l1
        rw [if_neg (by omega)])
    refine ⟨_, this, ?_⟩
    rw [all_eq hl]
    by_cases hab : a = b
    · rw [decide_eq_true hab, if_pos rfl]; rfl
    · rw [decide_eq_false hab, if_neg (by decide)]; rfl
  · rw [if_neg (by omega), decide_eq_false (fun e => hl (by rw [e]))]
theorem risingR_ok (l : List Int) (h : rising_P l) : risingR_S l (rising_F l) := by
  unfold rising_P at h
  unfold risingR_S
  refine ⟨rising_F l, ?_, rfl⟩
  have := Wh.upto (f := fun (s : (List Int) × Int) (o : ((List Int) × Int) ⊕ ((List Int))) => risingR_l1 l s.1 s.2 o) (fun k : Nat => (rising_F (l.take k), (k : Int))) l.length (r := rising_F l) (fun k hk => by
      have hs : rising_F (l.take (k + 1)) = insI (l[k]!) (rising_F (l.take k)) := by unfold rising_F; exact foldl_take _ _ _ _ hk
      have hl : (rising_F (l.take k)).length ≤ 1000000000 := Nat.le_trans (len_rising _) (by simp; omega)
      dsimp only
      rw [hs]
      unfold risingR_l1
      rw [if_pos (by omega)]
      generalize rising_F (l.take k) = out at hl
      have hsl := spot_le (l[k]!) out
      have hk' : 0 ≤ (k : Int) ∧ (k : Int) < l.length := ⟨by omega, by omega⟩
      refine ⟨(spot (l[k]!) out : Int), ?_, ?_⟩
      · have := Wh.upto (f := fun (s : Int) (o : (Int) ⊕ (Int)) => risingR_l2 l out (k : Int) s o) (fun j : Nat => (j : Int)) (spot (l[k]!) out) (r := (spot (l[k]!) out : Int)) (fun j hj => by
          have := spot_lt hj
          unfold risingR_l2
          rw [Int.toNat_natCast, Int.toNat_natCast, if_pos (by simp only [Bool.and_eq_true, decide_eq_true_eq]; exact ⟨by omega, this⟩)]
          exact ⟨fun _ => ⟨by omega, by omega⟩, fun _ => hk', ⟨by omega, by omega⟩, rfl⟩) (by
          unfold risingR_l2
          rw [Int.toNat_natCast, Int.toNat_natCast, if_neg (by
            simp only [Bool.and_eq_true, decide_eq_true_eq, not_and]
            exact fun h => spot_at (by omega))]
          exact ⟨fun h => ⟨by omega, by simpa using h⟩, fun _ => hk', rfl⟩)
        simpa using this
      · unfold risingR_k2a
        rw [Int.toNat_natCast, Int.toNat_natCast, insI_spot]
        refine ⟨fun h => ⟨by omega, by simpa using h⟩, fun _ => hk', ?_⟩
        by_cases hc : spot (l[k]!) out < out.length ∧ out[spot (l[k]!) out]! = l[k]!
        · rw [if_pos (by simp only [Bool.and_eq_true, decide_eq_true_eq]; exact ⟨by omega, hc.2⟩), if_pos hc]
          exact ⟨⟨by omega, by omega⟩, rfl⟩
        · rw [if_neg (by simp only [Bool.and_eq_true, decide_eq_true_eq]; exact fun h => hc ⟨by omega, h.2⟩), if_neg hc]
          simp only [List.nil_append, List.drop_zero, take_len]
          refine ⟨⟨by omega, by omega⟩, hk', ⟨by omega, by omega⟩, ?_, ?_, ?_, ⟨by omega, by omega⟩, rfl⟩
          · simp only [List.length_take]; omega
          · simp only [List.length_take]; omega
          · simp only [List.length_append, List.length_take, List.length_drop, List.length_singleton]; omega) (by
      dsimp only
      unfold risingR_l1
      rw [if_neg (by omega), take_len])
  simpa [rising_F] using this

def hitC (c : Nat → Int) (tx : Int) (j : Nat) : Bool := decide (0 < j) && decide (1 ≤ tx) && decide (c (1 + j * 3) = tx)
def cofI (c : Nat → Int) (tx : Int) : Int := ((List.range 9).find? (hitC c tx)).elim 0 fun j => (j : Int)
def cof_F (c : Nat → Int) (tx : Int) : Int × Int := if cofI c tx = 0 then (0, 10) else (cofI c tx, 0)
theorem find_at {n : Nat} {p : Nat → Bool} {i : Nat} (hi : i < n) (h : p i = true) (hn : ∀ j, j < i → p j = false) : (List.range n).find? p = some i :=
  List.find?_range_eq_some.2 ⟨h, List.mem_range.2 hi, fun j hj => by rw [hn j hj]; rfl⟩
theorem find_no {n : Nat} {p : Nat → Bool} (hn : ∀ j, j < n → p j = false) : (List.range n).find? p = none :=
  List.find?_eq_none.2 fun j hj => by rw [hn j (List.mem_range.1 hj)]; decide
theorem cof_ok (c : Nat → Int) (tx : Int) : cof_S c tx (cof_F c tx) := by
  unfold cof_S
  refine (Wh.by (f := fun (s : Int × Int) (o : (Int × Int) ⊕ (Int)) => cof_l1 c tx s.1 s.2 o) (s := ((0, 0) : Int × Int)) (fun s => s.1 = 0 ∧ 0 ≤ s.2 ∧ s.2 ≤ 9 ∧ ∀ j : Nat, (j : Int) < s.2 → hitC c tx j = false) (fun s => (9 - s.2).toNat) (fun r => r = cofI c tx) ⟨rfl, by omega, by omega, fun j hj => by omega⟩ ?_).elim fun r hr => ⟨r, hr.1, ?_⟩
  · rintro ⟨w, x⟩ ⟨rfl, x0, x1, hno⟩
    simp only at x0 x1 hno
    by_cases hx : x < 9
    · have hin : inI64 (x + 1) := ⟨by omega, by omega⟩
      have hx' : (x.toNat : Int) = x := by omega
      by_cases hh : hitC c tx x.toNat = true
      · refine .inr ⟨x, ?_, ?_⟩
        · show cof_l1 c tx 0 x _
          unfold cof_l1
          unfold hitC at hh
          simp only [Bool.and_eq_true, decide_eq_true_eq] at hh
          rw [if_pos hx, if_neg (by simp only [Bool.or_eq_true, decide_eq_true_eq]; omega), if_pos hh.2]
          exact ⟨⟨x0, hx⟩, rfl⟩
        · unfold cofI
          rw [find_at (i := x.toNat) (by omega) hh fun j hj => hno j (by omega)]
          exact hx'.symm
      · refine .inl ⟨(0, x + 1), ?_, ⟨rfl, by simp only; omega, by simp only; omega, fun j hj => ?_⟩, by simp only; omega⟩
        · show cof_l1 c tx 0 x _
          unfold cof_l1
          rw [if_pos hx]
          refine ⟨⟨x0, hx⟩, ite_intro (fun h => ⟨hin, rfl⟩) fun h => ?_⟩
          simp only [Bool.or_eq_true, decide_eq_true_eq] at h
          rw [if_neg (fun e => hh (by unfold hitC; simp only [Bool.and_eq_true, decide_eq_true_eq]; exact ⟨⟨by omega, by omega⟩, e⟩))]
          exact ⟨hin, rfl⟩
        · simp only at hj
          by_cases hjx : (j : Int) < x
          · exact hno j hjx
          · rw [show j = x.toNat by omega]
            simpa using hh
    · refine .inr ⟨0, ?_, ?_⟩
      · show cof_l1 c tx 0 x _
        unfold cof_l1
        rw [if_neg hx]
      · unfold cofI
        rw [find_no fun j hj => hno j (by omega)]
        rfl
  · rw [hr.2]
    unfold cof_k1a cof_F
    split <;> rfl
theorem cofI_spec (c : Nat → Int) (tx : Int) : (cofI c tx = 0 ∧ ∀ j : Nat, 1 ≤ j → j ≤ 8 → 1 ≤ tx → c (1 + j * 3) ≠ tx) ∨ ∃ j : Nat, cofI c tx = j ∧ 1 ≤ j ∧ j ≤ 8 ∧ 1 ≤ tx ∧ c (1 + j * 3) = tx := by
  unfold cofI
  cases h : (List.range 9).find? (hitC c tx) with
  | none =>
    refine .inl ⟨rfl, fun j h1 h2 h3 h4 => ?_⟩
    have := List.find?_eq_none.1 h j (List.mem_range.2 (by omega))
    exact this (by unfold hitC; simp only [Bool.and_eq_true, decide_eq_true_eq]; exact ⟨⟨by omega, h3⟩, h4⟩)
  | some j =>
    obtain ⟨h1, h2, _⟩ := List.find?_range_eq_some.1 h
    have h2 := List.mem_range.1 h2
    unfold hitC at h1
    simp only [Bool.and_eq_true, decide_eq_true_eq] at h1
    exact .inr ⟨j, rfl, by omega, by omega, h1.1.2, h1.2⟩

def hitR (l : List (Nat → Int)) (tx : Int) (j : Nat) : Bool := decide (0 < tx) && decide (l[j]! 0 = tx)
def ofR_F (l : List (Nat → Int)) (tx : Int) : Int := ((List.range l.length).find? (hitR l tx)).elim 0 fun j => (j : Int) + 1
def ofR_P (l : List (Nat → Int)) (_ : Int) : Prop := l.length ≤ 1000000
theorem ofR_ok (l : List (Nat → Int)) (tx : Int) (h : ofR_P l tx) : ofR_S l tx (ofR_F l tx) := by
  unfold ofR_P at h
  unfold ofR_S
  refine Wh.by (f := fun (s : Int) (o : (Int) ⊕ ((Unit) ⊕ (Int))) => ofR_l1 l tx s o) (fun s => 0 ≤ s ∧ s ≤ l.length ∧ ∀ j : Nat, (j : Int) < s → hitR l tx j = false) (fun s => ((l.length : Int) - s).toNat) (fun (x : (Unit) ⊕ (Int)) => match x with | .inl _ => ofR_k1a (ofR_F l tx) | .inr x4 => ofR_k1b x4 (ofR_F l tx)) ⟨by omega, by omega, fun j hj => by omega⟩ ?_
  rintro x ⟨x0, x1, hno⟩
  by_cases hx : x < l.length
  · have hin : inI64 (x + 1) := ⟨by omega, by omega⟩
    by_cases hh : hitR l tx x.toNat = true
    · refine .inr ⟨.inr (x + 1), ?_, ?_⟩
      · unfold ofR_l1
        rw [if_pos hx, if_pos (by exact hh)]
        exact ⟨fun _ => ⟨x0, hx⟩, hin, rfl⟩
      · show ofR_k1b _ _
        unfold ofR_k1b ofR_F
        rw [find_at (i := x.toNat) (by omega) hh fun j hj => hno j (by omega)]
        show (x.toNat : Int) + 1 = x + 1
        omega
    · refine .inl ⟨x + 1, ?_, ⟨by omega, by omega, fun j hj => ?_⟩, by omega⟩
      · unfold ofR_l1
        rw [if_pos hx, if_neg (by exact hh)]
        exact ⟨fun _ => ⟨x0, hx⟩, hin, rfl⟩
      · by_cases hjx : (j : Int) < x
        · exact hno j hjx
        · rw [show j = x.toNat by omega]
          simpa using hh
  · refine .inr ⟨.inl (), ?_, ?_⟩
    · unfold ofR_l1
      rw [if_neg hx]
    · show ofR_k1a _
      unfold ofR_k1a ofR_F
      rw [find_no fun j hj => hno j (by omega)]
      rfl
end Go.E
