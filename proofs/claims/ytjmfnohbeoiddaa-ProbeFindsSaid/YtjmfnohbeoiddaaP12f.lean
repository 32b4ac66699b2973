/- Lists of numbers (of the chapter on graphs). -/
import Derived.Test.YtjmfnohbeoiddaaG12S
import Derived.Test.YtjmfnohbeoiddaaL6
namespace Go.E
open Go
set_option linter.unusedVariables false
set_option maxRecDepth 100000

def hasR_F (s : List Int) (v : Int) : Bool := decide (v ∈ s)
def hasR_P (s : List Int) (_ : Int) : Prop := s.length ≤ 1000000000
theorem hasR_ok (s : List Int) (v : Int) (h : hasR_P s v) : hasR_S s v (hasR_F s v) := by
  unfold hasR_P at h
  unfold hasR_S
  obtain ⟨r, hr, h2⟩ := Wh.find (f := fun (t : Int) (o : (Int) ⊕ ((Unit) ⊕ (Unit))) => hasR_l1 s v t o) s.length (fun k => decide (v = s[k]!)) (.inl ()) (fun k => .inr ()) (fun k hk hp => by
      unfold hasR_l1
      rw [if_pos (by omega), Int.toNat_natCast, if_neg (by simpa [eq_comm] using hp)]
      exact ⟨⟨by omega, by omega⟩, step1 (by omega), rfl⟩) (fun k hk hp => by
      unfold hasR_l1
      rw [if_pos (by omega), Int.toNat_natCast, if_pos (by simpa [eq_comm] using hp)]
      exact ⟨⟨by omega, by omega⟩, rfl⟩) (by
      unfold hasR_l1
      rw [if_neg (by omega)])
  refine ⟨r, hr, ?_⟩
  rw [any_range s fun x => decide (v = x), any_has] at h2
  rcases h2 with ⟨rfl, h2⟩ | ⟨k, hk, rfl, h2⟩
  · have : hasR_F s v = false := h2
    rw [this]; rfl
  · have : hasR_F s v = true := h2
    rw [this]; rfl
theorem risingR_ok (l : List Int) (h : rising_P l) : risingR_S l (rising_F l) := by
  unfold rising_P at h
  unfold risingR_S
  refine ⟨rising_F l, ?_, rfl⟩
  have := Wh.upto (f := fun (s : (List Int) × Int) (o : ((List Int) × Int) ⊕ ((List Int))) => risingR_l1 l s.1 s.2 o) (fun k : Nat => (rising_F (l.take k), (k : Int))) l.length (r := rising_F l) (fun k hk => by
      have hs : rising_F (l.take (k + 1)) = insI (l[k]!) (rising_F (l.take k)) := by unfold rising_F; exact foldl_take _ _ _ _ hk
      have hl : (rising_F (l.take k)).length ≤ 1000000000 := Nat.le_trans (len_rising _) (by simp; omega)
      dsimp only
      rw [hs]
      unfold risingR_l1
      rw [if_pos (by omega)]
      generalize rising_F (l.take k) = out at hl
      have hsl := spot_le (l[k]!) out
      have hk' : 0 ≤ (k : Int) ∧ (k : Int) < l.length := ⟨by omega, by omega⟩
      refine ⟨(spot (l[k]!) out : Int), ?_, ?_⟩
      · have := Wh.upto (f := fun (s : Int) (o : (Int) ⊕ (Int)) => risingR_l2 l out (k : Int) s o) (fun j : Nat => (j : Int)) (spot (l[k]!) out) (r := (spot (l[k]!) out : Int)) (fun j hj => by
          have := spot_lt hj
          unfold risingR_l2
          rw [Int.toNat_natCast, Int.toNat_natCast, if_pos (by simp only [Bool.and_eq_true, decide_eq_true_eq]; exact ⟨by omega, this⟩)]
          exact ⟨fun _ => ⟨by omega, by omega⟩, fun _ => hk', ⟨by omega, by omega⟩, rfl⟩) (by
          unfold risingR_l2
          rw [Int.toNat_natCast, Int.toNat_natCast, if_neg (by
            simp only [Bool.and_eq_true, decide_eq_true_eq, not_and]
            exact fun h => spot_at (by omega))]
          exact ⟨fun h => ⟨by omega, by simpa using h⟩, fun _ => hk', rfl⟩)
        simpa using this
      · unfold risingR_k2a
        rw [Int.toNat_natCast, Int.toNat_natCast, insI_spot]
        refine ⟨fun h => ⟨by omega, by simpa using h⟩, fun _ => hk', ?_⟩
        by_cases hc : spot (l[k]!) out < out.length ∧ out[spot (l[k]!) out]! = l[k]!
        · rw [if_pos (by simp only [Bool.and_eq_true, decide_eq_true_eq]; exact ⟨by omega, hc.2⟩), if_pos hc]
          exact ⟨⟨by omega, by omega⟩, rfl⟩
        · rw [if_neg (by simp only [Bool.and_eq_true, decide_eq_true_eq]; exact fun h => hc ⟨by omega, h.2⟩), if_neg hc]
          simp only [List.nil_append, List.drop_zero, take_len]
          refine ⟨⟨by omega, by omega⟩, hk', ⟨by omega, by omega⟩, ?_, ?_, ?_, ⟨by omega, by omega⟩, rfl⟩
          · simp only [List.length_take]; omega
          · simp only [List.length_take]; omega
          · simp only [List.length_append, List.length_take, List.length_drop, List.length_singleton]; omega) (by
      dsimp only
      unfold risingR_l1
      rw [if_neg (by omega), take_len])
  simpa [rising_F] using this
end Go.E
