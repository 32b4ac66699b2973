/- Lists of messages that are the same. -/
import Derived.Test.YtljklmlodfbdnaaGreatMSS
import Derived.Test.YtljklmlodfbdnaaGreatEB
namespace Go.E
open Go
set_option linter.unusedVariables false
/-! ### The same messages -/
def msgs_F (a b : List (Nat → Int)) : Bool := decide (a.length = b.length) && (List.range a.length).all fun k => eqN 28 (a[k]!) (b[k]!)
def msgs_P (a _ : List (Nat → Int)) : Prop := a.length < 9000000000000000000
theorem msgs_ok (a b : List (Nat → Int)) (h : msgs_P a b) : msgs_S a b (msgs_F a b) := by
  unfold msgs_P at h
  unfold msgs_S msgs_F
  by_cases hl : a.length = b.length
  · rw [if_pos (by omega), decide_eq_true hl, Bool.true_and]
    have := Wh.all (f := fun (s : Int) (o : Int ⊕ (Unit ⊕ Unit)) => msgs_l1 a b s o) a.length (fun k => eqN 28 (a[k]!) (b[k]!)) (.inl ()) (.inr ()) (fun k hk hp => by
        unfold msgs_l1
        rw [if_pos (by omega)]
        refine ⟨⟨by omega, by omega⟩, ⟨by omega, by omega⟩, ?_⟩
        rw [Int.toNat_natCast, if_pos hp]
        exact ⟨step1 (by omega), rfl⟩) (fun k hk hp => by
        unfold msgs_l1
        rw [if_pos (by omega)]
        refine ⟨⟨by omega, by omega⟩, ⟨by omega, by omega⟩, ?_⟩
        rw [Int.toNat_natCast, if_neg (by rw [hp]; decide)]) (by
        unfold msgs_l1
        rw [if_neg (by omega)])
    refine ⟨_, this, ?_⟩
    by_cases hall : (List.range a.length).all (fun k => eqN 28 (a[k]!) (b[k]!)) = true
    · rw [if_pos hall, hall]; rfl
    · rw [if_neg hall]
      have : (List.range a.length).all (fun k => eqN 28 (a[k]!) (b[k]!)) = false := by simpa using hall
      rw [this]; rfl
  · rw [if_neg (by omega), decide_eq_false hl, Bool.false_and]
end Go.E
