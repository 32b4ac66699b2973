/- What functions of the program say, as relations. -/
import Derived.Test.YtmfbefghdaiicaaP17f
set_option maxHeartbeats 1000000
set_option linter.unusedVariables false
set_option linter.unusedSimpArgs false
set_option maxRecDepth 100000
namespace Go.E
open Go

def same17_S (a0Tx : Int) (a0State : Int) (a0Reason : Int) (a0Seq : Int) (a0Open : Bool) (a0Shard : Int) (a0At : (Nat → Int)) (a0Mode : Int) (a0Touched : (List Int)) (a0Votes : (List Int)) (a0Acks : (List Int)) (a0Got : (List (Nat → Int))) (b1Tx : Int) (b1State : Int) (b1Reason : Int) (b1Seq : Int) (b1Open : Bool) (b1Shard : Int) (b1At : (Nat → Int)) (b1Mode : Int) (b1Touched : (List Int)) (b1Votes : (List Int)) (b1Acks : (List Int)) (b1Got : (List (Nat → Int))) (r : Bool) : Prop :=
  if ((((((((!(decide (a0Tx = b1Tx))) || (!(decide (a0State = b1State)))) || (!(decide (a0Reason = b1Reason)))) || (!(decide (a0Seq = b1Seq)))) || (!(((a0Open) == (b1Open))))) || (!(decide (a0Shard = b1Shard)))) || (!((eqN 2 a0At b1At)))) || (!(decide (a0Mode = b1Mode)))) = true then
    r = (false)
  else
    (ints_P a0Touched b1Touched) ∧ ((((ints_F a0Touched b1Touched)) = true) → ints_P a0Votes b1Votes) ∧ (((((ints_F a0Touched b1Touched)) && ((ints_F a0Votes b1Votes))) = true) → ints_P a0Acks b1Acks) ∧ ((((((ints_F a0Touched b1Touched)) && ((ints_F a0Votes b1Votes))) && ((ints_F a0Acks b1Acks))) = true) → grants_P a0Got b1Got) ∧ (
    r = (((((ints_F a0Touched b1Touched)) && ((ints_F a0Votes b1Votes))) && ((ints_F a0Acks b1Acks))) && ((grants_F a0Got b1Got))))

def same17_F (a0Tx : Int) (a0State : Int) (a0Reason : Int) (a0Seq : Int) (a0Open : Bool) (a0Shard : Int) (a0At : (Nat → Int)) (a0Mode : Int) (a0Touched : (List Int)) (a0Votes : (List Int)) (a0Acks : (List Int)) (a0Got : (List (Nat → Int))) (b1Tx : Int) (b1State : Int) (b1Reason : Int) (b1Seq : Int) (b1Open : Bool) (b1Shard : Int) (b1At : (Nat → Int)) (b1Mode : Int) (b1Touched : (List Int)) (b1Votes : (List Int)) (b1Acks : (List Int)) (b1Got : (List (Nat → Int))) : Bool :=
  if ((((((((!(decide (a0Tx = b1Tx))) || (!(decide (a0State = b1State)))) || (!(decide (a0Reason = b1Reason)))) || (!(decide (a0Seq = b1Seq)))) || (!(((a0Open) == (b1Open))))) || (!(decide (a0Shard = b1Shard)))) || (!((eqN 2 a0At b1At)))) || (!(decide (a0Mode = b1Mode)))) = true then
    false
  else
    ((((ints_F a0Touched b1Touched)) && ((ints_F a0Votes b1Votes))) && ((ints_F a0Acks b1Acks))) && ((grants_F a0Got b1Got))

def same17_P (a0Tx : Int) (a0State : Int) (a0Reason : Int) (a0Seq : Int) (a0Open : Bool) (a0Shard : Int) (a0At : (Nat → Int)) (a0Mode : Int) (a0Touched : (List Int)) (a0Votes : (List Int)) (a0Acks : (List Int)) (a0Got : (List (Nat → Int))) (b1Tx : Int) (b1State : Int) (b1Reason : Int) (b1Seq : Int) (b1Open : Bool) (b1Shard : Int) (b1At : (Nat → Int)) (b1Mode : Int) (b1Touched : (List Int)) (b1Votes : (List Int)) (b1Acks : (List Int)) (b1Got : (List (Nat → Int))) : Prop :=
  if ((((((((!(decide (a0Tx = b1Tx))) || (!(decide (a0State = b1State)))) || (!(decide (a0Reason = b1Reason)))) || (!(decide (a0Seq = b1Seq)))) || (!(((a0Open) == (b1Open))))) || (!(decide (a0Shard = b1Shard)))) || (!((eqN 2 a0At b1At)))) || (!(decide (a0Mode = b1Mode)))) = true then
    True
  else
    (ints_P a0Touched b1Touched) ∧ ((((ints_F a0Touched b1Touched)) = true) → ints_P a0Votes b1Votes) ∧ (((((ints_F a0Touched b1Touched)) && ((ints_F a0Votes b1Votes))) = true) → ints_P a0Acks b1Acks) ∧ ((((((ints_F a0Touched b1Touched)) && ((ints_F a0Votes b1Votes))) && ((ints_F a0Acks b1Acks))) = true) → grants_P a0Got b1Got) ∧ (
    True)

theorem same17_ok (a0Tx : Int) (a0State : Int) (a0Reason : Int) (a0Seq : Int) (a0Open : Bool) (a0Shard : Int) (a0At : (Nat → Int)) (a0Mode : Int) (a0Touched : (List Int)) (a0Votes : (List Int)) (a0Acks : (List Int)) (a0Got : (List (Nat → Int))) (b1Tx : Int) (b1State : Int) (b1Reason : Int) (b1Seq : Int) (b1Open : Bool) (b1Shard : Int) (b1At : (Nat → Int)) (b1Mode : Int) (b1Touched : (List Int)) (b1Votes : (List Int)) (b1Acks : (List Int)) (b1Got : (List (Nat → Int))) (hP : same17_P a0Tx a0State a0Reason a0Seq a0Open a0Shard a0At a0Mode a0Touched a0Votes a0Acks a0Got b1Tx b1State b1Reason b1Seq b1Open b1Shard b1At b1Mode b1Touched b1Votes b1Acks b1Got) : same17_S a0Tx a0State a0Reason a0Seq a0Open a0Shard a0At a0Mode a0Touched a0Votes a0Acks a0Got b1Tx b1State b1Reason b1Seq b1Open b1Shard b1At b1Mode b1Touched b1Votes b1Acks b1Got (same17_F a0Tx a0State a0Reason a0Seq a0Open a0Shard a0At a0Mode a0Touched a0Votes a0Acks a0Got b1Tx b1State b1Reason b1Seq b1Open b1Shard b1At b1Mode b1Touched b1Votes b1Acks b1Got) := by
  obtain ⟨r, hr⟩ : ∃ r, r = same17_F a0Tx a0State a0Reason a0Seq a0Open a0Shard a0At a0Mode a0Touched a0Votes a0Acks a0Got b1Tx b1State b1Reason b1Seq b1Open b1Shard b1At b1Mode b1Touched b1Votes b1Acks b1Got := ⟨_, rfl⟩
  rw [← hr]
  unfold same17_F at hr
  unfold same17_S
  unfold same17_P at hP
  by_cases hp55 : ((((((((!(decide (a0Tx = b1Tx))) || (!(decide (a0State = b1State)))) || (!(decide (a0Reason = b1Reason)))) || (!(decide (a0Seq = b1Seq)))) || (!(((a0Open) == (b1Open))))) || (!(decide (a0Shard = b1Shard)))) || (!((eqN 2 a0At b1At)))) || (!(decide (a0Mode = b1Mode)))) = true
  · rw [if_pos hp55] at hr hP ⊢
    exact hr
  · rw [if_neg hp55] at hr hP ⊢
    obtain ⟨hq0, hq1, hq2, hq3, hP⟩ := hP
    refine ⟨hq0, hq1, hq2, hq3, ?_⟩
    exact hr

end Go.E
