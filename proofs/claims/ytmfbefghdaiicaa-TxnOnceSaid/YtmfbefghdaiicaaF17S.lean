/- What functions of the program say, as relations. -/
import Derived.Test.YtmfbefghdaiicaaP17f
set_option maxHeartbeats 1000000
set_option linter.unusedVariables false
set_option linter.unusedSimpArgs false
set_option maxRecDepth 100000
namespace Go.E
open Go

def once17_l1 (acts0 : (List (Nat → Int))) (asked5 : Bool) (i6 : Int) (fb3 : Int) (fb3_1 : Int) (fb3_2 : Int) (fb3_3 : Int) (fb3_4 : Bool) (fb3_5 : Int) (fb3_6 : (Nat → Int)) (fb3_8 : Int) (fb3_9 : (List Int)) (fb3_10 : (List Int)) (fb3_11 : (List Int)) (fb3_12 : (List (Nat → Int))) (o : (Bool × Int × Int × Int × Int × Int × Bool × Int × (Nat → Int) × Int × (List Int) × (List Int) × (List Int) × (List (Nat → Int))) ⊕ ((Int × Int × Int × Int × Bool × Int × (Nat → Int) × Int × (List Int) × (List Int) × (List Int) × (List (Nat → Int))) ⊕ (Int × Int × Int × Int × Bool × Int × (Nat → Int) × Int × (List Int) × (List Int) × (List Int) × (List (Nat → Int))))) : Prop :=
  if i6 < (acts0.length : Int) then
    if 0 ≤ (acts0[i6.toNat]!) 0 ∧ (acts0[i6.toNat]!) 0 ≤ 5 then
      ∃ rn18 : (Int × Int × Int × Int × Bool × Int × (Nat → Int) × Int × (List Int) × (List Int) × (List Int) × (List (Nat → Int))) × (List (Nat → Int)) × Int, rn18 = (act17_F fb3 fb3_1 fb3_2 fb3_3 fb3_4 fb3_5 fb3_6 fb3_8 fb3_9 fb3_10 fb3_11 fb3_12 (acts0[i6.toNat]!)) ∧ (
      (
        (0 ≤ i6 ∧ i6 < acts0.length) ∧ (
        (act17_P fb3 fb3_1 fb3_2 fb3_3 fb3_4 fb3_5 fb3_6 fb3_8 fb3_9 fb3_10 fb3_11 fb3_12 (acts0[i6.toNat]!)) ∧ (
        True))) ∧ (
      (0 ≤ i6 ∧ i6 < acts0.length) ∧ (
      if ((decide (acts0[i6.toNat]! 0 = 2)) && (decide (rn18.2.2 = 0))) = true then
        if (fb3_4) = true then
          o = (.inr (.inr (fb3, fb3_1, fb3_2, fb3_3, fb3_4, fb3_5, fb3_6, fb3_8, fb3_9, fb3_10, fb3_11, fb3_12)))
        else
          if (((tdecided_F fb3 fb3_1 fb3_2 fb3_3 fb3_4 fb3_5 fb3_6 fb3_8 fb3_9 fb3_10 fb3_11 fb3_12)) && ((!(decide (rn18.1.2.1 = fb3_1))) || (!(decide (rn18.1.2.2.1 = fb3_2))))) = true then
            o = (.inr (.inr (fb3, fb3_1, fb3_2, fb3_3, fb3_4, fb3_5, fb3_6, fb3_8, fb3_9, fb3_10, fb3_11, fb3_12)))
          else
            if ((decide (rn18.1.2.1 = 3)) && ((!(decide ((rn18.1.2.2.2.2.2.2.2.2.2.1.length : Int) = (rn18.1.2.2.2.2.2.2.2.2.1.length : Int)))) || (rn18.1.2.2.2.2.1))) = true then
              o = (.inr (.inr (fb3, fb3_1, fb3_2, fb3_3, fb3_4, fb3_5, fb3_6, fb3_8, fb3_9, fb3_10, fb3_11, fb3_12)))
            else
              if ((!(((decide (rn18.1.2.1 = 4)) == (decide (0 < rn18.1.2.2.1))))) || ((!(decide (rn18.2.2 = 0))) && (!(decide (rn18.1.2.1 = fb3_1))))) = true then
                o = (.inr (.inr (fb3, fb3_1, fb3_2, fb3_3, fb3_4, fb3_5, fb3_6, fb3_8, fb3_9, fb3_10, fb3_11, fb3_12)))
              else
                (inI64 (i6 + 1)) ∧ (
                o = (.inl (true, i6 + 1, rn18.1.1, rn18.1.2.1, rn18.1.2.2.1, rn18.1.2.2.2.1, rn18.1.2.2.2.2.1, rn18.1.2.2.2.2.2.1, rn18.1.2.2.2.2.2.2.1, rn18.1.2.2.2.2.2.2.2.1, rn18.1.2.2.2.2.2.2.2.2.1, rn18.1.2.2.2.2.2.2.2.2.2.1, rn18.1.2.2.2.2.2.2.2.2.2.2.1, rn18.1.2.2.2.2.2.2.2.2.2.2.2)))
      else
        if (((tdecided_F fb3 fb3_1 fb3_2 fb3_3 fb3_4 fb3_5 fb3_6 fb3_8 fb3_9 fb3_10 fb3_11 fb3_12)) && ((!(decide (rn18.1.2.1 = fb3_1))) || (!(decide (rn18.1.2.2.1 = fb3_2))))) = true then
          o = (.inr (.inr (fb3, fb3_1, fb3_2, fb3_3, fb3_4, fb3_5, fb3_6, fb3_8, fb3_9, fb3_10, fb3_11, fb3_12)))
        else
          if ((decide (rn18.1.2.1 = 3)) && (((!(asked5)) || (!(decide ((rn18.1.2.2.2.2.2.2.2.2.2.1.length : Int) = (rn18.1.2.2.2.2.2.2.2.2.1.length : Int))))) || (rn18.1.2.2.2.2.1))) = true then
            o = (.inr (.inr (fb3, fb3_1, fb3_2, fb3_3, fb3_4, fb3_5, fb3_6, fb3_8, fb3_9, fb3_10, fb3_11, fb3_12)))
          else
            if ((!(((decide (rn18.1.2.1 = 4)) == (decide (0 < rn18.1.2.2.1))))) || ((!(decide (rn18.2.2 = 0))) && (!(decide (rn18.1.2.1 = fb3_1))))) = true then
              o = (.inr (.inr (fb3, fb3_1, fb3_2, fb3_3, fb3_4, fb3_5, fb3_6, fb3_8, fb3_9, fb3_10, fb3_11, fb3_12)))
            else
              (inI64 (i6 + 1)) ∧ (
              o = (.inl (asked5, i6 + 1, rn18.1.1, rn18.1.2.1, rn18.1.2.2.1, rn18.1.2.2.2.1, rn18.1.2.2.2.2.1, rn18.1.2.2.2.2.2.1, rn18.1.2.2.2.2.2.2.1, rn18.1.2.2.2.2.2.2.2.1, rn18.1.2.2.2.2.2.2.2.2.1, rn18.1.2.2.2.2.2.2.2.2.2.1, rn18.1.2.2.2.2.2.2.2.2.2.2.1, rn18.1.2.2.2.2.2.2.2.2.2.2.2))))))
    else
      (
        (0 ≤ i6 ∧ i6 < acts0.length) ∧ (
        (¬ ((acts0[i6.toNat]!) 0 = 0)) ∧ (
        (¬ ((acts0[i6.toNat]!) 0 = 1)) ∧ (
        (¬ ((acts0[i6.toNat]!) 0 = 2)) ∧ (
        (¬ ((acts0[i6.toNat]!) 0 = 3)) ∧ (
        (¬ ((acts0[i6.toNat]!) 0 = 4)) ∧ (
        (¬ ((acts0[i6.toNat]!) 0 = 5)) ∧ (
        True)))))))) ∧ (
      (0 ≤ i6 ∧ i6 < acts0.length) ∧ (
      if ((decide (acts0[i6.toNat]! 0 = 2)) && (decide ((code_F 0) = 0))) = true then
        if (fb3_4) = true then
          o = (.inr (.inr (fb3, fb3_1, fb3_2, fb3_3, fb3_4, fb3_5, fb3_6, fb3_8, fb3_9, fb3_10, fb3_11, fb3_12)))
        else
          if (((tdecided_F fb3 fb3_1 fb3_2 fb3_3 fb3_4 fb3_5 fb3_6 fb3_8 fb3_9 fb3_10 fb3_11 fb3_12)) && ((!(decide (fb3_1 = fb3_1))) || (!(decide (fb3_2 = fb3_2))))) = true then
            o = (.inr (.inr (fb3, fb3_1, fb3_2, fb3_3, fb3_4, fb3_5, fb3_6, fb3_8, fb3_9, fb3_10, fb3_11, fb3_12)))
          else
            if ((decide (fb3_1 = 3)) && ((!(decide ((fb3_10.length : Int) = (fb3_9.length : Int)))) || (fb3_4))) = true then
              o = (.inr (.inr (fb3, fb3_1, fb3_2, fb3_3, fb3_4, fb3_5, fb3_6, fb3_8, fb3_9, fb3_10, fb3_11, fb3_12)))
            else
              if ((!(((decide (fb3_1 = 4)) == (decide (0 < fb3_2))))) || ((!(decide ((code_F 0) = 0))) && (!(decide (fb3_1 = fb3_1))))) = true then
                o = (.inr (.inr (fb3, fb3_1, fb3_2, fb3_3, fb3_4, fb3_5, fb3_6, fb3_8, fb3_9, fb3_10, fb3_11, fb3_12)))
              else
                (inI64 (i6 + 1)) ∧ (
                o = (.inl (true, i6 + 1, fb3, fb3_1, fb3_2, fb3_3, fb3_4, fb3_5, fb3_6, fb3_8, fb3_9, fb3_10, fb3_11, fb3_12)))
      else
        if (((tdecided_F fb3 fb3_1 fb3_2 fb3_3 fb3_4 fb3_5 fb3_6 fb3_8 fb3_9 fb3_10 fb3_11 fb3_12)) && ((!(decide (fb3_1 = fb3_1))) || (!(decide (fb3_2 = fb3_2))))) = true then
          o = (.inr (.inr (fb3, fb3_1, fb3_2, fb3_3, fb3_4, fb3_5, fb3_6, fb3_8, fb3_9, fb3_10, fb3_11, fb3_12)))
        else
          if ((decide (fb3_1 = 3)) && (((!(asked5)) || (!(decide ((fb3_10.length : Int) = (fb3_9.length : Int))))) || (fb3_4))) = true then
            o = (.inr (.inr (fb3, fb3_1, fb3_2, fb3_3, fb3_4, fb3_5, fb3_6, fb3_8, fb3_9, fb3_10, fb3_11, fb3_12)))
          else
            if ((!(((decide (fb3_1 = 4)) == (decide (0 < fb3_2))))) || ((!(decide ((code_F 0) = 0))) && (!(decide (fb3_1 = fb3_1))))) = true then
              o = (.inr (.inr (fb3, fb3_1, fb3_2, fb3_3, fb3_4, fb3_5, fb3_6, fb3_8, fb3_9, fb3_10, fb3_11, fb3_12)))
            else
              (inI64 (i6 + 1)) ∧ (
              o = (.inl (asked5, i6 + 1, fb3, fb3_1, fb3_2, fb3_3, fb3_4, fb3_5, fb3_6, fb3_8, fb3_9, fb3_10, fb3_11, fb3_12)))))
  else
    o = (.inr (.inl (fb3, fb3_1, fb3_2, fb3_3, fb3_4, fb3_5, fb3_6, fb3_8, fb3_9, fb3_10, fb3_11, fb3_12)))

def once17_k1a (fb3 : Int) (fb3_1 : Int) (fb3_2 : Int) (fb3_3 : Int) (fb3_4 : Bool) (fb3_5 : Int) (fb3_6 : (Nat → Int)) (fb3_8 : Int) (fb3_9 : (List Int)) (fb3_10 : (List Int)) (fb3_11 : (List Int)) (fb3_12 : (List (Nat → Int))) (r : Bool) : Prop :=
  r = (true)

def once17_k1b (fb3 : Int) (fb3_1 : Int) (fb3_2 : Int) (fb3_3 : Int) (fb3_4 : Bool) (fb3_5 : Int) (fb3_6 : (Nat → Int)) (fb3_8 : Int) (fb3_9 : (List Int)) (fb3_10 : (List Int)) (fb3_11 : (List Int)) (fb3_12 : (List (Nat → Int))) (r : Bool) : Prop :=
  r = (false)

def once17_S (acts0 : (List (Nat → Int))) (r : Bool) : Prop :=
  if (alive17_F) = true then
    if 100 < (acts0.length : Int) then
      r = (true)
    else
      if (tnew_F 5).2 = 0 then
        ∃ x : (Int × Int × Int × Int × Bool × Int × (Nat → Int) × Int × (List Int) × (List Int) × (List Int) × (List (Nat → Int))) ⊕ (Int × Int × Int × Int × Bool × Int × (Nat → Int) × Int × (List Int) × (List Int) × (List Int) × (List (Nat → Int))), Wh (fun (s : Bool × Int × Int × Int × Int × Int × Bool × Int × (Nat → Int) × Int × (List Int) × (List Int) × (List Int) × (List (Nat → Int))) (o : (Bool × Int × Int × Int × Int × Int × Bool × Int × (Nat → Int) × Int × (List Int) × (List Int) × (List Int) × (List (Nat → Int))) ⊕ ((Int × Int × Int × Int × Bool × Int × (Nat → Int) × Int × (List Int) × (List Int) × (List Int) × (List (Nat → Int))) ⊕ (Int × Int × Int × Int × Bool × Int × (Nat → Int) × Int × (List Int) × (List Int) × (List Int) × (List (Nat → Int))))) => once17_l1 acts0 s.1 s.2.1 s.2.2.1 s.2.2.2.1 s.2.2.2.2.1 s.2.2.2.2.2.1 s.2.2.2.2.2.2.1 s.2.2.2.2.2.2.2.1 s.2.2.2.2.2.2.2.2.1 s.2.2.2.2.2.2.2.2.2.1 s.2.2.2.2.2.2.2.2.2.2.1 s.2.2.2.2.2.2.2.2.2.2.2.1 s.2.2.2.2.2.2.2.2.2.2.2.2.1 s.2.2.2.2.2.2.2.2.2.2.2.2.2 o) ((false, 0, ((tnew_F 5).1).1, ((tnew_F 5).1).2.1, ((tnew_F 5).1).2.2.1, ((tnew_F 5).1).2.2.2.1, ((tnew_F 5).1).2.2.2.2.1, ((tnew_F 5).1).2.2.2.2.2.1, ((tnew_F 5).1).2.2.2.2.2.2.1, ((tnew_F 5).1).2.2.2.2.2.2.2.1, ((tnew_F 5).1).2.2.2.2.2.2.2.2.1, ((tnew_F 5).1).2.2.2.2.2.2.2.2.2.1, ((tnew_F 5).1).2.2.2.2.2.2.2.2.2.2.1, ((tnew_F 5).1).2.2.2.2.2.2.2.2.2.2.2) : Bool × Int × Int × Int × Int × Int × Bool × Int × (Nat → Int) × Int × (List Int) × (List Int) × (List Int) × (List (Nat → Int))) x ∧ (match x with | .inl (fb3, fb3_1, fb3_2, fb3_3, fb3_4, fb3_5, fb3_6, fb3_8, fb3_9, fb3_10, fb3_11, fb3_12) => once17_k1a fb3 fb3_1 fb3_2 fb3_3 fb3_4 fb3_5 fb3_6 fb3_8 fb3_9 fb3_10 fb3_11 fb3_12 r | .inr (fb3, fb3_1, fb3_2, fb3_3, fb3_4, fb3_5, fb3_6, fb3_8, fb3_9, fb3_10, fb3_11, fb3_12) => once17_k1b fb3 fb3_1 fb3_2 fb3_3 fb3_4 fb3_5 fb3_6 fb3_8 fb3_9 fb3_10 fb3_11 fb3_12 r)
      else
        r = (false)
  else
    r = (false)

end Go.E
