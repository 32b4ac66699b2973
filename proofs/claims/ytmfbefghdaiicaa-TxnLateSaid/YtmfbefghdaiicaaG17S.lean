/- What functions of the program say, as relations. -/
import Derived.Test.YtmfbefghdaiicaaD17bS
set_option maxHeartbeats 1000000
set_option linter.unusedVariables false
set_option linter.unusedSimpArgs false
set_option maxRecDepth 100000
namespace Go.E
open Go

def late17_l1 (acts0 : (List (Nat → Int))) (i7 : Int) (fb5 : Int) (fb5_1 : Int) (fb5_2 : Int) (fb5_3 : Int) (fb5_4 : Bool) (fb5_5 : Int) (fb5_6 : (Nat → Int)) (fb5_8 : Int) (fb5_9 : (List Int)) (fb5_10 : (List Int)) (fb5_11 : (List Int)) (fb5_12 : (List (Nat → Int))) (o : (Int × Int × Int × Int × Int × Bool × Int × (Nat → Int) × Int × (List Int) × (List Int) × (List Int) × (List (Nat → Int))) ⊕ (Int × Int × Int × Int × Bool × Int × (Nat → Int) × Int × (List Int) × (List Int) × (List Int) × (List (Nat → Int)))) : Prop :=
  if i7 < (acts0.length : Int) then
    if 0 ≤ (acts0[i7.toNat]!) 0 ∧ (acts0[i7.toNat]!) 0 ≤ 5 then
      (0 ≤ i7 ∧ i7 < acts0.length) ∧ (
      (act17_P fb5 fb5_1 fb5_2 fb5_3 fb5_4 fb5_5 fb5_6 fb5_8 fb5_9 fb5_10 fb5_11 fb5_12 (acts0[i7.toNat]!)) ∧ (
      ∃ rn12 : (Int × Int × Int × Int × Bool × Int × (Nat → Int) × Int × (List Int) × (List Int) × (List Int) × (List (Nat → Int))) × (List (Nat → Int)) × Int, rn12 = (act17_F fb5 fb5_1 fb5_2 fb5_3 fb5_4 fb5_5 fb5_6 fb5_8 fb5_9 fb5_10 fb5_11 fb5_12 (acts0[i7.toNat]!)) ∧ (
      (inI64 (i7 + 1)) ∧ (
      o = (.inl (i7 + 1, rn12.1.1, rn12.1.2.1, rn12.1.2.2.1, rn12.1.2.2.2.1, rn12.1.2.2.2.2.1, rn12.1.2.2.2.2.2.1, rn12.1.2.2.2.2.2.2.1, rn12.1.2.2.2.2.2.2.2.1, rn12.1.2.2.2.2.2.2.2.2.1, rn12.1.2.2.2.2.2.2.2.2.2.1, rn12.1.2.2.2.2.2.2.2.2.2.2.1, rn12.1.2.2.2.2.2.2.2.2.2.2.2))))))
    else
      (0 ≤ i7 ∧ i7 < acts0.length) ∧ (
      (¬ ((acts0[i7.toNat]!) 0 = 0)) ∧ (
      (¬ ((acts0[i7.toNat]!) 0 = 1)) ∧ (
      (¬ ((acts0[i7.toNat]!) 0 = 2)) ∧ (
      (¬ ((acts0[i7.toNat]!) 0 = 3)) ∧ (
      (¬ ((acts0[i7.toNat]!) 0 = 4)) ∧ (
      (¬ ((acts0[i7.toNat]!) 0 = 5)) ∧ (
      (inI64 (i7 + 1)) ∧ (
      o = (.inl (i7 + 1, fb5, fb5_1, fb5_2, fb5_3, fb5_4, fb5_5, fb5_6, fb5_8, fb5_9, fb5_10, fb5_11, fb5_12))))))))))
  else
    o = (.inr (fb5, fb5_1, fb5_2, fb5_3, fb5_4, fb5_5, fb5_6, fb5_8, fb5_9, fb5_10, fb5_11, fb5_12))

def late17_k1a (a1 : (Nat → Int)) (fb5 : Int) (fb5_1 : Int) (fb5_2 : Int) (fb5_3 : Int) (fb5_4 : Bool) (fb5_5 : Int) (fb5_6 : (Nat → Int)) (fb5_8 : Int) (fb5_9 : (List Int)) (fb5_10 : (List Int)) (fb5_11 : (List Int)) (fb5_12 : (List (Nat → Int))) (r : Bool) : Prop :=
  if 0 ≤ a1 0 ∧ a1 0 ≤ 5 then
    (act17_P fb5 fb5_1 fb5_2 fb5_3 fb5_4 fb5_5 fb5_6 fb5_8 fb5_9 fb5_10 fb5_11 fb5_12 a1) ∧ (
    ∃ rn29 : (Int × Int × Int × Int × Bool × Int × (Nat → Int) × Int × (List Int) × (List Int) × (List Int) × (List (Nat → Int))) × (List (Nat → Int)) × Int, rn29 = (act17_F fb5 fb5_1 fb5_2 fb5_3 fb5_4 fb5_5 fb5_6 fb5_8 fb5_9 fb5_10 fb5_11 fb5_12 a1) ∧ (
    if ((tdecided_F fb5 fb5_1 fb5_2 fb5_3 fb5_4 fb5_5 fb5_6 fb5_8 fb5_9 fb5_10 fb5_11 fb5_12)) = true then
      if a1 0 = 5 then
        (act17_P rn29.1.1 rn29.1.2.1 rn29.1.2.2.1 rn29.1.2.2.2.1 rn29.1.2.2.2.2.1 rn29.1.2.2.2.2.2.1 rn29.1.2.2.2.2.2.2.1 rn29.1.2.2.2.2.2.2.2.1 rn29.1.2.2.2.2.2.2.2.2.1 rn29.1.2.2.2.2.2.2.2.2.2.1 rn29.1.2.2.2.2.2.2.2.2.2.2.1 rn29.1.2.2.2.2.2.2.2.2.2.2.2 a1) ∧ (
        ∃ rn53 : (Int × Int × Int × Int × Bool × Int × (Nat → Int) × Int × (List Int) × (List Int) × (List Int) × (List (Nat → Int))) × (List (Nat → Int)) × Int, rn53 = (act17_F rn29.1.1 rn29.1.2.1 rn29.1.2.2.1 rn29.1.2.2.2.1 rn29.1.2.2.2.2.1 rn29.1.2.2.2.2.2.1 rn29.1.2.2.2.2.2.2.1 rn29.1.2.2.2.2.2.2.2.1 rn29.1.2.2.2.2.2.2.2.2.1 rn29.1.2.2.2.2.2.2.2.2.2.1 rn29.1.2.2.2.2.2.2.2.2.2.2.1 rn29.1.2.2.2.2.2.2.2.2.2.2.2 a1) ∧ (
        (same17_P rn53.1.1 rn53.1.2.1 rn53.1.2.2.1 rn53.1.2.2.2.1 rn53.1.2.2.2.2.1 rn53.1.2.2.2.2.2.1 rn53.1.2.2.2.2.2.2.1 rn53.1.2.2.2.2.2.2.2.1 rn53.1.2.2.2.2.2.2.2.2.1 rn53.1.2.2.2.2.2.2.2.2.2.1 rn53.1.2.2.2.2.2.2.2.2.2.2.1 rn53.1.2.2.2.2.2.2.2.2.2.2.2 rn29.1.1 rn29.1.2.1 rn29.1.2.2.1 rn29.1.2.2.2.1 rn29.1.2.2.2.2.1 rn29.1.2.2.2.2.2.1 rn29.1.2.2.2.2.2.2.1 rn29.1.2.2.2.2.2.2.2.1 rn29.1.2.2.2.2.2.2.2.2.1 rn29.1.2.2.2.2.2.2.2.2.2.1 rn29.1.2.2.2.2.2.2.2.2.2.2.1 rn29.1.2.2.2.2.2.2.2.2.2.2.2) ∧ (
        if ((same17_F rn53.1.1 rn53.1.2.1 rn53.1.2.2.1 rn53.1.2.2.2.1 rn53.1.2.2.2.2.1 rn53.1.2.2.2.2.2.1 rn53.1.2.2.2.2.2.2.1 rn53.1.2.2.2.2.2.2.2.1 rn53.1.2.2.2.2.2.2.2.2.1 rn53.1.2.2.2.2.2.2.2.2.2.1 rn53.1.2.2.2.2.2.2.2.2.2.2.1 rn53.1.2.2.2.2.2.2.2.2.2.2.2 rn29.1.1 rn29.1.2.1 rn29.1.2.2.1 rn29.1.2.2.2.1 rn29.1.2.2.2.2.1 rn29.1.2.2.2.2.2.1 rn29.1.2.2.2.2.2.2.1 rn29.1.2.2.2.2.2.2.2.1 rn29.1.2.2.2.2.2.2.2.2.1 rn29.1.2.2.2.2.2.2.2.2.2.1 rn29.1.2.2.2.2.2.2.2.2.2.2.1 rn29.1.2.2.2.2.2.2.2.2.2.2.2)) = true then
          r = (decide ((rn53.2.1.length : Int) = 0))
        else
          r = (false))))
      else
        (same17_P rn29.1.1 rn29.1.2.1 rn29.1.2.2.1 rn29.1.2.2.2.1 rn29.1.2.2.2.2.1 rn29.1.2.2.2.2.2.1 rn29.1.2.2.2.2.2.2.1 rn29.1.2.2.2.2.2.2.2.1 rn29.1.2.2.2.2.2.2.2.2.1 rn29.1.2.2.2.2.2.2.2.2.2.1 rn29.1.2.2.2.2.2.2.2.2.2.2.1 rn29.1.2.2.2.2.2.2.2.2.2.2.2 fb5 fb5_1 fb5_2 fb5_3 fb5_4 fb5_5 fb5_6 fb5_8 fb5_9 fb5_10 fb5_11 fb5_12) ∧ (
        if ((same17_F rn29.1.1 rn29.1.2.1 rn29.1.2.2.1 rn29.1.2.2.2.1 rn29.1.2.2.2.2.1 rn29.1.2.2.2.2.2.1 rn29.1.2.2.2.2.2.2.1 rn29.1.2.2.2.2.2.2.2.1 rn29.1.2.2.2.2.2.2.2.2.1 rn29.1.2.2.2.2.2.2.2.2.2.1 rn29.1.2.2.2.2.2.2.2.2.2.2.1 rn29.1.2.2.2.2.2.2.2.2.2.2.2 fb5 fb5_1 fb5_2 fb5_3 fb5_4 fb5_5 fb5_6 fb5_8 fb5_9 fb5_10 fb5_11 fb5_12)) = true then
          if (rn29.2.1.length : Int) = 0 then
            (act17_P rn29.1.1 rn29.1.2.1 rn29.1.2.2.1 rn29.1.2.2.2.1 rn29.1.2.2.2.2.1 rn29.1.2.2.2.2.2.1 rn29.1.2.2.2.2.2.2.1 rn29.1.2.2.2.2.2.2.2.1 rn29.1.2.2.2.2.2.2.2.2.1 rn29.1.2.2.2.2.2.2.2.2.2.1 rn29.1.2.2.2.2.2.2.2.2.2.2.1 rn29.1.2.2.2.2.2.2.2.2.2.2.2 a1) ∧ (
            ∃ rn42 : (Int × Int × Int × Int × Bool × Int × (Nat → Int) × Int × (List Int) × (List Int) × (List Int) × (List (Nat → Int))) × (List (Nat → Int)) × Int, rn42 = (act17_F rn29.1.1 rn29.1.2.1 rn29.1.2.2.1 rn29.1.2.2.2.1 rn29.1.2.2.2.2.1 rn29.1.2.2.2.2.2.1 rn29.1.2.2.2.2.2.2.1 rn29.1.2.2.2.2.2.2.2.1 rn29.1.2.2.2.2.2.2.2.2.1 rn29.1.2.2.2.2.2.2.2.2.2.1 rn29.1.2.2.2.2.2.2.2.2.2.2.1 rn29.1.2.2.2.2.2.2.2.2.2.2.2 a1) ∧ (
            if a1 0 = 0 then
              r = (true)
            else
              (same17_P rn42.1.1 rn42.1.2.1 rn42.1.2.2.1 rn42.1.2.2.2.1 rn42.1.2.2.2.2.1 rn42.1.2.2.2.2.2.1 rn42.1.2.2.2.2.2.2.1 rn42.1.2.2.2.2.2.2.2.1 rn42.1.2.2.2.2.2.2.2.2.1 rn42.1.2.2.2.2.2.2.2.2.2.1 rn42.1.2.2.2.2.2.2.2.2.2.2.1 rn42.1.2.2.2.2.2.2.2.2.2.2.2 rn29.1.1 rn29.1.2.1 rn29.1.2.2.1 rn29.1.2.2.2.1 rn29.1.2.2.2.2.1 rn29.1.2.2.2.2.2.1 rn29.1.2.2.2.2.2.2.1 rn29.1.2.2.2.2.2.2.2.1 rn29.1.2.2.2.2.2.2.2.2.1 rn29.1.2.2.2.2.2.2.2.2.2.1 rn29.1.2.2.2.2.2.2.2.2.2.2.1 rn29.1.2.2.2.2.2.2.2.2.2.2.2) ∧ (
              if ((same17_F rn42.1.1 rn42.1.2.1 rn42.1.2.2.1 rn42.1.2.2.2.1 rn42.1.2.2.2.2.1 rn42.1.2.2.2.2.2.1 rn42.1.2.2.2.2.2.2.1 rn42.1.2.2.2.2.2.2.2.1 rn42.1.2.2.2.2.2.2.2.2.1 rn42.1.2.2.2.2.2.2.2.2.2.1 rn42.1.2.2.2.2.2.2.2.2.2.2.1 rn42.1.2.2.2.2.2.2.2.2.2.2.2 rn29.1.1 rn29.1.2.1 rn29.1.2.2.1 rn29.1.2.2.2.1 rn29.1.2.2.2.2.1 rn29.1.2.2.2.2.2.1 rn29.1.2.2.2.2.2.2.1 rn29.1.2.2.2.2.2.2.2.1 rn29.1.2.2.2.2.2.2.2.2.1 rn29.1.2.2.2.2.2.2.2.2.2.1 rn29.1.2.2.2.2.2.2.2.2.2.2.1 rn29.1.2.2.2.2.2.2.2.2.2.2.2)) = true then
                r = (decide ((rn42.2.1.length : Int) = 0))
              else
                r = (false))))
          else
            r = (false)
        else
          r = (false))
    else
      (act17_P rn29.1.1 rn29.1.2.1 rn29.1.2.2.1 rn29.1.2.2.2.1 rn29.1.2.2.2.2.1 rn29.1.2.2.2.2.2.1 rn29.1.2.2.2.2.2.2.1 rn29.1.2.2.2.2.2.2.2.1 rn29.1.2.2.2.2.2.2.2.2.1 rn29.1.2.2.2.2.2.2.2.2.2.1 rn29.1.2.2.2.2.2.2.2.2.2.2.1 rn29.1.2.2.2.2.2.2.2.2.2.2.2 a1) ∧ (
      ∃ rn64 : (Int × Int × Int × Int × Bool × Int × (Nat → Int) × Int × (List Int) × (List Int) × (List Int) × (List (Nat → Int))) × (List (Nat → Int)) × Int, rn64 = (act17_F rn29.1.1 rn29.1.2.1 rn29.1.2.2.1 rn29.1.2.2.2.1 rn29.1.2.2.2.2.1 rn29.1.2.2.2.2.2.1 rn29.1.2.2.2.2.2.2.1 rn29.1.2.2.2.2.2.2.2.1 rn29.1.2.2.2.2.2.2.2.2.1 rn29.1.2.2.2.2.2.2.2.2.2.1 rn29.1.2.2.2.2.2.2.2.2.2.2.1 rn29.1.2.2.2.2.2.2.2.2.2.2.2 a1) ∧ (
      if a1 0 = 0 then
        r = (true)
      else
        (same17_P rn64.1.1 rn64.1.2.1 rn64.1.2.2.1 rn64.1.2.2.2.1 rn64.1.2.2.2.2.1 rn64.1.2.2.2.2.2.1 rn64.1.2.2.2.2.2.2.1 rn64.1.2.2.2.2.2.2.2.1 rn64.1.2.2.2.2.2.2.2.2.1 rn64.1.2.2.2.2.2.2.2.2.2.1 rn64.1.2.2.2.2.2.2.2.2.2.2.1 rn64.1.2.2.2.2.2.2.2.2.2.2.2 rn29.1.1 rn29.1.2.1 rn29.1.2.2.1 rn29.1.2.2.2.1 rn29.1.2.2.2.2.1 rn29.1.2.2.2.2.2.1 rn29.1.2.2.2.2.2.2.1 rn29.1.2.2.2.2.2.2.2.1 rn29.1.2.2.2.2.2.2.2.2.1 rn29.1.2.2.2.2.2.2.2.2.2.1 rn29.1.2.2.2.2.2.2.2.2.2.2.1 rn29.1.2.2.2.2.2.2.2.2.2.2.2) ∧ (
        if ((same17_F rn64.1.1 rn64.1.2.1 rn64.1.2.2.1 rn64.1.2.2.2.1 rn64.1.2.2.2.2.1 rn64.1.2.2.2.2.2.1 rn64.1.2.2.2.2.2.2.1 rn64.1.2.2.2.2.2.2.2.1 rn64.1.2.2.2.2.2.2.2.2.1 rn64.1.2.2.2.2.2.2.2.2.2.1 rn64.1.2.2.2.2.2.2.2.2.2.2.1 rn64.1.2.2.2.2.2.2.2.2.2.2.2 rn29.1.1 rn29.1.2.1 rn29.1.2.2.1 rn29.1.2.2.2.1 rn29.1.2.2.2.2.1 rn29.1.2.2.2.2.2.1 rn29.1.2.2.2.2.2.2.1 rn29.1.2.2.2.2.2.2.2.1 rn29.1.2.2.2.2.2.2.2.2.1 rn29.1.2.2.2.2.2.2.2.2.2.1 rn29.1.2.2.2.2.2.2.2.2.2.2.1 rn29.1.2.2.2.2.2.2.2.2.2.2.2)) = true then
          r = (decide ((rn64.2.1.length : Int) = 0))
        else
          r = (false))))))
  else
    (¬ (a1 0 = 0)) ∧ (
    (¬ (a1 0 = 1)) ∧ (
    (¬ (a1 0 = 2)) ∧ (
    (¬ (a1 0 = 3)) ∧ (
    (¬ (a1 0 = 4)) ∧ (
    (¬ (a1 0 = 5)) ∧ (
    if ((tdecided_F fb5 fb5_1 fb5_2 fb5_3 fb5_4 fb5_5 fb5_6 fb5_8 fb5_9 fb5_10 fb5_11 fb5_12)) = true then
      (same17_P fb5 fb5_1 fb5_2 fb5_3 fb5_4 fb5_5 fb5_6 fb5_8 fb5_9 fb5_10 fb5_11 fb5_12 fb5 fb5_1 fb5_2 fb5_3 fb5_4 fb5_5 fb5_6 fb5_8 fb5_9 fb5_10 fb5_11 fb5_12) ∧ (
      if ((same17_F fb5 fb5_1 fb5_2 fb5_3 fb5_4 fb5_5 fb5_6 fb5_8 fb5_9 fb5_10 fb5_11 fb5_12 fb5 fb5_1 fb5_2 fb5_3 fb5_4 fb5_5 fb5_6 fb5_8 fb5_9 fb5_10 fb5_11 fb5_12)) = true then
        (same17_P fb5 fb5_1 fb5_2 fb5_3 fb5_4 fb5_5 fb5_6 fb5_8 fb5_9 fb5_10 fb5_11 fb5_12 fb5 fb5_1 fb5_2 fb5_3 fb5_4 fb5_5 fb5_6 fb5_8 fb5_9 fb5_10 fb5_11 fb5_12) ∧ (
        r = (true))
      else
        r = (false))
    else
      (same17_P fb5 fb5_1 fb5_2 fb5_3 fb5_4 fb5_5 fb5_6 fb5_8 fb5_9 fb5_10 fb5_11 fb5_12 fb5 fb5_1 fb5_2 fb5_3 fb5_4 fb5_5 fb5_6 fb5_8 fb5_9 fb5_10 fb5_11 fb5_12) ∧ (
      if ((same17_F fb5 fb5_1 fb5_2 fb5_3 fb5_4 fb5_5 fb5_6 fb5_8 fb5_9 fb5_10 fb5_11 fb5_12 fb5 fb5_1 fb5_2 fb5_3 fb5_4 fb5_5 fb5_6 fb5_8 fb5_9 fb5_10 fb5_11 fb5_12)) = true then
        r = (true)
      else
        r = (false))))))))

def late17_S (acts0 : (List (Nat → Int))) (a1 : (Nat → Int)) (r : Bool) : Prop :=
  if (alive17_F) = true then
    if 60 < (acts0.length : Int) then
      r = (true)
    else
      if (tnew_F 5).2 = 0 then
        ∃ x : Int × Int × Int × Int × Bool × Int × (Nat → Int) × Int × (List Int) × (List Int) × (List Int) × (List (Nat → Int)), Wh (fun (s : Int × Int × Int × Int × Int × Bool × Int × (Nat → Int) × Int × (List Int) × (List Int) × (List Int) × (List (Nat → Int))) (o : (Int × Int × Int × Int × Int × Bool × Int × (Nat → Int) × Int × (List Int) × (List Int) × (List Int) × (List (Nat → Int))) ⊕ (Int × Int × Int × Int × Bool × Int × (Nat → Int) × Int × (List Int) × (List Int) × (List Int) × (List (Nat → Int)))) => late17_l1 acts0 s.1 s.2.1 s.2.2.1 s.2.2.2.1 s.2.2.2.2.1 s.2.2.2.2.2.1 s.2.2.2.2.2.2.1 s.2.2.2.2.2.2.2.1 s.2.2.2.2.2.2.2.2.1 s.2.2.2.2.2.2.2.2.2.1 s.2.2.2.2.2.2.2.2.2.2.1 s.2.2.2.2.2.2.2.2.2.2.2.1 s.2.2.2.2.2.2.2.2.2.2.2.2 o) ((0, ((tnew_F 5).1).1, ((tnew_F 5).1).2.1, ((tnew_F 5).1).2.2.1, ((tnew_F 5).1).2.2.2.1, ((tnew_F 5).1).2.2.2.2.1, ((tnew_F 5).1).2.2.2.2.2.1, ((tnew_F 5).1).2.2.2.2.2.2.1, ((tnew_F 5).1).2.2.2.2.2.2.2.1, ((tnew_F 5).1).2.2.2.2.2.2.2.2.1, ((tnew_F 5).1).2.2.2.2.2.2.2.2.2.1, ((tnew_F 5).1).2.2.2.2.2.2.2.2.2.2.1, ((tnew_F 5).1).2.2.2.2.2.2.2.2.2.2.2) : Int × Int × Int × Int × Int × Bool × Int × (Nat → Int) × Int × (List Int) × (List Int) × (List Int) × (List (Nat → Int))) x ∧ late17_k1a a1 x.1 x.2.1 x.2.2.1 x.2.2.2.1 x.2.2.2.2.1 x.2.2.2.2.2.1 x.2.2.2.2.2.2.1 x.2.2.2.2.2.2.2.1 x.2.2.2.2.2.2.2.2.1 x.2.2.2.2.2.2.2.2.2.1 x.2.2.2.2.2.2.2.2.2.2.1 x.2.2.2.2.2.2.2.2.2.2.2 r
      else
        r = (false)
  else
    r = (false)

end Go.E
