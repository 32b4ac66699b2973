/- What functions of the program say, as relations. -/
import Derived.Test.YteomcjiiiilhmaaC16S
set_option maxHeartbeats 1000000
set_option linter.unusedVariables false
set_option linter.unusedSimpArgs false
set_option maxRecDepth 100000
namespace Go.E
open Go

def acts16_l1 (acts1 : (List (Nat → Int))) (now2 : Int) (span3 : Int) (v13 : (List (Nat → Int))) (i14 : Int) (fb13 : (Nat → Int)) (o : ((List (Nat → Int)) × Int × (Nat → Int)) ⊕ (((List (Nat → Int)) × (Nat → Int)) ⊕ ((Nat → Int)))) : Prop :=
  if i14 < (acts1.length : Int) then
    (0 ≤ i14 ∧ i14 < acts1.length) ∧ (
    if (acts1[i14.toNat]!) 0 = 0 then
      if ((decide ((acts1[i14.toNat]!) 1 < 1)) || (decide ((v13.length : Int) < (acts1[i14.toNat]!) 1))) = true then
        (act16_P fb13 (acts1[i14.toNat]!)) ∧ (
        if (act16_F fb13 (acts1[i14.toNat]!)).1 = 10 then
          (clost_P ((act16_F fb13 (acts1[i14.toNat]!)).2) now2 span3) ∧ (
          (lostR_P v13 now2 span3) ∧ (
          (ints_P (clost_F ((act16_F fb13 (acts1[i14.toNat]!)).2) now2 span3) (lostR_F v13 now2 span3)) ∧ (
          if ((ints_F (clost_F ((act16_F fb13 (acts1[i14.toNat]!)).2) now2 span3) (lostR_F v13 now2 span3))) = true then
            (inI64 (i14 + 1)) ∧ (
            o = (.inl (v13, i14 + 1, (act16_F fb13 (acts1[i14.toNat]!)).2)))
          else
            o = (.inr (.inr ((act16_F fb13 (acts1[i14.toNat]!)).2))))))
        else
          o = (.inr (.inr ((act16_F fb13 (acts1[i14.toNat]!)).2))))
      else
        if ((decide ((acts1[i14.toNat]!) 2 < 1)) || (decide (1048576 < (acts1[i14.toNat]!) 2))) = true then
          (act16_P fb13 (acts1[i14.toNat]!)) ∧ (
          if (act16_F fb13 (acts1[i14.toNat]!)).1 = 1 then
            (clost_P ((act16_F fb13 (acts1[i14.toNat]!)).2) now2 span3) ∧ (
            (lostR_P v13 now2 span3) ∧ (
            (ints_P (clost_F ((act16_F fb13 (acts1[i14.toNat]!)).2) now2 span3) (lostR_F v13 now2 span3)) ∧ (
            if ((ints_F (clost_F ((act16_F fb13 (acts1[i14.toNat]!)).2) now2 span3) (lostR_F v13 now2 span3))) = true then
              (inI64 (i14 + 1)) ∧ (
              o = (.inl (v13, i14 + 1, (act16_F fb13 (acts1[i14.toNat]!)).2)))
            else
              o = (.inr (.inr ((act16_F fb13 (acts1[i14.toNat]!)).2))))))
          else
            o = (.inr (.inr ((act16_F fb13 (acts1[i14.toNat]!)).2))))
        else
          (inI64 (((acts1[i14.toNat]!) 1) - 1)) ∧ (
          (0 ≤ ((acts1[i14.toNat]!) 1) - 1 ∧ ((acts1[i14.toNat]!) 1) - 1 < v13.length) ∧ (
          if ((nz ((v13[(((acts1[i14.toNat]!) 1) - 1).toNat]!) 1))) = true then
            (act16_P fb13 (acts1[i14.toNat]!)) ∧ (
            if (act16_F fb13 (acts1[i14.toNat]!)).1 = 11 then
              (clost_P ((act16_F fb13 (acts1[i14.toNat]!)).2) now2 span3) ∧ (
              (lostR_P v13 now2 span3) ∧ (
              (ints_P (clost_F ((act16_F fb13 (acts1[i14.toNat]!)).2) now2 span3) (lostR_F v13 now2 span3)) ∧ (
              if ((ints_F (clost_F ((act16_F fb13 (acts1[i14.toNat]!)).2) now2 span3) (lostR_F v13 now2 span3))) = true then
                (inI64 (i14 + 1)) ∧ (
                o = (.inl (v13, i14 + 1, (act16_F fb13 (acts1[i14.toNat]!)).2)))
              else
                o = (.inr (.inr ((act16_F fb13 (acts1[i14.toNat]!)).2))))))
            else
              o = (.inr (.inr ((act16_F fb13 (acts1[i14.toNat]!)).2))))
          else
            if 0 < (v13[(((acts1[i14.toNat]!) 1) - 1).toNat]!) 0 then
              (act16_P fb13 (acts1[i14.toNat]!)) ∧ (
              if (act16_F fb13 (acts1[i14.toNat]!)).1 = 8 then
                (clost_P ((act16_F fb13 (acts1[i14.toNat]!)).2) now2 span3) ∧ (
                (lostR_P v13 now2 span3) ∧ (
                (ints_P (clost_F ((act16_F fb13 (acts1[i14.toNat]!)).2) now2 span3) (lostR_F v13 now2 span3)) ∧ (
                if ((ints_F (clost_F ((act16_F fb13 (acts1[i14.toNat]!)).2) now2 span3) (lostR_F v13 now2 span3))) = true then
                  (inI64 (i14 + 1)) ∧ (
                  o = (.inl (v13, i14 + 1, (act16_F fb13 (acts1[i14.toNat]!)).2)))
                else
                  o = (.inr (.inr ((act16_F fb13 (acts1[i14.toNat]!)).2))))))
              else
                o = (.inr (.inr ((act16_F fb13 (acts1[i14.toNat]!)).2))))
            else
              (ofR_P v13 ((acts1[i14.toNat]!) 2)) ∧ (
              if 0 < (ofR_F v13 ((acts1[i14.toNat]!) 2)) then
                (act16_P fb13 (acts1[i14.toNat]!)) ∧ (
                if (act16_F fb13 (acts1[i14.toNat]!)).1 = 15 then
                  (clost_P ((act16_F fb13 (acts1[i14.toNat]!)).2) now2 span3) ∧ (
                  (lostR_P v13 now2 span3) ∧ (
                  (ints_P (clost_F ((act16_F fb13 (acts1[i14.toNat]!)).2) now2 span3) (lostR_F v13 now2 span3)) ∧ (
                  if ((ints_F (clost_F ((act16_F fb13 (acts1[i14.toNat]!)).2) now2 span3) (lostR_F v13 now2 span3))) = true then
                    (inI64 (i14 + 1)) ∧ (
                    o = (.inl (v13, i14 + 1, (act16_F fb13 (acts1[i14.toNat]!)).2)))
                  else
                    o = (.inr (.inr ((act16_F fb13 (acts1[i14.toNat]!)).2))))))
                else
                  o = (.inr (.inr ((act16_F fb13 (acts1[i14.toNat]!)).2))))
              else
                ((0 + v13.length) * 24 ≤ 140737488355328) ∧ (
                (inI64 (((acts1[i14.toNat]!) 1) - 1)) ∧ (
                (0 ≤ ((acts1[i14.toNat]!) 1) - 1 ∧ ((acts1[i14.toNat]!) 1) - 1 < ([] ++ v13).length) ∧ (
                (act16_P fb13 (acts1[i14.toNat]!)) ∧ (
                if (act16_F fb13 (acts1[i14.toNat]!)).1 = 0 then
                  (clost_P ((act16_F fb13 (acts1[i14.toNat]!)).2) now2 span3) ∧ (
                  (lostR_P (([] ++ v13).set ((((acts1[i14.toNat]!) 1) - 1).toNat) ((updI (v13[(((acts1[i14.toNat]!) 1) - 1).toNat]!) 0 ((acts1[i14.toNat]!) 2)))) now2 span3) ∧ (
                  (ints_P (clost_F ((act16_F fb13 (acts1[i14.toNat]!)).2) now2 span3) (lostR_F (([] ++ v13).set ((((acts1[i14.toNat]!) 1) - 1).toNat) ((updI (v13[(((acts1[i14.toNat]!) 1) - 1).toNat]!) 0 ((acts1[i14.toNat]!) 2)))) now2 span3)) ∧ (
                  if ((ints_F (clost_F ((act16_F fb13 (acts1[i14.toNat]!)).2) now2 span3) (lostR_F (([] ++ v13).set ((((acts1[i14.toNat]!) 1) - 1).toNat) ((updI (v13[(((acts1[i14.toNat]!) 1) - 1).toNat]!) 0 ((acts1[i14.toNat]!) 2)))) now2 span3))) = true then
                    (inI64 (i14 + 1)) ∧ (
                    o = (.inl (([] ++ v13).set ((((acts1[i14.toNat]!) 1) - 1).toNat) ((updI (v13[(((acts1[i14.toNat]!) 1) - 1).toNat]!) 0 ((acts1[i14.toNat]!) 2))), i14 + 1, (act16_F fb13 (acts1[i14.toNat]!)).2)))
                  else
                    o = (.inr (.inr ((act16_F fb13 (acts1[i14.toNat]!)).2))))))
                else
                  o = (.inr (.inr ((act16_F fb13 (acts1[i14.toNat]!)).2))))))))))
    else
      if (acts1[i14.toNat]!) 0 = 1 then
        (ofR_P v13 ((acts1[i14.toNat]!) 2)) ∧ (
        if (ofR_F v13 ((acts1[i14.toNat]!) 2)) = 0 then
          (act16_P fb13 (acts1[i14.toNat]!)) ∧ (
          if (act16_F fb13 (acts1[i14.toNat]!)).1 = 10 then
            (clost_P ((act16_F fb13 (acts1[i14.toNat]!)).2) now2 span3) ∧ (
            (lostR_P v13 now2 span3) ∧ (
            (ints_P (clost_F ((act16_F fb13 (acts1[i14.toNat]!)).2) now2 span3) (lostR_F v13 now2 span3)) ∧ (
            if ((ints_F (clost_F ((act16_F fb13 (acts1[i14.toNat]!)).2) now2 span3) (lostR_F v13 now2 span3))) = true then
              (inI64 (i14 + 1)) ∧ (
              o = (.inl (v13, i14 + 1, (act16_F fb13 (acts1[i14.toNat]!)).2)))
            else
              o = (.inr (.inr ((act16_F fb13 (acts1[i14.toNat]!)).2))))))
          else
            o = (.inr (.inr ((act16_F fb13 (acts1[i14.toNat]!)).2))))
        else
          (inI64 ((ofR_F v13 ((acts1[i14.toNat]!) 2)) - 1)) ∧ (
          (0 ≤ (ofR_F v13 ((acts1[i14.toNat]!) 2)) - 1 ∧ (ofR_F v13 ((acts1[i14.toNat]!) 2)) - 1 < v13.length) ∧ (
          ((0 + v13.length) * 24 ≤ 140737488355328) ∧ (
          (inI64 ((ofR_F v13 ((acts1[i14.toNat]!) 2)) - 1)) ∧ (
          (0 ≤ (ofR_F v13 ((acts1[i14.toNat]!) 2)) - 1 ∧ (ofR_F v13 ((acts1[i14.toNat]!) 2)) - 1 < ([] ++ v13).length) ∧ (
          (act16_P fb13 (acts1[i14.toNat]!)) ∧ (
          if (act16_F fb13 (acts1[i14.toNat]!)).1 = 0 then
            (clost_P ((act16_F fb13 (acts1[i14.toNat]!)).2) now2 span3) ∧ (
            (lostR_P (([] ++ v13).set (((ofR_F v13 ((acts1[i14.toNat]!) 2)) - 1).toNat) ((updI (v13[((ofR_F v13 ((acts1[i14.toNat]!) 2)) - 1).toNat]!) 0 0))) now2 span3) ∧ (
            (ints_P (clost_F ((act16_F fb13 (acts1[i14.toNat]!)).2) now2 span3) (lostR_F (([] ++ v13).set (((ofR_F v13 ((acts1[i14.toNat]!) 2)) - 1).toNat) ((updI (v13[((ofR_F v13 ((acts1[i14.toNat]!) 2)) - 1).toNat]!) 0 0))) now2 span3)) ∧ (
            if ((ints_F (clost_F ((act16_F fb13 (acts1[i14.toNat]!)).2) now2 span3) (lostR_F (([] ++ v13).set (((ofR_F v13 ((acts1[i14.toNat]!) 2)) - 1).toNat) ((updI (v13[((ofR_F v13 ((acts1[i14.toNat]!) 2)) - 1).toNat]!) 0 0))) now2 span3))) = true then
              (inI64 (i14 + 1)) ∧ (
              o = (.inl (([] ++ v13).set (((ofR_F v13 ((acts1[i14.toNat]!) 2)) - 1).toNat) ((updI (v13[((ofR_F v13 ((acts1[i14.toNat]!) 2)) - 1).toNat]!) 0 0)), i14 + 1, (act16_F fb13 (acts1[i14.toNat]!)).2)))
            else
              o = (.inr (.inr ((act16_F fb13 (acts1[i14.toNat]!)).2))))))
          else
            o = (.inr (.inr ((act16_F fb13 (acts1[i14.toNat]!)).2))))))))))
      else
        if ((decide ((acts1[i14.toNat]!) 1 < 1)) || (decide ((v13.length : Int) < (acts1[i14.toNat]!) 1))) = true then
          (act16_P fb13 (acts1[i14.toNat]!)) ∧ (
          if (act16_F fb13 (acts1[i14.toNat]!)).1 = 10 then
            (clost_P ((act16_F fb13 (acts1[i14.toNat]!)).2) now2 span3) ∧ (
            (lostR_P v13 now2 span3) ∧ (
            (ints_P (clost_F ((act16_F fb13 (acts1[i14.toNat]!)).2) now2 span3) (lostR_F v13 now2 span3)) ∧ (
            if ((ints_F (clost_F ((act16_F fb13 (acts1[i14.toNat]!)).2) now2 span3) (lostR_F v13 now2 span3))) = true then
              (inI64 (i14 + 1)) ∧ (
              o = (.inl (v13, i14 + 1, (act16_F fb13 (acts1[i14.toNat]!)).2)))
            else
              o = (.inr (.inr ((act16_F fb13 (acts1[i14.toNat]!)).2))))))
          else
            o = (.inr (.inr ((act16_F fb13 (acts1[i14.toNat]!)).2))))
        else
          if ((timeR_F ((acts1[i14.toNat]!) 3))) = true then
            (inI64 (((acts1[i14.toNat]!) 1) - 1)) ∧ (
            (0 ≤ ((acts1[i14.toNat]!) 1) - 1 ∧ ((acts1[i14.toNat]!) 1) - 1 < v13.length) ∧ (
            if ((nz ((v13[(((acts1[i14.toNat]!) 1) - 1).toNat]!) 1))) = true then
              (act16_P fb13 (acts1[i14.toNat]!)) ∧ (
              if (act16_F fb13 (acts1[i14.toNat]!)).1 = 11 then
                (clost_P ((act16_F fb13 (acts1[i14.toNat]!)).2) now2 span3) ∧ (
                (lostR_P v13 now2 span3) ∧ (
                (ints_P (clost_F ((act16_F fb13 (acts1[i14.toNat]!)).2) now2 span3) (lostR_F v13 now2 span3)) ∧ (
                if ((ints_F (clost_F ((act16_F fb13 (acts1[i14.toNat]!)).2) now2 span3) (lostR_F v13 now2 span3))) = true then
                  (inI64 (i14 + 1)) ∧ (
                  o = (.inl (v13, i14 + 1, (act16_F fb13 (acts1[i14.toNat]!)).2)))
                else
                  o = (.inr (.inr ((act16_F fb13 (acts1[i14.toNat]!)).2))))))
              else
                o = (.inr (.inr ((act16_F fb13 (acts1[i14.toNat]!)).2))))
            else
              ((0 + v13.length) * 24 ≤ 140737488355328) ∧ (
              (inI64 (((acts1[i14.toNat]!) 1) - 1)) ∧ (
              (0 ≤ ((acts1[i14.toNat]!) 1) - 1 ∧ ((acts1[i14.toNat]!) 1) - 1 < ([] ++ v13).length) ∧ (
              (act16_P fb13 (acts1[i14.toNat]!)) ∧ (
              if (act16_F fb13 (acts1[i14.toNat]!)).1 = 0 then
                (clost_P ((act16_F fb13 (acts1[i14.toNat]!)).2) now2 span3) ∧ (
                (lostR_P (([] ++ v13).set ((((acts1[i14.toNat]!) 1) - 1).toNat) ((updI (updI (v13[(((acts1[i14.toNat]!) 1) - 1).toNat]!) 1 (bI true)) 2 ((acts1[i14.toNat]!) 3)))) now2 span3) ∧ (
                (ints_P (clost_F ((act16_F fb13 (acts1[i14.toNat]!)).2) now2 span3) (lostR_F (([] ++ v13).set ((((acts1[i14.toNat]!) 1) - 1).toNat) ((updI (updI (v13[(((acts1[i14.toNat]!) 1) - 1).toNat]!) 1 (bI true)) 2 ((acts1[i14.toNat]!) 3)))) now2 span3)) ∧ (
                if ((ints_F (clost_F ((act16_F fb13 (acts1[i14.toNat]!)).2) now2 span3) (lostR_F (([] ++ v13).set ((((acts1[i14.toNat]!) 1) - 1).toNat) ((updI (updI (v13[(((acts1[i14.toNat]!) 1) - 1).toNat]!) 1 (bI true)) 2 ((acts1[i14.toNat]!) 3)))) now2 span3))) = true then
                  (inI64 (i14 + 1)) ∧ (
                  o = (.inl (([] ++ v13).set ((((acts1[i14.toNat]!) 1) - 1).toNat) ((updI (updI (v13[(((acts1[i14.toNat]!) 1) - 1).toNat]!) 1 (bI true)) 2 ((acts1[i14.toNat]!) 3))), i14 + 1, (act16_F fb13 (acts1[i14.toNat]!)).2)))
                else
                  o = (.inr (.inr ((act16_F fb13 (acts1[i14.toNat]!)).2))))))
              else
                o = (.inr (.inr ((act16_F fb13 (acts1[i14.toNat]!)).2)))))))))
          else
            (act16_P fb13 (acts1[i14.toNat]!)) ∧ (
            if (act16_F fb13 (acts1[i14.toNat]!)).1 = 1 then
              (clost_P ((act16_F fb13 (acts1[i14.toNat]!)).2) now2 span3) ∧ (
              (lostR_P v13 now2 span3) ∧ (
              (ints_P (clost_F ((act16_F fb13 (acts1[i14.toNat]!)).2) now2 span3) (lostR_F v13 now2 span3)) ∧ (
              if ((ints_F (clost_F ((act16_F fb13 (acts1[i14.toNat]!)).2) now2 span3) (lostR_F v13 now2 span3))) = true then
                (inI64 (i14 + 1)) ∧ (
                o = (.inl (v13, i14 + 1, (act16_F fb13 (acts1[i14.toNat]!)).2)))
              else
                o = (.inr (.inr ((act16_F fb13 (acts1[i14.toNat]!)).2))))))
            else
              o = (.inr (.inr ((act16_F fb13 (acts1[i14.toNat]!)).2)))))
  else
    o = (.inr (.inl (v13, fb13)))

def acts16_l2 (n0 : Int) (v13 : (List (Nat → Int))) (fb13 : (Nat → Int)) (id17 : Int) (o : (Int) ⊕ ((Unit) ⊕ (Unit))) : Prop :=
  (inI64 (n0 + 1)) ∧ (
  if id17 ≤ n0 + 1 then
    (cnow_P fb13 id17) ∧ (
    ((((decide (id17 < 1)) || (decide (n0 < id17))) = false) → inI64 (id17 - 1)) ∧ ((((decide (id17 < 1)) || (decide (n0 < id17))) = false) → 0 ≤ id17 - 1 ∧ id17 - 1 < v13.length) ∧ (
    if (((decide (id17 < 1)) || (decide (n0 < id17))) || (decide ((v13[(id17 - 1).toNat]!) 0 = 0))) = true then
      if (cnow_F fb13 id17).1 = 0 then
        if (code_F ((cnow_F fb13 id17).2)) = 10 then
          if id17 < 1 then
            (calive_P fb13 id17) ∧ (
            if ((calive_F fb13 id17)) = true then
              o = (.inr (.inr ()))
            else
              if 1 ≤ id17 then
                if id17 ≤ n0 then
                  (inI64 (id17 - 1)) ∧ (
                  (0 ≤ id17 - 1 ∧ id17 - 1 < v13.length) ∧ (
                  (calive_P fb13 id17) ∧ (
                  if ((((calive_F fb13 id17)) == ((nz ((v13[(id17 - 1).toNat]!) 1))))) = true then
                    o = (.inr (.inr ()))
                  else
                    (inI64 (id17 + 1)) ∧ (
                    o = (.inl (id17 + 1))))))
                else
                  (inI64 (id17 + 1)) ∧ (
                  o = (.inl (id17 + 1)))
              else
                (inI64 (id17 + 1)) ∧ (
                o = (.inl (id17 + 1))))
          else
            if n0 < id17 then
              (calive_P fb13 id17) ∧ (
              if ((calive_F fb13 id17)) = true then
                o = (.inr (.inr ()))
              else
                if 1 ≤ id17 then
                  if id17 ≤ n0 then
                    (inI64 (id17 - 1)) ∧ (
                    (0 ≤ id17 - 1 ∧ id17 - 1 < v13.length) ∧ (
                    (calive_P fb13 id17) ∧ (
                    if ((((calive_F fb13 id17)) == ((nz ((v13[(id17 - 1).toNat]!) 1))))) = true then
                      o = (.inr (.inr ()))
                    else
                      (inI64 (id17 + 1)) ∧ (
                      o = (.inl (id17 + 1))))))
                  else
                    (inI64 (id17 + 1)) ∧ (
                    o = (.inl (id17 + 1)))
                else
                  (inI64 (id17 + 1)) ∧ (
                  o = (.inl (id17 + 1))))
            else
              if 1 ≤ id17 then
                if id17 ≤ n0 then
                  (inI64 (id17 - 1)) ∧ (
                  (0 ≤ id17 - 1 ∧ id17 - 1 < v13.length) ∧ (
                  (calive_P fb13 id17) ∧ (
                  if ((((calive_F fb13 id17)) == ((nz ((v13[(id17 - 1).toNat]!) 1))))) = true then
                    o = (.inr (.inr ()))
                  else
                    (inI64 (id17 + 1)) ∧ (
                    o = (.inl (id17 + 1))))))
                else
                  (inI64 (id17 + 1)) ∧ (
                  o = (.inl (id17 + 1)))
              else
                (inI64 (id17 + 1)) ∧ (
                o = (.inl (id17 + 1)))
        else
          o = (.inr (.inr ()))
      else
        o = (.inr (.inr ()))
    else
      (inI64 (id17 - 1)) ∧ (0 ≤ id17 - 1 ∧ id17 - 1 < v13.length) ∧ (
      if ((!(decide ((cnow_F fb13 id17).1 = (v13[(id17 - 1).toNat]!) 0))) || (!(decide ((cnow_F fb13 id17).2 = 0)))) = true then
        o = (.inr (.inr ()))
      else
        if 1 ≤ id17 then
          if id17 ≤ n0 then
            (inI64 (id17 - 1)) ∧ (
            (0 ≤ id17 - 1 ∧ id17 - 1 < v13.length) ∧ (
            (calive_P fb13 id17) ∧ (
            if ((((calive_F fb13 id17)) == ((nz ((v13[(id17 - 1).toNat]!) 1))))) = true then
              o = (.inr (.inr ()))
            else
              (inI64 (id17 + 1)) ∧ (
              o = (.inl (id17 + 1))))))
          else
            (inI64 (id17 + 1)) ∧ (
            o = (.inl (id17 + 1)))
        else
          (inI64 (id17 + 1)) ∧ (
          o = (.inl (id17 + 1))))))
  else
    o = (.inr (.inl ())))

def acts16_k2a (now2 : Int) (span3 : Int) (tx4 : Int) (v13 : (List (Nat → Int))) (fb13 : (Nat → Int)) (r : Bool) : Prop :=
  (ofR_P v13 tx4) ∧ (
  if (cof_F fb13 tx4).1 = (ofR_F v13 tx4) then
    if (((decide ((cof_F fb13 tx4).2 = 0)) == (decide (0 < (ofR_F v13 tx4))))) = true then
      if (cof_F fb13 tx4).2 = 0 then
        (clost_P fb13 now2 span3) ∧ (
        (lostR_P v13 now2 span3) ∧ (
        (ints_P (clost_F fb13 now2 span3) (lostR_F v13 now2 span3)) ∧ (
        r = ((ints_F (clost_F fb13 now2 span3) (lostR_F v13 now2 span3))))))
      else
        if (code_F ((cof_F fb13 tx4).2)) = 10 then
          (clost_P fb13 now2 span3) ∧ (
          (lostR_P v13 now2 span3) ∧ (
          (ints_P (clost_F fb13 now2 span3) (lostR_F v13 now2 span3)) ∧ (
          r = ((ints_F (clost_F fb13 now2 span3) (lostR_F v13 now2 span3))))))
        else
          r = (false)
    else
      r = (false)
  else
    r = (false))

def acts16_k2b (r : Bool) : Prop :=
  r = (false)

def acts16_k1a (n0 : Int) (now2 : Int) (span3 : Int) (tx4 : Int) (v13 : (List (Nat → Int))) (fb13 : (Nat → Int)) (r : Bool) : Prop :=
  ∃ x : (Unit) ⊕ (Unit), Wh (fun (s : Int) (o : (Int) ⊕ ((Unit) ⊕ (Unit))) => acts16_l2 n0 v13 fb13 s o) (0 : Int) x ∧ (match x with | .inl _ => acts16_k2a now2 span3 tx4 v13 fb13 r | .inr _ => acts16_k2b r)

def acts16_k1b (fb13 : (Nat → Int)) (r : Bool) : Prop :=
  r = (false)

def acts16_S (n0 : Int) (acts1 : (List (Nat → Int))) (now2 : Int) (span3 : Int) (tx4 : Int) (r : Bool) : Prop :=
  (alive16_P) ∧ (
  if (alive16_F) = true then
    if 100 < (acts1.length : Int) then
      r = (true)
    else
      if ((decide (n0 < 1)) || (decide (8 < n0))) = true then
        r = (decide ((code_F 2) = 2))
      else
        (0 ≤ n0) ∧ (
        (24 * n0 ≤ 140737488355328) ∧ (
        (n0 ≤ 1000000000000) ∧ (
        ∃ x : ((List (Nat → Int)) × (Nat → Int)) ⊕ ((Nat → Int)), Wh (fun (s : (List (Nat → Int)) × Int × (Nat → Int)) (o : ((List (Nat → Int)) × Int × (Nat → Int)) ⊕ (((List (Nat → Int)) × (Nat → Int)) ⊕ ((Nat → Int)))) => acts16_l1 acts1 now2 span3 s.1 s.2.1 s.2.2 o) (((List.replicate n0.toNat (fun _ => 0)), 0, (updI (fun _ => 0) 0 n0)) : (List (Nat → Int)) × Int × (Nat → Int)) x ∧ (match x with | .inl (v13, fb13) => acts16_k1a n0 now2 span3 tx4 v13 fb13 r | .inr fb13 => acts16_k1b fb13 r))))
  else
    r = (false))

end Go.E
