/- What functions of the program say, as relations. -/
import Derived.Test.YtfpilngnhkcgjaaP06b
set_option maxHeartbeats 1000000
set_option linter.unusedVariables false
set_option linter.unusedSimpArgs false
set_option maxRecDepth 100000
namespace Go.E
open Go

def span6_S (span0 : Int) (at1 : Int) (by2 : Int) (id3 : Int) (r : Bool) : Prop :=
  (alive06_P) ∧ (
  if (alive06_F) = true then
    (inI64 (1 + ((IntKind.i64.wrap span0).tmod 1000))) ∧ (
    if ((decide (1 + ((IntKind.i64.wrap span0).tmod 1000) < 1)) || (decide (1000 < 1 + ((IntKind.i64.wrap span0).tmod 1000)))) = true then
      r = (false)
    else
      (inI64 (1 + (IntKind.i64.wrap id3))) ∧ (
      if (renew_F (1 + ((IntKind.i64.wrap span0).tmod 1000)) ([]) (1 + (IntKind.i64.wrap id3)) (IntKind.i64.wrap at1)).1 = 0 then
        (inI64 ((IntKind.i64.wrap at1) + (1 + ((IntKind.i64.wrap span0).tmod 1000)))) ∧ (
        (inI64 (((IntKind.i64.wrap at1) + (1 + ((IntKind.i64.wrap span0).tmod 1000))) - 1)) ∧ (
        (due_P (1 + ((IntKind.i64.wrap span0).tmod 1000)) ((renew_F (1 + ((IntKind.i64.wrap span0).tmod 1000)) ([]) (1 + (IntKind.i64.wrap id3)) (IntKind.i64.wrap at1)).2) (((IntKind.i64.wrap at1) + (1 + ((IntKind.i64.wrap span0).tmod 1000))) - 1)) ∧ (
        if ((due_F (1 + ((IntKind.i64.wrap span0).tmod 1000)) ((renew_F (1 + ((IntKind.i64.wrap span0).tmod 1000)) ([]) (1 + (IntKind.i64.wrap id3)) (IntKind.i64.wrap at1)).2) (((IntKind.i64.wrap at1) + (1 + ((IntKind.i64.wrap span0).tmod 1000))) - 1)).length : Int) = 0 then
          (inI64 ((IntKind.i64.wrap at1) + (1 + ((IntKind.i64.wrap span0).tmod 1000)))) ∧ (
          (inI64 (((IntKind.i64.wrap at1) + (1 + ((IntKind.i64.wrap span0).tmod 1000))) + (IntKind.i64.wrap by2))) ∧ (
          (due_P (1 + ((IntKind.i64.wrap span0).tmod 1000)) ((renew_F (1 + ((IntKind.i64.wrap span0).tmod 1000)) ([]) (1 + (IntKind.i64.wrap id3)) (IntKind.i64.wrap at1)).2) (((IntKind.i64.wrap at1) + (1 + ((IntKind.i64.wrap span0).tmod 1000))) + (IntKind.i64.wrap by2))) ∧ (
          (ints_P (due_F (1 + ((IntKind.i64.wrap span0).tmod 1000)) ((renew_F (1 + ((IntKind.i64.wrap span0).tmod 1000)) ([]) (1 + (IntKind.i64.wrap id3)) (IntKind.i64.wrap at1)).2) (((IntKind.i64.wrap at1) + (1 + ((IntKind.i64.wrap span0).tmod 1000))) + (IntKind.i64.wrap by2))) ([1 + (IntKind.i64.wrap id3)])) ∧ (
          if ((ints_F (due_F (1 + ((IntKind.i64.wrap span0).tmod 1000)) ((renew_F (1 + ((IntKind.i64.wrap span0).tmod 1000)) ([]) (1 + (IntKind.i64.wrap id3)) (IntKind.i64.wrap at1)).2) (((IntKind.i64.wrap at1) + (1 + ((IntKind.i64.wrap span0).tmod 1000))) + (IntKind.i64.wrap by2))) ([1 + (IntKind.i64.wrap id3)]))) = true then
            (inI64 ((IntKind.i64.wrap at1) + (1 + ((IntKind.i64.wrap span0).tmod 1000)))) ∧ (
            (inI64 (((IntKind.i64.wrap at1) + (1 + ((IntKind.i64.wrap span0).tmod 1000))) + (IntKind.i64.wrap by2))) ∧ (
            if (renew_F (1 + ((IntKind.i64.wrap span0).tmod 1000)) ((renew_F (1 + ((IntKind.i64.wrap span0).tmod 1000)) ([]) (1 + (IntKind.i64.wrap id3)) (IntKind.i64.wrap at1)).2) (1 + (IntKind.i64.wrap id3)) (((IntKind.i64.wrap at1) + (1 + ((IntKind.i64.wrap span0).tmod 1000))) + (IntKind.i64.wrap by2))).1 = 0 then
              (inI64 ((IntKind.i64.wrap at1) + (1 + ((IntKind.i64.wrap span0).tmod 1000)))) ∧ (
              (inI64 (((IntKind.i64.wrap at1) + (1 + ((IntKind.i64.wrap span0).tmod 1000))) + (IntKind.i64.wrap by2))) ∧ (
              (due_P (1 + ((IntKind.i64.wrap span0).tmod 1000)) ((renew_F (1 + ((IntKind.i64.wrap span0).tmod 1000)) ((renew_F (1 + ((IntKind.i64.wrap span0).tmod 1000)) ([]) (1 + (IntKind.i64.wrap id3)) (IntKind.i64.wrap at1)).2) (1 + (IntKind.i64.wrap id3)) (((IntKind.i64.wrap at1) + (1 + ((IntKind.i64.wrap span0).tmod 1000))) + (IntKind.i64.wrap by2))).2) (((IntKind.i64.wrap at1) + (1 + ((IntKind.i64.wrap span0).tmod 1000))) + (IntKind.i64.wrap by2))) ∧ (
              if ((due_F (1 + ((IntKind.i64.wrap span0).tmod 1000)) ((renew_F (1 + ((IntKind.i64.wrap span0).tmod 1000)) ((renew_F (1 + ((IntKind.i64.wrap span0).tmod 1000)) ([]) (1 + (IntKind.i64.wrap id3)) (IntKind.i64.wrap at1)).2) (1 + (IntKind.i64.wrap id3)) (((IntKind.i64.wrap at1) + (1 + ((IntKind.i64.wrap span0).tmod 1000))) + (IntKind.i64.wrap by2))).2) (((IntKind.i64.wrap at1) + (1 + ((IntKind.i64.wrap span0).tmod 1000))) + (IntKind.i64.wrap by2))).length : Int) = 0 then
                if (lend_F (1 + ((IntKind.i64.wrap span0).tmod 1000)) ((renew_F (1 + ((IntKind.i64.wrap span0).tmod 1000)) ((renew_F (1 + ((IntKind.i64.wrap span0).tmod 1000)) ([]) (1 + (IntKind.i64.wrap id3)) (IntKind.i64.wrap at1)).2) (1 + (IntKind.i64.wrap id3)) (((IntKind.i64.wrap at1) + (1 + ((IntKind.i64.wrap span0).tmod 1000))) + (IntKind.i64.wrap by2))).2) (1 + (IntKind.i64.wrap id3))).1 = 0 then
                  (lall_P (1 + ((IntKind.i64.wrap span0).tmod 1000)) ((lend_F (1 + ((IntKind.i64.wrap span0).tmod 1000)) ((renew_F (1 + ((IntKind.i64.wrap span0).tmod 1000)) ((renew_F (1 + ((IntKind.i64.wrap span0).tmod 1000)) ([]) (1 + (IntKind.i64.wrap id3)) (IntKind.i64.wrap at1)).2) (1 + (IntKind.i64.wrap id3)) (((IntKind.i64.wrap at1) + (1 + ((IntKind.i64.wrap span0).tmod 1000))) + (IntKind.i64.wrap by2))).2) (1 + (IntKind.i64.wrap id3))).2)) ∧ (
                  if ((lall_F (1 + ((IntKind.i64.wrap span0).tmod 1000)) ((lend_F (1 + ((IntKind.i64.wrap span0).tmod 1000)) ((renew_F (1 + ((IntKind.i64.wrap span0).tmod 1000)) ((renew_F (1 + ((IntKind.i64.wrap span0).tmod 1000)) ([]) (1 + (IntKind.i64.wrap id3)) (IntKind.i64.wrap at1)).2) (1 + (IntKind.i64.wrap id3)) (((IntKind.i64.wrap at1) + (1 + ((IntKind.i64.wrap span0).tmod 1000))) + (IntKind.i64.wrap by2))).2) (1 + (IntKind.i64.wrap id3))).2)).length : Int) = 0 then
                    (inI64 ((IntKind.i64.wrap at1) + 5000)) ∧ (
                    (inI64 (((IntKind.i64.wrap at1) + 5000) + (IntKind.i64.wrap by2))) ∧ (
                    (due_P (1 + ((IntKind.i64.wrap span0).tmod 1000)) ((lend_F (1 + ((IntKind.i64.wrap span0).tmod 1000)) ((renew_F (1 + ((IntKind.i64.wrap span0).tmod 1000)) ((renew_F (1 + ((IntKind.i64.wrap span0).tmod 1000)) ([]) (1 + (IntKind.i64.wrap id3)) (IntKind.i64.wrap at1)).2) (1 + (IntKind.i64.wrap id3)) (((IntKind.i64.wrap at1) + (1 + ((IntKind.i64.wrap span0).tmod 1000))) + (IntKind.i64.wrap by2))).2) (1 + (IntKind.i64.wrap id3))).2) (((IntKind.i64.wrap at1) + 5000) + (IntKind.i64.wrap by2))) ∧ (
                    r = (decide (((due_F (1 + ((IntKind.i64.wrap span0).tmod 1000)) ((lend_F (1 + ((IntKind.i64.wrap span0).tmod 1000)) ((renew_F (1 + ((IntKind.i64.wrap span0).tmod 1000)) ((renew_F (1 + ((IntKind.i64.wrap span0).tmod 1000)) ([]) (1 + (IntKind.i64.wrap id3)) (IntKind.i64.wrap at1)).2) (1 + (IntKind.i64.wrap id3)) (((IntKind.i64.wrap at1) + (1 + ((IntKind.i64.wrap span0).tmod 1000))) + (IntKind.i64.wrap by2))).2) (1 + (IntKind.i64.wrap id3))).2) (((IntKind.i64.wrap at1) + 5000) + (IntKind.i64.wrap by2))).length : Int) = 0)))))
                  else
                    r = (false))
                else
                  r = (false)
              else
                r = (false))))
            else
              r = (false)))
          else
            r = (false)))))
        else
          r = (false))))
      else
        r = (false)))
  else
    r = (false))

def span6_F (span0 : Int) (at1 : Int) (by2 : Int) (id3 : Int) : Bool :=
  if (alive06_F) = true then
    if ((decide (1 + ((IntKind.i64.wrap span0).tmod 1000) < 1)) || (decide (1000 < 1 + ((IntKind.i64.wrap span0).tmod 1000)))) = true then
      false
    else
      if (renew_F (1 + ((IntKind.i64.wrap span0).tmod 1000)) ([]) (1 + (IntKind.i64.wrap id3)) (IntKind.i64.wrap at1)).1 = 0 then
        if ((due_F (1 + ((IntKind.i64.wrap span0).tmod 1000)) ((renew_F (1 + ((IntKind.i64.wrap span0).tmod 1000)) ([]) (1 + (IntKind.i64.wrap id3)) (IntKind.i64.wrap at1)).2) (((IntKind.i64.wrap at1) + (1 + ((IntKind.i64.wrap span0).tmod 1000))) - 1)).length : Int) = 0 then
          if ((ints_F (due_F (1 + ((IntKind.i64.wrap span0).tmod 1000)) ((renew_F (1 + ((IntKind.i64.wrap span0).tmod 1000)) ([]) (1 + (IntKind.i64.wrap id3)) (IntKind.i64.wrap at1)).2) (((IntKind.i64.wrap at1) + (1 + ((IntKind.i64.wrap span0).tmod 1000))) + (IntKind.i64.wrap by2))) ([1 + (IntKind.i64.wrap id3)]))) = true then
            if (renew_F (1 + ((IntKind.i64.wrap span0).tmod 1000)) ((renew_F (1 + ((IntKind.i64.wrap span0).tmod 1000)) ([]) (1 + (IntKind.i64.wrap id3)) (IntKind.i64.wrap at1)).2) (1 + (IntKind.i64.wrap id3)) (((IntKind.i64.wrap at1) + (1 + ((IntKind.i64.wrap span0).tmod 1000))) + (IntKind.i64.wrap by2))).1 = 0 then
              if ((due_F (1 + ((IntKind.i64.wrap span0).tmod 1000)) ((renew_F (1 + ((IntKind.i64.wrap span0).tmod 1000)) ((renew_F (1 + ((IntKind.i64.wrap span0).tmod 1000)) ([]) (1 + (IntKind.i64.wrap id3)) (IntKind.i64.wrap at1)).2) (1 + (IntKind.i64.wrap id3)) (((IntKind.i64.wrap at1) + (1 + ((IntKind.i64.wrap span0).tmod 1000))) + (IntKind.i64.wrap by2))).2) (((IntKind.i64.wrap at1) + (1 + ((IntKind.i64.wrap span0).tmod 1000))) + (IntKind.i64.wrap by2))).length : Int) = 0 then
                if (lend_F (1 + ((IntKind.i64.wrap span0).tmod 1000)) ((renew_F (1 + ((IntKind.i64.wrap span0).tmod 1000)) ((renew_F (1 + ((IntKind.i64.wrap span0).tmod 1000)) ([]) (1 + (IntKind.i64.wrap id3)) (IntKind.i64.wrap at1)).2) (1 + (IntKind.i64.wrap id3)) (((IntKind.i64.wrap at1) + (1 + ((IntKind.i64.wrap span0).tmod 1000))) + (IntKind.i64.wrap by2))).2) (1 + (IntKind.i64.wrap id3))).1 = 0 then
                  if ((lall_F (1 + ((IntKind.i64.wrap span0).tmod 1000)) ((lend_F (1 + ((IntKind.i64.wrap span0).tmod 1000)) ((renew_F (1 + ((IntKind.i64.wrap span0).tmod 1000)) ((renew_F (1 + ((IntKind.i64.wrap span0).tmod 1000)) ([]) (1 + (IntKind.i64.wrap id3)) (IntKind.i64.wrap at1)).2) (1 + (IntKind.i64.wrap id3)) (((IntKind.i64.wrap at1) + (1 + ((IntKind.i64.wrap span0).tmod 1000))) + (IntKind.i64.wrap by2))).2) (1 + (IntKind.i64.wrap id3))).2)).length : Int) = 0 then
                    decide (((due_F (1 + ((IntKind.i64.wrap span0).tmod 1000)) ((lend_F (1 + ((IntKind.i64.wrap span0).tmod 1000)) ((renew_F (1 + ((IntKind.i64.wrap span0).tmod 1000)) ((renew_F (1 + ((IntKind.i64.wrap span0).tmod 1000)) ([]) (1 + (IntKind.i64.wrap id3)) (IntKind.i64.wrap at1)).2) (1 + (IntKind.i64.wrap id3)) (((IntKind.i64.wrap at1) + (1 + ((IntKind.i64.wrap span0).tmod 1000))) + (IntKind.i64.wrap by2))).2) (1 + (IntKind.i64.wrap id3))).2) (((IntKind.i64.wrap at1) + 5000) + (IntKind.i64.wrap by2))).length : Int) = 0)
                  else
                    false
                else
                  false
              else
                false
            else
              false
          else
            false
        else
          false
      else
        false
  else
    false

def span6_P (span0 : Int) (at1 : Int) (by2 : Int) (id3 : Int) : Prop :=
  (alive06_P) ∧ (
  if (alive06_F) = true then
    (inI64 (1 + ((IntKind.i64.wrap span0).tmod 1000))) ∧ (
    if ((decide (1 + ((IntKind.i64.wrap span0).tmod 1000) < 1)) || (decide (1000 < 1 + ((IntKind.i64.wrap span0).tmod 1000)))) = true then
      True
    else
      (inI64 (1 + (IntKind.i64.wrap id3))) ∧ (
      if (renew_F (1 + ((IntKind.i64.wrap span0).tmod 1000)) ([]) (1 + (IntKind.i64.wrap id3)) (IntKind.i64.wrap at1)).1 = 0 then
        (inI64 ((IntKind.i64.wrap at1) + (1 + ((IntKind.i64.wrap span0).tmod 1000)))) ∧ (
        (inI64 (((IntKind.i64.wrap at1) + (1 + ((IntKind.i64.wrap span0).tmod 1000))) - 1)) ∧ (
        (due_P (1 + ((IntKind.i64.wrap span0).tmod 1000)) ((renew_F (1 + ((IntKind.i64.wrap span0).tmod 1000)) ([]) (1 + (IntKind.i64.wrap id3)) (IntKind.i64.wrap at1)).2) (((IntKind.i64.wrap at1) + (1 + ((IntKind.i64.wrap span0).tmod 1000))) - 1)) ∧ (
        if ((due_F (1 + ((IntKind.i64.wrap span0).tmod 1000)) ((renew_F (1 + ((IntKind.i64.wrap span0).tmod 1000)) ([]) (1 + (IntKind.i64.wrap id3)) (IntKind.i64.wrap at1)).2) (((IntKind.i64.wrap at1) + (1 + ((IntKind.i64.wrap span0).tmod 1000))) - 1)).length : Int) = 0 then
          (inI64 ((IntKind.i64.wrap at1) + (1 + ((IntKind.i64.wrap span0).tmod 1000)))) ∧ (
          (inI64 (((IntKind.i64.wrap at1) + (1 + ((IntKind.i64.wrap span0).tmod 1000))) + (IntKind.i64.wrap by2))) ∧ (
          (due_P (1 + ((IntKind.i64.wrap span0).tmod 1000)) ((renew_F (1 + ((IntKind.i64.wrap span0).tmod 1000)) ([]) (1 + (IntKind.i64.wrap id3)) (IntKind.i64.wrap at1)).2) (((IntKind.i64.wrap at1) + (1 + ((IntKind.i64.wrap span0).tmod 1000))) + (IntKind.i64.wrap by2))) ∧ (
          (ints_P (due_F (1 + ((IntKind.i64.wrap span0).tmod 1000)) ((renew_F (1 + ((IntKind.i64.wrap span0).tmod 1000)) ([]) (1 + (IntKind.i64.wrap id3)) (IntKind.i64.wrap at1)).2) (((IntKind.i64.wrap at1) + (1 + ((IntKind.i64.wrap span0).tmod 1000))) + (IntKind.i64.wrap by2))) ([1 + (IntKind.i64.wrap id3)])) ∧ (
          if ((ints_F (due_F (1 + ((IntKind.i64.wrap span0).tmod 1000)) ((renew_F (1 + ((IntKind.i64.wrap span0).tmod 1000)) ([]) (1 + (IntKind.i64.wrap id3)) (IntKind.i64.wrap at1)).2) (((IntKind.i64.wrap at1) + (1 + ((IntKind.i64.wrap span0).tmod 1000))) + (IntKind.i64.wrap by2))) ([1 + (IntKind.i64.wrap id3)]))) = true then
            (inI64 ((IntKind.i64.wrap at1) + (1 + ((IntKind.i64.wrap span0).tmod 1000)))) ∧ (
            (inI64 (((IntKind.i64.wrap at1) + (1 + ((IntKind.i64.wrap span0).tmod 1000))) + (IntKind.i64.wrap by2))) ∧ (
            if (renew_F (1 + ((IntKind.i64.wrap span0).tmod 1000)) ((renew_F (1 + ((IntKind.i64.wrap span0).tmod 1000)) ([]) (1 + (IntKind.i64.wrap id3)) (IntKind.i64.wrap at1)).2) (1 + (IntKind.i64.wrap id3)) (((IntKind.i64.wrap at1) + (1 + ((IntKind.i64.wrap span0).tmod 1000))) + (IntKind.i64.wrap by2))).1 = 0 then
              (inI64 ((IntKind.i64.wrap at1) + (1 + ((IntKind.i64.wrap span0).tmod 1000)))) ∧ (
              (inI64 (((IntKind.i64.wrap at1) + (1 + ((IntKind.i64.wrap span0).tmod 1000))) + (IntKind.i64.wrap by2))) ∧ (
              (due_P (1 + ((IntKind.i64.wrap span0).tmod 1000)) ((renew_F (1 + ((IntKind.i64.wrap span0).tmod 1000)) ((renew_F (1 + ((IntKind.i64.wrap span0).tmod 1000)) ([]) (1 + (IntKind.i64.wrap id3)) (IntKind.i64.wrap at1)).2) (1 + (IntKind.i64.wrap id3)) (((IntKind.i64.wrap at1) + (1 + ((IntKind.i64.wrap span0).tmod 1000))) + (IntKind.i64.wrap by2))).2) (((IntKind.i64.wrap at1) + (1 + ((IntKind.i64.wrap span0).tmod 1000))) + (IntKind.i64.wrap by2))) ∧ (
              if ((due_F (1 + ((IntKind.i64.wrap span0).tmod 1000)) ((renew_F (1 + ((IntKind.i64.wrap span0).tmod 1000)) ((renew_F (1 + ((IntKind.i64.wrap span0).tmod 1000)) ([]) (1 + (IntKind.i64.wrap id3)) (IntKind.i64.wrap at1)).2) (1 + (IntKind.i64.wrap id3)) (((IntKind.i64.wrap at1) + (1 + ((IntKind.i64.wrap span0).tmod 1000))) + (IntKind.i64.wrap by2))).2) (((IntKind.i64.wrap at1) + (1 + ((IntKind.i64.wrap span0).tmod 1000))) + (IntKind.i64.wrap by2))).length : Int) = 0 then
                if (lend_F (1 + ((IntKind.i64.wrap span0).tmod 1000)) ((renew_F (1 + ((IntKind.i64.wrap span0).tmod 1000)) ((renew_F (1 + ((IntKind.i64.wrap span0).tmod 1000)) ([]) (1 + (IntKind.i64.wrap id3)) (IntKind.i64.wrap at1)).2) (1 + (IntKind.i64.wrap id3)) (((IntKind.i64.wrap at1) + (1 + ((IntKind.i64.wrap span0).tmod 1000))) + (IntKind.i64.wrap by2))).2) (1 + (IntKind.i64.wrap id3))).1 = 0 then
                  (lall_P (1 + ((IntKind.i64.wrap span0).tmod 1000)) ((lend_F (1 + ((IntKind.i64.wrap span0).tmod 1000)) ((renew_F (1 + ((IntKind.i64.wrap span0).tmod 1000)) ((renew_F (1 + ((IntKind.i64.wrap span0).tmod 1000)) ([]) (1 + (IntKind.i64.wrap id3)) (IntKind.i64.wrap at1)).2) (1 + (IntKind.i64.wrap id3)) (((IntKind.i64.wrap at1) + (1 + ((IntKind.i64.wrap span0).tmod 1000))) + (IntKind.i64.wrap by2))).2) (1 + (IntKind.i64.wrap id3))).2)) ∧ (
                  if ((lall_F (1 + ((IntKind.i64.wrap span0).tmod 1000)) ((lend_F (1 + ((IntKind.i64.wrap span0).tmod 1000)) ((renew_F (1 + ((IntKind.i64.wrap span0).tmod 1000)) ((renew_F (1 + ((IntKind.i64.wrap span0).tmod 1000)) ([]) (1 + (IntKind.i64.wrap id3)) (IntKind.i64.wrap at1)).2) (1 + (IntKind.i64.wrap id3)) (((IntKind.i64.wrap at1) + (1 + ((IntKind.i64.wrap span0).tmod 1000))) + (IntKind.i64.wrap by2))).2) (1 + (IntKind.i64.wrap id3))).2)).length : Int) = 0 then
                    (inI64 ((IntKind.i64.wrap at1) + 5000)) ∧ (
                    (inI64 (((IntKind.i64.wrap at1) + 5000) + (IntKind.i64.wrap by2))) ∧ (
                    (due_P (1 + ((IntKind.i64.wrap span0).tmod 1000)) ((lend_F (1 + ((IntKind.i64.wrap span0).tmod 1000)) ((renew_F (1 + ((IntKind.i64.wrap span0).tmod 1000)) ((renew_F (1 + ((IntKind.i64.wrap span0).tmod 1000)) ([]) (1 + (IntKind.i64.wrap id3)) (IntKind.i64.wrap at1)).2) (1 + (IntKind.i64.wrap id3)) (((IntKind.i64.wrap at1) + (1 + ((IntKind.i64.wrap span0).tmod 1000))) + (IntKind.i64.wrap by2))).2) (1 + (IntKind.i64.wrap id3))).2) (((IntKind.i64.wrap at1) + 5000) + (IntKind.i64.wrap by2))) ∧ (
                    True)))
                  else
                    True)
                else
                  True
              else
                True)))
            else
              True))
          else
            True))))
        else
          True)))
      else
        True))
  else
    True)

theorem span6_ok (span0 : Int) (at1 : Int) (by2 : Int) (id3 : Int) (hP : span6_P span0 at1 by2 id3) : span6_S span0 at1 by2 id3 (span6_F span0 at1 by2 id3) := by
  obtain ⟨r, hr⟩ : ∃ r, r = span6_F span0 at1 by2 id3 := ⟨_, rfl⟩
  rw [← hr]
  unfold span6_F at hr
  unfold span6_S
  unfold span6_P at hP
  obtain ⟨hq0, hP⟩ := hP
  refine ⟨hq0, ?_⟩
  by_cases hp6 : (alive06_F) = true
  · rw [if_pos hp6] at hr hP ⊢
    obtain ⟨hq0, hP⟩ := hP
    refine ⟨hq0, ?_⟩
    by_cases hp7 : ((decide (1 + ((IntKind.i64.wrap span0).tmod 1000) < 1)) || (decide (1000 < 1 + ((IntKind.i64.wrap span0).tmod 1000)))) = true
    · rw [if_pos hp7] at hr hP ⊢
      exact hr
    · rw [if_neg hp7] at hr hP ⊢
      obtain ⟨hq0, hP⟩ := hP
      refine ⟨hq0, ?_⟩
      by_cases hp8 : (renew_F (1 + ((IntKind.i64.wrap span0).tmod 1000)) ([]) (1 + (IntKind.i64.wrap id3)) (IntKind.i64.wrap at1)).1 = 0
      · rw [if_pos hp8] at hr hP ⊢
        obtain ⟨hq0, hP⟩ := hP
        refine ⟨hq0, ?_⟩
        obtain ⟨hq0, hP⟩ := hP
        refine ⟨hq0, ?_⟩
        obtain ⟨hq0, hP⟩ := hP
        refine ⟨hq0, ?_⟩
        by_cases hp9 : ((due_F (1 + ((IntKind.i64.wrap span0).tmod 1000)) ((renew_F (1 + ((IntKind.i64.wrap span0).tmod 1000)) ([]) (1 + (IntKind.i64.wrap id3)) (IntKind.i64.wrap at1)).2) (((IntKind.i64.wrap at1) + (1 + ((IntKind.i64.wrap span0).tmod 1000))) - 1)).length : Int) = 0
        · rw [if_pos hp9] at hr hP ⊢
          obtain ⟨hq0, hP⟩ := hP
          refine ⟨hq0, ?_⟩
          obtain ⟨hq0, hP⟩ := hP
          refine ⟨hq0, ?_⟩
          obtain ⟨hq0, hP⟩ := hP
          refine ⟨hq0, ?_⟩
          obtain ⟨hq0, hP⟩ := hP
          refine ⟨hq0, ?_⟩
          by_cases hp10 : ((ints_F (due_F (1 + ((IntKind.i64.wrap span0).tmod 1000)) ((renew_F (1 + ((IntKind.i64.wrap span0).tmod 1000)) ([]) (1 + (IntKind.i64.wrap id3)) (IntKind.i64.wrap at1)).2) (((IntKind.i64.wrap at1) + (1 + ((IntKind.i64.wrap span0).tmod 1000))) + (IntKind.i64.wrap by2))) ([1 + (IntKind.i64.wrap id3)]))) = true
          · rw [if_pos hp10] at hr hP ⊢
            obtain ⟨hq0, hP⟩ := hP
            refine ⟨hq0, ?_⟩
            obtain ⟨hq0, hP⟩ := hP
            refine ⟨hq0, ?_⟩
            by_cases hp11 : (renew_F (1 + ((IntKind.i64.wrap span0).tmod 1000)) ((renew_F (1 + ((IntKind.i64.wrap span0).tmod 1000)) ([]) (1 + (IntKind.i64.wrap id3)) (IntKind.i64.wrap at1)).2) (1 + (IntKind.i64.wrap id3)) (((IntKind.i64.wrap at1) + (1 + ((IntKind.i64.wrap span0).tmod 1000))) + (IntKind.i64.wrap by2))).1 = 0
            · rw [if_pos hp11] at hr hP ⊢
              obtain ⟨hq0, hP⟩ := hP
              refine ⟨hq0, ?_⟩
              obtain ⟨hq0, hP⟩ := hP
              refine ⟨hq0, ?_⟩
              obtain ⟨hq0, hP⟩ := hP
              refine ⟨hq0, ?_⟩
              by_cases hp12 : ((due_F (1 + ((IntKind.i64.wrap span0).tmod 1000)) ((renew_F (1 + ((IntKind.i64.wrap span0).tmod 1000)) ((renew_F (1 + ((IntKind.i64.wrap span0).tmod 1000)) ([]) (1 + (IntKind.i64.wrap id3)) (IntKind.i64.wrap at1)).2) (1 + (IntKind.i64.wrap id3)) (((IntKind.i64.wrap at1) + (1 + ((IntKind.i64.wrap span0).tmod 1000))) + (IntKind.i64.wrap by2))).2) (((IntKind.i64.wrap at1) + (1 + ((IntKind.i64.wrap span0).tmod 1000))) + (IntKind.i64.wrap by2))).length : Int) = 0
              · rw [if_pos hp12] at hr hP ⊢
                by_cases hp13 : (lend_F (1 + ((IntKind.i64.wrap span0).tmod 1000)) ((renew_F (1 + ((IntKind.i64.wrap span0).tmod 1000)) ((renew_F (1 + ((IntKind.i64.wrap span0).tmod 1000)) ([]) (1 + (IntKind.i64.wrap id3)) (IntKind.i64.wrap at1)).2) (1 + (IntKind.i64.wrap id3)) (((IntKind.i64.wrap at1) + (1 + ((IntKind.i64.wrap span0).tmod 1000))) + (IntKind.i64.wrap by2))).2) (1 + (IntKind.i64.wrap id3))).1 = 0
                · rw [if_pos hp13] at hr hP ⊢
                  obtain ⟨hq0, hP⟩ := hP
                  refine ⟨hq0, ?_⟩
                  by_cases hp14 : ((lall_F (1 + ((IntKind.i64.wrap span0).tmod 1000)) ((lend_F (1 + ((IntKind.i64.wrap span0).tmod 1000)) ((renew_F (1 + ((IntKind.i64.wrap span0).tmod 1000)) ((renew_F (1 + ((IntKind.i64.wrap span0).tmod 1000)) ([]) (1 + (IntKind.i64.wrap id3)) (IntKind.i64.wrap at1)).2) (1 + (IntKind.i64.wrap id3)) (((IntKind.i64.wrap at1) + (1 + ((IntKind.i64.wrap span0).tmod 1000))) + (IntKind.i64.wrap by2))).2) (1 + (IntKind.i64.wrap id3))).2)).length : Int) = 0
                  · rw [if_pos hp14] at hr hP ⊢
                    obtain ⟨hq0, hP⟩ := hP
                    refine ⟨hq0, ?_⟩
                    obtain ⟨hq0, hP⟩ := hP
                    refine ⟨hq0, ?_⟩
                    obtain ⟨hq0, hP⟩ := hP
                    refine ⟨hq0, ?_⟩
                    exact hr
                  · rw [if_neg hp14] at hr hP ⊢
                    exact hr
                · rw [if_neg hp13] at hr hP ⊢
                  exact hr
              · rw [if_neg hp12] at hr hP ⊢
                exact hr
            · rw [if_neg hp11] at hr hP ⊢
              exact hr
          · rw [if_neg hp10] at hr hP ⊢
            exact hr
        · rw [if_neg hp9] at hr hP ⊢
          exact hr
      · rw [if_neg hp8] at hr hP ⊢
        exact hr
  · rw [if_neg hp6] at hr hP ⊢
    exact hr

def max6_l1 (span0 : Int) (times1 : (List Int)) (by2 : Int) (i14 : Int) (fb14_1 : (List (Int × Int))) (fb14a_1 : (List (Int × Int))) (o : (Int × (List (Int × Int)) × (List (Int × Int))) ⊕ (((List (Int × Int)) × (List (Int × Int))) ⊕ ((List (Int × Int)) × (List (Int × Int))))) : Prop :=
  if i14 < (times1.length : Int) then
    (inI64 (i14 + (IntKind.i64.wrap by2))) ∧ (
    ((times1.length : Int) ≠ 0) ∧ (
    (0 ≤ i14 ∧ i14 < times1.length) ∧ (
    if (renew_F (1 + ((IntKind.i64.wrap span0).tmod 1000)) fb14_1 5 (IntKind.i64.wrap (times1[i14.toNat]!))).1 = 0 then
      (0 ≤ (i14 + (IntKind.i64.wrap by2)).tmod (times1.length : Int) ∧ (i14 + (IntKind.i64.wrap by2)).tmod (times1.length : Int) < times1.length) ∧ (
      if (renew_F (1 + ((IntKind.i64.wrap span0).tmod 1000)) fb14a_1 5 (IntKind.i64.wrap (times1[((i14 + (IntKind.i64.wrap by2)).tmod (times1.length : Int)).toNat]!))).1 = 0 then
        (inI64 (6 + i14)) ∧ (
        (0 ≤ i14 ∧ i14 < times1.length) ∧ (
        if (renew_F (1 + ((IntKind.i64.wrap span0).tmod 1000)) ((renew_F (1 + ((IntKind.i64.wrap span0).tmod 1000)) fb14a_1 5 (IntKind.i64.wrap (times1[((i14 + (IntKind.i64.wrap by2)).tmod (times1.length : Int)).toNat]!))).2) (6 + i14) (IntKind.i64.wrap (times1[i14.toNat]!))).1 = 0 then
          (inI64 (i14 + 1)) ∧ (
          o = (.inl (i14 + 1, (renew_F (1 + ((IntKind.i64.wrap span0).tmod 1000)) fb14_1 5 (IntKind.i64.wrap (times1[i14.toNat]!))).2, (renew_F (1 + ((IntKind.i64.wrap span0).tmod 1000)) ((renew_F (1 + ((IntKind.i64.wrap span0).tmod 1000)) fb14a_1 5 (IntKind.i64.wrap (times1[((i14 + (IntKind.i64.wrap by2)).tmod (times1.length : Int)).toNat]!))).2) (6 + i14) (IntKind.i64.wrap (times1[i14.toNat]!))).2)))
        else
          o = (.inr (.inr ((renew_F (1 + ((IntKind.i64.wrap span0).tmod 1000)) ((renew_F (1 + ((IntKind.i64.wrap span0).tmod 1000)) fb14a_1 5 (IntKind.i64.wrap (times1[((i14 + (IntKind.i64.wrap by2)).tmod (times1.length : Int)).toNat]!))).2) (6 + i14) (IntKind.i64.wrap (times1[i14.toNat]!))).2, (renew_F (1 + ((IntKind.i64.wrap span0).tmod 1000)) fb14_1 5 (IntKind.i64.wrap (times1[i14.toNat]!))).2)))))
      else
        o = (.inr (.inr ((renew_F (1 + ((IntKind.i64.wrap span0).tmod 1000)) fb14a_1 5 (IntKind.i64.wrap (times1[((i14 + (IntKind.i64.wrap by2)).tmod (times1.length : Int)).toNat]!))).2, (renew_F (1 + ((IntKind.i64.wrap span0).tmod 1000)) fb14_1 5 (IntKind.i64.wrap (times1[i14.toNat]!))).2))))
    else
      o = (.inr (.inr (fb14a_1, (renew_F (1 + ((IntKind.i64.wrap span0).tmod 1000)) fb14_1 5 (IntKind.i64.wrap (times1[i14.toNat]!))).2))))))
  else
    o = (.inr (.inl (fb14a_1, fb14_1)))

def max6_l2 (span0 : Int) (now3 : Int) (fb14a_1 : (List (Int × Int))) (due20 : Bool) (i22 : Int) (o : (Bool × Int) ⊕ (Bool)) : Prop :=
  if i22 < ((due_F (1 + ((IntKind.i64.wrap span0).tmod 1000)) fb14a_1 (IntKind.i64.wrap now3)).length : Int) then
    (((due20) = false) → 0 ≤ i22 ∧ i22 < (due_F (1 + ((IntKind.i64.wrap span0).tmod 1000)) fb14a_1 (IntKind.i64.wrap now3)).length) ∧ (
    (inI64 (i22 + 1)) ∧ (
    o = (.inl ((due20) || (decide ((due_F (1 + ((IntKind.i64.wrap span0).tmod 1000)) fb14a_1 (IntKind.i64.wrap now3))[i22.toNat]! = 5)), i22 + 1))))
  else
    o = (.inr due20)

def max6_k2a (span0 : Int) (now3 : Int) (fb14a_1 : (List (Int × Int))) (fb14_1 : (List (Int × Int))) (due20 : Bool) (r : Bool) : Prop :=
  if (since_F (1 + ((IntKind.i64.wrap span0).tmod 1000)) fb14_1 5).1 = (since_F (1 + ((IntKind.i64.wrap span0).tmod 1000)) fb14a_1 5).1 then
    if (code_F ((since_F (1 + ((IntKind.i64.wrap span0).tmod 1000)) fb14_1 5).2)) = (code_F ((since_F (1 + ((IntKind.i64.wrap span0).tmod 1000)) fb14a_1 5).2)) then
      (due_P (1 + ((IntKind.i64.wrap span0).tmod 1000)) fb14_1 (IntKind.i64.wrap now3)) ∧ (
      r = (((decide (0 < ((due_F (1 + ((IntKind.i64.wrap span0).tmod 1000)) fb14_1 (IntKind.i64.wrap now3)).length : Int))) == (due20))))
    else
      r = (false)
  else
    r = (false)

def max6_k1a (span0 : Int) (now3 : Int) (fb14a_1 : (List (Int × Int))) (fb14_1 : (List (Int × Int))) (r : Bool) : Prop :=
  (due_P (1 + ((IntKind.i64.wrap span0).tmod 1000)) fb14a_1 (IntKind.i64.wrap now3)) ∧ (
  ∃ x : Bool, Wh (fun (s : Bool × Int) (o : (Bool × Int) ⊕ (Bool)) => max6_l2 span0 now3 fb14a_1 s.1 s.2 o) ((false, 0) : Bool × Int) x ∧ max6_k2a span0 now3 fb14a_1 fb14_1 x r)

def max6_k1b (fb14a_1 : (List (Int × Int))) (fb14_1 : (List (Int × Int))) (r : Bool) : Prop :=
  r = (false)

def max6_S (span0 : Int) (times1 : (List Int)) (by2 : Int) (now3 : Int) (r : Bool) : Prop :=
  (alive06_P) ∧ (
  if (alive06_F) = true then
    if 60 < (times1.length : Int) then
      r = (true)
    else
      (inI64 (1 + ((IntKind.i64.wrap span0).tmod 1000))) ∧ (
      if ((decide (1 + ((IntKind.i64.wrap span0).tmod 1000) < 1)) || (decide (1000 < 1 + ((IntKind.i64.wrap span0).tmod 1000)))) = true then
        r = (false)
      else
        ∃ x : ((List (Int × Int)) × (List (Int × Int))) ⊕ ((List (Int × Int)) × (List (Int × Int))), Wh (fun (s : Int × (List (Int × Int)) × (List (Int × Int))) (o : (Int × (List (Int × Int)) × (List (Int × Int))) ⊕ (((List (Int × Int)) × (List (Int × Int))) ⊕ ((List (Int × Int)) × (List (Int × Int))))) => max6_l1 span0 times1 by2 s.1 s.2.1 s.2.2 o) ((0, [], []) : Int × (List (Int × Int)) × (List (Int × Int))) x ∧ (match x with | .inl (fb14a_1, fb14_1) => max6_k1a span0 now3 fb14a_1 fb14_1 r | .inr (fb14a_1, fb14_1) => max6_k1b fb14a_1 fb14_1 r))
  else
    r = (false))

def none6_S (id0 : Int) (now1 : Int) (r : Bool) : Prop :=
  (alive06_P) ∧ (
  if (alive06_F) = true then
    if (code_F 1) = 1 then
      r = (true)
    else
      r = (false)
  else
    r = (false))

def none6_F (id0 : Int) (now1 : Int) : Bool :=
  if (alive06_F) = true then
    if (code_F 1) = 1 then
      true
    else
      false
  else
    false

def none6_P (id0 : Int) (now1 : Int) : Prop :=
  (alive06_P) ∧ (
  if (alive06_F) = true then
    if (code_F 1) = 1 then
      True
    else
      True
  else
    True)

theorem none6_ok (id0 : Int) (now1 : Int) (hP : none6_P id0 now1) : none6_S id0 now1 (none6_F id0 now1) := by
  obtain ⟨r, hr⟩ : ∃ r, r = none6_F id0 now1 := ⟨_, rfl⟩
  rw [← hr]
  unfold none6_F at hr
  unfold none6_S
  unfold none6_P at hP
  obtain ⟨hq0, hP⟩ := hP
  refine ⟨hq0, ?_⟩
  by_cases hp15 : (alive06_F) = true
  · rw [if_pos hp15] at hr hP ⊢
    by_cases hp16 : (code_F 1) = 1
    · rw [if_pos hp16] at hr hP ⊢
      exact hr
    · rw [if_neg hp16] at hr hP ⊢
      exact hr
  · rw [if_neg hp15] at hr hP ⊢
    exact hr

def acts6_l2 (span0 : Int) (v11 : (List (Nat → Int))) (fb14_1 : (List (Int × Int))) (ids13 : (List Int)) (k14 : Int) (o : ((List Int) × Int) ⊕ (((List Int)) ⊕ (Unit))) : Prop :=
  if k14 < (v11.length : Int) then
    (0 ≤ k14 ∧ k14 < v11.length) ∧ (
    ((ids13.length + 1) * 8 ≤ 140737488355328) ∧ (
    (0 ≤ k14 ∧ k14 < v11.length) ∧ (
    (0 ≤ k14 ∧ k14 < v11.length) ∧ (
    if ((!(decide ((since_F span0 fb14_1 (v11[k14.toNat]! 0)).1 = v11[k14.toNat]! 1))) || (!(decide ((since_F span0 fb14_1 (v11[k14.toNat]! 0)).2 = 0)))) = true then
      o = (.inr (.inr ()))
    else
      (inI64 (k14 + 1)) ∧ (
      o = (.inl ((ids13 ++ [v11[k14.toNat]! 0]), k14 + 1)))))))
  else
    o = (.inr (.inl ids13))

def acts6_l3 (acts1 : (List (Nat → Int))) (v11 : (List (Nat → Int))) (i12 : Int) (out8 : (List (Nat → Int))) (put9 : Bool) (i10 : Int) (o : ((List (Nat → Int)) × Bool × Int) ⊕ ((List (Nat → Int)) × Bool)) : Prop :=
  if i10 < (v11.length : Int) then
    (0 ≤ i10 ∧ i10 < v11.length) ∧ (
    if ((decide ((acts1[i12.toNat]!) 1 < v11[i10.toNat]! 0)) && (!(put9))) = true then
      ((out8.length + 1) * 16 ≤ 140737488355328) ∧ (
      (0 ≤ i10 ∧ i10 < v11.length) ∧ (
      if v11[i10.toNat]! 0 = (acts1[i12.toNat]!) 1 then
        (0 ≤ i10 ∧ i10 < v11.length) ∧ (
        if (acts1[i12.toNat]!) 2 < v11[i10.toNat]! 1 then
          (0 ≤ i10 ∧ i10 < v11.length) ∧ (
          (((out8 ++ [(updI (updI (fun _ => 0) 0 ((acts1[i12.toNat]!) 1)) 1 ((acts1[i12.toNat]!) 2))]).length + 1) * 16 ≤ 140737488355328) ∧ (
          (inI64 (i10 + 1)) ∧ (
          o = (.inl (((out8 ++ [(updI (updI (fun _ => 0) 0 ((acts1[i12.toNat]!) 1)) 1 ((acts1[i12.toNat]!) 2))]) ++ [(v11[i10.toNat]!)]), true, i10 + 1)))))
        else
          (((out8 ++ [(updI (updI (fun _ => 0) 0 ((acts1[i12.toNat]!) 1)) 1 ((acts1[i12.toNat]!) 2))]).length + 1) * 16 ≤ 140737488355328) ∧ (
          (inI64 (i10 + 1)) ∧ (
          o = (.inl (((out8 ++ [(updI (updI (fun _ => 0) 0 ((acts1[i12.toNat]!) 1)) 1 ((acts1[i12.toNat]!) 2))]) ++ [(updI (updI (fun _ => 0) 0 ((acts1[i12.toNat]!) 1)) 1 ((acts1[i12.toNat]!) 2))]), true, i10 + 1)))))
      else
        (0 ≤ i10 ∧ i10 < v11.length) ∧ (
        (((out8 ++ [(updI (updI (fun _ => 0) 0 ((acts1[i12.toNat]!) 1)) 1 ((acts1[i12.toNat]!) 2))]).length + 1) * 16 ≤ 140737488355328) ∧ (
        (inI64 (i10 + 1)) ∧ (
        o = (.inl (((out8 ++ [(updI (updI (fun _ => 0) 0 ((acts1[i12.toNat]!) 1)) 1 ((acts1[i12.toNat]!) 2))]) ++ [(v11[i10.toNat]!)]), true, i10 + 1)))))))
    else
      (0 ≤ i10 ∧ i10 < v11.length) ∧ (
      if v11[i10.toNat]! 0 = (acts1[i12.toNat]!) 1 then
        (0 ≤ i10 ∧ i10 < v11.length) ∧ (
        if (acts1[i12.toNat]!) 2 < v11[i10.toNat]! 1 then
          (0 ≤ i10 ∧ i10 < v11.length) ∧ (
          ((out8.length + 1) * 16 ≤ 140737488355328) ∧ (
          (inI64 (i10 + 1)) ∧ (
          o = (.inl ((out8 ++ [(v11[i10.toNat]!)]), true, i10 + 1)))))
        else
          ((out8.length + 1) * 16 ≤ 140737488355328) ∧ (
          (inI64 (i10 + 1)) ∧ (
          o = (.inl ((out8 ++ [(updI (updI (fun _ => 0) 0 ((acts1[i12.toNat]!) 1)) 1 ((acts1[i12.toNat]!) 2))]), true, i10 + 1)))))
      else
        (0 ≤ i10 ∧ i10 < v11.length) ∧ (
        ((out8.length + 1) * 16 ≤ 140737488355328) ∧ (
        (inI64 (i10 + 1)) ∧ (
        o = (.inl ((out8 ++ [(v11[i10.toNat]!)]), put9, i10 + 1)))))))
  else
    o = (.inr (out8, put9))

def acts6_k3a (span0 : Int) (acts1 : (List (Nat → Int))) (i12 : Int) (fb14_1 : (List (Int × Int))) (out8 : (List (Nat → Int))) (put9 : Bool) (o : ((List (Nat → Int)) × Int × (List (Int × Int))) ⊕ (((List (Nat → Int)) × (List (Int × Int))) ⊕ ((List (Int × Int))))) : Prop :=
  if (put9) = true then
    if (code_F ((renew_F span0 fb14_1 ((acts1[i12.toNat]!) 1) ((acts1[i12.toNat]!) 2)).1)) = 0 then
      (inI64 (i12 + 1)) ∧ (
      o = (.inl (out8, i12 + 1, (renew_F span0 fb14_1 ((acts1[i12.toNat]!) 1) ((acts1[i12.toNat]!) 2)).2)))
    else
      o = (.inr (.inr ((renew_F span0 fb14_1 ((acts1[i12.toNat]!) 1) ((acts1[i12.toNat]!) 2)).2)))
  else
    ((out8.length + 1) * 16 ≤ 140737488355328) ∧ (
    if (code_F ((renew_F span0 fb14_1 ((acts1[i12.toNat]!) 1) ((acts1[i12.toNat]!) 2)).1)) = 0 then
      (inI64 (i12 + 1)) ∧ (
      o = (.inl ((out8 ++ [(updI (updI (fun _ => 0) 0 ((acts1[i12.toNat]!) 1)) 1 ((acts1[i12.toNat]!) 2))]), i12 + 1, (renew_F span0 fb14_1 ((acts1[i12.toNat]!) 1) ((acts1[i12.toNat]!) 2)).2)))
    else
      o = (.inr (.inr ((renew_F span0 fb14_1 ((acts1[i12.toNat]!) 1) ((acts1[i12.toNat]!) 2)).2))))

def acts6_l4 (acts1 : (List (Nat → Int))) (v11 : (List (Nat → Int))) (i12 : Int) (out6 : (List (Nat → Int))) (i7 : Int) (o : ((List (Nat → Int)) × Int) ⊕ ((List (Nat → Int)))) : Prop :=
  if i7 < (v11.length : Int) then
    (0 ≤ i7 ∧ i7 < v11.length) ∧ (
    if v11[i7.toNat]! 0 = (acts1[i12.toNat]!) 1 then
      (inI64 (i7 + 1)) ∧ (
      o = (.inl (out6, i7 + 1)))
    else
      (0 ≤ i7 ∧ i7 < v11.length) ∧ (
      ((out6.length + 1) * 16 ≤ 140737488355328) ∧ (
      (inI64 (i7 + 1)) ∧ (
      o = (.inl ((out6 ++ [(v11[i7.toNat]!)]), i7 + 1))))))
  else
    o = (.inr out6)

def acts6_k4a (span0 : Int) (acts1 : (List (Nat → Int))) (v11 : (List (Nat → Int))) (i12 : Int) (fb14_1 : (List (Int × Int))) (out6 : (List (Nat → Int))) (o : ((List (Nat → Int)) × Int × (List (Int × Int))) ⊕ (((List (Nat → Int)) × (List (Int × Int))) ⊕ ((List (Int × Int))))) : Prop :=
  if (out6.length : Int) = (v11.length : Int) then
    if (code_F ((lend_F span0 fb14_1 ((acts1[i12.toNat]!) 1)).1)) = 10 then
      (inI64 (i12 + 1)) ∧ (
      o = (.inl (v11, i12 + 1, (lend_F span0 fb14_1 ((acts1[i12.toNat]!) 1)).2)))
    else
      o = (.inr (.inr ((lend_F span0 fb14_1 ((acts1[i12.toNat]!) 1)).2)))
  else
    if (code_F ((lend_F span0 fb14_1 ((acts1[i12.toNat]!) 1)).1)) = 0 then
      (inI64 (i12 + 1)) ∧ (
      o = (.inl (out6, i12 + 1, (lend_F span0 fb14_1 ((acts1[i12.toNat]!) 1)).2)))
    else
      o = (.inr (.inr ((lend_F span0 fb14_1 ((acts1[i12.toNat]!) 1)).2)))

def acts6_k2a (span0 : Int) (acts1 : (List (Nat → Int))) (now2 : Int) (v11 : (List (Nat → Int))) (i12 : Int) (fb14_1 : (List (Int × Int))) (ids13 : (List Int)) (o : ((List (Nat → Int)) × Int × (List (Int × Int))) ⊕ (((List (Nat → Int)) × (List (Int × Int))) ⊕ ((List (Int × Int))))) : Prop :=
  (lall_P span0 fb14_1) ∧ (
  (ints_P (lall_F span0 fb14_1) ids13) ∧ (
  if ((ints_F (lall_F span0 fb14_1) ids13)) = true then
    (due_P span0 fb14_1 now2) ∧ (
    (dueR_P v11 span0 now2) ∧ (
    (ints_P (due_F span0 fb14_1 now2) (dueR_F v11 span0 now2)) ∧ (
    if ((ints_F (due_F span0 fb14_1 now2) (dueR_F v11 span0 now2))) = true then
      if i12 = (acts1.length : Int) then
        o = (.inr (.inl (v11, fb14_1)))
      else
        (0 ≤ i12 ∧ i12 < acts1.length) ∧ (
        if (acts1[i12.toNat]!) 0 = 0 then
          if ((decide ((acts1[i12.toNat]!) 1 < 1)) || (!((timeR_F ((acts1[i12.toNat]!) 2))))) = true then
            if (code_F ((renew_F span0 fb14_1 ((acts1[i12.toNat]!) 1) ((acts1[i12.toNat]!) 2)).1)) = 1 then
              (inI64 (i12 + 1)) ∧ (
              o = (.inl (v11, i12 + 1, (renew_F span0 fb14_1 ((acts1[i12.toNat]!) 1) ((acts1[i12.toNat]!) 2)).2)))
            else
              o = (.inr (.inr ((renew_F span0 fb14_1 ((acts1[i12.toNat]!) 1) ((acts1[i12.toNat]!) 2)).2)))
          else
            ∃ x : (List (Nat → Int)) × Bool, Wh (fun (s : (List (Nat → Int)) × Bool × Int) (o : ((List (Nat → Int)) × Bool × Int) ⊕ ((List (Nat → Int)) × Bool)) => acts6_l3 acts1 v11 i12 s.1 s.2.1 s.2.2 o) (([], false, 0) : (List (Nat → Int)) × Bool × Int) x ∧ acts6_k3a span0 acts1 i12 fb14_1 x.1 x.2 o
        else
          ∃ x : (List (Nat → Int)), Wh (fun (s : (List (Nat → Int)) × Int) (o : ((List (Nat → Int)) × Int) ⊕ ((List (Nat → Int)))) => acts6_l4 acts1 v11 i12 s.1 s.2 o) (([], 0) : (List (Nat → Int)) × Int) x ∧ acts6_k4a span0 acts1 v11 i12 fb14_1 x o)
    else
      o = (.inr (.inr fb14_1)))))
  else
    o = (.inr (.inr fb14_1))))

def acts6_k2b (fb14_1 : (List (Int × Int))) (o : ((List (Nat → Int)) × Int × (List (Int × Int))) ⊕ (((List (Nat → Int)) × (List (Int × Int))) ⊕ ((List (Int × Int))))) : Prop :=
  o = (.inr (.inr fb14_1))

def acts6_l1 (span0 : Int) (acts1 : (List (Nat → Int))) (now2 : Int) (v11 : (List (Nat → Int))) (i12 : Int) (fb14_1 : (List (Int × Int))) (o : ((List (Nat → Int)) × Int × (List (Int × Int))) ⊕ (((List (Nat → Int)) × (List (Int × Int))) ⊕ ((List (Int × Int))))) : Prop :=
  if i12 ≤ (acts1.length : Int) then
    ∃ x : ((List Int)) ⊕ (Unit), Wh (fun (s : (List Int) × Int) (o : ((List Int) × Int) ⊕ (((List Int)) ⊕ (Unit))) => acts6_l2 span0 v11 fb14_1 s.1 s.2 o) (([], 0) : (List Int) × Int) x ∧ (match x with | .inl ids13 => acts6_k2a span0 acts1 now2 v11 i12 fb14_1 ids13 o | .inr _ => acts6_k2b fb14_1 o)
  else
    o = (.inr (.inl (v11, fb14_1)))

def acts6_l5 (span0 : Int) (id3 : Int) (v11 : (List (Nat → Int))) (fb14_1 : (List (Int × Int))) (k21 : Int) (o : (Int) ⊕ ((Unit) ⊕ (Bool))) : Prop :=
  if k21 < (v11.length : Int) then
    (0 ≤ k21 ∧ k21 < v11.length) ∧ (
    if v11[k21.toNat]! 0 = id3 then
      (0 ≤ k21 ∧ k21 < v11.length) ∧ (
      o = (.inr (.inr ((decide ((since_F span0 fb14_1 id3).1 = v11[k21.toNat]! 1)) && (decide ((since_F span0 fb14_1 id3).2 = 0))))))
    else
      (inI64 (k21 + 1)) ∧ (
      o = (.inl (k21 + 1))))
  else
    o = (.inr (.inl ()))

def acts6_k5a (span0 : Int) (id3 : Int) (fb14_1 : (List (Int × Int))) (r : Bool) : Prop :=
  r = ((decide ((since_F span0 fb14_1 id3).1 = 0)) && (decide ((code_F ((since_F span0 fb14_1 id3).2)) = 10)))

def acts6_k5b (x8 : Bool) (r : Bool) : Prop :=
  r = (x8)

def acts6_k1a (span0 : Int) (id3 : Int) (v11 : (List (Nat → Int))) (fb14_1 : (List (Int × Int))) (r : Bool) : Prop :=
  ∃ x : (Unit) ⊕ (Bool), Wh (fun (s : Int) (o : (Int) ⊕ ((Unit) ⊕ (Bool))) => acts6_l5 span0 id3 v11 fb14_1 s o) (0 : Int) x ∧ (match x with | .inl _ => acts6_k5a span0 id3 fb14_1 r | .inr x8 => acts6_k5b x8 r)

def acts6_k1b (fb14_1 : (List (Int × Int))) (r : Bool) : Prop :=
  r = (false)

def acts6_S (span0 : Int) (acts1 : (List (Nat → Int))) (now2 : Int) (id3 : Int) (r : Bool) : Prop :=
  (alive06_P) ∧ (
  if (alive06_F) = true then
    if 200 < (acts1.length : Int) then
      r = (true)
    else
      if ((decide (span0 < 1)) || (decide (1000 < span0))) = true then
        r = (decide ((code_F 2) = 2))
      else
        ∃ x : ((List (Nat → Int)) × (List (Int × Int))) ⊕ ((List (Int × Int))), Wh (fun (s : (List (Nat → Int)) × Int × (List (Int × Int))) (o : ((List (Nat → Int)) × Int × (List (Int × Int))) ⊕ (((List (Nat → Int)) × (List (Int × Int))) ⊕ ((List (Int × Int))))) => acts6_l1 span0 acts1 now2 s.1 s.2.1 s.2.2 o) (([], 0, []) : (List (Nat → Int)) × Int × (List (Int × Int))) x ∧ (match x with | .inl (v11, fb14_1) => acts6_k1a span0 id3 v11 fb14_1 r | .inr fb14_1 => acts6_k1b fb14_1 r)
  else
    r = (false))

end Go.E
