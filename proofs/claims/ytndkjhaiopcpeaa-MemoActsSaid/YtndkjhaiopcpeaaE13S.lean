/- What functions of the program say, as relations. -/
import Derived.Test.YtndkjhaiopcpeaaPR
import Derived.Test.YtndkjhaiopcpeaaP13c
set_option maxHeartbeats 1000000
set_option linter.unusedVariables false
set_option linter.unusedSimpArgs false
set_option maxRecDepth 100000
namespace Go.E
open Go

def acts13_l2 (v6 : (List (Nat → Int))) (ids15 : (List Int)) (k16 : Int) (o : ((List Int) × Int) ⊕ ((List Int))) : Prop :=
  if k16 < (v6.length : Int) then
    (0 ≤ k16 ∧ k16 < v6.length) ∧ (
    ((ids15.length + 1) * 8 ≤ 140737488355328) ∧ (
    (inI64 (k16 + 1)) ∧ (
    o = (.inl ((ids15 ++ [v6[k16.toNat]! 0]), k16 + 1)))))
  else
    o = (.inr ids15)

def acts13_k2a (acts0 : (List (Nat → Int))) (v6 : (List (Nat → Int))) (i7 : Int) (fb3 : (List (Int × (Nat → Int)))) (ids15 : (List Int)) (o : ((List (Nat → Int)) × Int × (List (Int × (Nat → Int)))) ⊕ (((List (Nat → Int)) × (List (Int × (Nat → Int)))) ⊕ ((List (Int × (Nat → Int)))))) : Prop :=
  (ball_P ((bopen_F fb3 ((acts0[i7.toNat]!) 1) ((acts0[i7.toNat]!) 2)).2.2)) ∧ (
  (ints_P (ball_F ((bopen_F fb3 ((acts0[i7.toNat]!) 1) ((acts0[i7.toNat]!) 2)).2.2)) ids15) ∧ (
  if ((ints_F (ball_F ((bopen_F fb3 ((acts0[i7.toNat]!) 1) ((acts0[i7.toNat]!) 2)).2.2)) ids15)) = true then
    (inI64 (i7 + 1)) ∧ (
    o = (.inl (v6, i7 + 1, (bopen_F fb3 ((acts0[i7.toNat]!) 1) ((acts0[i7.toNat]!) 2)).2.2)))
  else
    o = (.inr (.inr ((bopen_F fb3 ((acts0[i7.toNat]!) 1) ((acts0[i7.toNat]!) 2)).2.2)))))

def acts13_l3 (acts0 : (List (Nat → Int))) (v6 : (List (Nat → Int))) (i7 : Int) (out5 : (List (Nat → Int))) (put6 : Bool) (i7a : Int) (o : ((List (Nat → Int)) × Bool × Int) ⊕ ((List (Nat → Int)) × Bool)) : Prop :=
  if i7a < (v6.length : Int) then
    (((!(put6)) = true) → 0 ≤ i7a ∧ i7a < v6.length) ∧ (
    if ((!(put6)) && (decide ((acts0[i7.toNat]!) 1 ≤ v6[i7a.toNat]! 0))) = true then
      ((out5.length + 1) * 240 ≤ 140737488355328) ∧ (
      (0 ≤ i7a ∧ i7a < v6.length) ∧ (
      if v6[i7a.toNat]! 0 = (acts0[i7.toNat]!) 1 then
        (inI64 (i7a + 1)) ∧ (
        o = (.inl ((out5 ++ [(updI (updI (fun _ => 0) 0 ((acts0[i7.toNat]!) 1)) 1 ((acts0[i7.toNat]!) 2))]), true, i7a + 1)))
      else
        (0 ≤ i7a ∧ i7a < v6.length) ∧ (
        (((out5 ++ [(updI (updI (fun _ => 0) 0 ((acts0[i7.toNat]!) 1)) 1 ((acts0[i7.toNat]!) 2))]).length + 1) * 240 ≤ 140737488355328) ∧ (
        (inI64 (i7a + 1)) ∧ (
        o = (.inl (((out5 ++ [(updI (updI (fun _ => 0) 0 ((acts0[i7.toNat]!) 1)) 1 ((acts0[i7.toNat]!) 2))]) ++ [(v6[i7a.toNat]!)]), true, i7a + 1)))))))
    else
      (0 ≤ i7a ∧ i7a < v6.length) ∧ (
      if v6[i7a.toNat]! 0 = (acts0[i7.toNat]!) 1 then
        (inI64 (i7a + 1)) ∧ (
        o = (.inl (out5, put6, i7a + 1)))
      else
        (0 ≤ i7a ∧ i7a < v6.length) ∧ (
        ((out5.length + 1) * 240 ≤ 140737488355328) ∧ (
        (inI64 (i7a + 1)) ∧ (
        o = (.inl ((out5 ++ [(v6[i7a.toNat]!)]), put6, i7a + 1)))))))
  else
    o = (.inr (out5, put6))

def acts13_l4 (acts0 : (List (Nat → Int))) (i7 : Int) (out5 : (List (Nat → Int))) (ids15 : (List Int)) (k16 : Int) (o : ((List Int) × Int) ⊕ ((List Int))) : Prop :=
  if k16 < ((out5 ++ [(updI (updI (fun _ => 0) 0 ((acts0[i7.toNat]!) 1)) 1 ((acts0[i7.toNat]!) 2))]).length : Int) then
    (0 ≤ k16 ∧ k16 < (out5 ++ [(updI (updI (fun _ => 0) 0 ((acts0[i7.toNat]!) 1)) 1 ((acts0[i7.toNat]!) 2))]).length) ∧ (
    ((ids15.length + 1) * 8 ≤ 140737488355328) ∧ (
    (inI64 (k16 + 1)) ∧ (
    o = (.inl ((ids15 ++ [(out5 ++ [(updI (updI (fun _ => 0) 0 ((acts0[i7.toNat]!) 1)) 1 ((acts0[i7.toNat]!) 2))])[k16.toNat]! 0]), k16 + 1)))))
  else
    o = (.inr ids15)

def acts13_k4a (acts0 : (List (Nat → Int))) (i7 : Int) (fb3 : (List (Int × (Nat → Int)))) (out5 : (List (Nat → Int))) (ids15 : (List Int)) (o : ((List (Nat → Int)) × Int × (List (Int × (Nat → Int)))) ⊕ (((List (Nat → Int)) × (List (Int × (Nat → Int)))) ⊕ ((List (Int × (Nat → Int)))))) : Prop :=
  (ball_P ((bopen_F fb3 ((acts0[i7.toNat]!) 1) ((acts0[i7.toNat]!) 2)).2.2)) ∧ (
  (ints_P (ball_F ((bopen_F fb3 ((acts0[i7.toNat]!) 1) ((acts0[i7.toNat]!) 2)).2.2)) ids15) ∧ (
  if ((ints_F (ball_F ((bopen_F fb3 ((acts0[i7.toNat]!) 1) ((acts0[i7.toNat]!) 2)).2.2)) ids15)) = true then
    (inI64 (i7 + 1)) ∧ (
    o = (.inl ((out5 ++ [(updI (updI (fun _ => 0) 0 ((acts0[i7.toNat]!) 1)) 1 ((acts0[i7.toNat]!) 2))]), i7 + 1, (bopen_F fb3 ((acts0[i7.toNat]!) 1) ((acts0[i7.toNat]!) 2)).2.2)))
  else
    o = (.inr (.inr ((bopen_F fb3 ((acts0[i7.toNat]!) 1) ((acts0[i7.toNat]!) 2)).2.2)))))

def acts13_l5 (out5 : (List (Nat → Int))) (ids15 : (List Int)) (k16 : Int) (o : ((List Int) × Int) ⊕ ((List Int))) : Prop :=
  if k16 < (out5.length : Int) then
    (0 ≤ k16 ∧ k16 < out5.length) ∧ (
    ((ids15.length + 1) * 8 ≤ 140737488355328) ∧ (
    (inI64 (k16 + 1)) ∧ (
    o = (.inl ((ids15 ++ [out5[k16.toNat]! 0]), k16 + 1)))))
  else
    o = (.inr ids15)

def acts13_k5a (acts0 : (List (Nat → Int))) (i7 : Int) (fb3 : (List (Int × (Nat → Int)))) (out5 : (List (Nat → Int))) (ids15 : (List Int)) (o : ((List (Nat → Int)) × Int × (List (Int × (Nat → Int)))) ⊕ (((List (Nat → Int)) × (List (Int × (Nat → Int)))) ⊕ ((List (Int × (Nat → Int)))))) : Prop :=
  (ball_P ((bopen_F fb3 ((acts0[i7.toNat]!) 1) ((acts0[i7.toNat]!) 2)).2.2)) ∧ (
  (ints_P (ball_F ((bopen_F fb3 ((acts0[i7.toNat]!) 1) ((acts0[i7.toNat]!) 2)).2.2)) ids15) ∧ (
  if ((ints_F (ball_F ((bopen_F fb3 ((acts0[i7.toNat]!) 1) ((acts0[i7.toNat]!) 2)).2.2)) ids15)) = true then
    (inI64 (i7 + 1)) ∧ (
    o = (.inl (out5, i7 + 1, (bopen_F fb3 ((acts0[i7.toNat]!) 1) ((acts0[i7.toNat]!) 2)).2.2)))
  else
    o = (.inr (.inr ((bopen_F fb3 ((acts0[i7.toNat]!) 1) ((acts0[i7.toNat]!) 2)).2.2)))))

def acts13_k3a (acts0 : (List (Nat → Int))) (i7 : Int) (fb3 : (List (Int × (Nat → Int)))) (out5 : (List (Nat → Int))) (put6 : Bool) (o : ((List (Nat → Int)) × Int × (List (Int × (Nat → Int)))) ⊕ (((List (Nat → Int)) × (List (Int × (Nat → Int)))) ⊕ ((List (Int × (Nat → Int)))))) : Prop :=
  if (put6) = true then
    if ((!((eqN 28 ((bopen_F fb3 ((acts0[i7.toNat]!) 1) ((acts0[i7.toNat]!) 2)).1) (fun _ => 0)))) || (!(decide ((code_F ((bopen_F fb3 ((acts0[i7.toNat]!) 1) ((acts0[i7.toNat]!) 2)).2.1)) = 0)))) = true then
      o = (.inr (.inr ((bopen_F fb3 ((acts0[i7.toNat]!) 1) ((acts0[i7.toNat]!) 2)).2.2)))
    else
      ∃ x : (List Int), Wh (fun (s : (List Int) × Int) (o : ((List Int) × Int) ⊕ ((List Int))) => acts13_l5 out5 s.1 s.2 o) (([], 0) : (List Int) × Int) x ∧ acts13_k5a acts0 i7 fb3 out5 x o
  else
    ((out5.length + 1) * 240 ≤ 140737488355328) ∧ (
    if ((!((eqN 28 ((bopen_F fb3 ((acts0[i7.toNat]!) 1) ((acts0[i7.toNat]!) 2)).1) (fun _ => 0)))) || (!(decide ((code_F ((bopen_F fb3 ((acts0[i7.toNat]!) 1) ((acts0[i7.toNat]!) 2)).2.1)) = 0)))) = true then
      o = (.inr (.inr ((bopen_F fb3 ((acts0[i7.toNat]!) 1) ((acts0[i7.toNat]!) 2)).2.2)))
    else
      ∃ x : (List Int), Wh (fun (s : (List Int) × Int) (o : ((List Int) × Int) ⊕ ((List Int))) => acts13_l4 acts0 i7 out5 s.1 s.2 o) (([], 0) : (List Int) × Int) x ∧ acts13_k4a acts0 i7 fb3 out5 x o)

def acts13_l6 (v6 : (List (Nat → Int))) (ids15 : (List Int)) (k16 : Int) (o : ((List Int) × Int) ⊕ ((List Int))) : Prop :=
  if k16 < (v6.length : Int) then
    (0 ≤ k16 ∧ k16 < v6.length) ∧ (
    ((ids15.length + 1) * 8 ≤ 140737488355328) ∧ (
    (inI64 (k16 + 1)) ∧ (
    o = (.inl ((ids15 ++ [v6[k16.toNat]! 0]), k16 + 1)))))
  else
    o = (.inr ids15)

def acts13_k6a (acts0 : (List (Nat → Int))) (v6 : (List (Nat → Int))) (i7 : Int) (fb3 : (List (Int × (Nat → Int)))) (ids15 : (List Int)) (o : ((List (Nat → Int)) × Int × (List (Int × (Nat → Int)))) ⊕ (((List (Nat → Int)) × (List (Int × (Nat → Int)))) ⊕ ((List (Int × (Nat → Int)))))) : Prop :=
  (ball_P ((bopen_F fb3 ((acts0[i7.toNat]!) 1) ((acts0[i7.toNat]!) 2)).2.2)) ∧ (
  (ints_P (ball_F ((bopen_F fb3 ((acts0[i7.toNat]!) 1) ((acts0[i7.toNat]!) 2)).2.2)) ids15) ∧ (
  if ((ints_F (ball_F ((bopen_F fb3 ((acts0[i7.toNat]!) 1) ((acts0[i7.toNat]!) 2)).2.2)) ids15)) = true then
    (inI64 (i7 + 1)) ∧ (
    o = (.inl (v6, i7 + 1, (bopen_F fb3 ((acts0[i7.toNat]!) 1) ((acts0[i7.toNat]!) 2)).2.2)))
  else
    o = (.inr (.inr ((bopen_F fb3 ((acts0[i7.toNat]!) 1) ((acts0[i7.toNat]!) 2)).2.2)))))

def acts13_l7 (v6 : (List (Nat → Int))) (ids15 : (List Int)) (k16 : Int) (o : ((List Int) × Int) ⊕ ((List Int))) : Prop :=
  if k16 < (v6.length : Int) then
    (0 ≤ k16 ∧ k16 < v6.length) ∧ (
    ((ids15.length + 1) * 8 ≤ 140737488355328) ∧ (
    (inI64 (k16 + 1)) ∧ (
    o = (.inl ((ids15 ++ [v6[k16.toNat]! 0]), k16 + 1)))))
  else
    o = (.inr ids15)

def acts13_k7a (acts0 : (List (Nat → Int))) (v6 : (List (Nat → Int))) (i7 : Int) (fb3 : (List (Int × (Nat → Int)))) (ids15 : (List Int)) (o : ((List (Nat → Int)) × Int × (List (Int × (Nat → Int)))) ⊕ (((List (Nat → Int)) × (List (Int × (Nat → Int)))) ⊕ ((List (Int × (Nat → Int)))))) : Prop :=
  (ball_P ((bopen_F fb3 ((acts0[i7.toNat]!) 1) ((acts0[i7.toNat]!) 2)).2.2)) ∧ (
  (ints_P (ball_F ((bopen_F fb3 ((acts0[i7.toNat]!) 1) ((acts0[i7.toNat]!) 2)).2.2)) ids15) ∧ (
  if ((ints_F (ball_F ((bopen_F fb3 ((acts0[i7.toNat]!) 1) ((acts0[i7.toNat]!) 2)).2.2)) ids15)) = true then
    (inI64 (i7 + 1)) ∧ (
    o = (.inl (v6, i7 + 1, (bopen_F fb3 ((acts0[i7.toNat]!) 1) ((acts0[i7.toNat]!) 2)).2.2)))
  else
    o = (.inr (.inr ((bopen_F fb3 ((acts0[i7.toNat]!) 1) ((acts0[i7.toNat]!) 2)).2.2)))))

def acts13_l8 (v6 : (List (Nat → Int))) (ids15 : (List Int)) (k16 : Int) (o : ((List Int) × Int) ⊕ ((List Int))) : Prop :=
  if k16 < (v6.length : Int) then
    (0 ≤ k16 ∧ k16 < v6.length) ∧ (
    ((ids15.length + 1) * 8 ≤ 140737488355328) ∧ (
    (inI64 (k16 + 1)) ∧ (
    o = (.inl ((ids15 ++ [v6[k16.toNat]! 0]), k16 + 1)))))
  else
    o = (.inr ids15)

def acts13_k8a (acts0 : (List (Nat → Int))) (v6 : (List (Nat → Int))) (i7 : Int) (fb3 : (List (Int × (Nat → Int)))) (ids15 : (List Int)) (o : ((List (Nat → Int)) × Int × (List (Int × (Nat → Int)))) ⊕ (((List (Nat → Int)) × (List (Int × (Nat → Int)))) ⊕ ((List (Int × (Nat → Int)))))) : Prop :=
  (ball_P ((bopen_F fb3 ((acts0[i7.toNat]!) 1) ((acts0[i7.toNat]!) 2)).2.2)) ∧ (
  (ints_P (ball_F ((bopen_F fb3 ((acts0[i7.toNat]!) 1) ((acts0[i7.toNat]!) 2)).2.2)) ids15) ∧ (
  if ((ints_F (ball_F ((bopen_F fb3 ((acts0[i7.toNat]!) 1) ((acts0[i7.toNat]!) 2)).2.2)) ids15)) = true then
    (inI64 (i7 + 1)) ∧ (
    o = (.inl (v6, i7 + 1, (bopen_F fb3 ((acts0[i7.toNat]!) 1) ((acts0[i7.toNat]!) 2)).2.2)))
  else
    o = (.inr (.inr ((bopen_F fb3 ((acts0[i7.toNat]!) 1) ((acts0[i7.toNat]!) 2)).2.2)))))

def acts13_l9 (v6 : (List (Nat → Int))) (ids15 : (List Int)) (k16 : Int) (o : ((List Int) × Int) ⊕ ((List Int))) : Prop :=
  if k16 < (v6.length : Int) then
    (0 ≤ k16 ∧ k16 < v6.length) ∧ (
    ((ids15.length + 1) * 8 ≤ 140737488355328) ∧ (
    (inI64 (k16 + 1)) ∧ (
    o = (.inl ((ids15 ++ [v6[k16.toNat]! 0]), k16 + 1)))))
  else
    o = (.inr ids15)

def acts13_k9a (acts0 : (List (Nat → Int))) (v6 : (List (Nat → Int))) (i7 : Int) (fb3 : (List (Int × (Nat → Int)))) (ids15 : (List Int)) (o : ((List (Nat → Int)) × Int × (List (Int × (Nat → Int)))) ⊕ (((List (Nat → Int)) × (List (Int × (Nat → Int)))) ⊕ ((List (Int × (Nat → Int)))))) : Prop :=
  (ball_P ((bclose_F fb3 (fun i => (acts0[i7.toNat]!) (3 + i))).2)) ∧ (
  (ints_P (ball_F ((bclose_F fb3 (fun i => (acts0[i7.toNat]!) (3 + i))).2)) ids15) ∧ (
  if ((ints_F (ball_F ((bclose_F fb3 (fun i => (acts0[i7.toNat]!) (3 + i))).2)) ids15)) = true then
    (inI64 (i7 + 1)) ∧ (
    o = (.inl (v6, i7 + 1, (bclose_F fb3 (fun i => (acts0[i7.toNat]!) (3 + i))).2)))
  else
    o = (.inr (.inr ((bclose_F fb3 (fun i => (acts0[i7.toNat]!) (3 + i))).2)))))

def acts13_l10 (v6 : (List (Nat → Int))) (ids15 : (List Int)) (k16 : Int) (o : ((List Int) × Int) ⊕ ((List Int))) : Prop :=
  if k16 < (v6.length : Int) then
    (0 ≤ k16 ∧ k16 < v6.length) ∧ (
    ((ids15.length + 1) * 8 ≤ 140737488355328) ∧ (
    (inI64 (k16 + 1)) ∧ (
    o = (.inl ((ids15 ++ [v6[k16.toNat]! 0]), k16 + 1)))))
  else
    o = (.inr ids15)

def acts13_k10a (acts0 : (List (Nat → Int))) (v6 : (List (Nat → Int))) (i7 : Int) (fb3 : (List (Int × (Nat → Int)))) (ids15 : (List Int)) (o : ((List (Nat → Int)) × Int × (List (Int × (Nat → Int)))) ⊕ (((List (Nat → Int)) × (List (Int × (Nat → Int)))) ⊕ ((List (Int × (Nat → Int)))))) : Prop :=
  (ball_P ((bclose_F fb3 (fun i => (acts0[i7.toNat]!) (3 + i))).2)) ∧ (
  (ints_P (ball_F ((bclose_F fb3 (fun i => (acts0[i7.toNat]!) (3 + i))).2)) ids15) ∧ (
  if ((ints_F (ball_F ((bclose_F fb3 (fun i => (acts0[i7.toNat]!) (3 + i))).2)) ids15)) = true then
    (inI64 (i7 + 1)) ∧ (
    o = (.inl (v6, i7 + 1, (bclose_F fb3 (fun i => (acts0[i7.toNat]!) (3 + i))).2)))
  else
    o = (.inr (.inr ((bclose_F fb3 (fun i => (acts0[i7.toNat]!) (3 + i))).2)))))

def acts13_l11 (v6 : (List (Nat → Int))) (ids15 : (List Int)) (k16 : Int) (o : ((List Int) × Int) ⊕ ((List Int))) : Prop :=
  if k16 < (v6.length : Int) then
    (0 ≤ k16 ∧ k16 < v6.length) ∧ (
    ((ids15.length + 1) * 8 ≤ 140737488355328) ∧ (
    (inI64 (k16 + 1)) ∧ (
    o = (.inl ((ids15 ++ [v6[k16.toNat]! 0]), k16 + 1)))))
  else
    o = (.inr ids15)

def acts13_k11a (acts0 : (List (Nat → Int))) (v6 : (List (Nat → Int))) (i7 : Int) (fb3 : (List (Int × (Nat → Int)))) (ids15 : (List Int)) (o : ((List (Nat → Int)) × Int × (List (Int × (Nat → Int)))) ⊕ (((List (Nat → Int)) × (List (Int × (Nat → Int)))) ⊕ ((List (Int × (Nat → Int)))))) : Prop :=
  (ball_P ((bclose_F fb3 (fun i => (acts0[i7.toNat]!) (3 + i))).2)) ∧ (
  (ints_P (ball_F ((bclose_F fb3 (fun i => (acts0[i7.toNat]!) (3 + i))).2)) ids15) ∧ (
  if ((ints_F (ball_F ((bclose_F fb3 (fun i => (acts0[i7.toNat]!) (3 + i))).2)) ids15)) = true then
    (inI64 (i7 + 1)) ∧ (
    o = (.inl (v6, i7 + 1, (bclose_F fb3 (fun i => (acts0[i7.toNat]!) (3 + i))).2)))
  else
    o = (.inr (.inr ((bclose_F fb3 (fun i => (acts0[i7.toNat]!) (3 + i))).2)))))

def acts13_l12 (v6 : (List (Nat → Int))) (ids15 : (List Int)) (k16 : Int) (o : ((List Int) × Int) ⊕ ((List Int))) : Prop :=
  if k16 < (v6.length : Int) then
    (0 ≤ k16 ∧ k16 < v6.length) ∧ (
    ((ids15.length + 1) * 8 ≤ 140737488355328) ∧ (
    (inI64 (k16 + 1)) ∧ (
    o = (.inl ((ids15 ++ [v6[k16.toNat]! 0]), k16 + 1)))))
  else
    o = (.inr ids15)

def acts13_k12a (acts0 : (List (Nat → Int))) (v6 : (List (Nat → Int))) (i7 : Int) (fb3 : (List (Int × (Nat → Int)))) (ids15 : (List Int)) (o : ((List (Nat → Int)) × Int × (List (Int × (Nat → Int)))) ⊕ (((List (Nat → Int)) × (List (Int × (Nat → Int)))) ⊕ ((List (Int × (Nat → Int)))))) : Prop :=
  (ball_P ((bclose_F fb3 (fun i => (acts0[i7.toNat]!) (3 + i))).2)) ∧ (
  (ints_P (ball_F ((bclose_F fb3 (fun i => (acts0[i7.toNat]!) (3 + i))).2)) ids15) ∧ (
  if ((ints_F (ball_F ((bclose_F fb3 (fun i => (acts0[i7.toNat]!) (3 + i))).2)) ids15)) = true then
    (inI64 (i7 + 1)) ∧ (
    o = (.inl (v6, i7 + 1, (bclose_F fb3 (fun i => (acts0[i7.toNat]!) (3 + i))).2)))
  else
    o = (.inr (.inr ((bclose_F fb3 (fun i => (acts0[i7.toNat]!) (3 + i))).2)))))

def acts13_l13 (acts0 : (List (Nat → Int))) (v6 : (List (Nat → Int))) (i7 : Int) (out5 : (List (Nat → Int))) (put6 : Bool) (i7a : Int) (o : ((List (Nat → Int)) × Bool × Int) ⊕ ((List (Nat → Int)) × Bool)) : Prop :=
  if i7a < (v6.length : Int) then
    (((!(put6)) = true) → 0 ≤ i7a ∧ i7a < v6.length) ∧ (
    if ((!(put6)) && (decide ((acts0[i7.toNat]!) 6 ≤ v6[i7a.toNat]! 0))) = true then
      ((out5.length + 1) * 240 ≤ 140737488355328) ∧ (
      (0 ≤ i7a ∧ i7a < v6.length) ∧ (
      if v6[i7a.toNat]! 0 = (acts0[i7.toNat]!) 6 then
        (inI64 (i7a + 1)) ∧ (
        o = (.inl ((out5 ++ [(updRI (updI (updI (fun _ => 0) 0 ((acts0[i7.toNat]!) 6)) 1 ((acts0[i7.toNat]!) 7)) 2 28 (fun i => (acts0[i7.toNat]!) (3 + i)))]), true, i7a + 1)))
      else
        (0 ≤ i7a ∧ i7a < v6.length) ∧ (
        (((out5 ++ [(updRI (updI (updI (fun _ => 0) 0 ((acts0[i7.toNat]!) 6)) 1 ((acts0[i7.toNat]!) 7)) 2 28 (fun i => (acts0[i7.toNat]!) (3 + i)))]).length + 1) * 240 ≤ 140737488355328) ∧ (
        (inI64 (i7a + 1)) ∧ (
        o = (.inl (((out5 ++ [(updRI (updI (updI (fun _ => 0) 0 ((acts0[i7.toNat]!) 6)) 1 ((acts0[i7.toNat]!) 7)) 2 28 (fun i => (acts0[i7.toNat]!) (3 + i)))]) ++ [(v6[i7a.toNat]!)]), true, i7a + 1)))))))
    else
      (0 ≤ i7a ∧ i7a < v6.length) ∧ (
      if v6[i7a.toNat]! 0 = (acts0[i7.toNat]!) 6 then
        (inI64 (i7a + 1)) ∧ (
        o = (.inl (out5, put6, i7a + 1)))
      else
        (0 ≤ i7a ∧ i7a < v6.length) ∧ (
        ((out5.length + 1) * 240 ≤ 140737488355328) ∧ (
        (inI64 (i7a + 1)) ∧ (
        o = (.inl ((out5 ++ [(v6[i7a.toNat]!)]), put6, i7a + 1)))))))
  else
    o = (.inr (out5, put6))

def acts13_l14 (acts0 : (List (Nat → Int))) (i7 : Int) (out5 : (List (Nat → Int))) (ids15 : (List Int)) (k16 : Int) (o : ((List Int) × Int) ⊕ ((List Int))) : Prop :=
  if k16 < ((out5 ++ [(updRI (updI (updI (fun _ => 0) 0 ((acts0[i7.toNat]!) 6)) 1 ((acts0[i7.toNat]!) 7)) 2 28 (fun i => (acts0[i7.toNat]!) (3 + i)))]).length : Int) then
    (0 ≤ k16 ∧ k16 < (out5 ++ [(updRI (updI (updI (fun _ => 0) 0 ((acts0[i7.toNat]!) 6)) 1 ((acts0[i7.toNat]!) 7)) 2 28 (fun i => (acts0[i7.toNat]!) (3 + i)))]).length) ∧ (
    ((ids15.length + 1) * 8 ≤ 140737488355328) ∧ (
    (inI64 (k16 + 1)) ∧ (
    o = (.inl ((ids15 ++ [(out5 ++ [(updRI (updI (updI (fun _ => 0) 0 ((acts0[i7.toNat]!) 6)) 1 ((acts0[i7.toNat]!) 7)) 2 28 (fun i => (acts0[i7.toNat]!) (3 + i)))])[k16.toNat]! 0]), k16 + 1)))))
  else
    o = (.inr ids15)

def acts13_k14a (acts0 : (List (Nat → Int))) (i7 : Int) (fb3 : (List (Int × (Nat → Int)))) (out5 : (List (Nat → Int))) (ids15 : (List Int)) (o : ((List (Nat → Int)) × Int × (List (Int × (Nat → Int)))) ⊕ (((List (Nat → Int)) × (List (Int × (Nat → Int)))) ⊕ ((List (Int × (Nat → Int)))))) : Prop :=
  (ball_P ((bclose_F fb3 (fun i => (acts0[i7.toNat]!) (3 + i))).2)) ∧ (
  (ints_P (ball_F ((bclose_F fb3 (fun i => (acts0[i7.toNat]!) (3 + i))).2)) ids15) ∧ (
  if ((ints_F (ball_F ((bclose_F fb3 (fun i => (acts0[i7.toNat]!) (3 + i))).2)) ids15)) = true then
    (inI64 (i7 + 1)) ∧ (
    o = (.inl ((out5 ++ [(updRI (updI (updI (fun _ => 0) 0 ((acts0[i7.toNat]!) 6)) 1 ((acts0[i7.toNat]!) 7)) 2 28 (fun i => (acts0[i7.toNat]!) (3 + i)))]), i7 + 1, (bclose_F fb3 (fun i => (acts0[i7.toNat]!) (3 + i))).2)))
  else
    o = (.inr (.inr ((bclose_F fb3 (fun i => (acts0[i7.toNat]!) (3 + i))).2)))))

def acts13_l15 (out5 : (List (Nat → Int))) (ids15 : (List Int)) (k16 : Int) (o : ((List Int) × Int) ⊕ ((List Int))) : Prop :=
  if k16 < (out5.length : Int) then
    (0 ≤ k16 ∧ k16 < out5.length) ∧ (
    ((ids15.length + 1) * 8 ≤ 140737488355328) ∧ (
    (inI64 (k16 + 1)) ∧ (
    o = (.inl ((ids15 ++ [out5[k16.toNat]! 0]), k16 + 1)))))
  else
    o = (.inr ids15)

def acts13_k15a (acts0 : (List (Nat → Int))) (i7 : Int) (fb3 : (List (Int × (Nat → Int)))) (out5 : (List (Nat → Int))) (ids15 : (List Int)) (o : ((List (Nat → Int)) × Int × (List (Int × (Nat → Int)))) ⊕ (((List (Nat → Int)) × (List (Int × (Nat → Int)))) ⊕ ((List (Int × (Nat → Int)))))) : Prop :=
  (ball_P ((bclose_F fb3 (fun i => (acts0[i7.toNat]!) (3 + i))).2)) ∧ (
  (ints_P (ball_F ((bclose_F fb3 (fun i => (acts0[i7.toNat]!) (3 + i))).2)) ids15) ∧ (
  if ((ints_F (ball_F ((bclose_F fb3 (fun i => (acts0[i7.toNat]!) (3 + i))).2)) ids15)) = true then
    (inI64 (i7 + 1)) ∧ (
    o = (.inl (out5, i7 + 1, (bclose_F fb3 (fun i => (acts0[i7.toNat]!) (3 + i))).2)))
  else
    o = (.inr (.inr ((bclose_F fb3 (fun i => (acts0[i7.toNat]!) (3 + i))).2)))))

def acts13_k13a (acts0 : (List (Nat → Int))) (i7 : Int) (fb3 : (List (Int × (Nat → Int)))) (out5 : (List (Nat → Int))) (put6 : Bool) (o : ((List (Nat → Int)) × Int × (List (Int × (Nat → Int)))) ⊕ (((List (Nat → Int)) × (List (Int × (Nat → Int)))) ⊕ ((List (Int × (Nat → Int)))))) : Prop :=
  if (put6) = true then
    if (code_F ((bclose_F fb3 (fun i => (acts0[i7.toNat]!) (3 + i))).1)) = 0 then
      ∃ x : (List Int), Wh (fun (s : (List Int) × Int) (o : ((List Int) × Int) ⊕ ((List Int))) => acts13_l15 out5 s.1 s.2 o) (([], 0) : (List Int) × Int) x ∧ acts13_k15a acts0 i7 fb3 out5 x o
    else
      o = (.inr (.inr ((bclose_F fb3 (fun i => (acts0[i7.toNat]!) (3 + i))).2)))
  else
    ((out5.length + 1) * 240 ≤ 140737488355328) ∧ (
    if (code_F ((bclose_F fb3 (fun i => (acts0[i7.toNat]!) (3 + i))).1)) = 0 then
      ∃ x : (List Int), Wh (fun (s : (List Int) × Int) (o : ((List Int) × Int) ⊕ ((List Int))) => acts13_l14 acts0 i7 out5 s.1 s.2 o) (([], 0) : (List Int) × Int) x ∧ acts13_k14a acts0 i7 fb3 out5 x o
    else
      o = (.inr (.inr ((bclose_F fb3 (fun i => (acts0[i7.toNat]!) (3 + i))).2))))

def acts13_l16 (v6 : (List (Nat → Int))) (ids15 : (List Int)) (k16 : Int) (o : ((List Int) × Int) ⊕ ((List Int))) : Prop :=
  if k16 < (v6.length : Int) then
    (0 ≤ k16 ∧ k16 < v6.length) ∧ (
    ((ids15.length + 1) * 8 ≤ 140737488355328) ∧ (
    (inI64 (k16 + 1)) ∧ (
    o = (.inl ((ids15 ++ [v6[k16.toNat]! 0]), k16 + 1)))))
  else
    o = (.inr ids15)

def acts13_k16a (acts0 : (List (Nat → Int))) (v6 : (List (Nat → Int))) (i7 : Int) (fb3 : (List (Int × (Nat → Int)))) (ids15 : (List Int)) (o : ((List (Nat → Int)) × Int × (List (Int × (Nat → Int)))) ⊕ (((List (Nat → Int)) × (List (Int × (Nat → Int)))) ⊕ ((List (Int × (Nat → Int)))))) : Prop :=
  (ball_P ((bforget_F fb3 ((acts0[i7.toNat]!) 1)).2)) ∧ (
  (ints_P (ball_F ((bforget_F fb3 ((acts0[i7.toNat]!) 1)).2)) ids15) ∧ (
  if ((ints_F (ball_F ((bforget_F fb3 ((acts0[i7.toNat]!) 1)).2)) ids15)) = true then
    (inI64 (i7 + 1)) ∧ (
    o = (.inl (v6, i7 + 1, (bforget_F fb3 ((acts0[i7.toNat]!) 1)).2)))
  else
    o = (.inr (.inr ((bforget_F fb3 ((acts0[i7.toNat]!) 1)).2)))))

def acts13_l17 (acts0 : (List (Nat → Int))) (v6 : (List (Nat → Int))) (i7 : Int) (ids15 : (List Int)) (k16 : Int) (o : ((List Int) × Int) ⊕ ((List Int))) : Prop :=
  if k16 < ((([] ++ (v6.take (findR_F v6 ((acts0[i7.toNat]!) 1)).toNat).drop 0) ++ (v6.take v6.length).drop ((findR_F v6 ((acts0[i7.toNat]!) 1)) + 1).toNat).length : Int) then
    (0 ≤ k16 ∧ k16 < (([] ++ (v6.take (findR_F v6 ((acts0[i7.toNat]!) 1)).toNat).drop 0) ++ (v6.take v6.length).drop ((findR_F v6 ((acts0[i7.toNat]!) 1)) + 1).toNat).length) ∧ (
    ((ids15.length + 1) * 8 ≤ 140737488355328) ∧ (
    (inI64 (k16 + 1)) ∧ (
    o = (.inl ((ids15 ++ [(([] ++ (v6.take (findR_F v6 ((acts0[i7.toNat]!) 1)).toNat).drop 0) ++ (v6.take v6.length).drop ((findR_F v6 ((acts0[i7.toNat]!) 1)) + 1).toNat)[k16.toNat]! 0]), k16 + 1)))))
  else
    o = (.inr ids15)

def acts13_k17a (acts0 : (List (Nat → Int))) (v6 : (List (Nat → Int))) (i7 : Int) (fb3 : (List (Int × (Nat → Int)))) (ids15 : (List Int)) (o : ((List (Nat → Int)) × Int × (List (Int × (Nat → Int)))) ⊕ (((List (Nat → Int)) × (List (Int × (Nat → Int)))) ⊕ ((List (Int × (Nat → Int)))))) : Prop :=
  (ball_P ((bforget_F fb3 ((acts0[i7.toNat]!) 1)).2)) ∧ (
  (ints_P (ball_F ((bforget_F fb3 ((acts0[i7.toNat]!) 1)).2)) ids15) ∧ (
  if ((ints_F (ball_F ((bforget_F fb3 ((acts0[i7.toNat]!) 1)).2)) ids15)) = true then
    (inI64 (i7 + 1)) ∧ (
    o = (.inl ((([] ++ (v6.take (findR_F v6 ((acts0[i7.toNat]!) 1)).toNat).drop 0) ++ (v6.take v6.length).drop ((findR_F v6 ((acts0[i7.toNat]!) 1)) + 1).toNat), i7 + 1, (bforget_F fb3 ((acts0[i7.toNat]!) 1)).2)))
  else
    o = (.inr (.inr ((bforget_F fb3 ((acts0[i7.toNat]!) 1)).2)))))

def acts13_l1 (acts0 : (List (Nat → Int))) (v6 : (List (Nat → Int))) (i7 : Int) (fb3 : (List (Int × (Nat → Int)))) (o : ((List (Nat → Int)) × Int × (List (Int × (Nat → Int)))) ⊕ (((List (Nat → Int)) × (List (Int × (Nat → Int)))) ⊕ ((List (Int × (Nat → Int)))))) : Prop :=
  if i7 < (acts0.length : Int) then
    (0 ≤ i7 ∧ i7 < acts0.length) ∧ (
    if (acts0[i7.toNat]!) 0 = 0 then
      if ((((decide ((acts0[i7.toNat]!) 1 < 1)) || (decide (1048576 < (acts0[i7.toNat]!) 1))) || (decide ((acts0[i7.toNat]!) 2 < 1))) || (decide (1048576 < (acts0[i7.toNat]!) 2))) = true then
        if ((!((eqN 28 ((bopen_F fb3 ((acts0[i7.toNat]!) 1) ((acts0[i7.toNat]!) 2)).1) (fun _ => 0)))) || (!(decide ((code_F ((bopen_F fb3 ((acts0[i7.toNat]!) 1) ((acts0[i7.toNat]!) 2)).2.1)) = 1)))) = true then
          o = (.inr (.inr ((bopen_F fb3 ((acts0[i7.toNat]!) 1) ((acts0[i7.toNat]!) 2)).2.2)))
        else
          ∃ x : (List Int), Wh (fun (s : (List Int) × Int) (o : ((List Int) × Int) ⊕ ((List Int))) => acts13_l2 v6 s.1 s.2 o) (([], 0) : (List Int) × Int) x ∧ acts13_k2a acts0 v6 i7 fb3 x o
      else
        (findR_P v6 ((acts0[i7.toNat]!) 1)) ∧ (
        (((decide ((findR_F v6 ((acts0[i7.toNat]!) 1)) < 0)) = false) → 0 ≤ (findR_F v6 ((acts0[i7.toNat]!) 1)) ∧ (findR_F v6 ((acts0[i7.toNat]!) 1)) < v6.length) ∧ (
        if ((decide ((findR_F v6 ((acts0[i7.toNat]!) 1)) < 0)) || (decide (v6[(findR_F v6 ((acts0[i7.toNat]!) 1)).toNat]! 1 < (acts0[i7.toNat]!) 2))) = true then
          ∃ x : (List (Nat → Int)) × Bool, Wh (fun (s : (List (Nat → Int)) × Bool × Int) (o : ((List (Nat → Int)) × Bool × Int) ⊕ ((List (Nat → Int)) × Bool)) => acts13_l3 acts0 v6 i7 s.1 s.2.1 s.2.2 o) (([], false, 0) : (List (Nat → Int)) × Bool × Int) x ∧ acts13_k3a acts0 i7 fb3 x.1 x.2 o
        else
          (0 ≤ (findR_F v6 ((acts0[i7.toNat]!) 1)) ∧ (findR_F v6 ((acts0[i7.toNat]!) 1)) < v6.length) ∧ (
          if (acts0[i7.toNat]!) 2 < v6[(findR_F v6 ((acts0[i7.toNat]!) 1)).toNat]! 1 then
            if ((!((eqN 28 ((bopen_F fb3 ((acts0[i7.toNat]!) 1) ((acts0[i7.toNat]!) 2)).1) (fun _ => 0)))) || (!(decide ((code_F ((bopen_F fb3 ((acts0[i7.toNat]!) 1) ((acts0[i7.toNat]!) 2)).2.1)) = 14)))) = true then
              o = (.inr (.inr ((bopen_F fb3 ((acts0[i7.toNat]!) 1) ((acts0[i7.toNat]!) 2)).2.2)))
            else
              ∃ x : (List Int), Wh (fun (s : (List Int) × Int) (o : ((List Int) × Int) ⊕ ((List Int))) => acts13_l6 v6 s.1 s.2 o) (([], 0) : (List Int) × Int) x ∧ acts13_k6a acts0 v6 i7 fb3 x o
          else
            (0 ≤ (findR_F v6 ((acts0[i7.toNat]!) 1)) ∧ (findR_F v6 ((acts0[i7.toNat]!) 1)) < v6.length) ∧ (
            if 0 < v6[(findR_F v6 ((acts0[i7.toNat]!) 1)).toNat]! 2 then
              (0 ≤ (findR_F v6 ((acts0[i7.toNat]!) 1)) ∧ (findR_F v6 ((acts0[i7.toNat]!) 1)) < v6.length) ∧ (
              if ((!((eqN 28 ((bopen_F fb3 ((acts0[i7.toNat]!) 1) ((acts0[i7.toNat]!) 2)).1) (fun i => (v6[(findR_F v6 ((acts0[i7.toNat]!) 1)).toNat]!) (2 + i))))) || (!(decide ((code_F ((bopen_F fb3 ((acts0[i7.toNat]!) 1) ((acts0[i7.toNat]!) 2)).2.1)) = 15)))) = true then
                o = (.inr (.inr ((bopen_F fb3 ((acts0[i7.toNat]!) 1) ((acts0[i7.toNat]!) 2)).2.2)))
              else
                ∃ x : (List Int), Wh (fun (s : (List Int) × Int) (o : ((List Int) × Int) ⊕ ((List Int))) => acts13_l7 v6 s.1 s.2 o) (([], 0) : (List Int) × Int) x ∧ acts13_k7a acts0 v6 i7 fb3 x o)
            else
              if ((!((eqN 28 ((bopen_F fb3 ((acts0[i7.toNat]!) 1) ((acts0[i7.toNat]!) 2)).1) (fun _ => 0)))) || (!(decide ((code_F ((bopen_F fb3 ((acts0[i7.toNat]!) 1) ((acts0[i7.toNat]!) 2)).2.1)) = 8)))) = true then
                o = (.inr (.inr ((bopen_F fb3 ((acts0[i7.toNat]!) 1) ((acts0[i7.toNat]!) 2)).2.2)))
              else
                ∃ x : (List Int), Wh (fun (s : (List Int) × Int) (o : ((List Int) × Int) ⊕ ((List Int))) => acts13_l8 v6 s.1 s.2 o) (([], 0) : (List Int) × Int) x ∧ acts13_k8a acts0 v6 i7 fb3 x o))))
    else
      if (acts0[i7.toNat]!) 0 = 1 then
        if (((!(decide ((acts0[i7.toNat]!) 3 = 2))) && (!(decide ((acts0[i7.toNat]!) 3 = 3)))) || (!((okB (fun i => (acts0[i7.toNat]!) (3 + i)))))) = true then
          if (code_F ((bclose_F fb3 (fun i => (acts0[i7.toNat]!) (3 + i))).1)) = 5 then
            ∃ x : (List Int), Wh (fun (s : (List Int) × Int) (o : ((List Int) × Int) ⊕ ((List Int))) => acts13_l9 v6 s.1 s.2 o) (([], 0) : (List Int) × Int) x ∧ acts13_k9a acts0 v6 i7 fb3 x o
          else
            o = (.inr (.inr ((bclose_F fb3 (fun i => (acts0[i7.toNat]!) (3 + i))).2)))
        else
          (findR_P v6 ((acts0[i7.toNat]!) 6)) ∧ (
          if (findR_F v6 ((acts0[i7.toNat]!) 6)) < 0 then
            if (code_F ((bclose_F fb3 (fun i => (acts0[i7.toNat]!) (3 + i))).1)) = 10 then
              ∃ x : (List Int), Wh (fun (s : (List Int) × Int) (o : ((List Int) × Int) ⊕ ((List Int))) => acts13_l10 v6 s.1 s.2 o) (([], 0) : (List Int) × Int) x ∧ acts13_k10a acts0 v6 i7 fb3 x o
            else
              o = (.inr (.inr ((bclose_F fb3 (fun i => (acts0[i7.toNat]!) (3 + i))).2)))
          else
            (0 ≤ (findR_F v6 ((acts0[i7.toNat]!) 6)) ∧ (findR_F v6 ((acts0[i7.toNat]!) 6)) < v6.length) ∧ (
            if v6[(findR_F v6 ((acts0[i7.toNat]!) 6)).toNat]! 1 = (acts0[i7.toNat]!) 7 then
              (0 ≤ (findR_F v6 ((acts0[i7.toNat]!) 6)) ∧ (findR_F v6 ((acts0[i7.toNat]!) 6)) < v6.length) ∧ (
              if 0 < v6[(findR_F v6 ((acts0[i7.toNat]!) 6)).toNat]! 2 then
                if (code_F ((bclose_F fb3 (fun i => (acts0[i7.toNat]!) (3 + i))).1)) = 15 then
                  ∃ x : (List Int), Wh (fun (s : (List Int) × Int) (o : ((List Int) × Int) ⊕ ((List Int))) => acts13_l12 v6 s.1 s.2 o) (([], 0) : (List Int) × Int) x ∧ acts13_k12a acts0 v6 i7 fb3 x o
                else
                  o = (.inr (.inr ((bclose_F fb3 (fun i => (acts0[i7.toNat]!) (3 + i))).2)))
              else
                ∃ x : (List (Nat → Int)) × Bool, Wh (fun (s : (List (Nat → Int)) × Bool × Int) (o : ((List (Nat → Int)) × Bool × Int) ⊕ ((List (Nat → Int)) × Bool)) => acts13_l13 acts0 v6 i7 s.1 s.2.1 s.2.2 o) (([], false, 0) : (List (Nat → Int)) × Bool × Int) x ∧ acts13_k13a acts0 i7 fb3 x.1 x.2 o)
            else
              if (code_F ((bclose_F fb3 (fun i => (acts0[i7.toNat]!) (3 + i))).1)) = 14 then
                ∃ x : (List Int), Wh (fun (s : (List Int) × Int) (o : ((List Int) × Int) ⊕ ((List Int))) => acts13_l11 v6 s.1 s.2 o) (([], 0) : (List Int) × Int) x ∧ acts13_k11a acts0 v6 i7 fb3 x o
              else
                o = (.inr (.inr ((bclose_F fb3 (fun i => (acts0[i7.toNat]!) (3 + i))).2)))))
      else
        (findR_P v6 ((acts0[i7.toNat]!) 1)) ∧ (
        if (findR_F v6 ((acts0[i7.toNat]!) 1)) < 0 then
          if (code_F ((bforget_F fb3 ((acts0[i7.toNat]!) 1)).1)) = 10 then
            ∃ x : (List Int), Wh (fun (s : (List Int) × Int) (o : ((List Int) × Int) ⊕ ((List Int))) => acts13_l16 v6 s.1 s.2 o) (([], 0) : (List Int) × Int) x ∧ acts13_k16a acts0 v6 i7 fb3 x o
          else
            o = (.inr (.inr ((bforget_F fb3 ((acts0[i7.toNat]!) 1)).2)))
        else
          (0 ≤ (findR_F v6 ((acts0[i7.toNat]!) 1)) ∧ (findR_F v6 ((acts0[i7.toNat]!) 1)) ≤ v6.length) ∧ (
          (inI64 ((findR_F v6 ((acts0[i7.toNat]!) 1)) + 1)) ∧ (
          (0 ≤ (findR_F v6 ((acts0[i7.toNat]!) 1)) + 1 ∧ (findR_F v6 ((acts0[i7.toNat]!) 1)) + 1 ≤ v6.length) ∧ (
          ((0 + ((v6.take (findR_F v6 ((acts0[i7.toNat]!) 1)).toNat).drop 0).length) * 240 ≤ 140737488355328) ∧ (
          ((([] ++ (v6.take (findR_F v6 ((acts0[i7.toNat]!) 1)).toNat).drop 0).length + ((v6.take v6.length).drop ((findR_F v6 ((acts0[i7.toNat]!) 1)) + 1).toNat).length) * 240 ≤ 140737488355328) ∧ (
          if (code_F ((bforget_F fb3 ((acts0[i7.toNat]!) 1)).1)) = 0 then
            ∃ x : (List Int), Wh (fun (s : (List Int) × Int) (o : ((List Int) × Int) ⊕ ((List Int))) => acts13_l17 acts0 v6 i7 s.1 s.2 o) (([], 0) : (List Int) × Int) x ∧ acts13_k17a acts0 v6 i7 fb3 x o
          else
            o = (.inr (.inr ((bforget_F fb3 ((acts0[i7.toNat]!) 1)).2))))))))))
  else
    o = (.inr (.inl (v6, fb3)))

def acts13_k1a (tx1 : Int) (v6 : (List (Nat → Int))) (fb3 : (List (Int × (Nat → Int)))) (r : Bool) : Prop :=
  (findR_P v6 tx1) ∧ (
  if (findR_F v6 tx1) < 0 then
    r = ((decide ((blast_F fb3 tx1).1 = 0)) && (decide ((code_F ((blast_F fb3 tx1).2)) = 10)))
  else
    (0 ≤ (findR_F v6 tx1) ∧ (findR_F v6 tx1) < v6.length) ∧ (
    r = ((decide ((blast_F fb3 tx1).1 = v6[(findR_F v6 tx1).toNat]! 1)) && (decide ((blast_F fb3 tx1).2 = 0)))))

def acts13_k1b (fb3 : (List (Int × (Nat → Int)))) (r : Bool) : Prop :=
  r = (false)

def acts13_S (acts0 : (List (Nat → Int))) (tx1 : Int) (r : Bool) : Prop :=
  if (alive13_F) = true then
    if 100 < (acts0.length : Int) then
      r = (true)
    else
      ∃ x : ((List (Nat → Int)) × (List (Int × (Nat → Int)))) ⊕ ((List (Int × (Nat → Int)))), Wh (fun (s : (List (Nat → Int)) × Int × (List (Int × (Nat → Int)))) (o : ((List (Nat → Int)) × Int × (List (Int × (Nat → Int)))) ⊕ (((List (Nat → Int)) × (List (Int × (Nat → Int)))) ⊕ ((List (Int × (Nat → Int)))))) => acts13_l1 acts0 s.1 s.2.1 s.2.2 o) (([], 0, []) : (List (Nat → Int)) × Int × (List (Int × (Nat → Int)))) x ∧ (match x with | .inl (v6, fb3) => acts13_k1a tx1 v6 fb3 r | .inr fb3 => acts13_k1b fb3 r)
  else
    r = (false)

end Go.E
