/- What functions of the program say, as relations. -/
import Derived.Test.YtndkjhaiopcpeaaB13S
set_option maxHeartbeats 1000000
set_option linter.unusedVariables false
set_option linter.unusedSimpArgs false
set_option maxRecDepth 100000
namespace Go.E
open Go

def once_l2 (steps0 : (List (Nat → Int))) (opened4 : (List (Nat → Int))) (i6 : Int) (k10 : Int) (o : (Int) ⊕ ((Unit) ⊕ (Unit))) : Prop :=
  if k10 < (opened4.length : Int) then
    (0 ≤ k10 ∧ k10 < opened4.length) ∧ (((decide (opened4[k10.toNat]! 0 = (steps0[i6.toNat]!) 0)) = true) → 0 ≤ k10 ∧ k10 < opened4.length) ∧ (
    if ((decide (opened4[k10.toNat]! 0 = (steps0[i6.toNat]!) 0)) && (decide ((steps0[i6.toNat]!) 1 ≤ opened4[k10.toNat]! 1))) = true then
      o = (.inr (.inr ()))
    else
      (inI64 (k10 + 1)) ∧ (
      o = (.inl (k10 + 1))))
  else
    o = (.inr (.inl ()))

def once_k2a (steps0 : (List (Nat → Int))) (opened4 : (List (Nat → Int))) (answers5 : (List ((Nat → Int) × (Nat → Int)))) (i6 : Int) (fb3 : (List (Int × (Nat → Int)))) (o : ((List (Nat → Int)) × (List ((Nat → Int) × (Nat → Int))) × Int × (List (Int × (Nat → Int)))) ⊕ (((List (Int × (Nat → Int)))) ⊕ ((List (Int × (Nat → Int)))))) : Prop :=
  ((opened4.length + 1) * 16 ≤ 140737488355328) ∧ (
  (inI64 (i6 + 1)) ∧ (
  o = (.inl ((opened4 ++ [(steps0[i6.toNat]!)]), answers5, i6 + 1, (bopen_F fb3 ((steps0[i6.toNat]!) 0) ((steps0[i6.toNat]!) 1)).2.2))))

def once_k2b (steps0 : (List (Nat → Int))) (i6 : Int) (fb3 : (List (Int × (Nat → Int)))) (o : ((List (Nat → Int)) × (List ((Nat → Int) × (Nat → Int))) × Int × (List (Int × (Nat → Int)))) ⊕ (((List (Int × (Nat → Int)))) ⊕ ((List (Int × (Nat → Int)))))) : Prop :=
  o = (.inr (.inr ((bopen_F fb3 ((steps0[i6.toNat]!) 0) ((steps0[i6.toNat]!) 1)).2.2)))

def once_l1 (steps0 : (List (Nat → Int))) (opened4 : (List (Nat → Int))) (answers5 : (List ((Nat → Int) × (Nat → Int)))) (i6 : Int) (fb3 : (List (Int × (Nat → Int)))) (o : ((List (Nat → Int)) × (List ((Nat → Int) × (Nat → Int))) × Int × (List (Int × (Nat → Int)))) ⊕ (((List (Int × (Nat → Int)))) ⊕ ((List (Int × (Nat → Int)))))) : Prop :=
  if i6 < (steps0.length : Int) then
    (0 ≤ i6 ∧ i6 < steps0.length) ∧ (
    if (bopen_F fb3 ((steps0[i6.toNat]!) 0) ((steps0[i6.toNat]!) 1)).2.1 = 0 then
      ∃ x : (Unit) ⊕ (Unit), Wh (fun (s : Int) (o : (Int) ⊕ ((Unit) ⊕ (Unit))) => once_l2 steps0 opened4 i6 s o) (0 : Int) x ∧ (match x with | .inl _ => once_k2a steps0 opened4 answers5 i6 fb3 o | .inr _ => once_k2b steps0 i6 fb3 o)
    else
      if ((decide ((code_F ((bopen_F fb3 ((steps0[i6.toNat]!) 0) ((steps0[i6.toNat]!) 1)).2.1)) = 15)) && ((!((mhas (eqN 2) answers5 (steps0[i6.toNat]!)))) || (!((eqN 28 ((bopen_F fb3 ((steps0[i6.toNat]!) 0) ((steps0[i6.toNat]!) 1)).1) (mget (eqN 2) answers5 (steps0[i6.toNat]!) (fun _ => 0))))))) = true then
        o = (.inr (.inr ((bopen_F fb3 ((steps0[i6.toNat]!) 0) ((steps0[i6.toNat]!) 1)).2.2)))
      else
        if (code_F ((bopen_F fb3 ((steps0[i6.toNat]!) 0) ((steps0[i6.toNat]!) 1)).2.1)) = 8 then
          if ((mhas (eqN 2) answers5 (steps0[i6.toNat]!))) = true then
            o = (.inr (.inr ((bopen_F fb3 ((steps0[i6.toNat]!) 0) ((steps0[i6.toNat]!) 1)).2.2)))
          else
            if (bclose_F ((bopen_F fb3 ((steps0[i6.toNat]!) 0) ((steps0[i6.toNat]!) 1)).2.2) (answer_F ((steps0[i6.toNat]!) 0) ((steps0[i6.toNat]!) 1))).1 = 0 then
              if (bclose_F ((bclose_F ((bopen_F fb3 ((steps0[i6.toNat]!) 0) ((steps0[i6.toNat]!) 1)).2.2) (answer_F ((steps0[i6.toNat]!) 0) ((steps0[i6.toNat]!) 1))).2) (updI (updI (updI (updI (updI (fun _ => 0) 0 3) 1 2) 3 ((steps0[i6.toNat]!) 0)) 4 ((steps0[i6.toNat]!) 1)) 8 7)).1 = 0 then
                o = (.inr (.inr ((bclose_F ((bclose_F ((bopen_F fb3 ((steps0[i6.toNat]!) 0) ((steps0[i6.toNat]!) 1)).2.2) (answer_F ((steps0[i6.toNat]!) 0) ((steps0[i6.toNat]!) 1))).2) (updI (updI (updI (updI (updI (fun _ => 0) 0 3) 1 2) 3 ((steps0[i6.toNat]!) 0)) 4 ((steps0[i6.toNat]!) 1)) 8 7)).2)))
              else
                (inI64 (i6 + 1)) ∧ (
                o = (.inl (opened4, mset (eqN 2) answers5 (steps0[i6.toNat]!) (answer_F ((steps0[i6.toNat]!) 0) ((steps0[i6.toNat]!) 1)), i6 + 1, (bclose_F ((bclose_F ((bopen_F fb3 ((steps0[i6.toNat]!) 0) ((steps0[i6.toNat]!) 1)).2.2) (answer_F ((steps0[i6.toNat]!) 0) ((steps0[i6.toNat]!) 1))).2) (updI (updI (updI (updI (updI (fun _ => 0) 0 3) 1 2) 3 ((steps0[i6.toNat]!) 0)) 4 ((steps0[i6.toNat]!) 1)) 8 7)).2)))
            else
              o = (.inr (.inr ((bclose_F ((bopen_F fb3 ((steps0[i6.toNat]!) 0) ((steps0[i6.toNat]!) 1)).2.2) (answer_F ((steps0[i6.toNat]!) 0) ((steps0[i6.toNat]!) 1))).2)))
        else
          (inI64 (i6 + 1)) ∧ (
          o = (.inl (opened4, answers5, i6 + 1, (bopen_F fb3 ((steps0[i6.toNat]!) 0) ((steps0[i6.toNat]!) 1)).2.2))))
  else
    o = (.inr (.inl fb3))

def once_k1a (fb3 : (List (Int × (Nat → Int)))) (r : Bool) : Prop :=
  r = (true)

def once_k1b (fb3 : (List (Int × (Nat → Int)))) (r : Bool) : Prop :=
  r = (false)

def once_S (steps0 : (List (Nat → Int))) (r : Bool) : Prop :=
  if (alive13_F) = true then
    if 100 < (steps0.length : Int) then
      r = (true)
    else
      ∃ x : ((List (Int × (Nat → Int)))) ⊕ ((List (Int × (Nat → Int)))), Wh (fun (s : (List (Nat → Int)) × (List ((Nat → Int) × (Nat → Int))) × Int × (List (Int × (Nat → Int)))) (o : ((List (Nat → Int)) × (List ((Nat → Int) × (Nat → Int))) × Int × (List (Int × (Nat → Int)))) ⊕ (((List (Int × (Nat → Int)))) ⊕ ((List (Int × (Nat → Int)))))) => once_l1 steps0 s.1 s.2.1 s.2.2.1 s.2.2.2 o) (([], [], 0, []) : (List (Nat → Int)) × (List ((Nat → Int) × (Nat → Int))) × Int × (List (Int × (Nat → Int)))) x ∧ (match x with | .inl fb3 => once_k1a fb3 r | .inr fb3 => once_k1b fb3 r)
  else
    r = (false)

def apart_l2 (acts0 : (List (Nat → Int))) (tx1 : Int) (i8 : Int) (n11 : Int) (fb3aa : (List (Int × (Nat → Int)))) (fb3aaa : (List (Int × (Nat → Int)))) (o : (Int × (List (Int × (Nat → Int))) × (List (Int × (Nat → Int)))) ⊕ ((List (Int × (Nat → Int))) × (List (Int × (Nat → Int))))) : Prop :=
  if n11 < 2 then
    if n11 = 1 then
      if ((decide (n11 = 1)) && (!(decide ((if (acts0[i8.toNat]!) 0 = 1 then (acts0[i8.toNat]!) 6 else (acts0[i8.toNat]!) 1) = 1 + ((IntKind.i64.wrap tx1).tmod 3))))) = true then
        (inI64 (n11 + 1)) ∧ (
        o = (.inl (n11 + 1, fb3aa, fb3aaa)))
      else
        if (acts0[i8.toNat]!) 0 = 0 then
          (inI64 (n11 + 1)) ∧ (
          o = (.inl (n11 + 1, (bopen_F fb3aa ((acts0[i8.toNat]!) 1) ((acts0[i8.toNat]!) 2)).2.2, fb3aaa)))
        else
          if (acts0[i8.toNat]!) 0 = 1 then
            (inI64 (n11 + 1)) ∧ (
            o = (.inl (n11 + 1, (bclose_F fb3aa (fun i => (acts0[i8.toNat]!) (3 + i))).2, fb3aaa)))
          else
            (inI64 (n11 + 1)) ∧ (
            o = (.inl (n11 + 1, (bforget_F fb3aa ((acts0[i8.toNat]!) 1)).2, fb3aaa)))
    else
      if ((decide (n11 = 1)) && (!(decide ((if (acts0[i8.toNat]!) 0 = 1 then (acts0[i8.toNat]!) 6 else (acts0[i8.toNat]!) 1) = 1 + ((IntKind.i64.wrap tx1).tmod 3))))) = true then
        (inI64 (n11 + 1)) ∧ (
        o = (.inl (n11 + 1, fb3aa, fb3aaa)))
      else
        if (acts0[i8.toNat]!) 0 = 0 then
          (inI64 (n11 + 1)) ∧ (
          o = (.inl (n11 + 1, fb3aa, (bopen_F fb3aaa ((acts0[i8.toNat]!) 1) ((acts0[i8.toNat]!) 2)).2.2)))
        else
          if (acts0[i8.toNat]!) 0 = 1 then
            (inI64 (n11 + 1)) ∧ (
            o = (.inl (n11 + 1, fb3aa, (bclose_F fb3aaa (fun i => (acts0[i8.toNat]!) (3 + i))).2)))
          else
            (inI64 (n11 + 1)) ∧ (
            o = (.inl (n11 + 1, fb3aa, (bforget_F fb3aaa ((acts0[i8.toNat]!) 1)).2)))
  else
    o = (.inr (fb3aa, fb3aaa))

def apart_k2a (i8 : Int) (fb3aa : (List (Int × (Nat → Int)))) (fb3aaa : (List (Int × (Nat → Int)))) (o : (Int × (List (Int × (Nat → Int))) × (List (Int × (Nat → Int)))) ⊕ ((List (Int × (Nat → Int))) × (List (Int × (Nat → Int))))) : Prop :=
  (inI64 (i8 + 1)) ∧ (
  o = (.inl (i8 + 1, fb3aa, fb3aaa)))

def apart_l1 (acts0 : (List (Nat → Int))) (tx1 : Int) (i8 : Int) (fb3a : (List (Int × (Nat → Int)))) (fb3 : (List (Int × (Nat → Int)))) (o : (Int × (List (Int × (Nat → Int))) × (List (Int × (Nat → Int)))) ⊕ ((List (Int × (Nat → Int))) × (List (Int × (Nat → Int))))) : Prop :=
  if i8 < (acts0.length : Int) then
    (0 ≤ i8 ∧ i8 < acts0.length) ∧ (
    ∃ x : (List (Int × (Nat → Int))) × (List (Int × (Nat → Int))), Wh (fun (s : Int × (List (Int × (Nat → Int))) × (List (Int × (Nat → Int)))) (o : (Int × (List (Int × (Nat → Int))) × (List (Int × (Nat → Int)))) ⊕ ((List (Int × (Nat → Int))) × (List (Int × (Nat → Int))))) => apart_l2 acts0 tx1 i8 s.1 s.2.1 s.2.2 o) ((0, fb3a, fb3) : Int × (List (Int × (Nat → Int))) × (List (Int × (Nat → Int)))) x ∧ apart_k2a i8 x.1 x.2 o)
  else
    o = (.inr (fb3a, fb3))

def apart_k1a (tx1 : Int) (fb3a : (List (Int × (Nat → Int)))) (fb3 : (List (Int × (Nat → Int)))) (r : Bool) : Prop :=
  if ((!(decide ((blast_F fb3 (1 + ((IntKind.i64.wrap tx1).tmod 3))).1 = (blast_F fb3a (1 + ((IntKind.i64.wrap tx1).tmod 3))).1))) || (!(decide ((code_F ((blast_F fb3 (1 + ((IntKind.i64.wrap tx1).tmod 3))).2)) = (code_F ((blast_F fb3a (1 + ((IntKind.i64.wrap tx1).tmod 3))).2)))))) = true then
    r = (false)
  else
    if ((eqN 28 ((bopen_F fb3 (1 + ((IntKind.i64.wrap tx1).tmod 3)) (if ((blast_F fb3 (1 + ((IntKind.i64.wrap tx1).tmod 3))).1) < 1 then 1 else ((blast_F fb3 (1 + ((IntKind.i64.wrap tx1).tmod 3))).1))).1) ((bopen_F fb3a (1 + ((IntKind.i64.wrap tx1).tmod 3)) (if ((blast_F fb3 (1 + ((IntKind.i64.wrap tx1).tmod 3))).1) < 1 then 1 else ((blast_F fb3 (1 + ((IntKind.i64.wrap tx1).tmod 3))).1))).1))) = true then
      if (code_F ((bopen_F fb3 (1 + ((IntKind.i64.wrap tx1).tmod 3)) (if ((blast_F fb3 (1 + ((IntKind.i64.wrap tx1).tmod 3))).1) < 1 then 1 else ((blast_F fb3 (1 + ((IntKind.i64.wrap tx1).tmod 3))).1))).2.1)) = (code_F ((bopen_F fb3a (1 + ((IntKind.i64.wrap tx1).tmod 3)) (if ((blast_F fb3 (1 + ((IntKind.i64.wrap tx1).tmod 3))).1) < 1 then 1 else ((blast_F fb3 (1 + ((IntKind.i64.wrap tx1).tmod 3))).1))).2.1)) then
        if (bforget_F ((bopen_F fb3 (1 + ((IntKind.i64.wrap tx1).tmod 3)) (if ((blast_F fb3 (1 + ((IntKind.i64.wrap tx1).tmod 3))).1) < 1 then 1 else ((blast_F fb3 (1 + ((IntKind.i64.wrap tx1).tmod 3))).1))).2.2) (1 + ((IntKind.i64.wrap tx1).tmod 3))).1 = 0 then
          r = (((eqN 28 ((bopen_F ((bforget_F ((bopen_F fb3 (1 + ((IntKind.i64.wrap tx1).tmod 3)) (if ((blast_F fb3 (1 + ((IntKind.i64.wrap tx1).tmod 3))).1) < 1 then 1 else ((blast_F fb3 (1 + ((IntKind.i64.wrap tx1).tmod 3))).1))).2.2) (1 + ((IntKind.i64.wrap tx1).tmod 3))).2) (1 + ((IntKind.i64.wrap tx1).tmod 3)) 1).1) (fun _ => 0))) && (decide ((bopen_F ((bforget_F ((bopen_F fb3 (1 + ((IntKind.i64.wrap tx1).tmod 3)) (if ((blast_F fb3 (1 + ((IntKind.i64.wrap tx1).tmod 3))).1) < 1 then 1 else ((blast_F fb3 (1 + ((IntKind.i64.wrap tx1).tmod 3))).1))).2.2) (1 + ((IntKind.i64.wrap tx1).tmod 3))).2) (1 + ((IntKind.i64.wrap tx1).tmod 3)) 1).2.1 = 0)))
        else
          r = (false)
      else
        r = (false)
    else
      r = (false)

def apart_S (acts0 : (List (Nat → Int))) (tx1 : Int) (r : Bool) : Prop :=
  if (alive13_F) = true then
    if 60 < (acts0.length : Int) then
      r = (true)
    else
      (inI64 (1 + ((IntKind.i64.wrap tx1).tmod 3))) ∧ (
      ∃ x : (List (Int × (Nat → Int))) × (List (Int × (Nat → Int))), Wh (fun (s : Int × (List (Int × (Nat → Int))) × (List (Int × (Nat → Int)))) (o : (Int × (List (Int × (Nat → Int))) × (List (Int × (Nat → Int)))) ⊕ ((List (Int × (Nat → Int))) × (List (Int × (Nat → Int))))) => apart_l1 acts0 tx1 s.1 s.2.1 s.2.2 o) ((0, [], []) : Int × (List (Int × (Nat → Int))) × (List (Int × (Nat → Int)))) x ∧ apart_k1a tx1 x.1 x.2 r)
  else
    r = (false)

end Go.E
