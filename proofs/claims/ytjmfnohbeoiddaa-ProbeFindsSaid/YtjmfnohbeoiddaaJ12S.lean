/- What functions of the program say, as relations. -/
import Derived.Test.YtjmfnohbeoiddaaP12h
set_option maxHeartbeats 1000000
set_option linter.unusedVariables false
set_option linter.unusedSimpArgs false
set_option maxRecDepth 100000
namespace Go.E
open Go

def finds12_l2 (pairs0 : (List (Nat → Int))) (l5 : (List (Nat → Int))) (i6 : Int) (twice10 : Bool) (k11 : Int) (o : (Bool × Int) ⊕ (Bool)) : Prop :=
  if k11 < (l5.length : Int) then
    (((twice10) = false) → 0 ≤ k11 ∧ k11 < l5.length) ∧ (((twice10) = false) → ((decide (l5[k11.toNat]! 0 = 1 + ((IntKind.i64.wrap (pairs0[i6.toNat]! 0)).tmod 6))) = true) → 0 ≤ k11 ∧ k11 < l5.length) ∧ (
    (inI64 (k11 + 1)) ∧ (
    o = (.inl ((twice10) || ((decide (l5[k11.toNat]! 0 = 1 + ((IntKind.i64.wrap (pairs0[i6.toNat]! 0)).tmod 6))) && (decide (l5[k11.toNat]! 2 = 1 + ((IntKind.i64.wrap (pairs0[i6.toNat]! 1)).tmod 6)))), k11 + 1))))
  else
    o = (.inr twice10)

def finds12_k2a (pairs0 : (List (Nat → Int))) (l5 : (List (Nat → Int))) (i6 : Int) (twice10 : Bool) (o : ((List (Nat → Int)) × Int) ⊕ ((List (Nat → Int)))) : Prop :=
  if (twice10) = true then
    (inI64 (i6 + 1)) ∧ (
    o = (.inl (l5, i6 + 1)))
  else
    ((l5.length + 1) * 32 ≤ 140737488355328) ∧ (
    (inI64 (i6 + 1)) ∧ (
    o = (.inl ((l5 ++ [(updI (updI (updI (updI (fun _ => 0) 0 (1 + ((IntKind.i64.wrap (pairs0[i6.toNat]! 0)).tmod 6))) 1 (1 + ((IntKind.i64.wrap (pairs0[i6.toNat]! 0)).tmod 6))) 2 (1 + ((IntKind.i64.wrap (pairs0[i6.toNat]! 1)).tmod 6))) 3 (if 127 < pairs0[i6.toNat]! 1 then 1 + ((IntKind.i64.wrap (pairs0[i6.toNat]! 1)).tmod 6) else 0))]), i6 + 1))))

def finds12_l1 (pairs0 : (List (Nat → Int))) (l5 : (List (Nat → Int))) (i6 : Int) (o : ((List (Nat → Int)) × Int) ⊕ ((List (Nat → Int)))) : Prop :=
  if i6 < (pairs0.length : Int) then
    (0 ≤ i6 ∧ i6 < pairs0.length) ∧ (
    (inI64 (1 + ((IntKind.i64.wrap (pairs0[i6.toNat]! 0)).tmod 6))) ∧ (
    (0 ≤ i6 ∧ i6 < pairs0.length) ∧ (
    (inI64 (1 + ((IntKind.i64.wrap (pairs0[i6.toNat]! 1)).tmod 6))) ∧ (
    (0 ≤ i6 ∧ i6 < pairs0.length) ∧ (
    ∃ x : Bool, Wh (fun (s : Bool × Int) (o : (Bool × Int) ⊕ (Bool)) => finds12_l2 pairs0 l5 i6 s.1 s.2 o) ((decide (1 + ((IntKind.i64.wrap (pairs0[i6.toNat]! 0)).tmod 6) = 1 + ((IntKind.i64.wrap (pairs0[i6.toNat]! 1)).tmod 6)), 0) : Bool × Int) x ∧ finds12_k2a pairs0 l5 i6 x o)))))
  else
    o = (.inr l5)

def finds12_l3 (l5 : (List (Nat → Int))) (at6 : (List (Nat → Int))) (back8 : (List (Nat → Int))) (n9 : Int) (o : ((List (Nat → Int)) × (List (Nat → Int)) × Int) ⊕ (((List (Nat → Int))) ⊕ (Unit))) : Prop :=
  if ((decide (0 < (at6.length : Int))) && (decide (n9 < 3000))) = true then
    (0 ≤ (0 : Int) ∧ (0 : Int) < at6.length) ∧ (
    (0 ≤ (1 : Int) ∧ (1 : Int) ≤ at6.length) ∧ (
    if ((back_F (at6[0]!))) = true then
      ((back8.length + 1) * 224 ≤ 140737488355328) ∧ (
      (inI64 (n9 + 1)) ∧ (
      o = (.inl ((at6.take at6.length).drop 1, (back8 ++ [(at6[0]!)]), n9 + 1))))
    else
      (goP_P 1 (at6[0]!) ((at6[0]!) 9) l5) ∧ (
      if (((!(decide ((code_F ((goP_F 1 (at6[0]!) ((at6[0]!) 9) l5).2)) = 0))) && (!(decide ((code_F ((goP_F 1 (at6[0]!) ((at6[0]!) 9) l5).2)) = 11)))) && (!(decide ((code_F ((goP_F 1 (at6[0]!) ((at6[0]!) 9) l5).2)) = 7)))) = true then
        o = (.inr (.inr ()))
      else
        ((((at6.take at6.length).drop 1).length + ((goP_F 1 (at6[0]!) ((at6[0]!) 9) l5).1).length) * 224 ≤ 140737488355328) ∧ (
        (inI64 (n9 + 1)) ∧ (
        o = (.inl (((at6.take at6.length).drop 1 ++ (goP_F 1 (at6[0]!) ((at6[0]!) 9) l5).1), back8, n9 + 1)))))))
  else
    o = (.inr (.inl back8))

def finds12_l4 (from1 : Int) (l5 : (List (Nat → Int))) (on15 : Bool) (i17 : Int) (o : (Bool × Int) ⊕ (Bool)) : Prop :=
  if i17 < ((circR_F l5).length : Int) then
    (((on15) = false) → 0 ≤ i17 ∧ i17 < (circR_F l5).length) ∧ (
    (inI64 (i17 + 1)) ∧ (
    o = (.inl ((on15) || (decide ((circR_F l5)[i17.toNat]! = 1 + ((IntKind.i64.wrap from1).tmod 6))), i17 + 1))))
  else
    o = (.inr on15)

def finds12_l7 (l5 : (List (Nat → Int))) (back8 : (List (Nat → Int))) (i18 : Int) (k20 : Int) (leads22 : Bool) (n23 : Int) (o : (Bool × Int) ⊕ (Bool)) : Prop :=
  if n23 < (l5.length : Int) then
    (((leads22) = false) → 0 ≤ n23 ∧ n23 < l5.length) ∧ (((leads22) = false) → 0 ≤ k20 ∧ k20 < 8) ∧ (((leads22) = false) → ((decide (l5[n23.toNat]! 0 = (back8[i18.toNat]!) (12 + (k20.toNat * 2)))) = true) → 0 ≤ n23 ∧ n23 < l5.length) ∧ (
    (inI64 (n23 + 1)) ∧ (
    o = (.inl ((leads22) || ((decide (l5[n23.toNat]! 0 = (back8[i18.toNat]!) (12 + (k20.toNat * 2)))) && (decide (l5[n23.toNat]! 2 = (if k20 + 1 < (back8[i18.toNat]!) 11 then (back8[i18.toNat]!) (12 + ((k20 + 1).toNat * 2)) else (back8[i18.toNat]!) 9)))), n23 + 1))))
  else
    o = (.inr leads22)

def finds12_k7a (k20 : Int) (leads22 : Bool) (o : (Int) ⊕ ((Unit) ⊕ (Unit))) : Prop :=
  if (leads22) = true then
    (inI64 (k20 + 1)) ∧ (
    o = (.inl (k20 + 1)))
  else
    o = (.inr (.inr ()))

def finds12_l6 (l5 : (List (Nat → Int))) (back8 : (List (Nat → Int))) (i18 : Int) (k20 : Int) (o : (Int) ⊕ ((Unit) ⊕ (Unit))) : Prop :=
  if k20 < (back8[i18.toNat]!) 11 then
    (inI64 (k20 + 1)) ∧ (
    (
      if k20 + 1 < (back8[i18.toNat]!) 11 then
        (inI64 (k20 + 1)) ∧ (
        (0 ≤ k20 + 1 ∧ k20 + 1 < 8) ∧ (
        True))
      else
        True) ∧ (
    ∃ x : Bool, Wh (fun (s : Bool × Int) (o : (Bool × Int) ⊕ (Bool)) => finds12_l7 l5 back8 i18 k20 s.1 s.2 o) ((false, 0) : Bool × Int) x ∧ finds12_k7a k20 x o))
  else
    o = (.inr (.inl ()))

def finds12_k6a (i18 : Int) (o : (Int) ⊕ ((Unit) ⊕ (Unit))) : Prop :=
  (inI64 (i18 + 1)) ∧ (
  o = (.inl (i18 + 1)))

def finds12_k6b (o : (Int) ⊕ ((Unit) ⊕ (Unit))) : Prop :=
  o = (.inr (.inr ()))

def finds12_l5 (from1 : Int) (l5 : (List (Nat → Int))) (back8 : (List (Nat → Int))) (i18 : Int) (o : (Int) ⊕ ((Unit) ⊕ (Unit))) : Prop :=
  if i18 < (back8.length : Int) then
    (0 ≤ i18 ∧ i18 < back8.length) ∧ (
    if ((((decide ((back8[i18.toNat]!) 11 < 2)) || (decide (8 < (back8[i18.toNat]!) 11))) || (!(decide ((back8[i18.toNat]!) 12 = 1 + ((IntKind.i64.wrap from1).tmod 6))))) || (!(decide ((back8[i18.toNat]!) 9 = 1 + ((IntKind.i64.wrap from1).tmod 6))))) = true then
      o = (.inr (.inr ()))
    else
      ∃ x : (Unit) ⊕ (Unit), Wh (fun (s : Int) (o : (Int) ⊕ ((Unit) ⊕ (Unit))) => finds12_l6 l5 back8 i18 s o) (0 : Int) x ∧ (match x with | .inl _ => finds12_k6a i18 o | .inr _ => finds12_k6b o))
  else
    o = (.inr (.inl ()))

def finds12_k5a (r : Bool) : Prop :=
  r = (true)

def finds12_k5b (r : Bool) : Prop :=
  r = (false)

def finds12_k4a (from1 : Int) (l5 : (List (Nat → Int))) (back8 : (List (Nat → Int))) (on15 : Bool) (r : Bool) : Prop :=
  if (((on15) == (decide (0 < (back8.length : Int))))) = true then
    ∃ x : (Unit) ⊕ (Unit), Wh (fun (s : Int) (o : (Int) ⊕ ((Unit) ⊕ (Unit))) => finds12_l5 from1 l5 back8 s o) (0 : Int) x ∧ (match x with | .inl _ => finds12_k5a r | .inr _ => finds12_k5b r)
  else
    r = (false)

def finds12_k3a (from1 : Int) (l5 : (List (Nat → Int))) (back8 : (List (Nat → Int))) (r : Bool) : Prop :=
  (circR_P l5) ∧ (
  ∃ x : Bool, Wh (fun (s : Bool × Int) (o : (Bool × Int) ⊕ (Bool)) => finds12_l4 from1 l5 s.1 s.2 o) ((false, 0) : Bool × Int) x ∧ finds12_k4a from1 l5 back8 x r)

def finds12_k3b (r : Bool) : Prop :=
  r = (false)

def finds12_k1a (from1 : Int) (l5 : (List (Nat → Int))) (r : Bool) : Prop :=
  (inI64 (1 + ((IntKind.i64.wrap from1).tmod 6))) ∧ (
  (startP_P 1 (updI (updI (fun _ => 0) 0 (1 + ((IntKind.i64.wrap from1).tmod 6))) 1 (1 + ((IntKind.i64.wrap from1).tmod 6))) l5) ∧ (
  if (startP_F 1 (updI (updI (fun _ => 0) 0 (1 + ((IntKind.i64.wrap from1).tmod 6))) 1 (1 + ((IntKind.i64.wrap from1).tmod 6))) l5).2 = 0 then
    ∃ x : ((List (Nat → Int))) ⊕ (Unit), Wh (fun (s : (List (Nat → Int)) × (List (Nat → Int)) × Int) (o : ((List (Nat → Int)) × (List (Nat → Int)) × Int) ⊕ (((List (Nat → Int))) ⊕ (Unit))) => finds12_l3 l5 s.1 s.2.1 s.2.2 o) (((startP_F 1 (updI (updI (fun _ => 0) 0 (1 + ((IntKind.i64.wrap from1).tmod 6))) 1 (1 + ((IntKind.i64.wrap from1).tmod 6))) l5).1, [], 0) : (List (Nat → Int)) × (List (Nat → Int)) × Int) x ∧ (match x with | .inl back8 => finds12_k3a from1 l5 back8 r | .inr _ => finds12_k3b r)
  else
    r = (false)))

def finds12_S (pairs0 : (List (Nat → Int))) (from1 : Int) (r : Bool) : Prop :=
  (alive12_P) ∧ (
  if (alive12_F) = true then
    if 12 < (pairs0.length : Int) then
      r = (true)
    else
      ∃ x : (List (Nat → Int)), Wh (fun (s : (List (Nat → Int)) × Int) (o : ((List (Nat → Int)) × Int) ⊕ ((List (Nat → Int)))) => finds12_l1 pairs0 s.1 s.2 o) (([], 0) : (List (Nat → Int)) × Int) x ∧ finds12_k1a from1 x r
  else
    r = (false))

end Go.E
