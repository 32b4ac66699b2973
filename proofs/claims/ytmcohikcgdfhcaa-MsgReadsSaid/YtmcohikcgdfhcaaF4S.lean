/- What functions of the program say, as relations. -/
import Derived.Test.YtmcohikcgdfhcaaP4f2
set_option maxHeartbeats 1000000
set_option linter.unusedVariables false
set_option linter.unusedSimpArgs false
set_option maxRecDepth 100000
namespace Go.E
open Go

def alive4_l1 (i3 : Int) (o : (Int) ⊕ ((Unit) ⊕ (Unit))) : Prop :=
  if i3 < 88 then
    (0 ≤ i3 ∧ i3 < ((enc_F (updI (updI (updI (fun _ => 0) 0 4) 2 2) 3 7)).1).length) ∧ (
    if ((enc_F (updI (updI (updI (fun _ => 0) 0 4) 2 2) 3 7)).1)[i3.toNat]! = 0 then
      (inI64 (i3 + 1)) ∧ (
      o = (.inl (i3 + 1)))
    else
      o = (.inr (.inr ())))
  else
    o = (.inr (.inl ()))

def alive4_k1a (r : Bool) : Prop :=
  r = (true)

def alive4_k1b (r : Bool) : Prop :=
  r = (false)

def alive4_S (r : Bool) : Prop :=
  if (enc_F (updI (updI (updI (fun _ => 0) 0 4) 2 2) 3 7)).2 = 0 then
    if (((enc_F (updI (updI (updI (fun _ => 0) 0 4) 2 2) 3 7)).1).length : Int) = 88 then
      (0 ≤ (7 : Int) ∧ (7 : Int) ≤ ((enc_F (updI (updI (updI (fun _ => 0) 0 4) 2 2) 3 7)).1).length) ∧ (
      (same_P ((((enc_F (updI (updI (updI (fun _ => 0) 0 4) 2 2) 3 7)).1).take 7).drop 0) ([4, 0, 2, 0, 0, 0, 7])) ∧ (
      if ((same_F ((((enc_F (updI (updI (updI (fun _ => 0) 0 4) 2 2) 3 7)).1).take 7).drop 0) ([4, 0, 2, 0, 0, 0, 7]))) = true then
        ∃ x : (Unit) ⊕ (Unit), Wh (fun (s : Int) (o : (Int) ⊕ ((Unit) ⊕ (Unit))) => alive4_l1 s o) (7 : Int) x ∧ (match x with | .inl _ => alive4_k1a r | .inr _ => alive4_k1b r)
      else
        r = (false)))
    else
      r = (false)
  else
    r = (false)

end Go.E
