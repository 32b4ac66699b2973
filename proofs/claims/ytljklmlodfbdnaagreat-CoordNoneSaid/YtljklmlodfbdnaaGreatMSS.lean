/- What functions of the program say, as relations. -/
import Derived.Test.YtljklmlodfbdnaaGreatEB
import Derived.Test.YtljklmlodfbdnaaGreatMAS
set_option maxHeartbeats 1000000
set_option linter.unusedVariables false
set_option linter.unusedSimpArgs false
set_option maxRecDepth 100000
namespace Go.E
open Go

def msgs_l1 (a0 : (List (Nat → Int))) (b1 : (List (Nat → Int))) (i5 : Int) (o : (Int) ⊕ ((Unit) ⊕ (Unit))) : Prop :=
  if i5 < (a0.length : Int) then
    (0 ≤ i5 ∧ i5 < a0.length) ∧ (
    (0 ≤ i5 ∧ i5 < b1.length) ∧ (
    if ((eqN 28 (a0[i5.toNat]!) (b1[i5.toNat]!))) = true then
      (inI64 (i5 + 1)) ∧ (
      o = (.inl (i5 + 1)))
    else
      o = (.inr (.inr ()))))
  else
    o = (.inr (.inl ()))

def msgs_k1a (r : Bool) : Prop :=
  r = (true)

def msgs_k1b (r : Bool) : Prop :=
  r = (false)

def msgs_S (a0 : (List (Nat → Int))) (b1 : (List (Nat → Int))) (r : Bool) : Prop :=
  if (a0.length : Int) = (b1.length : Int) then
    ∃ x : (Unit) ⊕ (Unit), Wh (fun (s : Int) (o : (Int) ⊕ ((Unit) ⊕ (Unit))) => msgs_l1 a0 b1 s o) (0 : Int) x ∧ (match x with | .inl _ => msgs_k1a r | .inr _ => msgs_k1b r)
  else
    r = (false)

end Go.E
