/- What functions of the program say, as relations. -/
import Derived.Test.YtljklmlodfbdnaaGreatEB
set_option maxHeartbeats 1000000
set_option linter.unusedVariables false
set_option linter.unusedSimpArgs false
set_option maxRecDepth 100000
namespace Go.E
open Go

def errIs_F (a b : Int) : Bool := decide (a = b)
def errIs_P (_ b : Int) : Prop := b ≠ 0

def code_l1 (e0 : Int) (i3 : Int) (o : (Int) ⊕ ((Unit) ⊕ (Int))) : Prop :=
  if i3 ≤ 15 then
    (i3 ≠ 0) ∧ (
    (errIs_P e0 i3) ∧ (
    if ((errIs_F e0 i3)) = true then
      o = (.inr (.inr i3))
    else
      (inI64 (i3 + 1)) ∧ (
      o = (.inl (i3 + 1)))))
  else
    o = (.inr (.inl ()))

def code_k1a (r : Int) : Prop :=
  r = ((-1))

def code_k1b (x2 : Int) (r : Int) : Prop :=
  r = (x2)

def code_S (e0 : Int) (r : Int) : Prop :=
  if e0 = 0 then
    r = (0)
  else
    ∃ x : (Unit) ⊕ (Int), Wh (fun (s : Int) (o : (Int) ⊕ ((Unit) ⊕ (Int))) => code_l1 e0 s o) (1 : Int) x ∧ (match x with | .inl _ => code_k1a r | .inr x2 => code_k1b x2 r)

end Go.E
