/- What functions of the program say, as relations. -/
import Derived.Test.YtcnbdkkmcdjncaaP11f
set_option maxHeartbeats 1000000
set_option linter.unusedVariables false
set_option linter.unusedSimpArgs false
set_option maxRecDepth 100000
namespace Go.E
open Go

def gway_l2 (l0 : (List (Nat → Int))) (to2 : Int) (n9 : Int) (best10 : Int) (x43 : Int) (o : (Int × Int) ⊕ (Int)) : Prop :=
  if x43 < ((gnext_F l0 n9).length : Int) then
    (0 ≤ x43 ∧ x43 < (gnext_F l0 n9).length) ∧ (
    (inI64 (x43 + 1)) ∧ (
    o = (.inl ((if (((mhas ieq (gfar_F l0 to2) ((gnext_F l0 n9)[x43.toNat]!))) && ((decide (best10 < 0)) || (decide (mget ieq (gfar_F l0 to2) ((gnext_F l0 n9)[x43.toNat]!) 0 < best10)))) = true then mget ieq (gfar_F l0 to2) ((gnext_F l0 n9)[x43.toNat]!) 0 else best10), x43 + 1))))
  else
    o = (.inr best10)

def gway_l3 (l0 : (List (Nat → Int))) (to2 : Int) (n9 : Int) (best10 : Int) (n9a : Int) (x69 : Int) (o : (Int × Int) ⊕ (Int)) : Prop :=
  if x69 < ((gnext_F l0 n9).length : Int) then
    (0 ≤ x69 ∧ x69 < (gnext_F l0 n9).length) ∧ (
    if (((mhas ieq (gfar_F l0 to2) ((gnext_F l0 n9)[x69.toNat]!))) && (decide (mget ieq (gfar_F l0 to2) ((gnext_F l0 n9)[x69.toNat]!) 0 = best10))) = true then
      o = (.inr ((gnext_F l0 n9)[x69.toNat]!))
    else
      (inI64 (x69 + 1)) ∧ (
      o = (.inl (n9a, x69 + 1))))
  else
    o = (.inr n9a)

def gway_k3a (out8 : (List Int)) (n9a : Int) (o : ((List Int) × Int) ⊕ ((List Int))) : Prop :=
  ((out8.length + 1) * 8 ≤ 140737488355328) ∧ (
  o = (.inl ((out8 ++ [n9a]), n9a)))

def gway_k2a (l0 : (List (Nat → Int))) (to2 : Int) (out8 : (List Int)) (n9 : Int) (best10 : Int) (o : ((List Int) × Int) ⊕ ((List Int))) : Prop :=
  (gnext_P l0 n9) ∧ (
  ∃ x : Int, Wh (fun (s : Int × Int) (o : (Int × Int) ⊕ (Int)) => gway_l3 l0 to2 n9 best10 s.1 s.2 o) ((n9, 0) : Int × Int) x ∧ gway_k3a out8 x o)

def gway_l1 (l0 : (List (Nat → Int))) (to2 : Int) (out8 : (List Int)) (n9 : Int) (o : ((List Int) × Int) ⊕ ((List Int))) : Prop :=
  if ((!(decide (n9 = to2))) || (decide ((out8.length : Int) = 1))) = true then
    (gnext_P l0 n9) ∧ (
    ∃ x : Int, Wh (fun (s : Int × Int) (o : (Int × Int) ⊕ (Int)) => gway_l2 l0 to2 n9 s.1 s.2 o) (((-1), 0) : Int × Int) x ∧ gway_k2a l0 to2 out8 n9 x o)
  else
    o = (.inr out8)

def gway_k1a (out8 : (List Int)) (r : (List Int)) : Prop :=
  r = (out8)

def gway_S (l0 : (List (Nat → Int))) (from1 : Int) (to2 : Int) (r : (List Int)) : Prop :=
  (greach_P l0 from1) ∧ (
  (hasI_P (greach_F l0 from1) to2) ∧ (
  if ((hasI_F (greach_F l0 from1) to2)) = true then
    (gfar_P l0 to2) ∧ (
    ∃ x : (List Int), Wh (fun (s : (List Int) × Int) (o : ((List Int) × Int) ⊕ ((List Int))) => gway_l1 l0 to2 s.1 s.2 o) ((([from1] : List Int), from1) : (List Int) × Int) x ∧ gway_k1a x r)
  else
    r = ([])))

end Go.E
