/- What functions of the program say, as relations. -/
import Derived.Test.YtcnbdkkmcdjncaaP11e
set_option maxHeartbeats 1000000
set_option linter.unusedVariables false
set_option linter.unusedSimpArgs false
set_option maxRecDepth 100000
namespace Go.E
open Go

def greach_l1 (l0 : (List (Nat → Int))) (met5 : (List (Int × Bool))) (at6 : (List Int)) (o : ((List (Int × Bool)) × (List Int)) ⊕ ((List (Int × Bool)))) : Prop :=
  if 0 < (at6.length : Int) then
    (0 ≤ (0 : Int) ∧ (0 : Int) < at6.length) ∧ (
    (0 ≤ (1 : Int) ∧ (1 : Int) ≤ at6.length) ∧ (
    if ((mget ieq met5 (at6[0]!) false)) = true then
      o = (.inl (met5, (at6.take at6.length).drop 1))
    else
      (gnext_P l0 (at6[0]!)) ∧ (
      ((((at6.take at6.length).drop 1).length + (gnext_F l0 (at6[0]!)).length) * 8 ≤ 140737488355328) ∧ (
      o = (.inl (mset ieq met5 (at6[0]!) true, ((at6.take at6.length).drop 1 ++ (gnext_F l0 (at6[0]!)))))))))
  else
    o = (.inr met5)

def greach_k1a (met5 : (List (Int × Bool))) (r : (List Int)) : Prop :=
  (skeysP met5) ∧ (
  r = ((skeys met5)))

def greach_S (l0 : (List (Nat → Int))) (from1 : Int) (r : (List Int)) : Prop :=
  (gnext_P l0 from1) ∧ (
  ∃ x : (List (Int × Bool)), Wh (fun (s : (List (Int × Bool)) × (List Int)) (o : ((List (Int × Bool)) × (List Int)) ⊕ ((List (Int × Bool)))) => greach_l1 l0 s.1 s.2 o) (([], (gnext_F l0 from1)) : (List (Int × Bool)) × (List Int)) x ∧ greach_k1a x r)

def gfar_l2 (l0 : (List (Nat → Int))) (at6 : (List Int)) (steps5a : (List (Int × Int))) (at6a : (List Int)) (x27 : Int) (o : ((List (Int × Int)) × (List Int) × Int) ⊕ ((List (Int × Int)) × (List Int))) : Prop :=
  if x27 < (l0.length : Int) then
    (0 ≤ x27 ∧ x27 < l0.length) ∧ (
    if ((decide ((l0[x27.toNat]!) 2 = at6[0]!)) && (!((mhas ieq steps5a ((l0[x27.toNat]!) 0))))) = true then
      (inI64 ((mget ieq steps5a (at6[0]!) 0) + 1)) ∧ (
      ((at6a.length + 1) * 8 ≤ 140737488355328) ∧ (
      (inI64 (x27 + 1)) ∧ (
      o = (.inl (mset ieq steps5a ((l0[x27.toNat]!) 0) ((mget ieq steps5a (at6[0]!) 0) + 1), (at6a ++ [(l0[x27.toNat]!) 0]), x27 + 1)))))
    else
      (inI64 (x27 + 1)) ∧ (
      o = (.inl (steps5a, at6a, x27 + 1))))
  else
    o = (.inr (steps5a, at6a))

def gfar_k2a (steps5a : (List (Int × Int))) (at6a : (List Int)) (o : ((List (Int × Int)) × (List Int)) ⊕ ((List (Int × Int)))) : Prop :=
  o = (.inl (steps5a, at6a))

def gfar_l1 (l0 : (List (Nat → Int))) (steps5 : (List (Int × Int))) (at6 : (List Int)) (o : ((List (Int × Int)) × (List Int)) ⊕ ((List (Int × Int)))) : Prop :=
  if 0 < (at6.length : Int) then
    (0 ≤ (0 : Int) ∧ (0 : Int) < at6.length) ∧ (
    (0 ≤ (1 : Int) ∧ (1 : Int) ≤ at6.length) ∧ (
    ∃ x : (List (Int × Int)) × (List Int), Wh (fun (s : (List (Int × Int)) × (List Int) × Int) (o : ((List (Int × Int)) × (List Int) × Int) ⊕ ((List (Int × Int)) × (List Int))) => gfar_l2 l0 at6 s.1 s.2.1 s.2.2 o) ((steps5, (at6.take at6.length).drop 1, 0) : (List (Int × Int)) × (List Int) × Int) x ∧ gfar_k2a x.1 x.2 o))
  else
    o = (.inr steps5)

def gfar_k1a (steps5 : (List (Int × Int))) (r : (List (Int × Int))) : Prop :=
  r = (steps5)

def gfar_S (l0 : (List (Nat → Int))) (to1 : Int) (r : (List (Int × Int))) : Prop :=
  ∃ x : (List (Int × Int)), Wh (fun (s : (List (Int × Int)) × (List Int)) (o : ((List (Int × Int)) × (List Int)) ⊕ ((List (Int × Int)))) => gfar_l1 l0 s.1 s.2 o) ((mset ieq ([]) to1 0, ([to1] : List Int)) : (List (Int × Int)) × (List Int)) x ∧ gfar_k1a x r

def gorder_l3 (l0 : (List (Nat → Int))) (fb4 : (List Int)) (x15 : Int) (x8 : Int) (o : (Int) ⊕ ((Unit) ⊕ (Int))) : Prop :=
  if x8 < (l0.length : Int) then
    (0 ≤ x8 ∧ x8 < l0.length) ∧ (
    (((decide ((l0[x8.toNat]!) 2 = fb4[x15.toNat]!)) = true) → hasI_P fb4 ((l0[x8.toNat]!) 0)) ∧ (
    if ((decide ((l0[x8.toNat]!) 2 = fb4[x15.toNat]!)) && ((hasI_F fb4 ((l0[x8.toNat]!) 0)))) = true then
      o = (.inr (.inr x8))
    else
      (inI64 (x8 + 1)) ∧ (
      o = (.inl (x8 + 1)))))
  else
    o = (.inr (.inl ()))

def gorder_k3a (fb4 : (List Int)) (out5a : (List Int)) (x15 : Int) (o : ((List Int) × Int) ⊕ (((List Int) × (List Int)) ⊕ (Unit))) : Prop :=
  ((out5a.length + 1) * 8 ≤ 140737488355328) ∧ (
  (inI64 (x15 + 1)) ∧ (
  (0 ≤ x15 ∧ x15 ≤ x15 + 1 ∧ x15 + 1 ≤ fb4.length) ∧ (
  if x15 = x15 + 1 then
    o = (.inr (.inl ((out5a ++ [fb4[x15.toNat]!]), fb4)))
  else
    (0 ≤ x15 ∧ x15 ≤ fb4.length) ∧ (
    (0 ≤ x15 + 1 ∧ x15 + 1 ≤ fb4.length) ∧ (
    ((((fb4.take x15.toNat).drop 0 ++ (fb4.take fb4.length).drop (x15 + 1).toNat).length : Int) ≤ (fb4.length : Int) ∧ (fb4.length : Int) ≤ ((fb4.take x15.toNat).drop 0 ++ (fb4.take fb4.length).drop (x15 + 1).toNat).length + (((x15 + 1).toNat - x15.toNat) : Nat)) ∧ (
    o = (.inr (.inl ((out5a ++ [fb4[x15.toNat]!]), ((fb4.take x15.toNat).drop 0 ++ (fb4.take fb4.length).drop (x15 + 1).toNat))))))))))

def gorder_k3b (fb4 : (List Int)) (out5a : (List Int)) (x15 : Int) (x4 : Int) (o : ((List Int) × Int) ⊕ (((List Int) × (List Int)) ⊕ (Unit))) : Prop :=
  if 0 ≤ x4 then
    (inI64 (x15 + 1)) ∧ (
    o = (.inl (out5a, x15 + 1)))
  else
    ((out5a.length + 1) * 8 ≤ 140737488355328) ∧ (
    (inI64 (x15 + 1)) ∧ (
    (0 ≤ x15 ∧ x15 ≤ x15 + 1 ∧ x15 + 1 ≤ fb4.length) ∧ (
    if x15 = x15 + 1 then
      o = (.inr (.inl ((out5a ++ [fb4[x15.toNat]!]), fb4)))
    else
      (0 ≤ x15 ∧ x15 ≤ fb4.length) ∧ (
      (0 ≤ x15 + 1 ∧ x15 + 1 ≤ fb4.length) ∧ (
      ((((fb4.take x15.toNat).drop 0 ++ (fb4.take fb4.length).drop (x15 + 1).toNat).length : Int) ≤ (fb4.length : Int) ∧ (fb4.length : Int) ≤ ((fb4.take x15.toNat).drop 0 ++ (fb4.take fb4.length).drop (x15 + 1).toNat).length + (((x15 + 1).toNat - x15.toNat) : Nat)) ∧ (
      o = (.inr (.inl ((out5a ++ [fb4[x15.toNat]!]), ((fb4.take x15.toNat).drop 0 ++ (fb4.take fb4.length).drop (x15 + 1).toNat))))))))))

def gorder_l2 (l0 : (List (Nat → Int))) (fb4 : (List Int)) (out5a : (List Int)) (x15 : Int) (o : ((List Int) × Int) ⊕ (((List Int) × (List Int)) ⊕ (Unit))) : Prop :=
  if x15 < (fb4.length : Int) then
    (0 ≤ x15 ∧ x15 < fb4.length) ∧ (
    ∃ x : (Unit) ⊕ (Int), Wh (fun (s : Int) (o : (Int) ⊕ ((Unit) ⊕ (Int))) => gorder_l3 l0 fb4 x15 s o) (0 : Int) x ∧ (match x with | .inl _ => gorder_k3a fb4 out5a x15 o | .inr x4 => gorder_k3b fb4 out5a x15 x4 o))
  else
    o = (.inr (.inr ()))

def gorder_k2a (out5a : (List Int)) (fb4a : (List Int)) (o : ((List Int) × (List Int)) ⊕ (((List Int) × (List Int)) ⊕ ((List Int)))) : Prop :=
  o = (.inl (out5a, fb4a))

def gorder_k2b (fb4 : (List Int)) (o : ((List Int) × (List Int)) ⊕ (((List Int) × (List Int)) ⊕ ((List Int)))) : Prop :=
  o = (.inr (.inr fb4))

def gorder_l1 (l0 : (List (Nat → Int))) (out5 : (List Int)) (fb4 : (List Int)) (o : ((List Int) × (List Int)) ⊕ (((List Int) × (List Int)) ⊕ ((List Int)))) : Prop :=
  if 0 < (fb4.length : Int) then
    ∃ x : ((List Int) × (List Int)) ⊕ (Unit), Wh (fun (s : (List Int) × Int) (o : ((List Int) × Int) ⊕ (((List Int) × (List Int)) ⊕ (Unit))) => gorder_l2 l0 fb4 s.1 s.2 o) ((out5, 0) : (List Int) × Int) x ∧ (match x with | .inl (out5a, fb4a) => gorder_k2a out5a fb4a o | .inr _ => gorder_k2b fb4 o)
  else
    o = (.inr (.inl (out5, fb4)))

def gorder_k1a (out5 : (List Int)) (fb4 : (List Int)) (r : (List Int) × Int) : Prop :=
  r = ((out5, 0))

def gorder_k1b (fb4 : (List Int)) (r : (List Int) × Int) : Prop :=
  r = (([], 11))

def gorder_S (l0 : (List (Nat → Int))) (r : (List Int) × Int) : Prop :=
  (gnodes_P l0) ∧ (
  ∃ x : ((List Int) × (List Int)) ⊕ ((List Int)), Wh (fun (s : (List Int) × (List Int)) (o : ((List Int) × (List Int)) ⊕ (((List Int) × (List Int)) ⊕ ((List Int)))) => gorder_l1 l0 s.1 s.2 o) (([], (gnodes_F l0)) : (List Int) × (List Int)) x ∧ (match x with | .inl (out5, fb4) => gorder_k1a out5 fb4 r | .inr fb4 => gorder_k1b fb4 r))

end Go.E
