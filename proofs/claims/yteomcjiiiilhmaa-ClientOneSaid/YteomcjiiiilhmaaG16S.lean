/- What functions of the program say, as relations. -/
import Derived.Test.YteomcjiiiilhmaaC16S
set_option maxHeartbeats 1000000
set_option linter.unusedVariables false
set_option linter.unusedSimpArgs false
set_option maxRecDepth 100000
namespace Go.E
open Go

def one16_l2 (fb13 : (Nat → Int)) (k13 : Int) (fb12 : (Nat → Int)) (fb11 : (Nat → Int)) (o : (Int × (Nat → Int) × (Nat → Int)) ⊕ ((Nat → Int) × (Nat → Int))) : Prop :=
  if k13 ≤ 8 then
    (calive_P fb13 k13) ∧ (
    (0 ≤ k13 ∧ k13 < 9) ∧ (
    (cnow_P fb13 k13) ∧ (
    (0 ≤ k13 ∧ k13 < 9) ∧ (
    (inI64 (k13 + 1)) ∧ (
    o = (.inl (k13 + 1, (updI fb12 (0 + (k13.toNat * 1)) ((cnow_F fb13 k13).1)), (updI fb11 (0 + (k13.toNat * 1)) (bI (!((calive_F fb13 k13))))))))))))
  else
    o = (.inr (fb12, fb11))

def one16_l3 (acts0 : (List (Nat → Int))) (i10 : Int) (fb13 : (Nat → Int)) (fb12 : (Nat → Int)) (fb11 : (Nat → Int)) (seen14 : (List (Int × Bool))) (k15 : Int) (o : ((List (Int × Bool)) × Int) ⊕ ((Unit) ⊕ (Unit))) : Prop :=
  if k15 ≤ 8 then
    (cnow_P ((act16_F fb13 (acts0[i10.toNat]!)).2) k15) ∧ (
    (0 ≤ k15 ∧ k15 < 9) ∧ (
    if ((nz (fb11 (0 + (k15.toNat * 1))))) = true then
      (calive_P ((act16_F fb13 (acts0[i10.toNat]!)).2) k15) ∧ (
      if ((calive_F ((act16_F fb13 (acts0[i10.toNat]!)).2) k15)) = true then
        o = (.inr (.inr ()))
      else
        (0 ≤ k15 ∧ k15 < 9) ∧ (
        if (cnow_F ((act16_F fb13 (acts0[i10.toNat]!)).2) k15).1 = fb12 (0 + (k15.toNat * 1)) then
          if (cnow_F ((act16_F fb13 (acts0[i10.toNat]!)).2) k15).2 = 0 then
            if ((((mget ieq seen14 ((cnow_F ((act16_F fb13 (acts0[i10.toNat]!)).2) k15).1) false)) || (!(decide ((cof_F ((act16_F fb13 (acts0[i10.toNat]!)).2) ((cnow_F ((act16_F fb13 (acts0[i10.toNat]!)).2) k15).1)).1 = k15)))) || (!(decide ((cof_F ((act16_F fb13 (acts0[i10.toNat]!)).2) ((cnow_F ((act16_F fb13 (acts0[i10.toNat]!)).2) k15).1)).2 = 0)))) = true then
              o = (.inr (.inr ()))
            else
              (inI64 (k15 + 1)) ∧ (
              o = (.inl (mset ieq seen14 ((cnow_F ((act16_F fb13 (acts0[i10.toNat]!)).2) k15).1) true, k15 + 1)))
          else
            (inI64 (k15 + 1)) ∧ (
            o = (.inl (seen14, k15 + 1)))
        else
          if (cnow_F ((act16_F fb13 (acts0[i10.toNat]!)).2) k15).1 = 0 then
            if (cnow_F ((act16_F fb13 (acts0[i10.toNat]!)).2) k15).2 = 0 then
              if ((((mget ieq seen14 ((cnow_F ((act16_F fb13 (acts0[i10.toNat]!)).2) k15).1) false)) || (!(decide ((cof_F ((act16_F fb13 (acts0[i10.toNat]!)).2) ((cnow_F ((act16_F fb13 (acts0[i10.toNat]!)).2) k15).1)).1 = k15)))) || (!(decide ((cof_F ((act16_F fb13 (acts0[i10.toNat]!)).2) ((cnow_F ((act16_F fb13 (acts0[i10.toNat]!)).2) k15).1)).2 = 0)))) = true then
                o = (.inr (.inr ()))
              else
                (inI64 (k15 + 1)) ∧ (
                o = (.inl (mset ieq seen14 ((cnow_F ((act16_F fb13 (acts0[i10.toNat]!)).2) k15).1) true, k15 + 1)))
            else
              (inI64 (k15 + 1)) ∧ (
              o = (.inl (seen14, k15 + 1)))
          else
            o = (.inr (.inr ()))))
    else
      if (cnow_F ((act16_F fb13 (acts0[i10.toNat]!)).2) k15).2 = 0 then
        if ((((mget ieq seen14 ((cnow_F ((act16_F fb13 (acts0[i10.toNat]!)).2) k15).1) false)) || (!(decide ((cof_F ((act16_F fb13 (acts0[i10.toNat]!)).2) ((cnow_F ((act16_F fb13 (acts0[i10.toNat]!)).2) k15).1)).1 = k15)))) || (!(decide ((cof_F ((act16_F fb13 (acts0[i10.toNat]!)).2) ((cnow_F ((act16_F fb13 (acts0[i10.toNat]!)).2) k15).1)).2 = 0)))) = true then
          o = (.inr (.inr ()))
        else
          (inI64 (k15 + 1)) ∧ (
          o = (.inl (mset ieq seen14 ((cnow_F ((act16_F fb13 (acts0[i10.toNat]!)).2) k15).1) true, k15 + 1)))
      else
        (inI64 (k15 + 1)) ∧ (
        o = (.inl (seen14, k15 + 1)))))
  else
    o = (.inr (.inl ()))

def one16_k3a (acts0 : (List (Nat → Int))) (i10 : Int) (fb13 : (Nat → Int)) (o : (Int × (Nat → Int)) ⊕ (((Nat → Int)) ⊕ ((Nat → Int)))) : Prop :=
  (inI64 (i10 + 1)) ∧ (
  o = (.inl (i10 + 1, (act16_F fb13 (acts0[i10.toNat]!)).2)))

def one16_k3b (acts0 : (List (Nat → Int))) (i10 : Int) (fb13 : (Nat → Int)) (o : (Int × (Nat → Int)) ⊕ (((Nat → Int)) ⊕ ((Nat → Int)))) : Prop :=
  o = (.inr (.inr ((act16_F fb13 (acts0[i10.toNat]!)).2)))

def one16_k2a (acts0 : (List (Nat → Int))) (i10 : Int) (fb13 : (Nat → Int)) (fb12 : (Nat → Int)) (fb11 : (Nat → Int)) (o : (Int × (Nat → Int)) ⊕ (((Nat → Int)) ⊕ ((Nat → Int)))) : Prop :=
  (0 ≤ i10 ∧ i10 < acts0.length) ∧ (
  (act16_P fb13 (acts0[i10.toNat]!)) ∧ (
  ∃ x : (Unit) ⊕ (Unit), Wh (fun (s : (List (Int × Bool)) × Int) (o : ((List (Int × Bool)) × Int) ⊕ ((Unit) ⊕ (Unit))) => one16_l3 acts0 i10 fb13 fb12 fb11 s.1 s.2 o) (([], 1) : (List (Int × Bool)) × Int) x ∧ (match x with | .inl _ => one16_k3a acts0 i10 fb13 o | .inr _ => one16_k3b acts0 i10 fb13 o)))

def one16_l1 (acts0 : (List (Nat → Int))) (i10 : Int) (fb13 : (Nat → Int)) (o : (Int × (Nat → Int)) ⊕ (((Nat → Int)) ⊕ ((Nat → Int)))) : Prop :=
  if i10 < (acts0.length : Int) then
    ∃ x : (Nat → Int) × (Nat → Int), Wh (fun (s : Int × (Nat → Int) × (Nat → Int)) (o : (Int × (Nat → Int) × (Nat → Int)) ⊕ ((Nat → Int) × (Nat → Int))) => one16_l2 fb13 s.1 s.2.1 s.2.2 o) ((1, (fun _ => 0), (fun _ => 0)) : Int × (Nat → Int) × (Nat → Int)) x ∧ one16_k2a acts0 i10 fb13 x.1 x.2 o
  else
    o = (.inr (.inl fb13))

def one16_k1a (fb13 : (Nat → Int)) (r : Bool) : Prop :=
  r = (true)

def one16_k1b (fb13 : (Nat → Int)) (r : Bool) : Prop :=
  r = (false)

def one16_S (acts0 : (List (Nat → Int))) (r : Bool) : Prop :=
  (alive16_P) ∧ (
  if (alive16_F) = true then
    if 100 < (acts0.length : Int) then
      r = (true)
    else
      if (code_F 1) = 1 then
        ∃ x : ((Nat → Int)) ⊕ ((Nat → Int)), Wh (fun (s : Int × (Nat → Int)) (o : (Int × (Nat → Int)) ⊕ (((Nat → Int)) ⊕ ((Nat → Int)))) => one16_l1 acts0 s.1 s.2 o) ((0, (updI (fun _ => 0) 0 8)) : Int × (Nat → Int)) x ∧ (match x with | .inl fb13 => one16_k1a fb13 r | .inr fb13 => one16_k1b fb13 r)
      else
        r = (false)
  else
    r = (false))

end Go.E
