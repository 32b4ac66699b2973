/- What functions of the program say, as relations. -/
import Derived.Test.YtmfbefghdaiicaaD17bS
set_option maxHeartbeats 1000000
set_option linter.unusedVariables false
set_option linter.unusedSimpArgs false
set_option maxRecDepth 100000
namespace Go.E
open Go

def abort17_l1 (acts0 : (List (Nat → Int))) (i7 : Int) (fb5 : Int) (fb5_1 : Int) (fb5_2 : Int) (fb5_3 : Int) (fb5_4 : Bool) (fb5_5 : Int) (fb5_6 : (Nat → Int)) (fb5_8 : Int) (fb5_9 : (List Int)) (fb5_10 : (List Int)) (fb5_11 : (List Int)) (fb5_12 : (List (Nat → Int))) (o : (Int × Int × Int × Int × Int × Bool × Int × (Nat → Int) × Int × (List Int) × (List Int) × (List Int) × (List (Nat → Int))) ⊕ (Int × Int × Int × Int × Bool × Int × (Nat → Int) × Int × (List Int) × (List Int) × (List Int) × (List (Nat → Int)))) : Prop :=
  if i7 < (acts0.length : Int) then
    if 0 ≤ (acts0[i7.toNat]!) 0 ∧ (acts0[i7.toNat]!) 0 ≤ 5 then
      (0 ≤ i7 ∧ i7 < acts0.length) ∧ (
      (act17_P fb5 fb5_1 fb5_2 fb5_3 fb5_4 fb5_5 fb5_6 fb5_8 fb5_9 fb5_10 fb5_11 fb5_12 (acts0[i7.toNat]!)) ∧ (
      ∃ rn12 : (Int × Int × Int × Int × Bool × Int × (Nat → Int) × Int × (List Int) × (List Int) × (List Int) × (List (Nat → Int))) × (List (Nat → Int)) × Int, rn12 = (act17_F fb5 fb5_1 fb5_2 fb5_3 fb5_4 fb5_5 fb5_6 fb5_8 fb5_9 fb5_10 fb5_11 fb5_12 (acts0[i7.toNat]!)) ∧ (
      (inI64 (i7 + 1)) ∧ (
      o = (.inl (i7 + 1, rn12.1.1, rn12.1.2.1, rn12.1.2.2.1, rn12.1.2.2.2.1, rn12.1.2.2.2.2.1, rn12.1.2.2.2.2.2.1, rn12.1.2.2.2.2.2.2.1, rn12.1.2.2.2.2.2.2.2.1, rn12.1.2.2.2.2.2.2.2.2.1, rn12.1.2.2.2.2.2.2.2.2.2.1, rn12.1.2.2.2.2.2.2.2.2.2.2.1, rn12.1.2.2.2.2.2.2.2.2.2.2.2))))))
    else
      (0 ≤ i7 ∧ i7 < acts0.length) ∧ (
      (¬ ((acts0[i7.toNat]!) 0 = 0)) ∧ (
      (¬ ((acts0[i7.toNat]!) 0 = 1)) ∧ (
      (¬ ((acts0[i7.toNat]!) 0 = 2)) ∧ (
      (¬ ((acts0[i7.toNat]!) 0 = 3)) ∧ (
      (¬ ((acts0[i7.toNat]!) 0 = 4)) ∧ (
      (¬ ((acts0[i7.toNat]!) 0 = 5)) ∧ (
      (inI64 (i7 + 1)) ∧ (
      o = (.inl (i7 + 1, fb5, fb5_1, fb5_2, fb5_3, fb5_4, fb5_5, fb5_6, fb5_8, fb5_9, fb5_10, fb5_11, fb5_12))))))))))
  else
    o = (.inr (fb5, fb5_1, fb5_2, fb5_3, fb5_4, fb5_5, fb5_6, fb5_8, fb5_9, fb5_10, fb5_11, fb5_12))

def abort17_l2 (fb5_9 : (List Int)) (rn29 : (Int × Int × Int × Int × Bool × Int × (Nat → Int) × Int × (List Int) × (List Int) × (List Int) × (List (Nat → Int))) × (List (Nat → Int)) × Int) (i12 : Int) (o : (Int) ⊕ ((Unit) ⊕ (Unit))) : Prop :=
  if i12 < (rn29.2.1.length : Int) then
    (0 ≤ i12 ∧ i12 < rn29.2.1.length) ∧ (
    (0 ≤ i12 ∧ i12 < fb5_9.length) ∧ (
    if ((eqN 28 (rn29.2.1[i12.toNat]!) (updI (updI (updI (fun _ => 0) 0 6) 2 (fb5_9[i12.toNat]!)) 3 5))) = true then
      (inI64 (i12 + 1)) ∧ (
      o = (.inl (i12 + 1)))
    else
      o = (.inr (.inr ()))))
  else
    o = (.inr (.inl ()))

def abort17_k2a (r : Bool) : Prop :=
  r = (true)

def abort17_k2b (r : Bool) : Prop :=
  r = (false)

def abort17_k1a (reason1 : Int) (fb5 : Int) (fb5_1 : Int) (fb5_2 : Int) (fb5_3 : Int) (fb5_4 : Bool) (fb5_5 : Int) (fb5_6 : (Nat → Int)) (fb5_8 : Int) (fb5_9 : (List Int)) (fb5_10 : (List Int)) (fb5_11 : (List Int)) (fb5_12 : (List (Nat → Int))) (r : Bool) : Prop :=
  (inI64 (1 + ((IntKind.i64.wrap reason1).tmod 5))) ∧ (
  (tabort_P fb5 fb5_1 fb5_2 fb5_3 fb5_4 fb5_5 fb5_6 fb5_8 fb5_9 fb5_10 fb5_11 fb5_12 (1 + ((IntKind.i64.wrap reason1).tmod 5))) ∧ (
  ∃ rn29 : (Int × Int × Int × Int × Bool × Int × (Nat → Int) × Int × (List Int) × (List Int) × (List Int) × (List (Nat → Int))) × (List (Nat → Int)) × Int, rn29 = (tabort_F fb5 fb5_1 fb5_2 fb5_3 fb5_4 fb5_5 fb5_6 fb5_8 fb5_9 fb5_10 fb5_11 fb5_12 (1 + ((IntKind.i64.wrap reason1).tmod 5))) ∧ (
  if ((tdecided_F fb5 fb5_1 fb5_2 fb5_3 fb5_4 fb5_5 fb5_6 fb5_8 fb5_9 fb5_10 fb5_11 fb5_12)) = true then
    r = ((decide ((code_F rn29.2.2) = 15)) && (decide ((rn29.2.1.length : Int) = 0)))
  else
    if (((((!(decide (rn29.2.2 = 0))) || (!(decide (rn29.1.2.1 = 4)))) || (!(decide (rn29.1.2.2.1 = 1 + ((IntKind.i64.wrap reason1).tmod 5))))) || (rn29.1.2.2.2.2.1)) || (!(decide ((rn29.2.1.length : Int) = (fb5_9.length : Int))))) = true then
      r = (false)
    else
      ∃ x : (Unit) ⊕ (Unit), Wh (fun (s : Int) (o : (Int) ⊕ ((Unit) ⊕ (Unit))) => abort17_l2 fb5_9 rn29 s o) (0 : Int) x ∧ (match x with | .inl _ => abort17_k2a r | .inr _ => abort17_k2b r))))

def abort17_S (acts0 : (List (Nat → Int))) (reason1 : Int) (r : Bool) : Prop :=
  if (alive17_F) = true then
    if 60 < (acts0.length : Int) then
      r = (true)
    else
      if (tnew_F 5).2 = 0 then
        ∃ x : Int × Int × Int × Int × Bool × Int × (Nat → Int) × Int × (List Int) × (List Int) × (List Int) × (List (Nat → Int)), Wh (fun (s : Int × Int × Int × Int × Int × Bool × Int × (Nat → Int) × Int × (List Int) × (List Int) × (List Int) × (List (Nat → Int))) (o : (Int × Int × Int × Int × Int × Bool × Int × (Nat → Int) × Int × (List Int) × (List Int) × (List Int) × (List (Nat → Int))) ⊕ (Int × Int × Int × Int × Bool × Int × (Nat → Int) × Int × (List Int) × (List Int) × (List Int) × (List (Nat → Int)))) => abort17_l1 acts0 s.1 s.2.1 s.2.2.1 s.2.2.2.1 s.2.2.2.2.1 s.2.2.2.2.2.1 s.2.2.2.2.2.2.1 s.2.2.2.2.2.2.2.1 s.2.2.2.2.2.2.2.2.1 s.2.2.2.2.2.2.2.2.2.1 s.2.2.2.2.2.2.2.2.2.2.1 s.2.2.2.2.2.2.2.2.2.2.2.1 s.2.2.2.2.2.2.2.2.2.2.2.2 o) ((0, ((tnew_F 5).1).1, ((tnew_F 5).1).2.1, ((tnew_F 5).1).2.2.1, ((tnew_F 5).1).2.2.2.1, ((tnew_F 5).1).2.2.2.2.1, ((tnew_F 5).1).2.2.2.2.2.1, ((tnew_F 5).1).2.2.2.2.2.2.1, ((tnew_F 5).1).2.2.2.2.2.2.2.1, ((tnew_F 5).1).2.2.2.2.2.2.2.2.1, ((tnew_F 5).1).2.2.2.2.2.2.2.2.2.1, ((tnew_F 5).1).2.2.2.2.2.2.2.2.2.2.1, ((tnew_F 5).1).2.2.2.2.2.2.2.2.2.2.2) : Int × Int × Int × Int × Int × Bool × Int × (Nat → Int) × Int × (List Int) × (List Int) × (List Int) × (List (Nat → Int))) x ∧ abort17_k1a reason1 x.1 x.2.1 x.2.2.1 x.2.2.2.1 x.2.2.2.2.1 x.2.2.2.2.2.1 x.2.2.2.2.2.2.1 x.2.2.2.2.2.2.2.1 x.2.2.2.2.2.2.2.2.1 x.2.2.2.2.2.2.2.2.2.1 x.2.2.2.2.2.2.2.2.2.2.1 x.2.2.2.2.2.2.2.2.2.2.2 r
      else
        r = (false)
  else
    r = (false)

end Go.E
