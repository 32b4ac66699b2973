/- What functions of the program say, as relations. -/
import Derived.Test.YtjmfnohbeoiddaaB12S
set_option maxHeartbeats 1000000
set_option linter.unusedVariables false
set_option linter.unusedSimpArgs false
set_option maxRecDepth 100000
namespace Go.E
open Go

def same12_l2 (shard0 : Int) (m1 : (Nat → Int)) (seq2 : Int) (l3 : (List (Nat → Int))) (i19 : Int) (k21 : Int) (o : (Int) ⊕ ((Unit) ⊕ (Unit))) : Prop :=
  if k21 < m1 11 then
    (0 ≤ k21 ∧ k21 < 8) ∧ (
    (0 ≤ k21 ∧ k21 < 8) ∧ (
    if ((eqN 2 (fun i => (((goP_F (1 + ((IntKind.i64.wrap shard0).tmod 64)) m1 seq2 l3).1)[i19.toNat]!) ((12 + (k21.toNat * 2)) + i)) (fun i => m1 ((12 + (k21.toNat * 2)) + i)))) = true then
      (inI64 (k21 + 1)) ∧ (
      o = (.inl (k21 + 1)))
    else
      o = (.inr (.inr ()))))
  else
    o = (.inr (.inl ()))

def same12_k2a (i19 : Int) (o : (Int) ⊕ ((Unit) ⊕ (Unit))) : Prop :=
  (inI64 (i19 + 1)) ∧ (
  o = (.inl (i19 + 1)))

def same12_k2b (o : (Int) ⊕ ((Unit) ⊕ (Unit))) : Prop :=
  o = (.inr (.inr ()))

def same12_l1 (shard0 : Int) (m1 : (Nat → Int)) (seq2 : Int) (l3 : (List (Nat → Int))) (i19 : Int) (o : (Int) ⊕ ((Unit) ⊕ (Unit))) : Prop :=
  if i19 < (((goP_F (1 + ((IntKind.i64.wrap shard0).tmod 64)) m1 seq2 l3).1).length : Int) then
    (0 ≤ i19 ∧ i19 < ((goP_F (1 + ((IntKind.i64.wrap shard0).tmod 64)) m1 seq2 l3).1).length) ∧ (
    (inI64 ((m1 11) + 1)) ∧ ((((!(decide ((((goP_F (1 + ((IntKind.i64.wrap shard0).tmod 64)) m1 seq2 l3).1)[i19.toNat]!) 11 = (m1 11) + 1))) || (decide (8 < (((goP_F (1 + ((IntKind.i64.wrap shard0).tmod 64)) m1 seq2 l3).1)[i19.toNat]!) 11))) = false) → 0 ≤ m1 11 ∧ m1 11 < 8) ∧ (
    if (((!(decide ((((goP_F (1 + ((IntKind.i64.wrap shard0).tmod 64)) m1 seq2 l3).1)[i19.toNat]!) 11 = (m1 11) + 1))) || (decide (8 < (((goP_F (1 + ((IntKind.i64.wrap shard0).tmod 64)) m1 seq2 l3).1)[i19.toNat]!) 11))) || (!((eqN 2 (fun i => (((goP_F (1 + ((IntKind.i64.wrap shard0).tmod 64)) m1 seq2 l3).1)[i19.toNat]!) ((12 + ((m1 11).toNat * 2)) + i)) (updI (updI (fun _ => 0) 0 (m1 9)) 1 seq2))))) = true then
      o = (.inr (.inr ()))
    else
      ∃ x : (Unit) ⊕ (Unit), Wh (fun (s : Int) (o : (Int) ⊕ ((Unit) ⊕ (Unit))) => same12_l2 shard0 m1 seq2 l3 i19 s o) (0 : Int) x ∧ (match x with | .inl _ => same12_k2a i19 o | .inr _ => same12_k2b o)))
  else
    o = (.inr (.inl ()))

def same12_k1a (shard0 : Int) (m1 : (Nat → Int)) (seq2 : Int) (l3 : (List (Nat → Int))) (r : Bool) : Prop :=
  r = ((decide ((goP_F (1 + ((IntKind.i64.wrap shard0).tmod 64)) m1 seq2 l3).2 = 0)) || (decide ((((goP_F (1 + ((IntKind.i64.wrap shard0).tmod 64)) m1 seq2 l3).1).length : Int) = 0)))

def same12_k1b (r : Bool) : Prop :=
  r = (false)

def same12_S (shard0 : Int) (m1 : (Nat → Int)) (seq2 : Int) (l3 : (List (Nat → Int))) (open4 : (List (Nat → Int))) (r : Bool) : Prop :=
  (alive12_P) ∧ (
  if (alive12_F) = true then
    if ((decide (60 < (l3.length : Int))) || (decide (60 < (open4.length : Int)))) = true then
      r = (true)
    else
      (inI64 (1 + ((IntKind.i64.wrap shard0).tmod 64))) ∧ (
      if (onward_F (1 + ((IntKind.i64.wrap shard0).tmod 64)) m1).2 = 0 then
        ((((((!(decide ((victim_F m1).2 = 0))) || (!(decide ((victim_F ((onward_F (1 + ((IntKind.i64.wrap shard0).tmod 64)) m1).1)).2 = 0)))) || (!(decide ((victim_F m1).1 = (victim_F ((onward_F (1 + ((IntKind.i64.wrap shard0).tmod 64)) m1).1)).1)))) || (!((((back_F m1)) == ((back_F ((onward_F (1 + ((IntKind.i64.wrap shard0).tmod 64)) m1).1))))))) = false) → live_P m1 open4) ∧ ((((((!(decide ((victim_F m1).2 = 0))) || (!(decide ((victim_F ((onward_F (1 + ((IntKind.i64.wrap shard0).tmod 64)) m1).1)).2 = 0)))) || (!(decide ((victim_F m1).1 = (victim_F ((onward_F (1 + ((IntKind.i64.wrap shard0).tmod 64)) m1).1)).1)))) || (!((((back_F m1)) == ((back_F ((onward_F (1 + ((IntKind.i64.wrap shard0).tmod 64)) m1).1))))))) = false) → live_P ((onward_F (1 + ((IntKind.i64.wrap shard0).tmod 64)) m1).1) open4) ∧ (
        if (((((!(decide ((victim_F m1).2 = 0))) || (!(decide ((victim_F ((onward_F (1 + ((IntKind.i64.wrap shard0).tmod 64)) m1).1)).2 = 0)))) || (!(decide ((victim_F m1).1 = (victim_F ((onward_F (1 + ((IntKind.i64.wrap shard0).tmod 64)) m1).1)).1)))) || (!((((back_F m1)) == ((back_F ((onward_F (1 + ((IntKind.i64.wrap shard0).tmod 64)) m1).1))))))) || (!((((live_F m1 open4)) == ((live_F ((onward_F (1 + ((IntKind.i64.wrap shard0).tmod 64)) m1).1) open4)))))) = true then
          r = (false)
        else
          (inI64 (1 + ((IntKind.i64.wrap shard0).tmod 64))) ∧ (
          (goP_P (1 + ((IntKind.i64.wrap shard0).tmod 64)) m1 seq2 l3) ∧ (
          ∃ x : (Unit) ⊕ (Unit), Wh (fun (s : Int) (o : (Int) ⊕ ((Unit) ⊕ (Unit))) => same12_l1 shard0 m1 seq2 l3 s o) (0 : Int) x ∧ (match x with | .inl _ => same12_k1a shard0 m1 seq2 l3 r | .inr _ => same12_k1b r))))
      else
        r = ((eqN 28 ((onward_F (1 + ((IntKind.i64.wrap shard0).tmod 64)) m1).1) (fun _ => 0))))
  else
    r = (false))

end Go.E
