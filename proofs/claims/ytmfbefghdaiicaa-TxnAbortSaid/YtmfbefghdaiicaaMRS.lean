/- What functions of the program say, as relations. -/
import Derived.Test.YtmfbefghdaiicaaPM
set_option maxHeartbeats 1000000
set_option linter.unusedVariables false
set_option linter.unusedSimpArgs false
set_option maxRecDepth 100000
namespace Go.E
open Go

def ref02Ok_S (r0 : (Nat → Int)) (r : Bool) : Prop :=
  r = ((((decide (0 < r0 0)) && (decide (r0 0 < 251))) && (decide ((-1) < r0 1))) && (decide (r0 1 < 251)))

def ref02Ok_F (r0 : (Nat → Int)) : Bool :=
  (((decide (0 < r0 0)) && (decide (r0 0 < 251))) && (decide ((-1) < r0 1))) && (decide (r0 1 < 251))

theorem ref02Ok_ok (r0 : (Nat → Int)) : ref02Ok_S r0 (ref02Ok_F r0) := by
  obtain ⟨r, hr⟩ : ∃ r, r = ref02Ok_F r0 := ⟨_, rfl⟩
  rw [← hr]
  unfold ref02Ok_F at hr
  unfold ref02Ok_S
  exact hr

def number_S (n0 : Int) (r : Bool) : Prop :=
  r = ((decide (0 < n0)) && (decide (n0 ≤ 1048576)))

def number_F (n0 : Int) : Bool :=
  (decide (0 < n0)) && (decide (n0 ≤ 1048576))

theorem number_ok (n0 : Int) : number_S n0 (number_F n0) := by
  obtain ⟨r, hr⟩ : ∃ r, r = number_F n0 := ⟨_, rfl⟩
  rw [← hr]
  unfold number_F at hr
  unfold number_S
  exact hr

def ref04Ok_l2 (m0 : (Nat → Int)) (i8 : Int) (k9 : Int) (o : (Int) ⊕ ((Unit) ⊕ (Unit))) : Prop :=
  if k9 < i8 then
    (0 ≤ k9 ∧ k9 < 8) ∧ (
    (0 ≤ i8 ∧ i8 < 8) ∧ (
    if m0 (12 + (k9.toNat * 2)) = m0 (12 + (i8.toNat * 2)) then
      o = (.inr (.inr ()))
    else
      (inI64 (k9 + 1)) ∧ (
      o = (.inl (k9 + 1)))))
  else
    o = (.inr (.inl ()))

def ref04Ok_k2a (i8 : Int) (o : (Int) ⊕ ((Unit) ⊕ (Unit))) : Prop :=
  (inI64 (i8 + 1)) ∧ (
  o = (.inl (i8 + 1)))

def ref04Ok_k2b (o : (Int) ⊕ ((Unit) ⊕ (Unit))) : Prop :=
  o = (.inr (.inr ()))

def ref04Ok_l1 (m0 : (Nat → Int)) (i8 : Int) (o : (Int) ⊕ ((Unit) ⊕ (Unit))) : Prop :=
  if i8 < 8 then
    if m0 11 ≤ i8 then
      (0 ≤ i8 ∧ i8 < 8) ∧ (((!(decide (m0 (12 + (i8.toNat * 2)) = 0))) = false) → 0 ≤ i8 ∧ i8 < 8) ∧ (
      if ((!(decide (m0 (12 + (i8.toNat * 2)) = 0))) || (!(decide (m0 ((12 + (i8.toNat * 2)) + 1) = 0)))) = true then
        o = (.inr (.inr ()))
      else
        (inI64 (i8 + 1)) ∧ (
        o = (.inl (i8 + 1))))
    else
      (0 ≤ i8 ∧ i8 < 8) ∧ (((!((number_F (m0 (12 + (i8.toNat * 2)))))) = false) → 0 ≤ i8 ∧ i8 < 8) ∧ (
      if ((!((number_F (m0 (12 + (i8.toNat * 2)))))) || (!((number_F (m0 ((12 + (i8.toNat * 2)) + 1)))))) = true then
        o = (.inr (.inr ()))
      else
        ∃ x : (Unit) ⊕ (Unit), Wh (fun (s : Int) (o : (Int) ⊕ ((Unit) ⊕ (Unit))) => ref04Ok_l2 m0 i8 s o) (0 : Int) x ∧ (match x with | .inl _ => ref04Ok_k2a i8 o | .inr _ => ref04Ok_k2b o))
  else
    o = (.inr (.inl ()))

def ref04Ok_k1a (m0 : (Nat → Int)) (r : Bool) : Prop :=
  r = ((eqN 28 m0 (updI (updI (updRI (updI (updI (updI (updI (fun _ => 0) 0 (m0 0)) 1 (m0 1)) 2 (m0 2)) 11 (m0 11)) 12 16 (fun i => m0 (12 + i))) 9 (m0 9)) 10 (m0 10))))

def ref04Ok_k1b (r : Bool) : Prop :=
  r = (false)

def ref04Ok_S (m0 : (Nat → Int)) (r : Bool) : Prop :=
  if ((decide (m0 0 < 1)) || (decide (11 < m0 0))) = true then
    r = (false)
  else
    (inI64 ((m0 0) - 1)) ∧ (
    (0 ≤ (m0 0) - 1 ∧ (m0 0) - 1 < (⟨#[111, 98, 98, 111, 98, 111, 98, 111, 98, 98, 101]⟩ : ByteArray).size) ∧ (
    if ((((decide (strAt (⟨#[111, 98, 98, 111, 98, 111, 98, 111, 98, 98, 101]⟩ : ByteArray) ((m0 0) - 1) = 111)) && (!(((decide (m0 1 = 0)) && (decide (1 ≤ m0 2))) && (decide (m0 2 ≤ 64))))) || ((decide (strAt (⟨#[111, 98, 98, 111, 98, 111, 98, 111, 98, 98, 101]⟩ : ByteArray) ((m0 0) - 1) = 98)) && (!(((decide (m0 2 = 0)) && (decide (1 ≤ m0 1))) && (decide (m0 1 ≤ 64)))))) || ((!(((decide (m0 1 = 0)) && (decide (1 ≤ m0 2))) && (decide (m0 2 ≤ 64)))) && (!(((decide (m0 2 = 0)) && (decide (1 ≤ m0 1))) && (decide (m0 1 ≤ 64)))))) = true then
      r = (false)
    else
      if m0 0 = 11 then
        if (((((decide (m0 11 < 1)) || (decide (8 < m0 11))) || (!((number_F (m0 9))))) || (decide (m0 10 < 0))) || (decide (1048576 < m0 10))) = true then
          r = (false)
        else
          ∃ x : (Unit) ⊕ (Unit), Wh (fun (s : Int) (o : (Int) ⊕ ((Unit) ⊕ (Unit))) => ref04Ok_l1 m0 s o) (0 : Int) x ∧ (match x with | .inl _ => ref04Ok_k1a m0 r | .inr _ => ref04Ok_k1b r)
      else
        if ((number_F (m0 3))) = true then
          if m0 0 ≤ 3 then
            if ((number_F (m0 4))) = true then
              if m0 0 ≤ 2 then
                if (((!((ref02Ok_F (fun i => m0 (5 + i))))) || (decide (m0 7 < 1))) || (decide (4 < m0 7))) = true then
                  r = (false)
                else
                  if m0 0 = 3 then
                    if ((decide (m0 8 < 1)) || (decide (15 < m0 8))) = true then
                      r = (false)
                    else
                      if ((decide (m0 0 = 5)) || (decide (m0 0 = 6))) = true then
                        if ((!(decide (m0 8 = 0))) && (!(decide (m0 8 = 1)))) = true then
                          r = (false)
                        else
                          r = ((eqN 28 m0 (updI (updI (updI (updRI (updI (updI (updI (updI (updI (fun _ => 0) 0 (m0 0)) 1 (m0 1)) 2 (m0 2)) 3 (m0 3)) 4 (m0 4)) 5 2 (fun i => m0 (5 + i))) 7 (m0 7)) 8 (m0 8)) 8 (m0 8))))
                      else
                        r = ((eqN 28 m0 (updI (updI (updRI (updI (updI (updI (updI (updI (fun _ => 0) 0 (m0 0)) 1 (m0 1)) 2 (m0 2)) 3 (m0 3)) 4 (m0 4)) 5 2 (fun i => m0 (5 + i))) 7 (m0 7)) 8 (m0 8))))
                  else
                    if ((decide (m0 0 = 5)) || (decide (m0 0 = 6))) = true then
                      if ((!(decide (m0 8 = 0))) && (!(decide (m0 8 = 1)))) = true then
                        r = (false)
                      else
                        if m0 0 = 10 then
                          if ((!((number_F (m0 9)))) || (decide (m0 3 ≤ m0 9))) = true then
                            r = (false)
                          else
                            r = ((eqN 28 m0 (updI (updI (updI (updRI (updI (updI (updI (updI (updI (fun _ => 0) 0 (m0 0)) 1 (m0 1)) 2 (m0 2)) 3 (m0 3)) 4 (m0 4)) 5 2 (fun i => m0 (5 + i))) 7 (m0 7)) 8 (m0 8)) 9 (m0 9))))
                        else
                          r = ((eqN 28 m0 (updI (updI (updRI (updI (updI (updI (updI (updI (fun _ => 0) 0 (m0 0)) 1 (m0 1)) 2 (m0 2)) 3 (m0 3)) 4 (m0 4)) 5 2 (fun i => m0 (5 + i))) 7 (m0 7)) 8 (m0 8))))
                    else
                      if m0 0 = 10 then
                        if ((!((number_F (m0 9)))) || (decide (m0 3 ≤ m0 9))) = true then
                          r = (false)
                        else
                          r = ((eqN 28 m0 (updI (updI (updRI (updI (updI (updI (updI (updI (fun _ => 0) 0 (m0 0)) 1 (m0 1)) 2 (m0 2)) 3 (m0 3)) 4 (m0 4)) 5 2 (fun i => m0 (5 + i))) 7 (m0 7)) 9 (m0 9))))
                      else
                        r = ((eqN 28 m0 (updI (updRI (updI (updI (updI (updI (updI (fun _ => 0) 0 (m0 0)) 1 (m0 1)) 2 (m0 2)) 3 (m0 3)) 4 (m0 4)) 5 2 (fun i => m0 (5 + i))) 7 (m0 7))))
              else
                if m0 0 = 3 then
                  if ((decide (m0 8 < 1)) || (decide (15 < m0 8))) = true then
                    r = (false)
                  else
                    if ((decide (m0 0 = 5)) || (decide (m0 0 = 6))) = true then
                      if ((!(decide (m0 8 = 0))) && (!(decide (m0 8 = 1)))) = true then
                        r = (false)
                      else
                        r = ((eqN 28 m0 (updI (updI (updI (updI (updI (updI (updI (fun _ => 0) 0 (m0 0)) 1 (m0 1)) 2 (m0 2)) 3 (m0 3)) 4 (m0 4)) 8 (m0 8)) 8 (m0 8))))
                    else
                      r = ((eqN 28 m0 (updI (updI (updI (updI (updI (updI (fun _ => 0) 0 (m0 0)) 1 (m0 1)) 2 (m0 2)) 3 (m0 3)) 4 (m0 4)) 8 (m0 8))))
                else
                  if ((decide (m0 0 = 5)) || (decide (m0 0 = 6))) = true then
                    if ((!(decide (m0 8 = 0))) && (!(decide (m0 8 = 1)))) = true then
                      r = (false)
                    else
                      if m0 0 = 10 then
                        if ((!((number_F (m0 9)))) || (decide (m0 3 ≤ m0 9))) = true then
                          r = (false)
                        else
                          r = ((eqN 28 m0 (updI (updI (updI (updI (updI (updI (updI (fun _ => 0) 0 (m0 0)) 1 (m0 1)) 2 (m0 2)) 3 (m0 3)) 4 (m0 4)) 8 (m0 8)) 9 (m0 9))))
                      else
                        r = ((eqN 28 m0 (updI (updI (updI (updI (updI (updI (fun _ => 0) 0 (m0 0)) 1 (m0 1)) 2 (m0 2)) 3 (m0 3)) 4 (m0 4)) 8 (m0 8))))
                  else
                    if m0 0 = 10 then
                      if ((!((number_F (m0 9)))) || (decide (m0 3 ≤ m0 9))) = true then
                        r = (false)
                      else
                        r = ((eqN 28 m0 (updI (updI (updI (updI (updI (updI (fun _ => 0) 0 (m0 0)) 1 (m0 1)) 2 (m0 2)) 3 (m0 3)) 4 (m0 4)) 9 (m0 9))))
                    else
                      r = ((eqN 28 m0 (updI (updI (updI (updI (updI (fun _ => 0) 0 (m0 0)) 1 (m0 1)) 2 (m0 2)) 3 (m0 3)) 4 (m0 4))))
            else
              r = (false)
          else
            if m0 0 ≤ 2 then
              if (((!((ref02Ok_F (fun i => m0 (5 + i))))) || (decide (m0 7 < 1))) || (decide (4 < m0 7))) = true then
                r = (false)
              else
                if m0 0 = 3 then
                  if ((decide (m0 8 < 1)) || (decide (15 < m0 8))) = true then
                    r = (false)
                  else
                    if ((decide (m0 0 = 5)) || (decide (m0 0 = 6))) = true then
                      if ((!(decide (m0 8 = 0))) && (!(decide (m0 8 = 1)))) = true then
                        r = (false)
                      else
                        r = ((eqN 28 m0 (updI (updI (updI (updRI (updI (updI (updI (updI (fun _ => 0) 0 (m0 0)) 1 (m0 1)) 2 (m0 2)) 3 (m0 3)) 5 2 (fun i => m0 (5 + i))) 7 (m0 7)) 8 (m0 8)) 8 (m0 8))))
                    else
                      r = ((eqN 28 m0 (updI (updI (updRI (updI (updI (updI (updI (fun _ => 0) 0 (m0 0)) 1 (m0 1)) 2 (m0 2)) 3 (m0 3)) 5 2 (fun i => m0 (5 + i))) 7 (m0 7)) 8 (m0 8))))
                else
                  if ((decide (m0 0 = 5)) || (decide (m0 0 = 6))) = true then
                    if ((!(decide (m0 8 = 0))) && (!(decide (m0 8 = 1)))) = true then
                      r = (false)
                    else
                      if m0 0 = 10 then
                        if ((!((number_F (m0 9)))) || (decide (m0 3 ≤ m0 9))) = true then
                          r = (false)
                        else
                          r = ((eqN 28 m0 (updI (updI (updI (updRI (updI (updI (updI (updI (fun _ => 0) 0 (m0 0)) 1 (m0 1)) 2 (m0 2)) 3 (m0 3)) 5 2 (fun i => m0 (5 + i))) 7 (m0 7)) 8 (m0 8)) 9 (m0 9))))
                      else
                        r = ((eqN 28 m0 (updI (updI (updRI (updI (updI (updI (updI (fun _ => 0) 0 (m0 0)) 1 (m0 1)) 2 (m0 2)) 3 (m0 3)) 5 2 (fun i => m0 (5 + i))) 7 (m0 7)) 8 (m0 8))))
                  else
                    if m0 0 = 10 then
                      if ((!((number_F (m0 9)))) || (decide (m0 3 ≤ m0 9))) = true then
                        r = (false)
                      else
                        r = ((eqN 28 m0 (updI (updI (updRI (updI (updI (updI (updI (fun _ => 0) 0 (m0 0)) 1 (m0 1)) 2 (m0 2)) 3 (m0 3)) 5 2 (fun i => m0 (5 + i))) 7 (m0 7)) 9 (m0 9))))
                    else
                      r = ((eqN 28 m0 (updI (updRI (updI (updI (updI (updI (fun _ => 0) 0 (m0 0)) 1 (m0 1)) 2 (m0 2)) 3 (m0 3)) 5 2 (fun i => m0 (5 + i))) 7 (m0 7))))
            else
              if m0 0 = 3 then
                if ((decide (m0 8 < 1)) || (decide (15 < m0 8))) = true then
                  r = (false)
                else
                  if ((decide (m0 0 = 5)) || (decide (m0 0 = 6))) = true then
                    if ((!(decide (m0 8 = 0))) && (!(decide (m0 8 = 1)))) = true then
                      r = (false)
                    else
                      r = ((eqN 28 m0 (updI (updI (updI (updI (updI (updI (fun _ => 0) 0 (m0 0)) 1 (m0 1)) 2 (m0 2)) 3 (m0 3)) 8 (m0 8)) 8 (m0 8))))
                  else
                    r = ((eqN 28 m0 (updI (updI (updI (updI (updI (fun _ => 0) 0 (m0 0)) 1 (m0 1)) 2 (m0 2)) 3 (m0 3)) 8 (m0 8))))
              else
                if ((decide (m0 0 = 5)) || (decide (m0 0 = 6))) = true then
                  if ((!(decide (m0 8 = 0))) && (!(decide (m0 8 = 1)))) = true then
                    r = (false)
                  else
                    if m0 0 = 10 then
                      if ((!((number_F (m0 9)))) || (decide (m0 3 ≤ m0 9))) = true then
                        r = (false)
                      else
                        r = ((eqN 28 m0 (updI (updI (updI (updI (updI (updI (fun _ => 0) 0 (m0 0)) 1 (m0 1)) 2 (m0 2)) 3 (m0 3)) 8 (m0 8)) 9 (m0 9))))
                    else
                      r = ((eqN 28 m0 (updI (updI (updI (updI (updI (fun _ => 0) 0 (m0 0)) 1 (m0 1)) 2 (m0 2)) 3 (m0 3)) 8 (m0 8))))
                else
                  if m0 0 = 10 then
                    if ((!((number_F (m0 9)))) || (decide (m0 3 ≤ m0 9))) = true then
                      r = (false)
                    else
                      r = ((eqN 28 m0 (updI (updI (updI (updI (updI (fun _ => 0) 0 (m0 0)) 1 (m0 1)) 2 (m0 2)) 3 (m0 3)) 9 (m0 9))))
                  else
                    r = ((eqN 28 m0 (updI (updI (updI (updI (fun _ => 0) 0 (m0 0)) 1 (m0 1)) 2 (m0 2)) 3 (m0 3))))
        else
          r = (false)))

end Go.E
