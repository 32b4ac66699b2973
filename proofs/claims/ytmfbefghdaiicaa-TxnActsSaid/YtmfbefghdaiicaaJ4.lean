/- Part 4 of the proof. -/
import Derived.Test.YtmfbefghdaiicaaJ3
import Derived.Test.YtmfbefghdaiicaaJ2
import Derived.Test.YtmfbefghdaiicaaRows
import Derived.WalkKit
import Derived.LaidEql
import Derived.Stop.Asserts
import Derived.RowKitTokens
import Derived.Lib.Hide
set_option maxHeartbeats 1000000
set_option maxRecDepth 100000
set_option linter.unusedVariables false
set_option linter.unusedSimpArgs false
set_option linter.unusedSectionVars false
set_option linter.unnecessarySimpa false
/- The document's example of a transaction. -/
namespace Go.E
open Go
def alive17_F : Bool := true
theorem alive17_ok : alive17_S alive17_F := by
  unfold alive17_S
  have e5 : tnew_F 5 = ((5, 1, 0, 0, false, 0, (fun _ => 0), 0, [], [], [], []), 0) := by rw [tnew_is, if_pos (by omega)]
  rw [e5]
  dsimp only
  have i0 := new_TI (t := 5) (by omega)
  obtain ⟨p1, q1⟩ := task_is i0 (by omega) 2 (updI (updI (fun _ => 0) 0 3) 1 1) 4
  refine ⟨p1, _, rfl, ?_⟩
  have i1 := askC_TI i0 2 (updI (updI (fun _ => 0) 0 3) 1 1) 4
  rw [q1]
  have e1 : askC 5 1 0 0 false 0 (fun _ => 0) 0 [] [] [] [] 2 (updI (updI (fun _ => 0) 0 3) 1 1) 4 = ((5, 1, 0, 1, true, 2, updI (updI (fun _ => 0) 0 3) 1 1, 4, [2], [], [], []), [lockM 5 1 2 (updI (updI (fun _ => 0) 0 3) 1 1) 4], 0) := rfl
  rw [e1] at i1 ⊢
  dsimp only [TIT] at i1
  dsimp only
  obtain ⟨p2, q2⟩ := tanswered_is i1 (by omega) (updI (updRI (updI (updI (updI (updI (fun _ => 0) 0 2) 1 2) 3 5) 4 1) 5 2 (updI (updI (fun _ => 0) 0 3) 1 1)) 7 4)
  refine ⟨p2, _, rfl, ?_⟩
  have i2 := ansC_TI i1 (updI (updRI (updI (updI (updI (updI (fun _ => 0) 0 2) 1 2) 3 5) 4 1) 5 2 (updI (updI (fun _ => 0) 0 3) 1 1)) 7 4)
  rw [q2]
  have f2 : Form 5 2 (updI (updRI (updI (updI (updI (updI (fun _ => 0) 0 2) 1 2) 3 5) 4 1) 5 2 (updI (updI (fun _ => 0) 0 3) 1 1)) 7 4) := ⟨rfl, by decide +kernel, rfl⟩
  have e2 : ansC 5 1 0 1 true 2 (updI (updI (fun _ => 0) 0 3) 1 1) 4 [2] [] [] [] (updI (updRI (updI (updI (updI (updI (fun _ => 0) 0 2) 1 2) 3 5) 4 1) 5 2 (updI (updI (fun _ => 0) 0 3) 1 1)) 7 4) = ((5, 1, 0, 1, false, 2, updI (updI (fun _ => 0) 0 3) 1 1, 4, [2], [], [], [grantM (updI (updRI (updI (updI (updI (updI (fun _ => 0) 0 2) 1 2) 3 5) 4 1) 5 2 (updI (updI (fun _ => 0) 0 3) 1 1)) 7 4)]), 0) := by
    unfold ansC
    rw [if_pos (.inl f2), if_pos rfl, if_pos ⟨rfl, rfl, rfl, fun _ => by decide +kernel⟩]
    rfl
  rw [e2] at i2 ⊢
  dsimp only [TIT] at i2
  dsimp only
  obtain ⟨p3, q3⟩ := tfinish_is i2 (by omega)
  refine ⟨p3, _, rfl, ?_⟩
  have i3 := finC_TI i2
  rw [q3]
  generalize grantM (updI (updRI (updI (updI (updI (updI (fun _ => 0) 0 2) 1 2) 3 5) 4 1) 5 2 (updI (updI (fun _ => 0) 0 3) 1 1)) 7 4) = gr at *
  have e3 : finC 5 1 0 1 false 2 (updI (updI (fun _ => 0) 0 3) 1 1) 4 [2] [] [] [gr] = ((5, 2, 0, 1, false, 2, updI (updI (fun _ => 0) 0 3) 1 1, 4, [2], [], [], [gr]), [toMsg 5 4 0 2], 0) := by
    unfold finC
    rw [if_pos rfl, if_neg Bool.false_ne_true, if_neg (by simp)]
    rfl
  rw [e3] at i3 ⊢
  dsimp only [TIT] at i3
  dsimp only
  obtain ⟨p4, q4⟩ := tvote_is i3 (by omega) (updI (updI (updI (updI (fun _ => 0) 0 5) 1 2) 3 5) 8 1)
  refine ⟨p4, _, rfl, ?_⟩
  have i4 := voteC_TI i3 (updI (updI (updI (updI (fun _ => 0) 0 5) 1 2) 3 5) 8 1)
  rw [q4]
  have f4 : Form 5 5 (updI (updI (updI (updI (fun _ => 0) 0 5) 1 2) 3 5) 8 1) := ⟨rfl, by decide +kernel, rfl⟩
  have e4 : voteC 5 2 0 1 false 2 (updI (updI (fun _ => 0) 0 3) 1 1) 4 [2] [] [] [gr] (updI (updI (updI (updI (fun _ => 0) 0 5) 1 2) 3 5) 8 1) = ((5, 3, 0, 1, false, 2, updI (updI (fun _ => 0) 0 3) 1 1, 4, [2], [2], [], [gr]), [toMsg 5 6 1 2], 0) := by
    unfold voteC
    rw [if_pos f4, if_pos rfl, if_pos (by decide +kernel), if_neg (by decide +kernel), if_neg (by decide +kernel)]
    rfl
  rw [e4] at i4 ⊢
  dsimp only [TIT] at i4
  dsimp only
  obtain ⟨p5, q5⟩ := tack_is i4 (by omega) (updI (updI (updI (fun _ => 0) 0 7) 1 2) 3 5)
  refine ⟨p5, _, rfl, ?_⟩
  have i5 := ackC_TI i4 (updI (updI (updI (fun _ => 0) 0 7) 1 2) 3 5)
  rw [q5]
  have f5 : Form 5 7 (updI (updI (updI (fun _ => 0) 0 7) 1 2) 3 5) := ⟨rfl, by decide +kernel, rfl⟩
  have e5 : ackC 5 3 0 1 false 2 (updI (updI (fun _ => 0) 0 3) 1 1) 4 [2] [2] [] [gr] (updI (updI (updI (fun _ => 0) 0 7) 1 2) 3 5) = ((5, 3, 0, 1, false, 2, updI (updI (fun _ => 0) 0 3) 1 1, 4, [2], [2], [2], [gr]), 0) := by
    unfold ackC
    rw [if_pos f5, if_pos (.inl rfl), if_pos (by decide +kernel)]
    rfl
  rw [e5] at i5 ⊢
  dsimp only [TIT] at i5
  dsimp only
  obtain ⟨p6, q6⟩ := tover_is i5
  rw [q6]
  refine ⟨fun _ => by simp, fun _ => by simp, fun _ => p6, ?_⟩
  rfl
end Go.E
/- What functions of the program say, as relations. -/
namespace Go.E
open Go
def ref02Ok_S (r0 : (Nat → Int)) (r : Bool) : Prop :=
  r = ((((decide (0 < r0 0)) && (decide (r0 0 < 251))) && (decide ((-1) < r0 1))) && (decide (r0 1 < 251)))
def ref02Ok_F (r0 : (Nat → Int)) : Bool :=
  (((decide (0 < r0 0)) && (decide (r0 0 < 251))) && (decide ((-1) < r0 1))) && (decide (r0 1 < 251))
theorem ref02Ok_ok (r0 : (Nat → Int)) : ref02Ok_S r0 (ref02Ok_F r0) := by
  obtain ⟨r, hr⟩ : ∃ r, r = ref02Ok_F r0 := ⟨_, rfl⟩
  rw [← hr]
  unfold ref02Ok_F at hr
  unfold ref02Ok_S
  exact hr
def number_S (n0 : Int) (r : Bool) : Prop :=
  r = ((decide (0 < n0)) && (decide (n0 ≤ 1048576)))
def number_F (n0 : Int) : Bool :=
  (decide (0 < n0)) && (decide (n0 ≤ 1048576))
theorem number_ok (n0 : Int) : number_S n0 (number_F n0) := by
  obtain ⟨r, hr⟩ : ∃ r, r = number_F n0 := ⟨_, rfl⟩
  rw [← hr]
  unfold number_F at hr
  unfold number_S
  exact hr
def ref04Ok_l2 (m0 : (Nat → Int)) (i8 : Int) (k9 : Int) (o : (Int) ⊕ ((Unit) ⊕ (Unit))) : Prop :=
  if k9 < i8 then
    (0 ≤ k9 ∧ k9 < 8) ∧ (
    (0 ≤ i8 ∧ i8 < 8) ∧ (
    if m0 (12 + (k9.toNat * 2)) = m0 (12 + (i8.toNat * 2)) then
      o = (.inr (.inr ()))
    else
      (inI64 (k9 + 1)) ∧ (
      o = (.inl (k9 + 1)))))
  else
    o = (.inr (.inl ()))
def ref04Ok_k2a (i8 : Int) (o : (Int) ⊕ ((Unit) ⊕ (Unit))) : Prop :=
  (inI64 (i8 + 1)) ∧ (
  o = (.inl (i8 + 1)))
def ref04Ok_k2b (o : (Int) ⊕ ((Unit) ⊕ (Unit))) : Prop :=
  o = (.inr (.inr ()))
def ref04Ok_l1 (m0 : (Nat → Int)) (i8 : Int) (o : (Int) ⊕ ((Unit) ⊕ (Unit))) : Prop :=
  if i8 < 8 then
    if m0 11 ≤ i8 then
      (0 ≤ i8 ∧ i8 < 8) ∧ (((!(decide (m0 (12 + (i8.toNat * 2)) = 0))) = false) → 0 ≤ i8 ∧ i8 < 8) ∧ (
      if ((!(decide (m0 (12 + (i8.toNat * 2)) = 0))) || (!(decide (m0 ((12 + (i8.toNat * 2)) + 1) = 0)))) = true then
        o = (.inr (.inr ()))
      else
        (inI64 (i8 + 1)) ∧ (
        o = (.inl (i8 + 1))))
    else
      (0 ≤ i8 ∧ i8 < 8) ∧ (((!((number_F (m0 (12 + (i8.toNat * 2)))))) = false) → 0 ≤ i8 ∧ i8 < 8) ∧ (
      if ((!((number_F (m0 (12 + (i8.toNat * 2)))))) || (!((number_F (m0 ((12 + (i8.toNat * 2)) + 1)))))) = true then
        o = (.inr (.inr ()))
      else
        ∃ x : (Unit) ⊕ (Unit), Wh (fun (s : Int) (o : (Int) ⊕ ((Unit) ⊕ (Unit))) => ref04Ok_l2 m0 i8 s o) (0 : Int) x ∧ (match x with | .inl _ => ref04Ok_k2a i8 o | .inr _ => ref04Ok_k2b o))
  else
    o = (.inr (.inl ()))
def ref04Ok_k1a (m0 : (Nat → Int)) (r : Bool) : Prop :=
  r = ((eqN 28 m0 (updI (updI (updRI (updI (updI (updI (updI (fun _ => 0) 0 (m0 0)) 1 (m0 1)) 2 (m0 2)) 11 (m0 11)) 12 16 (fun i => m0 (12 + i))) 9 (m0 9)) 10 (m0 10))))
def ref04Ok_k1b (r : Bool) : Prop :=
  r = (false)
def ref04Ok_S (m0 : (Nat → Int)) (r : Bool) : Prop :=
  if ((decide (m0 0 < 1)) || (decide (11 < m0 0))) = true then
    r = (false)
  else
    (inI64 ((m0 0) - 1)) ∧ (
    (0 ≤ (m0 0) - 1 ∧ (m0 0) - 1 < (⟨#[111, 98, 98, 111, 98, 111, 98, 111, 98, 98, 101]⟩ : ByteArray).size) ∧ (
    if ((((decide (strAt (⟨#[111, 98, 98, 111, 98, 111, 98, 111, 98, 98, 101]⟩ : ByteArray) ((m0 0) - 1) = 111)) && (!(((decide (m0 1 = 0)) && (decide (1 ≤ m0 2))) && (decide (m0 2 ≤ 64))))) || ((decide (strAt (⟨#[111, 98, 98, 111, 98, 111, 98, 111, 98, 98, 101]⟩ : ByteArray) ((m0 0) - 1) = 98)) && (!(((decide (m0 2 = 0)) && (decide (1 ≤ m0 1))) && (decide (m0 1 ≤ 64)))))) || ((!(((decide (m0 1 = 0)) && (decide (1 ≤ m0 2))) && (decide (m0 2 ≤ 64)))) && (!(((decide (m0 2 = 0)) && (decide (1 ≤ m0 1))) && (decide (m0 1 ≤ 64)))))) = true then
      r = (false)
    else
      if m0 0 = 11 then
        if (((((decide (m0 11 < 1)) || (decide (8 < m0 11))) || (!((number_F (m0 9))))) || (decide (m0 10 < 0))) || (decide (1048576 < m0 10))) = true then
          r = (false)
        else
          ∃ x : (Unit) ⊕ (Unit), Wh (fun (s : Int) (o : (Int) ⊕ ((Unit) ⊕ (Unit))) => ref04Ok_l1 m0 s o) (0 : Int) x ∧ (match x with | .inl _ => ref04Ok_k1a m0 r | .inr _ => ref04Ok_k1b r)
      else
        if ((number_F (m0 3))) = true then
          if m0 0 ≤ 3 then
            if ((number_F (m0 4))) = true then
              if m0 0 ≤ 2 then
                if (((!((ref02Ok_F (fun i => m0 (5 + i))))) || (decide (m0 7 < 1))) || (decide (4 < m0 7))) = true then
                  r = (false)
                else
                  if m0 0 = 3 then
                    if ((decide (m0 8 < 1)) || (decide (15 < m0 8))) = true then
                      r = (false)
                    else
                      if ((decide (m0 0 = 5)) || (decide (m0 0 = 6))) = true then
                        if ((!(decide (m0 8 = 0))) && (!(decide (m0 8 = 1)))) = true then
                          r = (false)
                        else
                          r = ((eqN 28 m0 (updI (updI (updI (updRI (updI (updI (updI (updI (updI (fun _ => 0) 0 (m0 0)) 1 (m0 1)) 2 (m0 2)) 3 (m0 3)) 4 (m0 4)) 5 2 (fun i => m0 (5 + i))) 7 (m0 7)) 8 (m0 8)) 8 (m0 8))))
                      else
                        r = ((eqN 28 m0 (updI (updI (updRI (updI (updI (updI (updI (updI (fun _ => 0) 0 (m0 0)) 1 (m0 1)) 2 (m0 2)) 3 (m0 3)) 4 (m0 4)) 5 2 (fun i => m0 (5 + i))) 7 (m0 7)) 8 (m0 8))))
                  else
                    if ((decide (m0 0 = 5)) || (decide (m0 0 = 6))) = true then
                      if ((!(decide (m0 8 = 0))) && (!(decide (m0 8 = 1)))) = true then
                        r = (false)
                      else
                        if m0 0 = 10 then
                          if ((!((number_F (m0 9)))) || (decide (m0 3 ≤ m0 9))) = true then
                            r = (false)
                          else
                            r = ((eqN 28 m0 (updI (updI (updI (updRI (updI (updI (updI (updI (updI (fun _ => 0) 0 (m0 0)) 1 (m0 1)) 2 (m0 2)) 3 (m0 3)) 4 (m0 4)) 5 2 (fun i => m0 (5 + i))) 7 (m0 7)) 8 (m0 8)) 9 (m0 9))))
                        else
                          r = ((eqN 28 m0 (updI (updI (updRI (updI (updI (updI (updI (updI (fun _ => 0) 0 (m0 0)) 1 (m0 1)) 2 (m0 2)) 3 (m0 3)) 4 (m0 4)) 5 2 (fun i => m0 (5 + i))) 7 (m0 7)) 8 (m0 8))))
                    else
                      if m0 0 = 10 then
                        if ((!((number_F (m0 9)))) || (decide (m0 3 ≤ m0 9))) = true then
                          r = (false)
                        else
                          r = ((eqN 28 m0 (updI (updI (updRI (updI (updI (updI (updI (updI (fun _ => 0) 0 (m0 0)) 1 (m0 1)) 2 (m0 2)) 3 (m0 3)) 4 (m0 4)) 5 2 (fun i => m0 (5 + i))) 7 (m0 7)) 9 (m0 9))))
                      else
                        r = ((eqN 28 m0 (updI (updRI (updI (updI (updI (updI (updI (fun _ => 0) 0 (m0 0)) 1 (m0 1)) 2 (m0 2)) 3 (m0 3)) 4 (m0 4)) 5 2 (fun i => m0 (5 + i))) 7 (m0 7))))
              else
                if m0 0 = 3 then
                  if ((decide (m0 8 < 1)) || (decide (15 < m0 8))) = true then
                    r = (false)
                  else
                    if ((decide (m0 0 = 5)) || (decide (m0 0 = 6))) = true then
                      if ((!(decide (m0 8 = 0))) && (!(decide (m0 8 = 1)))) = true then
                        r = (false)
                      else
                        r = ((eqN 28 m0 (updI (updI (updI (updI (updI (updI (updI (fun _ => 0) 0 (m0 0)) 1 (m0 1)) 2 (m0 2)) 3 (m0 3)) 4 (m0 4)) 8 (m0 8)) 8 (m0 8))))
                    else
                      r = ((eqN 28 m0 (updI (updI (updI (updI (updI (updI (fun _ => 0) 0 (m0 0)) 1 (m0 1)) 2 (m0 2)) 3 (m0 3)) 4 (m0 4)) 8 (m0 8))))
                else
                  if ((decide (m0 0 = 5)) || (decide (m0 0 = 6))) = true then
                    if ((!(decide (m0 8 = 0))) && (!(decide (m0 8 = 1)))) = true then
                      r = (false)
                    else
                      if m0 0 = 10 then
                        if ((!((number_F (m0 9)))) || (decide (m0 3 ≤ m0 9))) = true then
                          r = (false)
                        else
                          r = ((eqN 28 m0 (updI (updI (updI (updI (updI (updI (updI (fun _ => 0) 0 (m0 0)) 1 (m0 1)) 2 (m0 2)) 3 (m0 3)) 4 (m0 4)) 8 (m0 8)) 9 (m0 9))))
                      else
                        r = ((eqN 28 m0 (updI (updI (updI (updI (updI (updI (fun _ => 0) 0 (m0 0)) 1 (m0 1)) 2 (m0 2)) 3 (m0 3)) 4 (m0 4)) 8 (m0 8))))
                  else
                    if m0 0 = 10 then
                      if ((!((number_F (m0 9)))) || (decide (m0 3 ≤ m0 9))) = true then
                        r = (false)
                      else
                        r = ((eqN 28 m0 (updI (updI (updI (updI (updI (updI (fun _ => 0) 0 (m0 0)) 1 (m0 1)) 2 (m0 2)) 3 (m0 3)) 4 (m0 4)) 9 (m0 9))))
                    else
                      r = ((eqN 28 m0 (updI (updI (updI (updI (updI (fun _ => 0) 0 (m0 0)) 1 (m0 1)) 2 (m0 2)) 3 (m0 3)) 4 (m0 4))))
            else
              r = (false)
          else
            if m0 0 ≤ 2 then
              if (((!((ref02Ok_F (fun i => m0 (5 + i))))) || (decide (m0 7 < 1))) || (decide (4 < m0 7))) = true then
                r = (false)
              else
                if m0 0 = 3 then
                  if ((decide (m0 8 < 1)) || (decide (15 < m0 8))) = true then
                    r = (false)
                  else
                    if ((decide (m0 0 = 5)) || (decide (m0 0 = 6))) = true then
                      if ((!(decide (m0 8 = 0))) && (!(decide (m0 8 = 1)))) = true then
                        r = (false)
                      else
                        r = ((eqN 28 m0 (updI (updI (updI (updRI (updI (updI (updI (updI (fun _ => 0) 0 (m0 0)) 1 (m0 1)) 2 (m0 2)) 3 (m0 3)) 5 2 (fun i => m0 (5 + i))) 7 (m0 7)) 8 (m0 8)) 8 (m0 8))))
                    else
                      r = ((eqN 28 m0 (updI (updI (updRI (updI (updI (updI (updI (fun _ => 0) 0 (m0 0)) 1 (m0 1)) 2 (m0 2)) 3 (m0 3)) 5 2 (fun i => m0 (5 + i))) 7 (m0 7)) 8 (m0 8))))
                else
                  if ((decide (m0 0 = 5)) || (decide (m0 0 = 6))) = true then
                    if ((!(decide (m0 8 = 0))) && (!(decide (m0 8 = 1)))) = true then
                      r = (false)
                    else
                      if m0 0 = 10 then
                        if ((!((number_F (m0 9)))) || (decide (m0 3 ≤ m0 9))) = true then
                          r = (false)
                        else
                          r = ((eqN 28 m0 (updI (updI (updI (updRI (updI (updI (updI (updI (fun _ => 0) 0 (m0 0)) 1 (m0 1)) 2 (m0 2)) 3 (m0 3)) 5 2 (fun i => m0 (5 + i))) 7 (m0 7)) 8 (m0 8)) 9 (m0 9))))
                      else
                        r = ((eqN 28 m0 (updI (updI (updRI (updI (updI (updI (updI (fun _ => 0) 0 (m0 0)) 1 (m0 1)) 2 (m0 2)) 3 (m0 3)) 5 2 (fun i => m0 (5 + i))) 7 (m0 7)) 8 (m0 8))))
                  else
                    if m0 0 = 10 then
                      if ((!((number_F (m0 9)))) || (decide (m0 3 ≤ m0 9))) = true then
                        r = (false)
                      else
                        r = ((eqN 28 m0 (updI (updI (updRI (updI (updI (updI (updI (fun _ => 0) 0 (m0 0)) 1 (m0 1)) 2 (m0 2)) 3 (m0 3)) 5 2 (fun i => m0 (5 + i))) 7 (m0 7)) 9 (m0 9))))
                    else
                      r = ((eqN 28 m0 (updI (updRI (updI (updI (updI (updI (fun _ => 0) 0 (m0 0)) 1 (m0 1)) 2 (m0 2)) 3 (m0 3)) 5 2 (fun i => m0 (5 + i))) 7 (m0 7))))
            else
              if m0 0 = 3 then
                if ((decide (m0 8 < 1)) || (decide (15 < m0 8))) = true then
                  r = (false)
                else
                  if ((decide (m0 0 = 5)) || (decide (m0 0 = 6))) = true then
                    if ((!(decide (m0 8 = 0))) && (!(decide (m0 8 = 1)))) = true then
                      r = (false)
                    else
                      r = ((eqN 28 m0 (updI (updI (updI (updI (updI (updI (fun _ => 0) 0 (m0 0)) 1 (m0 1)) 2 (m0 2)) 3 (m0 3)) 8 (m0 8)) 8 (m0 8))))
                  else
                    r = ((eqN 28 m0 (updI (updI (updI (updI (updI (fun _ => 0) 0 (m0 0)) 1 (m0 1)) 2 (m0 2)) 3 (m0 3)) 8 (m0 8))))
              else
                if ((decide (m0 0 = 5)) || (decide (m0 0 = 6))) = true then
                  if ((!(decide (m0 8 = 0))) && (!(decide (m0 8 = 1)))) = true then
                    r = (false)
                  else
                    if m0 0 = 10 then
                      if ((!((number_F (m0 9)))) || (decide (m0 3 ≤ m0 9))) = true then
                        r = (false)
                      else
                        r = ((eqN 28 m0 (updI (updI (updI (updI (updI (updI (fun _ => 0) 0 (m0 0)) 1 (m0 1)) 2 (m0 2)) 3 (m0 3)) 8 (m0 8)) 9 (m0 9))))
                    else
                      r = ((eqN 28 m0 (updI (updI (updI (updI (updI (fun _ => 0) 0 (m0 0)) 1 (m0 1)) 2 (m0 2)) 3 (m0 3)) 8 (m0 8))))
                else
                  if m0 0 = 10 then
                    if ((!((number_F (m0 9)))) || (decide (m0 3 ≤ m0 9))) = true then
                      r = (false)
                    else
                      r = ((eqN 28 m0 (updI (updI (updI (updI (updI (fun _ => 0) 0 (m0 0)) 1 (m0 1)) 2 (m0 2)) 3 (m0 3)) 9 (m0 9))))
                  else
                    r = ((eqN 28 m0 (updI (updI (updI (updI (fun _ => 0) 0 (m0 0)) 1 (m0 1)) 2 (m0 2)) 3 (m0 3))))
        else
          r = (false)))
end Go.E
/- The reference word on a message is the program one. -/
namespace Go.E
open Go
theorem num_eq (n : Int) : number_F n = txB n := by
  simp only [number_F, txB, inB]
  rw [show decide (0 < n) = decide (1 ≤ n) from decide_eq_decide.2 (by omega)]
theorem ref_l2_wh (m : Nat → Int) (i : Nat) (hi : i < 8) : Wh (fun (s : Int) (o : Int ⊕ (Unit ⊕ Unit)) => ref04Ok_l2 m (i : Int) s o) 0 (if (List.range i).all (newF m i) = true then .inl () else .inr ()) := by
  refine Wh.all i (newF m i) _ _ (fun k hk hp => ?_) (fun k hk hp => ?_) ?_
  · unfold ref04Ok_l2
    rw [if_pos (by omega)]
    refine ⟨by omega, by omega, ?_⟩
    simp only [newF, Bool.not_eq_true', decide_eq_false_iff_not] at hp
    rw [if_neg (by simpa using hp)]
    exact ⟨imin (by omega), rfl⟩
  · unfold ref04Ok_l2
    rw [if_pos (by omega)]
    refine ⟨by omega, by omega, ?_⟩
    simp only [newF, Bool.not_eq_false', decide_eq_true_eq] at hp
    rw [if_pos (by simpa using hp)]
  · unfold ref04Ok_l2
    rw [if_neg (by omega)]
theorem ref_l1_wh (m : Nat → Int) : Wh (fun (s : Int) (o : Int ⊕ (Unit ⊕ Unit)) => ref04Ok_l1 m s o) 0 (if (List.range 8).all (stepF m) = true then .inl () else .inr ()) := by
  have key : ∀ k : Nat, k < 8 → ref04Ok_l1 m k (if stepF m k = true then .inl ((k : Int) + 1) else .inr (.inr ())) := by
    intro k hk
    unfold ref04Ok_l1
    rw [if_pos (by omega)]
    rw [step_eq]
    unfold stepB
    simp only [Int.toNat_natCast, num_eq]
    by_cases h1 : m 11 ≤ k
    · rw [if_pos h1, if_pos h1]
      refine ⟨by omega, fun _ => by omega, ?_⟩
      simp only [Nat.add_zero]
      by_cases h2 : m (12 + k * 2) = 0
      · by_cases h3 : m (12 + k * 2 + 1) = 0
        · rw [if_neg (by simp [h2, h3]), if_pos (by simp [h2]; simpa [Nat.add_assoc] using h3)]
          exact ⟨imin (by omega), rfl⟩
        · rw [if_pos (by simp [h3]), if_neg (by simp [h2]; simpa [Nat.add_assoc] using h3)]
      · rw [if_pos (by simp [h2]), if_neg (by simp [h2])]
    · rw [if_neg h1, if_neg h1]
      refine ⟨by omega, fun _ => by omega, ?_⟩
      simp only [Nat.add_zero]
      by_cases h2 : txB (m (12 + k * 2)) = true
      · by_cases h3 : txB (m (12 + k * 2 + 1)) = true
        · have h3' : inB (m (12 + (k * 2 + 1))) 1 1048576 = true := h3
          rw [if_neg (by simp [h2, h3])]
          refine ⟨_, ref_l2_wh m k hk, ?_⟩
          have hn : newB m k k = (List.range k).all (newF m k) := by unfold newB; rw [newF_eq]
          by_cases h4 : (List.range k).all (newF m k) = true
          · rw [if_pos h4, if_pos (by rw [h2, h3', hn, h4]; rfl)]
            exact ⟨imin (by omega), rfl⟩
          · rw [if_neg h4, if_neg (by rw [h2, h3', hn]; simpa using h4)]
            rfl
        · have h3' : ¬ inB (m (12 + (k * 2 + 1))) 1 1048576 = true := h3
          rw [if_pos (by simp [h3]), if_neg (by simp [h3'])]
      · rw [if_pos (by simp [h2]), if_neg (by simp [h2])]
  refine Wh.all 8 (stepF m) _ _ (fun k hk hp => ?_) (fun k hk hp => ?_) ?_
  · have := key k hk; rwa [if_pos hp] at this
  · have := key k hk; rwa [if_neg (by simp [hp])] at this
  · unfold ref04Ok_l1
    rw [if_neg (by omega)]
end Go.E
namespace Go.E
open Go
theorem boolEq {a b : Bool} (h : a = true ↔ b = true) : a = b := Bool.eq_iff_iff.2 h
theorem notB {a : Bool} (h : ¬ a = true) : a = false := by simpa using h
theorem ref04Ok_ok (m : Nat → Int) : ref04Ok_S m (okB m) := by
  unfold ref04Ok_S
  by_cases h0 : (decide (m 0 < 1) || decide (11 < m 0)) = true
  · rw [if_pos h0]
    refine notB fun h => ?_
    have := okB_kind h
    simp at h0; omega
  · rw [if_neg h0]
    have h1 : 1 ≤ m 0 ∧ m 0 ≤ 11 := by simp at h0; omega
    refine ⟨⟨by omega, by omega⟩, ⟨by omega, by show m 0 - 1 < 11; omega⟩, ?_⟩
    rw [ways_eq m h1.1 h1.2]
    by_cases he : endsB m = true
    · rw [if_neg (by simp [he])]
      by_cases h11 : m 0 = 11
      · rw [if_pos h11]
        have hm : okB m = (pathB m && eqN 28 (mayZ m) (headM m)) := by
          unfold okB mayB
          rw [he, Bool.true_and]
          rw [if_neg (by omega), if_neg (by omega), if_neg (by omega), if_neg (by omega), if_neg (by omega), if_pos h11]
        rw [hm]
        have hz : mayZ m = updRI (updI (updI (updI m 11 0) 9 0) 10 0) 12 16 (fun _ => 0) := by
          unfold mayZ
          rw [if_neg (by omega), if_neg (by omega), if_neg (by omega), if_neg (by omega), if_neg (by omega), if_pos h11]
        by_cases hg : (decide (m 11 < 1) || decide (8 < m 11) || (!number_F (m 9)) || decide (m 10 < 0) || decide (1048576 < m 10)) = true
        · rw [if_pos hg]
          refine notB fun h => ?_
          simp only [Bool.and_eq_true, pathB, inB, txB, decide_eq_true_eq] at h
          rw [num_eq] at hg
          simp [txB, inB] at hg
          omega
        · rw [if_neg hg]
          refine ⟨_, ref_l1_wh m, ?_⟩
          have hp : pathB m = (List.range 8).all (stepF m) := by
            unfold pathB
            rw [show stepF m = stepB m from funext (step_eq m)]
            have : (inB (m 11) 1 8 && txB (m 9) && inB (m 10) 0 1048576) = true := by
              rw [num_eq] at hg
              simp [txB, inB] at hg ⊢
              omega
            rw [this, Bool.true_and]
          rw [hp]
          by_cases ha : (List.range 8).all (stepF m) = true
          · rw [if_pos ha, ha, Bool.true_and, hz]
            refine boolEq ?_
            simp only [eqN_iff, all28, updI, updRI, headM]
            simp
          · rw [if_neg ha, notB ha]; rfl
      · rw [if_neg h11]
        have hk := okB_oth m h11
        rw [he] at hk
        simp only [true_and] at hk
        clear h0
        simp only [num_eq, ref02Ok_F, Nat.add_zero]
        have hkind : m 0 = 1 ∨ m 0 = 2 ∨ m 0 = 3 ∨ m 0 = 4 ∨ m 0 = 5 ∨ m 0 = 6 ∨ m 0 = 7 ∨ m 0 = 8 ∨ m 0 = 9 ∨ m 0 = 10 := by omega
        have hf : ∀ {A : Prop}, (¬ A) → (okB m = true ↔ A ∧ zt m) → okB m = false := fun ha h => notB fun hh => ha (h.1 hh).1
        have hg : ∀ {A Z : Prop} {g : Nat → Int}, (okB m = true ↔ A ∧ zt m) → (eqN 28 m g = true ↔ Z ∧ zt m) → (A ↔ Z) → okB m = eqN 28 m g := fun h1 h2 h3 => boolEq (by rw [h1, h2, h3])
        clear h1 h11 he
        rcases hkind with e | e | e | e | e | e | e | e | e | e
        all_goals
          simp only [oth, e] at hk
          simp only [e]
          simp only [Int.reduceLE, Int.reduceEq, decide_true, decide_false, Bool.or_false, Bool.or_true, Bool.false_eq_true, if_true, if_false, reduceIte, or_false, or_true, false_or, true_or, false_and, true_and] at hk ⊢
          repeat' (refine ite_intro (fun _ => ?_) (fun _ => ?_))
          all_goals first
            | (refine hf ?_ hk; simp [txB, inB] at *; omega)
            | (refine hg (Z := m 4 = 0 ∧ m 5 = 0 ∧ m 6 = 0 ∧ m 7 = 0 ∧ m 8 = 0 ∧ m 9 = 0) hk ?_ ?_
               · simp only [eqN_iff, all28, updI, updRI, zt]; simp [e]; try omega
               · simp [txB, inB] at *; omega)
            | (refine hg (Z := m 5 = 0 ∧ m 6 = 0 ∧ m 7 = 0 ∧ m 9 = 0) hk ?_ ?_
               · simp only [eqN_iff, all28, updI, updRI, zt]; simp [e]; try omega
               · simp [txB, inB] at *; omega)
            | (refine hg (Z := m 4 = 0 ∧ m 5 = 0 ∧ m 6 = 0 ∧ m 7 = 0 ∧ m 9 = 0) hk ?_ ?_
               · simp only [eqN_iff, all28, updI, updRI, zt]; simp [e]; try omega
               · simp [txB, inB] at *; omega)
            | (refine hg (Z := m 4 = 0 ∧ m 5 = 0 ∧ m 6 = 0 ∧ m 7 = 0 ∧ m 8 = 0) hk ?_ ?_
               · simp only [eqN_iff, all28, updI, updRI, zt]; simp [e]; try omega
               · simp [txB, inB] at *; omega)
            | (refine hg (Z := m 8 = 0 ∧ m 9 = 0) hk ?_ ?_
               · simp only [eqN_iff, all28, updI, updRI, zt]; simp [e]; try omega
               · simp [txB, inB] at *; omega)
    · rw [if_pos (by simp [he])]
      unfold okB
      rw [notB he]; rfl
end Go.E
/- What functions of the program say, as relations. -/
namespace Go.E
open Go
def rwith_S (l0 : (List Int)) (n1 : Int) (r : (List Int)) : Prop :=
  ((0 + l0.length) * 8 ≤ 140737488355328) ∧ (
  ((([] ++ l0).length + 1) * 8 ≤ 140737488355328) ∧ (
  (rising_P (([] ++ l0) ++ [n1])) ∧ (
  r = ((rising_F (([] ++ l0) ++ [n1]))))))
def rwith_F (l0 : (List Int)) (n1 : Int) : (List Int) :=
  (rising_F (([] ++ l0) ++ [n1]))
def rwith_P (l0 : (List Int)) (n1 : Int) : Prop :=
  ((0 + l0.length) * 8 ≤ 140737488355328) ∧ (
  ((([] ++ l0).length + 1) * 8 ≤ 140737488355328) ∧ (
  (rising_P (([] ++ l0) ++ [n1])) ∧ (
  True)))
theorem rwith_ok (l0 : (List Int)) (n1 : Int) (hP : rwith_P l0 n1) : rwith_S l0 n1 (rwith_F l0 n1) := by
  obtain ⟨r, hr⟩ : ∃ r, r = rwith_F l0 n1 := ⟨_, rfl⟩
  rw [← hr]
  unfold rwith_F at hr
  unfold rwith_S
  unfold rwith_P at hP
  obtain ⟨hq0, hP⟩ := hP
  refine ⟨hq0, ?_⟩
  obtain ⟨hq0, hP⟩ := hP
  refine ⟨hq0, ?_⟩
  obtain ⟨hq0, hP⟩ := hP
  refine ⟨hq0, ?_⟩
  exact hr
def reach_l1 (t0Tx : Int) (t0Touched : (List Int)) (kind1 : Int) (code2 : Int) (but3 : (List Int)) (out9 : (List (Nat → Int))) (i10 : Int) (o : ((List (Nat → Int)) × Int) ⊕ ((List (Nat → Int)))) : Prop :=
  if i10 < (t0Touched.length : Int) then
    (0 ≤ i10 ∧ i10 < t0Touched.length) ∧ (
    (hasR_P but3 (t0Touched[i10.toNat]!)) ∧ (
    if ((hasR_F but3 (t0Touched[i10.toNat]!))) = true then
      (inI64 (i10 + 1)) ∧ (
      o = (.inl (out9, i10 + 1)))
    else
      (0 ≤ i10 ∧ i10 < t0Touched.length) ∧ (
      ((out9.length + 1) * 224 ≤ 140737488355328) ∧ (
      (inI64 (i10 + 1)) ∧ (
      o = (.inl ((out9 ++ [(updI (updI (updI (updI (fun _ => 0) 0 kind1) 2 (t0Touched[i10.toNat]!)) 3 t0Tx) 8 code2)]), i10 + 1)))))))
  else
    o = (.inr out9)
def reach_k1a (out9 : (List (Nat → Int))) (r : (List (Nat → Int))) : Prop :=
  r = (out9)
def reach_S (t0Tx : Int) (t0State : Int) (t0Reason : Int) (t0Seq : Int) (t0Open : Bool) (t0Shard : Int) (t0At : (Nat → Int)) (t0Mode : Int) (t0Touched : (List Int)) (t0Votes : (List Int)) (t0Acks : (List Int)) (t0Got : (List (Nat → Int))) (kind1 : Int) (code2 : Int) (but3 : (List Int)) (r : (List (Nat → Int))) : Prop :=
  ∃ x : (List (Nat → Int)), Wh (fun (s : (List (Nat → Int)) × Int) (o : ((List (Nat → Int)) × Int) ⊕ ((List (Nat → Int)))) => reach_l1 t0Tx t0Touched kind1 code2 but3 s.1 s.2 o) (([], 0) : (List (Nat → Int)) × Int) x ∧ reach_k1a x r
def rlock_S (t0Tx : Int) (t0State : Int) (t0Reason : Int) (t0Seq : Int) (t0Open : Bool) (t0Shard : Int) (t0At : (Nat → Int)) (t0Mode : Int) (t0Touched : (List Int)) (t0Votes : (List Int)) (t0Acks : (List Int)) (t0Got : (List (Nat → Int))) (r : (Nat → Int)) : Prop :=
  r = ((updI (updRI (updI (updI (updI (updI (fun _ => 0) 0 1) 2 t0Shard) 3 t0Tx) 4 t0Seq) 5 2 t0At) 7 t0Mode))
def rlock_F (t0Tx : Int) (t0State : Int) (t0Reason : Int) (t0Seq : Int) (t0Open : Bool) (t0Shard : Int) (t0At : (Nat → Int)) (t0Mode : Int) (t0Touched : (List Int)) (t0Votes : (List Int)) (t0Acks : (List Int)) (t0Got : (List (Nat → Int))) : (Nat → Int) :=
  (updI (updRI (updI (updI (updI (updI (fun _ => 0) 0 1) 2 t0Shard) 3 t0Tx) 4 t0Seq) 5 2 t0At) 7 t0Mode)
theorem rlock_ok (t0Tx : Int) (t0State : Int) (t0Reason : Int) (t0Seq : Int) (t0Open : Bool) (t0Shard : Int) (t0At : (Nat → Int)) (t0Mode : Int) (t0Touched : (List Int)) (t0Votes : (List Int)) (t0Acks : (List Int)) (t0Got : (List (Nat → Int))) : rlock_S t0Tx t0State t0Reason t0Seq t0Open t0Shard t0At t0Mode t0Touched t0Votes t0Acks t0Got (rlock_F t0Tx t0State t0Reason t0Seq t0Open t0Shard t0At t0Mode t0Touched t0Votes t0Acks t0Got) := by
  obtain ⟨r, hr⟩ : ∃ r, r = rlock_F t0Tx t0State t0Reason t0Seq t0Open t0Shard t0At t0Mode t0Touched t0Votes t0Acks t0Got := ⟨_, rfl⟩
  rw [← hr]
  unfold rlock_F at hr
  unfold rlock_S
  exact hr
def rform_S (t0Tx : Int) (t0State : Int) (t0Reason : Int) (t0Seq : Int) (t0Open : Bool) (t0Shard : Int) (t0At : (Nat → Int)) (t0Mode : Int) (t0Touched : (List Int)) (t0Votes : (List Int)) (t0Acks : (List Int)) (t0Got : (List (Nat → Int))) (m1 : (Nat → Int)) (kind2 : Int) (r : Bool) : Prop :=
  r = (((decide (m1 0 = kind2)) && ((okB m1))) && (decide (m1 3 = t0Tx)))
def rform_F (t0Tx : Int) (t0State : Int) (t0Reason : Int) (t0Seq : Int) (t0Open : Bool) (t0Shard : Int) (t0At : (Nat → Int)) (t0Mode : Int) (t0Touched : (List Int)) (t0Votes : (List Int)) (t0Acks : (List Int)) (t0Got : (List (Nat → Int))) (m1 : (Nat → Int)) (kind2 : Int) : Bool :=
  ((decide (m1 0 = kind2)) && ((okB m1))) && (decide (m1 3 = t0Tx))
theorem rform_ok (t0Tx : Int) (t0State : Int) (t0Reason : Int) (t0Seq : Int) (t0Open : Bool) (t0Shard : Int) (t0At : (Nat → Int)) (t0Mode : Int) (t0Touched : (List Int)) (t0Votes : (List Int)) (t0Acks : (List Int)) (t0Got : (List (Nat → Int))) (m1 : (Nat → Int)) (kind2 : Int) : rform_S t0Tx t0State t0Reason t0Seq t0Open t0Shard t0At t0Mode t0Touched t0Votes t0Acks t0Got m1 kind2 (rform_F t0Tx t0State t0Reason t0Seq t0Open t0Shard t0At t0Mode t0Touched t0Votes t0Acks t0Got m1 kind2) := by
  obtain ⟨r, hr⟩ : ∃ r, r = rform_F t0Tx t0State t0Reason t0Seq t0Open t0Shard t0At t0Mode t0Touched t0Votes t0Acks t0Got m1 kind2 := ⟨_, rfl⟩
  rw [← hr]
  unfold rform_F at hr
  unfold rform_S
  exact hr
def rdec_S (t0Tx : Int) (t0State : Int) (t0Reason : Int) (t0Seq : Int) (t0Open : Bool) (t0Shard : Int) (t0At : (Nat → Int)) (t0Mode : Int) (t0Touched : (List Int)) (t0Votes : (List Int)) (t0Acks : (List Int)) (t0Got : (List (Nat → Int))) (r : Bool) : Prop :=
  r = ((decide (t0State = 3)) || (decide (t0State = 4)))
def rdec_F (t0Tx : Int) (t0State : Int) (t0Reason : Int) (t0Seq : Int) (t0Open : Bool) (t0Shard : Int) (t0At : (Nat → Int)) (t0Mode : Int) (t0Touched : (List Int)) (t0Votes : (List Int)) (t0Acks : (List Int)) (t0Got : (List (Nat → Int))) : Bool :=
  (decide (t0State = 3)) || (decide (t0State = 4))
theorem rdec_ok (t0Tx : Int) (t0State : Int) (t0Reason : Int) (t0Seq : Int) (t0Open : Bool) (t0Shard : Int) (t0At : (Nat → Int)) (t0Mode : Int) (t0Touched : (List Int)) (t0Votes : (List Int)) (t0Acks : (List Int)) (t0Got : (List (Nat → Int))) : rdec_S t0Tx t0State t0Reason t0Seq t0Open t0Shard t0At t0Mode t0Touched t0Votes t0Acks t0Got (rdec_F t0Tx t0State t0Reason t0Seq t0Open t0Shard t0At t0Mode t0Touched t0Votes t0Acks t0Got) := by
  obtain ⟨r, hr⟩ : ∃ r, r = rdec_F t0Tx t0State t0Reason t0Seq t0Open t0Shard t0At t0Mode t0Touched t0Votes t0Acks t0Got := ⟨_, rfl⟩
  rw [← hr]
  unfold rdec_F at hr
  unfold rdec_S
  exact hr
def rover_l1 (t0Touched : (List Int)) (t0Acks : (List Int)) (i3 : Int) (o : (Int) ⊕ ((Unit) ⊕ (Unit))) : Prop :=
  if i3 < (t0Touched.length : Int) then
    (0 ≤ i3 ∧ i3 < t0Touched.length) ∧ (
    (hasR_P t0Acks (t0Touched[i3.toNat]!)) ∧ (
    if ((hasR_F t0Acks (t0Touched[i3.toNat]!))) = true then
      (inI64 (i3 + 1)) ∧ (
      o = (.inl (i3 + 1)))
    else
      o = (.inr (.inr ()))))
  else
    o = (.inr (.inl ()))
def rover_k1a (t0Tx : Int) (t0State : Int) (t0Reason : Int) (t0Seq : Int) (t0Open : Bool) (t0Shard : Int) (t0At : (Nat → Int)) (t0Mode : Int) (t0Touched : (List Int)) (t0Votes : (List Int)) (t0Acks : (List Int)) (t0Got : (List (Nat → Int))) (r : Bool) : Prop :=
  r = ((rdec_F t0Tx t0State t0Reason t0Seq t0Open t0Shard t0At t0Mode t0Touched t0Votes t0Acks t0Got))
def rover_k1b (r : Bool) : Prop :=
  r = (false)
def rover_S (t0Tx : Int) (t0State : Int) (t0Reason : Int) (t0Seq : Int) (t0Open : Bool) (t0Shard : Int) (t0At : (Nat → Int)) (t0Mode : Int) (t0Touched : (List Int)) (t0Votes : (List Int)) (t0Acks : (List Int)) (t0Got : (List (Nat → Int))) (r : Bool) : Prop :=
  ∃ x : (Unit) ⊕ (Unit), Wh (fun (s : Int) (o : (Int) ⊕ ((Unit) ⊕ (Unit))) => rover_l1 t0Touched t0Acks s o) (0 : Int) x ∧ (match x with | .inl _ => rover_k1a t0Tx t0State t0Reason t0Seq t0Open t0Shard t0At t0Mode t0Touched t0Votes t0Acks t0Got r | .inr _ => rover_k1b r)
end Go.E
/- The reference's transactions: messages for shards, what is over, rising lists. -/
namespace Go.E
open Go
theorem insI_last {x : Int} {l : List Int} (h : ∀ y ∈ l, y < x) : insI x l = l ++ [x] := by
  induction l with
  | nil => rfl
  | cons y l ih =>
    unfold insI
    rw [if_pos (h y (by simp)), ih fun z hz => h z (by simp [hz])]; rfl
theorem rising_fold (l out : List Int) (h : (out ++ l).Pairwise fun a b => a < b) : l.foldl (fun out x => insI x out) out = out ++ l := by
  induction l generalizing out with
  | nil => simp
  | cons x l ih =>
    rw [List.foldl_cons, insI_last (fun y hy => (List.pairwise_append.1 h).2.2 y hy x (by simp)), ih _ (by simpa using h)]
    simp
theorem rising_id {l : List Int} (h : Rise l) : rising_F l = l := by
  have := rising_fold l [] (by simpa using h)
  simpa [rising_F] using this
theorem with_rising {l : List Int} (h : Rise l) (x : Int) : rising_F (([] ++ l) ++ [x]) = insI x l := by
  have := rising_id h
  unfold rising_F at this ⊢
  rw [List.nil_append, List.foldl_append, this]; rfl
theorem hasR_I (l : List Int) (x : Int) : hasR_F l x = hasI_F l x := rfl
def each_F (tx _st _re _sq : Int) (_op : Bool) (_sh : Int) (_at : Nat → Int) (_mo : Int) (to_ _vo _ac : List Int) (_go : List (Nat → Int)) (kind code : Int) (but : List Int) : List (Nat → Int) := (leftL to_ but).map (toMsg tx kind code)
def each_P (_tx _st _re _sq : Int) (_op : Bool) (_sh : Int) (_at : Nat → Int) (_mo : Int) (to_ _vo _ac : List Int) (_go : List (Nat → Int)) (_kind _code : Int) (but : List Int) : Prop := to_.length ≤ 1000000 ∧ but.length ≤ 1000000
theorem each_len (l but : List Int) (k : Nat) (h : l.length ≤ 1000000) : (leftL (l.take k) but).length ≤ 1000000 := by
  unfold leftL
  exact Nat.le_trans (List.length_filter_le _ _) (by simp; omega)
theorem each_ok (tx st re sq : Int) (op : Bool) (sh : Int) (at_ : Nat → Int) (mo : Int) (to_ vo ac : List Int) (go : List (Nat → Int)) (kind code : Int) (but : List Int) (h : each_P tx st re sq op sh at_ mo to_ vo ac go kind code but) :
    reach_S tx st re sq op sh at_ mo to_ vo ac go kind code but (each_F tx st re sq op sh at_ mo to_ vo ac go kind code but) := by
  unfold each_P at h
  obtain ⟨h1, h2⟩ := h
  unfold reach_S
  refine ⟨(leftL to_ but).map (toMsg tx kind code), ?_, rfl⟩
  have := Wh.upto (f := fun (s : (List (Nat → Int)) × Int) (o : ((List (Nat → Int)) × Int) ⊕ ((List (Nat → Int)))) => reach_l1 tx to_ kind code but s.1 s.2 o) (fun k : Nat => ((leftL (to_.take k) but).map (toMsg tx kind code), (k : Int))) to_.length (r := (leftL to_ but).map (toMsg tx kind code)) (fun k hk => by
      dsimp only
      unfold reach_l1
      have hl := each_len to_ but k h1
      rw [if_pos (by omega), Int.toNat_natCast, leftL_take _ _ hk, ← hasR_I]
      refine ⟨⟨by omega, by omega⟩, by unfold hasR_P; omega, ?_⟩
      by_cases hc : hasR_F but (to_[k]!) = true
      · rw [if_pos hc, if_pos hc, List.append_nil]
        exact ⟨step1 (by omega), rfl⟩
      · rw [if_neg hc, if_neg hc, List.map_append]
        exact ⟨⟨by omega, by omega⟩, by rw [List.length_map]; omega, step1 (by omega), rfl⟩) (by
      dsimp only
      unfold reach_l1
      rw [if_neg (by omega), List.take_length])
  simpa [leftL] using this
def over_F (tx st re sq : Int) (op : Bool) (sh : Int) (at_ : Nat → Int) (mo : Int) (to_ vo ac : List Int) (go : List (Nat → Int)) : Bool :=
  if (List.range to_.length).all (fun k => hasR_F ac (to_[k]!)) = true then rdec_F tx st re sq op sh at_ mo to_ vo ac go else false
def over_P (_tx _st _re _sq : Int) (_op : Bool) (_sh : Int) (_at : Nat → Int) (_mo : Int) (to_ _vo ac : List Int) (_go : List (Nat → Int)) : Prop := to_.length ≤ 1000000 ∧ ac.length ≤ 1000000
theorem over_ok (tx st re sq : Int) (op : Bool) (sh : Int) (at_ : Nat → Int) (mo : Int) (to_ vo ac : List Int) (go : List (Nat → Int)) (h : over_P tx st re sq op sh at_ mo to_ vo ac go) :
    rover_S tx st re sq op sh at_ mo to_ vo ac go (over_F tx st re sq op sh at_ mo to_ vo ac go) := by
  unfold over_P at h
  obtain ⟨h1, h2⟩ := h
  unfold rover_S
  have := Wh.all (f := fun (s : Int) (o : (Int) ⊕ ((Unit) ⊕ (Unit))) => rover_l1 to_ ac s o) to_.length (fun k => hasR_F ac (to_[k]!)) (.inl ()) (.inr ()) (fun k hk hp => by
      unfold rover_l1
      rw [if_pos (by omega), Int.toNat_natCast, if_pos hp]
      exact ⟨⟨by omega, by omega⟩, by unfold hasR_P; omega, step1 (by omega), rfl⟩) (fun k hk hp => by
      unfold rover_l1
      rw [if_pos (by omega), Int.toNat_natCast, if_neg (by rw [hp]; decide)]
      exact ⟨⟨by omega, by omega⟩, by unfold hasR_P; omega, rfl⟩) (by
      unfold rover_l1
      rw [if_neg (by omega)])
  refine ⟨_, this, ?_⟩
  unfold over_F
  by_cases hc : (List.range to_.length).all (fun k => hasR_F ac (to_[k]!)) = true
  · rw [if_pos hc, if_pos hc]; rfl
  · rw [if_neg hc, if_neg hc]; rfl
theorem all_left (l ac : List Int) : ((List.range l.length).all fun k => hasR_F ac (l[k]!)) = decide (leftL l ac = []) := by
  rw [Bool.eq_iff_iff, decide_eq_true_iff]
  unfold leftL
  simp only [List.all_eq_true, List.mem_range, List.filter_eq_nil_iff, Bool.not_eq_true', Bool.not_eq_false]
  constructor
  · intro h x hx
    obtain ⟨k, hk, rfl⟩ := List.getElem_of_mem hx
    have := h k hk
    rw [getk hk] at this
    exact this
  · intro h k hk
    rw [getk hk]
    exact h _ (List.getElem_mem hk)
end Go.E
/- What functions of the program say, as relations. -/
namespace Go.E
open Go
def rdecide_S (t0Tx : Int) (t0State : Int) (t0Reason : Int) (t0Seq : Int) (t0Open : Bool) (t0Shard : Int) (t0At : (Nat → Int)) (t0Mode : Int) (t0Touched : (List Int)) (t0Votes : (List Int)) (t0Acks : (List Int)) (t0Got : (List (Nat → Int))) (state1 : Int) (reason2 : Int) (r : (Int × Int × Int × Int × Bool × Int × (Nat → Int) × Int × (List Int) × (List Int) × (List Int) × (List (Nat → Int))) × (List (Nat → Int)) × Int) : Prop :=
  (inI64 (4 - state1)) ∧ (
  (each_P t0Tx state1 reason2 t0Seq false t0Shard t0At t0Mode t0Touched t0Votes t0Acks t0Got 6 (4 - state1) ([])) ∧ (
  r = (((t0Tx, state1, reason2, t0Seq, false, t0Shard, t0At, t0Mode, t0Touched, t0Votes, t0Acks, t0Got), (each_F t0Tx state1 reason2 t0Seq false t0Shard t0At t0Mode t0Touched t0Votes t0Acks t0Got 6 (4 - state1) ([])), 0))))
def rdecide_F (t0Tx : Int) (t0State : Int) (t0Reason : Int) (t0Seq : Int) (t0Open : Bool) (t0Shard : Int) (t0At : (Nat → Int)) (t0Mode : Int) (t0Touched : (List Int)) (t0Votes : (List Int)) (t0Acks : (List Int)) (t0Got : (List (Nat → Int))) (state1 : Int) (reason2 : Int) : (Int × Int × Int × Int × Bool × Int × (Nat → Int) × Int × (List Int) × (List Int) × (List Int) × (List (Nat → Int))) × (List (Nat → Int)) × Int :=
  ((t0Tx, state1, reason2, t0Seq, false, t0Shard, t0At, t0Mode, t0Touched, t0Votes, t0Acks, t0Got), (each_F t0Tx state1 reason2 t0Seq false t0Shard t0At t0Mode t0Touched t0Votes t0Acks t0Got 6 (4 - state1) ([])), 0)
def rdecide_P (t0Tx : Int) (t0State : Int) (t0Reason : Int) (t0Seq : Int) (t0Open : Bool) (t0Shard : Int) (t0At : (Nat → Int)) (t0Mode : Int) (t0Touched : (List Int)) (t0Votes : (List Int)) (t0Acks : (List Int)) (t0Got : (List (Nat → Int))) (state1 : Int) (reason2 : Int) : Prop :=
  (inI64 (4 - state1)) ∧ (
  (each_P t0Tx state1 reason2 t0Seq false t0Shard t0At t0Mode t0Touched t0Votes t0Acks t0Got 6 (4 - state1) ([])) ∧ (
  True))
theorem rdecide_ok (t0Tx : Int) (t0State : Int) (t0Reason : Int) (t0Seq : Int) (t0Open : Bool) (t0Shard : Int) (t0At : (Nat → Int)) (t0Mode : Int) (t0Touched : (List Int)) (t0Votes : (List Int)) (t0Acks : (List Int)) (t0Got : (List (Nat → Int))) (state1 : Int) (reason2 : Int) (hP : rdecide_P t0Tx t0State t0Reason t0Seq t0Open t0Shard t0At t0Mode t0Touched t0Votes t0Acks t0Got state1 reason2) : rdecide_S t0Tx t0State t0Reason t0Seq t0Open t0Shard t0At t0Mode t0Touched t0Votes t0Acks t0Got state1 reason2 (rdecide_F t0Tx t0State t0Reason t0Seq t0Open t0Shard t0At t0Mode t0Touched t0Votes t0Acks t0Got state1 reason2) := by
  obtain ⟨r, hr⟩ : ∃ r, r = rdecide_F t0Tx t0State t0Reason t0Seq t0Open t0Shard t0At t0Mode t0Touched t0Votes t0Acks t0Got state1 reason2 := ⟨_, rfl⟩
  rw [← hr]
  unfold rdecide_F at hr
  unfold rdecide_S
  unfold rdecide_P at hP
  obtain ⟨hq0, hP⟩ := hP
  refine ⟨hq0, ?_⟩
  obtain ⟨hq0, hP⟩ := hP
  refine ⟨hq0, ?_⟩
  exact hr
def rask_S (t0Tx : Int) (t0State : Int) (t0Reason : Int) (t0Seq : Int) (t0Open : Bool) (t0Shard : Int) (t0At : (Nat → Int)) (t0Mode : Int) (t0Touched : (List Int)) (t0Votes : (List Int)) (t0Acks : (List Int)) (t0Got : (List (Nat → Int))) (shard1 : Int) (at2 : (Nat → Int)) (m3 : Int) (r : (Int × Int × Int × Int × Bool × Int × (Nat → Int) × Int × (List Int) × (List Int) × (List Int) × (List (Nat → Int))) × (List (Nat → Int)) × Int) : Prop :=
  if (((((decide (shard1 < 1)) || (decide (64 < shard1))) || (!((ref02Ok_F at2)))) || (decide (m3 < 1))) || (decide (4 < m3))) = true then
    r = (((t0Tx, t0State, t0Reason, t0Seq, t0Open, t0Shard, t0At, t0Mode, t0Touched, t0Votes, t0Acks, t0Got), [], 1))
  else
    if t0State = 1 then
      if (t0Open) = true then
        r = (((t0Tx, t0State, t0Reason, t0Seq, t0Open, t0Shard, t0At, t0Mode, t0Touched, t0Votes, t0Acks, t0Got), [], 8))
      else
        if 1048576 ≤ t0Seq then
          r = (((t0Tx, t0State, t0Reason, t0Seq, t0Open, t0Shard, t0At, t0Mode, t0Touched, t0Votes, t0Acks, t0Got), [], 6))
        else
          (inI64 (t0Seq + 1)) ∧ (
          (rwith_P t0Touched shard1) ∧ (
          r = (((t0Tx, t0State, t0Reason, t0Seq + 1, true, shard1, at2, m3, (rwith_F t0Touched shard1), t0Votes, t0Acks, t0Got), [(rlock_F t0Tx t0State t0Reason (t0Seq + 1) true shard1 at2 m3 (rwith_F t0Touched shard1) t0Votes t0Acks t0Got)], 0))))
    else
      r = (((t0Tx, t0State, t0Reason, t0Seq, t0Open, t0Shard, t0At, t0Mode, t0Touched, t0Votes, t0Acks, t0Got), [], 11))
def rask_F (t0Tx : Int) (t0State : Int) (t0Reason : Int) (t0Seq : Int) (t0Open : Bool) (t0Shard : Int) (t0At : (Nat → Int)) (t0Mode : Int) (t0Touched : (List Int)) (t0Votes : (List Int)) (t0Acks : (List Int)) (t0Got : (List (Nat → Int))) (shard1 : Int) (at2 : (Nat → Int)) (m3 : Int) : (Int × Int × Int × Int × Bool × Int × (Nat → Int) × Int × (List Int) × (List Int) × (List Int) × (List (Nat → Int))) × (List (Nat → Int)) × Int :=
  if (((((decide (shard1 < 1)) || (decide (64 < shard1))) || (!((ref02Ok_F at2)))) || (decide (m3 < 1))) || (decide (4 < m3))) = true then
    ((t0Tx, t0State, t0Reason, t0Seq, t0Open, t0Shard, t0At, t0Mode, t0Touched, t0Votes, t0Acks, t0Got), [], 1)
  else
    if t0State = 1 then
      if (t0Open) = true then
        ((t0Tx, t0State, t0Reason, t0Seq, t0Open, t0Shard, t0At, t0Mode, t0Touched, t0Votes, t0Acks, t0Got), [], 8)
      else
        if 1048576 ≤ t0Seq then
          ((t0Tx, t0State, t0Reason, t0Seq, t0Open, t0Shard, t0At, t0Mode, t0Touched, t0Votes, t0Acks, t0Got), [], 6)
        else
          ((t0Tx, t0State, t0Reason, t0Seq + 1, true, shard1, at2, m3, (rwith_F t0Touched shard1), t0Votes, t0Acks, t0Got), [(rlock_F t0Tx t0State t0Reason (t0Seq + 1) true shard1 at2 m3 (rwith_F t0Touched shard1) t0Votes t0Acks t0Got)], 0)
    else
      ((t0Tx, t0State, t0Reason, t0Seq, t0Open, t0Shard, t0At, t0Mode, t0Touched, t0Votes, t0Acks, t0Got), [], 11)
def rask_P (t0Tx : Int) (t0State : Int) (t0Reason : Int) (t0Seq : Int) (t0Open : Bool) (t0Shard : Int) (t0At : (Nat → Int)) (t0Mode : Int) (t0Touched : (List Int)) (t0Votes : (List Int)) (t0Acks : (List Int)) (t0Got : (List (Nat → Int))) (shard1 : Int) (at2 : (Nat → Int)) (m3 : Int) : Prop :=
  if (((((decide (shard1 < 1)) || (decide (64 < shard1))) || (!((ref02Ok_F at2)))) || (decide (m3 < 1))) || (decide (4 < m3))) = true then
    True
  else
    if t0State = 1 then
      if (t0Open) = true then
        True
      else
        if 1048576 ≤ t0Seq then
          True
        else
          (inI64 (t0Seq + 1)) ∧ (
          (rwith_P t0Touched shard1) ∧ (
          True))
    else
      True
theorem rask_ok (t0Tx : Int) (t0State : Int) (t0Reason : Int) (t0Seq : Int) (t0Open : Bool) (t0Shard : Int) (t0At : (Nat → Int)) (t0Mode : Int) (t0Touched : (List Int)) (t0Votes : (List Int)) (t0Acks : (List Int)) (t0Got : (List (Nat → Int))) (shard1 : Int) (at2 : (Nat → Int)) (m3 : Int) (hP : rask_P t0Tx t0State t0Reason t0Seq t0Open t0Shard t0At t0Mode t0Touched t0Votes t0Acks t0Got shard1 at2 m3) : rask_S t0Tx t0State t0Reason t0Seq t0Open t0Shard t0At t0Mode t0Touched t0Votes t0Acks t0Got shard1 at2 m3 (rask_F t0Tx t0State t0Reason t0Seq t0Open t0Shard t0At t0Mode t0Touched t0Votes t0Acks t0Got shard1 at2 m3) := by
  obtain ⟨r, hr⟩ : ∃ r, r = rask_F t0Tx t0State t0Reason t0Seq t0Open t0Shard t0At t0Mode t0Touched t0Votes t0Acks t0Got shard1 at2 m3 := ⟨_, rfl⟩
  rw [← hr]
  unfold rask_F at hr
  unfold rask_S
  unfold rask_P at hP
  by_cases hp56 : (((((decide (shard1 < 1)) || (decide (64 < shard1))) || (!((ref02Ok_F at2)))) || (decide (m3 < 1))) || (decide (4 < m3))) = true
  · rw [if_pos hp56] at hr hP ⊢
    exact hr
  · rw [if_neg hp56] at hr hP ⊢
    by_cases hp57 : t0State = 1
    · rw [if_pos hp57] at hr hP ⊢
      by_cases hp58 : (t0Open) = true
      · rw [if_pos hp58] at hr hP ⊢
        exact hr
      · rw [if_neg hp58] at hr hP ⊢
        by_cases hp59 : 1048576 ≤ t0Seq
        · rw [if_pos hp59] at hr hP ⊢
          exact hr
        · rw [if_neg hp59] at hr hP ⊢
          obtain ⟨hq0, hP⟩ := hP
          refine ⟨hq0, ?_⟩
          obtain ⟨hq0, hP⟩ := hP
          refine ⟨hq0, ?_⟩
          exact hr
    · rw [if_neg hp57] at hr hP ⊢
      exact hr
def ranswered_S (t0Tx : Int) (t0State : Int) (t0Reason : Int) (t0Seq : Int) (t0Open : Bool) (t0Shard : Int) (t0At : (Nat → Int)) (t0Mode : Int) (t0Touched : (List Int)) (t0Votes : (List Int)) (t0Acks : (List Int)) (t0Got : (List (Nat → Int))) (m1 : (Nat → Int)) (r : (Int × Int × Int × Int × Bool × Int × (Nat → Int) × Int × (List Int) × (List Int) × (List Int) × (List (Nat → Int))) × Int) : Prop :=
  if ((!((rform_F t0Tx t0State t0Reason t0Seq t0Open t0Shard t0At t0Mode t0Touched t0Votes t0Acks t0Got m1 2))) && (!((rform_F t0Tx t0State t0Reason t0Seq t0Open t0Shard t0At t0Mode t0Touched t0Votes t0Acks t0Got m1 3)))) = true then
    r = (((t0Tx, t0State, t0Reason, t0Seq, t0Open, t0Shard, t0At, t0Mode, t0Touched, t0Votes, t0Acks, t0Got), 5))
  else
    if t0State = 1 then
      if ((((!(t0Open)) || (!(decide (t0Seq = m1 4)))) || (!(decide (t0Shard = m1 1)))) || ((decide (m1 0 = 2)) && (!((eqN 2 t0At (fun i => m1 (5 + i))))))) = true then
        r = (((t0Tx, t0State, t0Reason, t0Seq, t0Open, t0Shard, t0At, t0Mode, t0Touched, t0Votes, t0Acks, t0Got), 14))
      else
        if m1 0 = 2 then
          (
            ((0 + t0Got.length) * 40 ≤ 140737488355328) ∧ (
            ((([] ++ t0Got).length + 1) * 40 ≤ 140737488355328) ∧ (
            True))) ∧ (
          r = (((t0Tx, t0State, t0Reason, t0Seq, false, t0Shard, t0At, t0Mode, t0Touched, t0Votes, t0Acks, (([] ++ t0Got) ++ [(updI (updRI (updI (updI (fun _ => 0) 0 (m1 3)) 1 (m1 4)) 2 2 (fun i => m1 (5 + i))) 4 (m1 7))])), 0)))
        else
          r = (((t0Tx, t0State, t0Reason, t0Seq, false, t0Shard, t0At, t0Mode, t0Touched, t0Votes, t0Acks, t0Got), 0))
    else
      r = (((t0Tx, t0State, t0Reason, t0Seq, t0Open, t0Shard, t0At, t0Mode, t0Touched, t0Votes, t0Acks, t0Got), 11))
def ranswered_F (t0Tx : Int) (t0State : Int) (t0Reason : Int) (t0Seq : Int) (t0Open : Bool) (t0Shard : Int) (t0At : (Nat → Int)) (t0Mode : Int) (t0Touched : (List Int)) (t0Votes : (List Int)) (t0Acks : (List Int)) (t0Got : (List (Nat → Int))) (m1 : (Nat → Int)) : (Int × Int × Int × Int × Bool × Int × (Nat → Int) × Int × (List Int) × (List Int) × (List Int) × (List (Nat → Int))) × Int :=
  if ((!((rform_F t0Tx t0State t0Reason t0Seq t0Open t0Shard t0At t0Mode t0Touched t0Votes t0Acks t0Got m1 2))) && (!((rform_F t0Tx t0State t0Reason t0Seq t0Open t0Shard t0At t0Mode t0Touched t0Votes t0Acks t0Got m1 3)))) = true then
    ((t0Tx, t0State, t0Reason, t0Seq, t0Open, t0Shard, t0At, t0Mode, t0Touched, t0Votes, t0Acks, t0Got), 5)
  else
    if t0State = 1 then
      if ((((!(t0Open)) || (!(decide (t0Seq = m1 4)))) || (!(decide (t0Shard = m1 1)))) || ((decide (m1 0 = 2)) && (!((eqN 2 t0At (fun i => m1 (5 + i))))))) = true then
        ((t0Tx, t0State, t0Reason, t0Seq, t0Open, t0Shard, t0At, t0Mode, t0Touched, t0Votes, t0Acks, t0Got), 14)
      else
        if m1 0 = 2 then
          ((t0Tx, t0State, t0Reason, t0Seq, false, t0Shard, t0At, t0Mode, t0Touched, t0Votes, t0Acks, (([] ++ t0Got) ++ [(updI (updRI (updI (updI (fun _ => 0) 0 (m1 3)) 1 (m1 4)) 2 2 (fun i => m1 (5 + i))) 4 (m1 7))])), 0)
        else
          ((t0Tx, t0State, t0Reason, t0Seq, false, t0Shard, t0At, t0Mode, t0Touched, t0Votes, t0Acks, t0Got), 0)
    else
      ((t0Tx, t0State, t0Reason, t0Seq, t0Open, t0Shard, t0At, t0Mode, t0Touched, t0Votes, t0Acks, t0Got), 11)
def ranswered_P (t0Tx : Int) (t0State : Int) (t0Reason : Int) (t0Seq : Int) (t0Open : Bool) (t0Shard : Int) (t0At : (Nat → Int)) (t0Mode : Int) (t0Touched : (List Int)) (t0Votes : (List Int)) (t0Acks : (List Int)) (t0Got : (List (Nat → Int))) (m1 : (Nat → Int)) : Prop :=
  if ((!((rform_F t0Tx t0State t0Reason t0Seq t0Open t0Shard t0At t0Mode t0Touched t0Votes t0Acks t0Got m1 2))) && (!((rform_F t0Tx t0State t0Reason t0Seq t0Open t0Shard t0At t0Mode t0Touched t0Votes t0Acks t0Got m1 3)))) = true then
    True
  else
    if t0State = 1 then
      if ((((!(t0Open)) || (!(decide (t0Seq = m1 4)))) || (!(decide (t0Shard = m1 1)))) || ((decide (m1 0 = 2)) && (!((eqN 2 t0At (fun i => m1 (5 + i))))))) = true then
        True
      else
        if m1 0 = 2 then
          (
            ((0 + t0Got.length) * 40 ≤ 140737488355328) ∧ (
            ((([] ++ t0Got).length + 1) * 40 ≤ 140737488355328) ∧ (
            True))) ∧ (
          True)
        else
          True
    else
      True
theorem ranswered_ok (t0Tx : Int) (t0State : Int) (t0Reason : Int) (t0Seq : Int) (t0Open : Bool) (t0Shard : Int) (t0At : (Nat → Int)) (t0Mode : Int) (t0Touched : (List Int)) (t0Votes : (List Int)) (t0Acks : (List Int)) (t0Got : (List (Nat → Int))) (m1 : (Nat → Int)) (hP : ranswered_P t0Tx t0State t0Reason t0Seq t0Open t0Shard t0At t0Mode t0Touched t0Votes t0Acks t0Got m1) : ranswered_S t0Tx t0State t0Reason t0Seq t0Open t0Shard t0At t0Mode t0Touched t0Votes t0Acks t0Got m1 (ranswered_F t0Tx t0State t0Reason t0Seq t0Open t0Shard t0At t0Mode t0Touched t0Votes t0Acks t0Got m1) := by
  obtain ⟨r, hr⟩ : ∃ r, r = ranswered_F t0Tx t0State t0Reason t0Seq t0Open t0Shard t0At t0Mode t0Touched t0Votes t0Acks t0Got m1 := ⟨_, rfl⟩
  rw [← hr]
  unfold ranswered_F at hr
  unfold ranswered_S
  unfold ranswered_P at hP
  by_cases hp60 : ((!((rform_F t0Tx t0State t0Reason t0Seq t0Open t0Shard t0At t0Mode t0Touched t0Votes t0Acks t0Got m1 2))) && (!((rform_F t0Tx t0State t0Reason t0Seq t0Open t0Shard t0At t0Mode t0Touched t0Votes t0Acks t0Got m1 3)))) = true
  · rw [if_pos hp60] at hr hP ⊢
    exact hr
  · rw [if_neg hp60] at hr hP ⊢
    by_cases hp61 : t0State = 1
    · rw [if_pos hp61] at hr hP ⊢
      by_cases hp62 : ((((!(t0Open)) || (!(decide (t0Seq = m1 4)))) || (!(decide (t0Shard = m1 1)))) || ((decide (m1 0 = 2)) && (!((eqN 2 t0At (fun i => m1 (5 + i))))))) = true
      · rw [if_pos hp62] at hr hP ⊢
        exact hr
      · rw [if_neg hp62] at hr hP ⊢
        by_cases hp63 : m1 0 = 2
        · rw [if_pos hp63] at hr hP ⊢
          refine ⟨hP.1, ?_⟩
          replace hP := hP.2
          exact hr
        · rw [if_neg hp63] at hr hP ⊢
          exact hr
    · rw [if_neg hp61] at hr hP ⊢
      exact hr
def rfinish_S (t0Tx : Int) (t0State : Int) (t0Reason : Int) (t0Seq : Int) (t0Open : Bool) (t0Shard : Int) (t0At : (Nat → Int)) (t0Mode : Int) (t0Touched : (List Int)) (t0Votes : (List Int)) (t0Acks : (List Int)) (t0Got : (List (Nat → Int))) (r : (Int × Int × Int × Int × Bool × Int × (Nat → Int) × Int × (List Int) × (List Int) × (List Int) × (List (Nat → Int))) × (List (Nat → Int)) × Int) : Prop :=
  if t0State = 1 then
    if (t0Open) = true then
      r = (((t0Tx, t0State, t0Reason, t0Seq, t0Open, t0Shard, t0At, t0Mode, t0Touched, t0Votes, t0Acks, t0Got), [], 8))
    else
      if (t0Touched.length : Int) = 0 then
        (rdecide_P t0Tx t0State t0Reason t0Seq t0Open t0Shard t0At t0Mode t0Touched t0Votes t0Acks t0Got 3 0) ∧ (
        r = (((((rdecide_F t0Tx t0State t0Reason t0Seq t0Open t0Shard t0At t0Mode t0Touched t0Votes t0Acks t0Got 3 0).1).1, ((rdecide_F t0Tx t0State t0Reason t0Seq t0Open t0Shard t0At t0Mode t0Touched t0Votes t0Acks t0Got 3 0).1).2.1, ((rdecide_F t0Tx t0State t0Reason t0Seq t0Open t0Shard t0At t0Mode t0Touched t0Votes t0Acks t0Got 3 0).1).2.2.1, ((rdecide_F t0Tx t0State t0Reason t0Seq t0Open t0Shard t0At t0Mode t0Touched t0Votes t0Acks t0Got 3 0).1).2.2.2.1, ((rdecide_F t0Tx t0State t0Reason t0Seq t0Open t0Shard t0At t0Mode t0Touched t0Votes t0Acks t0Got 3 0).1).2.2.2.2.1, ((rdecide_F t0Tx t0State t0Reason t0Seq t0Open t0Shard t0At t0Mode t0Touched t0Votes t0Acks t0Got 3 0).1).2.2.2.2.2.1, ((rdecide_F t0Tx t0State t0Reason t0Seq t0Open t0Shard t0At t0Mode t0Touched t0Votes t0Acks t0Got 3 0).1).2.2.2.2.2.2.1, ((rdecide_F t0Tx t0State t0Reason t0Seq t0Open t0Shard t0At t0Mode t0Touched t0Votes t0Acks t0Got 3 0).1).2.2.2.2.2.2.2.1, ((rdecide_F t0Tx t0State t0Reason t0Seq t0Open t0Shard t0At t0Mode t0Touched t0Votes t0Acks t0Got 3 0).1).2.2.2.2.2.2.2.2.1, ((rdecide_F t0Tx t0State t0Reason t0Seq t0Open t0Shard t0At t0Mode t0Touched t0Votes t0Acks t0Got 3 0).1).2.2.2.2.2.2.2.2.2.1, ((rdecide_F t0Tx t0State t0Reason t0Seq t0Open t0Shard t0At t0Mode t0Touched t0Votes t0Acks t0Got 3 0).1).2.2.2.2.2.2.2.2.2.2.1, ((rdecide_F t0Tx t0State t0Reason t0Seq t0Open t0Shard t0At t0Mode t0Touched t0Votes t0Acks t0Got 3 0).1).2.2.2.2.2.2.2.2.2.2.2), (rdecide_F t0Tx t0State t0Reason t0Seq t0Open t0Shard t0At t0Mode t0Touched t0Votes t0Acks t0Got 3 0).2.1, (rdecide_F t0Tx t0State t0Reason t0Seq t0Open t0Shard t0At t0Mode t0Touched t0Votes t0Acks t0Got 3 0).2.2)))
      else
        (each_P t0Tx 2 t0Reason t0Seq t0Open t0Shard t0At t0Mode t0Touched t0Votes t0Acks t0Got 4 0 ([])) ∧ (
        r = (((t0Tx, 2, t0Reason, t0Seq, t0Open, t0Shard, t0At, t0Mode, t0Touched, t0Votes, t0Acks, t0Got), (each_F t0Tx 2 t0Reason t0Seq t0Open t0Shard t0At t0Mode t0Touched t0Votes t0Acks t0Got 4 0 ([])), 0)))
  else
    r = (((t0Tx, t0State, t0Reason, t0Seq, t0Open, t0Shard, t0At, t0Mode, t0Touched, t0Votes, t0Acks, t0Got), [], 11))
def rfinish_F (t0Tx : Int) (t0State : Int) (t0Reason : Int) (t0Seq : Int) (t0Open : Bool) (t0Shard : Int) (t0At : (Nat → Int)) (t0Mode : Int) (t0Touched : (List Int)) (t0Votes : (List Int)) (t0Acks : (List Int)) (t0Got : (List (Nat → Int))) : (Int × Int × Int × Int × Bool × Int × (Nat → Int) × Int × (List Int) × (List Int) × (List Int) × (List (Nat → Int))) × (List (Nat → Int)) × Int :=
  if t0State = 1 then
    if (t0Open) = true then
      ((t0Tx, t0State, t0Reason, t0Seq, t0Open, t0Shard, t0At, t0Mode, t0Touched, t0Votes, t0Acks, t0Got), [], 8)
    else
      if (t0Touched.length : Int) = 0 then
        ((((rdecide_F t0Tx t0State t0Reason t0Seq t0Open t0Shard t0At t0Mode t0Touched t0Votes t0Acks t0Got 3 0).1).1, ((rdecide_F t0Tx t0State t0Reason t0Seq t0Open t0Shard t0At t0Mode t0Touched t0Votes t0Acks t0Got 3 0).1).2.1, ((rdecide_F t0Tx t0State t0Reason t0Seq t0Open t0Shard t0At t0Mode t0Touched t0Votes t0Acks t0Got 3 0).1).2.2.1, ((rdecide_F t0Tx t0State t0Reason t0Seq t0Open t0Shard t0At t0Mode t0Touched t0Votes t0Acks t0Got 3 0).1).2.2.2.1, ((rdecide_F t0Tx t0State t0Reason t0Seq t0Open t0Shard t0At t0Mode t0Touched t0Votes t0Acks t0Got 3 0).1).2.2.2.2.1, ((rdecide_F t0Tx t0State t0Reason t0Seq t0Open t0Shard t0At t0Mode t0Touched t0Votes t0Acks t0Got 3 0).1).2.2.2.2.2.1, ((rdecide_F t0Tx t0State t0Reason t0Seq t0Open t0Shard t0At t0Mode t0Touched t0Votes t0Acks t0Got 3 0).1).2.2.2.2.2.2.1, ((rdecide_F t0Tx t0State t0Reason t0Seq t0Open t0Shard t0At t0Mode t0Touched t0Votes t0Acks t0Got 3 0).1).2.2.2.2.2.2.2.1, ((rdecide_F t0Tx t0State t0Reason t0Seq t0Open t0Shard t0At t0Mode t0Touched t0Votes t0Acks t0Got 3 0).1).2.2.2.2.2.2.2.2.1, ((rdecide_F t0Tx t0State t0Reason t0Seq t0Open t0Shard t0At t0Mode t0Touched t0Votes t0Acks t0Got 3 0).1).2.2.2.2.2.2.2.2.2.1, ((rdecide_F t0Tx t0State t0Reason t0Seq t0Open t0Shard t0At t0Mode t0Touched t0Votes t0Acks t0Got 3 0).1).2.2.2.2.2.2.2.2.2.2.1, ((rdecide_F t0Tx t0State t0Reason t0Seq t0Open t0Shard t0At t0Mode t0Touched t0Votes t0Acks t0Got 3 0).1).2.2.2.2.2.2.2.2.2.2.2), (rdecide_F t0Tx t0State t0Reason t0Seq t0Open t0Shard t0At t0Mode t0Touched t0Votes t0Acks t0Got 3 0).2.1, (rdecide_F t0Tx t0State t0Reason t0Seq t0Open t0Shard t0At t0Mode t0Touched t0Votes t0Acks t0Got 3 0).2.2)
      else
        ((t0Tx, 2, t0Reason, t0Seq, t0Open, t0Shard, t0At, t0Mode, t0Touched, t0Votes, t0Acks, t0Got), (each_F t0Tx 2 t0Reason t0Seq t0Open t0Shard t0At t0Mode t0Touched t0Votes t0Acks t0Got 4 0 ([])), 0)
  else
    ((t0Tx, t0State, t0Reason, t0Seq, t0Open, t0Shard, t0At, t0Mode, t0Touched, t0Votes, t0Acks, t0Got), [], 11)
def rfinish_P (t0Tx : Int) (t0State : Int) (t0Reason : Int) (t0Seq : Int) (t0Open : Bool) (t0Shard : Int) (t0At : (Nat → Int)) (t0Mode : Int) (t0Touched : (List Int)) (t0Votes : (List Int)) (t0Acks : (List Int)) (t0Got : (List (Nat → Int))) : Prop :=
  if t0State = 1 then
    if (t0Open) = true then
      True
    else
      if (t0Touched.length : Int) = 0 then
        (rdecide_P t0Tx t0State t0Reason t0Seq t0Open t0Shard t0At t0Mode t0Touched t0Votes t0Acks t0Got 3 0) ∧ (
        True)
      else
        (each_P t0Tx 2 t0Reason t0Seq t0Open t0Shard t0At t0Mode t0Touched t0Votes t0Acks t0Got 4 0 ([])) ∧ (
        True)
  else
    True
theorem rfinish_ok (t0Tx : Int) (t0State : Int) (t0Reason : Int) (t0Seq : Int) (t0Open : Bool) (t0Shard : Int) (t0At : (Nat → Int)) (t0Mode : Int) (t0Touched : (List Int)) (t0Votes : (List Int)) (t0Acks : (List Int)) (t0Got : (List (Nat → Int))) (hP : rfinish_P t0Tx t0State t0Reason t0Seq t0Open t0Shard t0At t0Mode t0Touched t0Votes t0Acks t0Got) : rfinish_S t0Tx t0State t0Reason t0Seq t0Open t0Shard t0At t0Mode t0Touched t0Votes t0Acks t0Got (rfinish_F t0Tx t0State t0Reason t0Seq t0Open t0Shard t0At t0Mode t0Touched t0Votes t0Acks t0Got) := by
  obtain ⟨r, hr⟩ : ∃ r, r = rfinish_F t0Tx t0State t0Reason t0Seq t0Open t0Shard t0At t0Mode t0Touched t0Votes t0Acks t0Got := ⟨_, rfl⟩
  rw [← hr]
  unfold rfinish_F at hr
  unfold rfinish_S
  unfold rfinish_P at hP
  by_cases hp64 : t0State = 1
  · rw [if_pos hp64] at hr hP ⊢
    by_cases hp65 : (t0Open) = true
    · rw [if_pos hp65] at hr hP ⊢
      exact hr
    · rw [if_neg hp65] at hr hP ⊢
      by_cases hp66 : (t0Touched.length : Int) = 0
      · rw [if_pos hp66] at hr hP ⊢
        obtain ⟨hq0, hP⟩ := hP
        refine ⟨hq0, ?_⟩
        exact hr
      · rw [if_neg hp66] at hr hP ⊢
        obtain ⟨hq0, hP⟩ := hP
        refine ⟨hq0, ?_⟩
        exact hr
  · rw [if_neg hp64] at hr hP ⊢
    exact hr
def rvote_l1 (t0Touched : (List Int)) (t0Votes : (List Int)) (m1 : (Nat → Int)) (i7 : Int) (fb4 : Int) (fb4_1 : Int) (fb4_2 : Int) (fb4_3 : Int) (fb4_4 : Bool) (fb4_5 : Int) (fb4_6 : (Nat → Int)) (fb4_8 : Int) (o : (Int × Int × Int × Int × Int × Bool × Int × (Nat → Int) × Int) ⊕ ((Int × Int × Int × Int × Bool × Int × (Nat → Int) × Int) ⊕ (Unit))) : Prop :=
  if i7 < (t0Touched.length : Int) then
    (0 ≤ i7 ∧ i7 < t0Touched.length) ∧ (
    (hasR_P (rwith_F t0Votes (m1 1)) (t0Touched[i7.toNat]!)) ∧ (
    if ((hasR_F (rwith_F t0Votes (m1 1)) (t0Touched[i7.toNat]!))) = true then
      (inI64 (i7 + 1)) ∧ (
      o = (.inl (i7 + 1, fb4, fb4_1, fb4_2, fb4_3, fb4_4, fb4_5, fb4_6, fb4_8)))
    else
      o = (.inr (.inr ()))))
  else
    o = (.inr (.inl (fb4, fb4_1, fb4_2, fb4_3, fb4_4, fb4_5, fb4_6, fb4_8)))
def rvote_k1a (t0Tx : Int) (t0State : Int) (t0Reason : Int) (t0Seq : Int) (t0Open : Bool) (t0Shard : Int) (t0At : (Nat → Int)) (t0Mode : Int) (t0Touched : (List Int)) (t0Votes : (List Int)) (t0Acks : (List Int)) (t0Got : (List (Nat → Int))) (m1 : (Nat → Int)) (fb4 : Int) (fb4_1 : Int) (fb4_2 : Int) (fb4_3 : Int) (fb4_4 : Bool) (fb4_5 : Int) (fb4_6 : (Nat → Int)) (fb4_8 : Int) (r : (Int × Int × Int × Int × Bool × Int × (Nat → Int) × Int × (List Int) × (List Int) × (List Int) × (List (Nat → Int))) × (List (Nat → Int)) × Int) : Prop :=
  (rdecide_P t0Tx t0State t0Reason t0Seq t0Open t0Shard t0At t0Mode t0Touched (rwith_F t0Votes (m1 1)) t0Acks t0Got 3 0) ∧ (
  r = (((((rdecide_F t0Tx t0State t0Reason t0Seq t0Open t0Shard t0At t0Mode t0Touched (rwith_F t0Votes (m1 1)) t0Acks t0Got 3 0).1).1, ((rdecide_F t0Tx t0State t0Reason t0Seq t0Open t0Shard t0At t0Mode t0Touched (rwith_F t0Votes (m1 1)) t0Acks t0Got 3 0).1).2.1, ((rdecide_F t0Tx t0State t0Reason t0Seq t0Open t0Shard t0At t0Mode t0Touched (rwith_F t0Votes (m1 1)) t0Acks t0Got 3 0).1).2.2.1, ((rdecide_F t0Tx t0State t0Reason t0Seq t0Open t0Shard t0At t0Mode t0Touched (rwith_F t0Votes (m1 1)) t0Acks t0Got 3 0).1).2.2.2.1, ((rdecide_F t0Tx t0State t0Reason t0Seq t0Open t0Shard t0At t0Mode t0Touched (rwith_F t0Votes (m1 1)) t0Acks t0Got 3 0).1).2.2.2.2.1, ((rdecide_F t0Tx t0State t0Reason t0Seq t0Open t0Shard t0At t0Mode t0Touched (rwith_F t0Votes (m1 1)) t0Acks t0Got 3 0).1).2.2.2.2.2.1, ((rdecide_F t0Tx t0State t0Reason t0Seq t0Open t0Shard t0At t0Mode t0Touched (rwith_F t0Votes (m1 1)) t0Acks t0Got 3 0).1).2.2.2.2.2.2.1, ((rdecide_F t0Tx t0State t0Reason t0Seq t0Open t0Shard t0At t0Mode t0Touched (rwith_F t0Votes (m1 1)) t0Acks t0Got 3 0).1).2.2.2.2.2.2.2.1, ((rdecide_F t0Tx t0State t0Reason t0Seq t0Open t0Shard t0At t0Mode t0Touched (rwith_F t0Votes (m1 1)) t0Acks t0Got 3 0).1).2.2.2.2.2.2.2.2.1, ((rdecide_F t0Tx t0State t0Reason t0Seq t0Open t0Shard t0At t0Mode t0Touched (rwith_F t0Votes (m1 1)) t0Acks t0Got 3 0).1).2.2.2.2.2.2.2.2.2.1, ((rdecide_F t0Tx t0State t0Reason t0Seq t0Open t0Shard t0At t0Mode t0Touched (rwith_F t0Votes (m1 1)) t0Acks t0Got 3 0).1).2.2.2.2.2.2.2.2.2.2.1, ((rdecide_F t0Tx t0State t0Reason t0Seq t0Open t0Shard t0At t0Mode t0Touched (rwith_F t0Votes (m1 1)) t0Acks t0Got 3 0).1).2.2.2.2.2.2.2.2.2.2.2), (rdecide_F t0Tx t0State t0Reason t0Seq t0Open t0Shard t0At t0Mode t0Touched (rwith_F t0Votes (m1 1)) t0Acks t0Got 3 0).2.1, (rdecide_F t0Tx t0State t0Reason t0Seq t0Open t0Shard t0At t0Mode t0Touched (rwith_F t0Votes (m1 1)) t0Acks t0Got 3 0).2.2)))
def rvote_k1b (t0Tx : Int) (t0State : Int) (t0Reason : Int) (t0Seq : Int) (t0Open : Bool) (t0Shard : Int) (t0At : (Nat → Int)) (t0Mode : Int) (t0Touched : (List Int)) (t0Votes : (List Int)) (t0Acks : (List Int)) (t0Got : (List (Nat → Int))) (m1 : (Nat → Int)) (r : (Int × Int × Int × Int × Bool × Int × (Nat → Int) × Int × (List Int) × (List Int) × (List Int) × (List (Nat → Int))) × (List (Nat → Int)) × Int) : Prop :=
  r = (((t0Tx, t0State, t0Reason, t0Seq, t0Open, t0Shard, t0At, t0Mode, t0Touched, (rwith_F t0Votes (m1 1)), t0Acks, t0Got), [], 0))
def rvote_S (t0Tx : Int) (t0State : Int) (t0Reason : Int) (t0Seq : Int) (t0Open : Bool) (t0Shard : Int) (t0At : (Nat → Int)) (t0Mode : Int) (t0Touched : (List Int)) (t0Votes : (List Int)) (t0Acks : (List Int)) (t0Got : (List (Nat → Int))) (m1 : (Nat → Int)) (r : (Int × Int × Int × Int × Bool × Int × (Nat → Int) × Int × (List Int) × (List Int) × (List Int) × (List (Nat → Int))) × (List (Nat → Int)) × Int) : Prop :=
  if ((rform_F t0Tx t0State t0Reason t0Seq t0Open t0Shard t0At t0Mode t0Touched t0Votes t0Acks t0Got m1 5)) = true then
    if t0State = 2 then
      (hasR_P t0Touched (m1 1)) ∧ (
      if ((hasR_F t0Touched (m1 1))) = true then
        if m1 8 = 0 then
          (rdecide_P t0Tx t0State t0Reason t0Seq t0Open t0Shard t0At t0Mode t0Touched t0Votes t0Acks t0Got 4 2) ∧ (
          r = (((((rdecide_F t0Tx t0State t0Reason t0Seq t0Open t0Shard t0At t0Mode t0Touched t0Votes t0Acks t0Got 4 2).1).1, ((rdecide_F t0Tx t0State t0Reason t0Seq t0Open t0Shard t0At t0Mode t0Touched t0Votes t0Acks t0Got 4 2).1).2.1, ((rdecide_F t0Tx t0State t0Reason t0Seq t0Open t0Shard t0At t0Mode t0Touched t0Votes t0Acks t0Got 4 2).1).2.2.1, ((rdecide_F t0Tx t0State t0Reason t0Seq t0Open t0Shard t0At t0Mode t0Touched t0Votes t0Acks t0Got 4 2).1).2.2.2.1, ((rdecide_F t0Tx t0State t0Reason t0Seq t0Open t0Shard t0At t0Mode t0Touched t0Votes t0Acks t0Got 4 2).1).2.2.2.2.1, ((rdecide_F t0Tx t0State t0Reason t0Seq t0Open t0Shard t0At t0Mode t0Touched t0Votes t0Acks t0Got 4 2).1).2.2.2.2.2.1, ((rdecide_F t0Tx t0State t0Reason t0Seq t0Open t0Shard t0At t0Mode t0Touched t0Votes t0Acks t0Got 4 2).1).2.2.2.2.2.2.1, ((rdecide_F t0Tx t0State t0Reason t0Seq t0Open t0Shard t0At t0Mode t0Touched t0Votes t0Acks t0Got 4 2).1).2.2.2.2.2.2.2.1, ((rdecide_F t0Tx t0State t0Reason t0Seq t0Open t0Shard t0At t0Mode t0Touched t0Votes t0Acks t0Got 4 2).1).2.2.2.2.2.2.2.2.1, ((rdecide_F t0Tx t0State t0Reason t0Seq t0Open t0Shard t0At t0Mode t0Touched t0Votes t0Acks t0Got 4 2).1).2.2.2.2.2.2.2.2.2.1, ((rdecide_F t0Tx t0State t0Reason t0Seq t0Open t0Shard t0At t0Mode t0Touched t0Votes t0Acks t0Got 4 2).1).2.2.2.2.2.2.2.2.2.2.1, ((rdecide_F t0Tx t0State t0Reason t0Seq t0Open t0Shard t0At t0Mode t0Touched t0Votes t0Acks t0Got 4 2).1).2.2.2.2.2.2.2.2.2.2.2), (rdecide_F t0Tx t0State t0Reason t0Seq t0Open t0Shard t0At t0Mode t0Touched t0Votes t0Acks t0Got 4 2).2.1, (rdecide_F t0Tx t0State t0Reason t0Seq t0Open t0Shard t0At t0Mode t0Touched t0Votes t0Acks t0Got 4 2).2.2)))
        else
          (rwith_P t0Votes (m1 1)) ∧ (
          ∃ x : (Int × Int × Int × Int × Bool × Int × (Nat → Int) × Int) ⊕ (Unit), Wh (fun (s : Int × Int × Int × Int × Int × Bool × Int × (Nat → Int) × Int) (o : (Int × Int × Int × Int × Int × Bool × Int × (Nat → Int) × Int) ⊕ ((Int × Int × Int × Int × Bool × Int × (Nat → Int) × Int) ⊕ (Unit))) => rvote_l1 t0Touched t0Votes m1 s.1 s.2.1 s.2.2.1 s.2.2.2.1 s.2.2.2.2.1 s.2.2.2.2.2.1 s.2.2.2.2.2.2.1 s.2.2.2.2.2.2.2.1 s.2.2.2.2.2.2.2.2 o) ((0, 0, 0, 0, 0, false, 0, (fun _ => 0), 0) : Int × Int × Int × Int × Int × Bool × Int × (Nat → Int) × Int) x ∧ (match x with | .inl (fb4, fb4_1, fb4_2, fb4_3, fb4_4, fb4_5, fb4_6, fb4_8) => rvote_k1a t0Tx t0State t0Reason t0Seq t0Open t0Shard t0At t0Mode t0Touched t0Votes t0Acks t0Got m1 fb4 fb4_1 fb4_2 fb4_3 fb4_4 fb4_5 fb4_6 fb4_8 r | .inr _ => rvote_k1b t0Tx t0State t0Reason t0Seq t0Open t0Shard t0At t0Mode t0Touched t0Votes t0Acks t0Got m1 r))
      else
        r = (((t0Tx, t0State, t0Reason, t0Seq, t0Open, t0Shard, t0At, t0Mode, t0Touched, t0Votes, t0Acks, t0Got), [], 10)))
    else
      r = (((t0Tx, t0State, t0Reason, t0Seq, t0Open, t0Shard, t0At, t0Mode, t0Touched, t0Votes, t0Acks, t0Got), [], 11))
  else
    r = (((t0Tx, t0State, t0Reason, t0Seq, t0Open, t0Shard, t0At, t0Mode, t0Touched, t0Votes, t0Acks, t0Got), [], 5))
def rabort_S (t0Tx : Int) (t0State : Int) (t0Reason : Int) (t0Seq : Int) (t0Open : Bool) (t0Shard : Int) (t0At : (Nat → Int)) (t0Mode : Int) (t0Touched : (List Int)) (t0Votes : (List Int)) (t0Acks : (List Int)) (t0Got : (List (Nat → Int))) (reason1 : Int) (r : (Int × Int × Int × Int × Bool × Int × (Nat → Int) × Int × (List Int) × (List Int) × (List Int) × (List (Nat → Int))) × (List (Nat → Int)) × Int) : Prop :=
  if ((decide (reason1 < 1)) || (decide (5 < reason1))) = true then
    r = (((t0Tx, t0State, t0Reason, t0Seq, t0Open, t0Shard, t0At, t0Mode, t0Touched, t0Votes, t0Acks, t0Got), [], 1))
  else
    if ((rdec_F t0Tx t0State t0Reason t0Seq t0Open t0Shard t0At t0Mode t0Touched t0Votes t0Acks t0Got)) = true then
      r = (((t0Tx, t0State, t0Reason, t0Seq, t0Open, t0Shard, t0At, t0Mode, t0Touched, t0Votes, t0Acks, t0Got), [], 15))
    else
      (rdecide_P t0Tx t0State t0Reason t0Seq t0Open t0Shard t0At t0Mode t0Touched t0Votes t0Acks t0Got 4 reason1) ∧ (
      r = (((((rdecide_F t0Tx t0State t0Reason t0Seq t0Open t0Shard t0At t0Mode t0Touched t0Votes t0Acks t0Got 4 reason1).1).1, ((rdecide_F t0Tx t0State t0Reason t0Seq t0Open t0Shard t0At t0Mode t0Touched t0Votes t0Acks t0Got 4 reason1).1).2.1, ((rdecide_F t0Tx t0State t0Reason t0Seq t0Open t0Shard t0At t0Mode t0Touched t0Votes t0Acks t0Got 4 reason1).1).2.2.1, ((rdecide_F t0Tx t0State t0Reason t0Seq t0Open t0Shard t0At t0Mode t0Touched t0Votes t0Acks t0Got 4 reason1).1).2.2.2.1, ((rdecide_F t0Tx t0State t0Reason t0Seq t0Open t0Shard t0At t0Mode t0Touched t0Votes t0Acks t0Got 4 reason1).1).2.2.2.2.1, ((rdecide_F t0Tx t0State t0Reason t0Seq t0Open t0Shard t0At t0Mode t0Touched t0Votes t0Acks t0Got 4 reason1).1).2.2.2.2.2.1, ((rdecide_F t0Tx t0State t0Reason t0Seq t0Open t0Shard t0At t0Mode t0Touched t0Votes t0Acks t0Got 4 reason1).1).2.2.2.2.2.2.1, ((rdecide_F t0Tx t0State t0Reason t0Seq t0Open t0Shard t0At t0Mode t0Touched t0Votes t0Acks t0Got 4 reason1).1).2.2.2.2.2.2.2.1, ((rdecide_F t0Tx t0State t0Reason t0Seq t0Open t0Shard t0At t0Mode t0Touched t0Votes t0Acks t0Got 4 reason1).1).2.2.2.2.2.2.2.2.1, ((rdecide_F t0Tx t0State t0Reason t0Seq t0Open t0Shard t0At t0Mode t0Touched t0Votes t0Acks t0Got 4 reason1).1).2.2.2.2.2.2.2.2.2.1, ((rdecide_F t0Tx t0State t0Reason t0Seq t0Open t0Shard t0At t0Mode t0Touched t0Votes t0Acks t0Got 4 reason1).1).2.2.2.2.2.2.2.2.2.2.1, ((rdecide_F t0Tx t0State t0Reason t0Seq t0Open t0Shard t0At t0Mode t0Touched t0Votes t0Acks t0Got 4 reason1).1).2.2.2.2.2.2.2.2.2.2.2), (rdecide_F t0Tx t0State t0Reason t0Seq t0Open t0Shard t0At t0Mode t0Touched t0Votes t0Acks t0Got 4 reason1).2.1, (rdecide_F t0Tx t0State t0Reason t0Seq t0Open t0Shard t0At t0Mode t0Touched t0Votes t0Acks t0Got 4 reason1).2.2)))
def rabort_F (t0Tx : Int) (t0State : Int) (t0Reason : Int) (t0Seq : Int) (t0Open : Bool) (t0Shard : Int) (t0At : (Nat → Int)) (t0Mode : Int) (t0Touched : (List Int)) (t0Votes : (List Int)) (t0Acks : (List Int)) (t0Got : (List (Nat → Int))) (reason1 : Int) : (Int × Int × Int × Int × Bool × Int × (Nat → Int) × Int × (List Int) × (List Int) × (List Int) × (List (Nat → Int))) × (List (Nat → Int)) × Int :=
  if ((decide (reason1 < 1)) || (decide (5 < reason1))) = true then
    ((t0Tx, t0State, t0Reason, t0Seq, t0Open, t0Shard, t0At, t0Mode, t0Touched, t0Votes, t0Acks, t0Got), [], 1)
  else
    if ((rdec_F t0Tx t0State t0Reason t0Seq t0Open t0Shard t0At t0Mode t0Touched t0Votes t0Acks t0Got)) = true then
      ((t0Tx, t0State, t0Reason, t0Seq, t0Open, t0Shard, t0At, t0Mode, t0Touched, t0Votes, t0Acks, t0Got), [], 15)
    else
      ((((rdecide_F t0Tx t0State t0Reason t0Seq t0Open t0Shard t0At t0Mode t0Touched t0Votes t0Acks t0Got 4 reason1).1).1, ((rdecide_F t0Tx t0State t0Reason t0Seq t0Open t0Shard t0At t0Mode t0Touched t0Votes t0Acks t0Got 4 reason1).1).2.1, ((rdecide_F t0Tx t0State t0Reason t0Seq t0Open t0Shard t0At t0Mode t0Touched t0Votes t0Acks t0Got 4 reason1).1).2.2.1, ((rdecide_F t0Tx t0State t0Reason t0Seq t0Open t0Shard t0At t0Mode t0Touched t0Votes t0Acks t0Got 4 reason1).1).2.2.2.1, ((rdecide_F t0Tx t0State t0Reason t0Seq t0Open t0Shard t0At t0Mode t0Touched t0Votes t0Acks t0Got 4 reason1).1).2.2.2.2.1, ((rdecide_F t0Tx t0State t0Reason t0Seq t0Open t0Shard t0At t0Mode t0Touched t0Votes t0Acks t0Got 4 reason1).1).2.2.2.2.2.1, ((rdecide_F t0Tx t0State t0Reason t0Seq t0Open t0Shard t0At t0Mode t0Touched t0Votes t0Acks t0Got 4 reason1).1).2.2.2.2.2.2.1, ((rdecide_F t0Tx t0State t0Reason t0Seq t0Open t0Shard t0At t0Mode t0Touched t0Votes t0Acks t0Got 4 reason1).1).2.2.2.2.2.2.2.1, ((rdecide_F t0Tx t0State t0Reason t0Seq t0Open t0Shard t0At t0Mode t0Touched t0Votes t0Acks t0Got 4 reason1).1).2.2.2.2.2.2.2.2.1, ((rdecide_F t0Tx t0State t0Reason t0Seq t0Open t0Shard t0At t0Mode t0Touched t0Votes t0Acks t0Got 4 reason1).1).2.2.2.2.2.2.2.2.2.1, ((rdecide_F t0Tx t0State t0Reason t0Seq t0Open t0Shard t0At t0Mode t0Touched t0Votes t0Acks t0Got 4 reason1).1).2.2.2.2.2.2.2.2.2.2.1, ((rdecide_F t0Tx t0State t0Reason t0Seq t0Open t0Shard t0At t0Mode t0Touched t0Votes t0Acks t0Got 4 reason1).1).2.2.2.2.2.2.2.2.2.2.2), (rdecide_F t0Tx t0State t0Reason t0Seq t0Open t0Shard t0At t0Mode t0Touched t0Votes t0Acks t0Got 4 reason1).2.1, (rdecide_F t0Tx t0State t0Reason t0Seq t0Open t0Shard t0At t0Mode t0Touched t0Votes t0Acks t0Got 4 reason1).2.2)
def rabort_P (t0Tx : Int) (t0State : Int) (t0Reason : Int) (t0Seq : Int) (t0Open : Bool) (t0Shard : Int) (t0At : (Nat → Int)) (t0Mode : Int) (t0Touched : (List Int)) (t0Votes : (List Int)) (t0Acks : (List Int)) (t0Got : (List (Nat → Int))) (reason1 : Int) : Prop :=
  if ((decide (reason1 < 1)) || (decide (5 < reason1))) = true then
    True
  else
    if ((rdec_F t0Tx t0State t0Reason t0Seq t0Open t0Shard t0At t0Mode t0Touched t0Votes t0Acks t0Got)) = true then
      True
    else
      (rdecide_P t0Tx t0State t0Reason t0Seq t0Open t0Shard t0At t0Mode t0Touched t0Votes t0Acks t0Got 4 reason1) ∧ (
      True)
theorem rabort_ok (t0Tx : Int) (t0State : Int) (t0Reason : Int) (t0Seq : Int) (t0Open : Bool) (t0Shard : Int) (t0At : (Nat → Int)) (t0Mode : Int) (t0Touched : (List Int)) (t0Votes : (List Int)) (t0Acks : (List Int)) (t0Got : (List (Nat → Int))) (reason1 : Int) (hP : rabort_P t0Tx t0State t0Reason t0Seq t0Open t0Shard t0At t0Mode t0Touched t0Votes t0Acks t0Got reason1) : rabort_S t0Tx t0State t0Reason t0Seq t0Open t0Shard t0At t0Mode t0Touched t0Votes t0Acks t0Got reason1 (rabort_F t0Tx t0State t0Reason t0Seq t0Open t0Shard t0At t0Mode t0Touched t0Votes t0Acks t0Got reason1) := by
  obtain ⟨r, hr⟩ : ∃ r, r = rabort_F t0Tx t0State t0Reason t0Seq t0Open t0Shard t0At t0Mode t0Touched t0Votes t0Acks t0Got reason1 := ⟨_, rfl⟩
  rw [← hr]
  unfold rabort_F at hr
  unfold rabort_S
  unfold rabort_P at hP
  by_cases hp67 : ((decide (reason1 < 1)) || (decide (5 < reason1))) = true
  · rw [if_pos hp67] at hr hP ⊢
    exact hr
  · rw [if_neg hp67] at hr hP ⊢
    by_cases hp68 : ((rdec_F t0Tx t0State t0Reason t0Seq t0Open t0Shard t0At t0Mode t0Touched t0Votes t0Acks t0Got)) = true
    · rw [if_pos hp68] at hr hP ⊢
      exact hr
    · rw [if_neg hp68] at hr hP ⊢
      obtain ⟨hq0, hP⟩ := hP
      refine ⟨hq0, ?_⟩
      exact hr
def rack_S (t0Tx : Int) (t0State : Int) (t0Reason : Int) (t0Seq : Int) (t0Open : Bool) (t0Shard : Int) (t0At : (Nat → Int)) (t0Mode : Int) (t0Touched : (List Int)) (t0Votes : (List Int)) (t0Acks : (List Int)) (t0Got : (List (Nat → Int))) (m1 : (Nat → Int)) (r : (Int × Int × Int × Int × Bool × Int × (Nat → Int) × Int × (List Int) × (List Int) × (List Int) × (List (Nat → Int))) × Int) : Prop :=
  if ((rform_F t0Tx t0State t0Reason t0Seq t0Open t0Shard t0At t0Mode t0Touched t0Votes t0Acks t0Got m1 7)) = true then
    if ((rdec_F t0Tx t0State t0Reason t0Seq t0Open t0Shard t0At t0Mode t0Touched t0Votes t0Acks t0Got)) = true then
      (hasR_P t0Touched (m1 1)) ∧ (
      if ((hasR_F t0Touched (m1 1))) = true then
        (rwith_P t0Acks (m1 1)) ∧ (
        r = (((t0Tx, t0State, t0Reason, t0Seq, t0Open, t0Shard, t0At, t0Mode, t0Touched, t0Votes, (rwith_F t0Acks (m1 1)), t0Got), 0)))
      else
        r = (((t0Tx, t0State, t0Reason, t0Seq, t0Open, t0Shard, t0At, t0Mode, t0Touched, t0Votes, t0Acks, t0Got), 10)))
    else
      r = (((t0Tx, t0State, t0Reason, t0Seq, t0Open, t0Shard, t0At, t0Mode, t0Touched, t0Votes, t0Acks, t0Got), 11))
  else
    r = (((t0Tx, t0State, t0Reason, t0Seq, t0Open, t0Shard, t0At, t0Mode, t0Touched, t0Votes, t0Acks, t0Got), 5))
def rack_F (t0Tx : Int) (t0State : Int) (t0Reason : Int) (t0Seq : Int) (t0Open : Bool) (t0Shard : Int) (t0At : (Nat → Int)) (t0Mode : Int) (t0Touched : (List Int)) (t0Votes : (List Int)) (t0Acks : (List Int)) (t0Got : (List (Nat → Int))) (m1 : (Nat → Int)) : (Int × Int × Int × Int × Bool × Int × (Nat → Int) × Int × (List Int) × (List Int) × (List Int) × (List (Nat → Int))) × Int :=
  if ((rform_F t0Tx t0State t0Reason t0Seq t0Open t0Shard t0At t0Mode t0Touched t0Votes t0Acks t0Got m1 7)) = true then
    if ((rdec_F t0Tx t0State t0Reason t0Seq t0Open t0Shard t0At t0Mode t0Touched t0Votes t0Acks t0Got)) = true then
      if ((hasR_F t0Touched (m1 1))) = true then
        ((t0Tx, t0State, t0Reason, t0Seq, t0Open, t0Shard, t0At, t0Mode, t0Touched, t0Votes, (rwith_F t0Acks (m1 1)), t0Got), 0)
      else
        ((t0Tx, t0State, t0Reason, t0Seq, t0Open, t0Shard, t0At, t0Mode, t0Touched, t0Votes, t0Acks, t0Got), 10)
    else
      ((t0Tx, t0State, t0Reason, t0Seq, t0Open, t0Shard, t0At, t0Mode, t0Touched, t0Votes, t0Acks, t0Got), 11)
  else
    ((t0Tx, t0State, t0Reason, t0Seq, t0Open, t0Shard, t0At, t0Mode, t0Touched, t0Votes, t0Acks, t0Got), 5)
def rack_P (t0Tx : Int) (t0State : Int) (t0Reason : Int) (t0Seq : Int) (t0Open : Bool) (t0Shard : Int) (t0At : (Nat → Int)) (t0Mode : Int) (t0Touched : (List Int)) (t0Votes : (List Int)) (t0Acks : (List Int)) (t0Got : (List (Nat → Int))) (m1 : (Nat → Int)) : Prop :=
  if ((rform_F t0Tx t0State t0Reason t0Seq t0Open t0Shard t0At t0Mode t0Touched t0Votes t0Acks t0Got m1 7)) = true then
    if ((rdec_F t0Tx t0State t0Reason t0Seq t0Open t0Shard t0At t0Mode t0Touched t0Votes t0Acks t0Got)) = true then
      (hasR_P t0Touched (m1 1)) ∧ (
      if ((hasR_F t0Touched (m1 1))) = true then
        (rwith_P t0Acks (m1 1)) ∧ (
        True)
      else
        True)
    else
      True
  else
    True
theorem rack_ok (t0Tx : Int) (t0State : Int) (t0Reason : Int) (t0Seq : Int) (t0Open : Bool) (t0Shard : Int) (t0At : (Nat → Int)) (t0Mode : Int) (t0Touched : (List Int)) (t0Votes : (List Int)) (t0Acks : (List Int)) (t0Got : (List (Nat → Int))) (m1 : (Nat → Int)) (hP : rack_P t0Tx t0State t0Reason t0Seq t0Open t0Shard t0At t0Mode t0Touched t0Votes t0Acks t0Got m1) : rack_S t0Tx t0State t0Reason t0Seq t0Open t0Shard t0At t0Mode t0Touched t0Votes t0Acks t0Got m1 (rack_F t0Tx t0State t0Reason t0Seq t0Open t0Shard t0At t0Mode t0Touched t0Votes t0Acks t0Got m1) := by
  obtain ⟨r, hr⟩ : ∃ r, r = rack_F t0Tx t0State t0Reason t0Seq t0Open t0Shard t0At t0Mode t0Touched t0Votes t0Acks t0Got m1 := ⟨_, rfl⟩
  rw [← hr]
  unfold rack_F at hr
  unfold rack_S
  unfold rack_P at hP
  by_cases hp69 : ((rform_F t0Tx t0State t0Reason t0Seq t0Open t0Shard t0At t0Mode t0Touched t0Votes t0Acks t0Got m1 7)) = true
  · rw [if_pos hp69] at hr hP ⊢
    by_cases hp70 : ((rdec_F t0Tx t0State t0Reason t0Seq t0Open t0Shard t0At t0Mode t0Touched t0Votes t0Acks t0Got)) = true
    · rw [if_pos hp70] at hr hP ⊢
      obtain ⟨hq0, hP⟩ := hP
      refine ⟨hq0, ?_⟩
      by_cases hp71 : ((hasR_F t0Touched (m1 1))) = true
      · rw [if_pos hp71] at hr hP ⊢
        obtain ⟨hq0, hP⟩ := hP
        refine ⟨hq0, ?_⟩
        exact hr
      · rw [if_neg hp71] at hr hP ⊢
        exact hr
    · rw [if_neg hp70] at hr hP ⊢
      exact hr
  · rw [if_neg hp69] at hr hP ⊢
    exact hr
def ragain_S (t0Tx : Int) (t0State : Int) (t0Reason : Int) (t0Seq : Int) (t0Open : Bool) (t0Shard : Int) (t0At : (Nat → Int)) (t0Mode : Int) (t0Touched : (List Int)) (t0Votes : (List Int)) (t0Acks : (List Int)) (t0Got : (List (Nat → Int))) (alive1 : Bool) (r : (List (Nat → Int))) : Prop :=
  if t0State = 1 then
    if (t0Open) = true then
      ((0 + 1) * 224 ≤ 140737488355328) ∧ (
      if (alive1) = true then
        (each_P t0Tx t0State t0Reason t0Seq t0Open t0Shard t0At t0Mode t0Touched t0Votes t0Acks t0Got 8 0 ([])) ∧ (
        ((([] ++ [(rlock_F t0Tx t0State t0Reason t0Seq t0Open t0Shard t0At t0Mode t0Touched t0Votes t0Acks t0Got)]).length + (each_F t0Tx t0State t0Reason t0Seq t0Open t0Shard t0At t0Mode t0Touched t0Votes t0Acks t0Got 8 0 ([])).length) * 224 ≤ 140737488355328) ∧ (
        r = ((([] ++ [(rlock_F t0Tx t0State t0Reason t0Seq t0Open t0Shard t0At t0Mode t0Touched t0Votes t0Acks t0Got)]) ++ (each_F t0Tx t0State t0Reason t0Seq t0Open t0Shard t0At t0Mode t0Touched t0Votes t0Acks t0Got 8 0 ([]))))))
      else
        r = (([] ++ [(rlock_F t0Tx t0State t0Reason t0Seq t0Open t0Shard t0At t0Mode t0Touched t0Votes t0Acks t0Got)])))
    else
      if (alive1) = true then
        (each_P t0Tx t0State t0Reason t0Seq t0Open t0Shard t0At t0Mode t0Touched t0Votes t0Acks t0Got 8 0 ([])) ∧ (
        ((0 + (each_F t0Tx t0State t0Reason t0Seq t0Open t0Shard t0At t0Mode t0Touched t0Votes t0Acks t0Got 8 0 ([])).length) * 224 ≤ 140737488355328) ∧ (
        r = (([] ++ (each_F t0Tx t0State t0Reason t0Seq t0Open t0Shard t0At t0Mode t0Touched t0Votes t0Acks t0Got 8 0 ([]))))))
      else
        r = ([])
  else
    if t0State = 2 then
      (each_P t0Tx t0State t0Reason t0Seq t0Open t0Shard t0At t0Mode t0Touched t0Votes t0Acks t0Got 4 0 t0Votes) ∧ (
      r = ((each_F t0Tx t0State t0Reason t0Seq t0Open t0Shard t0At t0Mode t0Touched t0Votes t0Acks t0Got 4 0 t0Votes)))
    else
      if ((rdec_F t0Tx t0State t0Reason t0Seq t0Open t0Shard t0At t0Mode t0Touched t0Votes t0Acks t0Got)) = true then
        (inI64 (4 - t0State)) ∧ (
        (each_P t0Tx t0State t0Reason t0Seq t0Open t0Shard t0At t0Mode t0Touched t0Votes t0Acks t0Got 6 (4 - t0State) t0Acks) ∧ (
        r = ((each_F t0Tx t0State t0Reason t0Seq t0Open t0Shard t0At t0Mode t0Touched t0Votes t0Acks t0Got 6 (4 - t0State) t0Acks))))
      else
        r = ([])
def ragain_F (t0Tx : Int) (t0State : Int) (t0Reason : Int) (t0Seq : Int) (t0Open : Bool) (t0Shard : Int) (t0At : (Nat → Int)) (t0Mode : Int) (t0Touched : (List Int)) (t0Votes : (List Int)) (t0Acks : (List Int)) (t0Got : (List (Nat → Int))) (alive1 : Bool) : (List (Nat → Int)) :=
  if t0State = 1 then
    if (t0Open) = true then
      if (alive1) = true then
        (([] ++ [(rlock_F t0Tx t0State t0Reason t0Seq t0Open t0Shard t0At t0Mode t0Touched t0Votes t0Acks t0Got)]) ++ (each_F t0Tx t0State t0Reason t0Seq t0Open t0Shard t0At t0Mode t0Touched t0Votes t0Acks t0Got 8 0 ([])))
      else
        ([] ++ [(rlock_F t0Tx t0State t0Reason t0Seq t0Open t0Shard t0At t0Mode t0Touched t0Votes t0Acks t0Got)])
    else
      if (alive1) = true then
        ([] ++ (each_F t0Tx t0State t0Reason t0Seq t0Open t0Shard t0At t0Mode t0Touched t0Votes t0Acks t0Got 8 0 ([])))
      else
        []
  else
    if t0State = 2 then
      (each_F t0Tx t0State t0Reason t0Seq t0Open t0Shard t0At t0Mode t0Touched t0Votes t0Acks t0Got 4 0 t0Votes)
    else
      if ((rdec_F t0Tx t0State t0Reason t0Seq t0Open t0Shard t0At t0Mode t0Touched t0Votes t0Acks t0Got)) = true then
        (each_F t0Tx t0State t0Reason t0Seq t0Open t0Shard t0At t0Mode t0Touched t0Votes t0Acks t0Got 6 (4 - t0State) t0Acks)
      else
        []
def ragain_P (t0Tx : Int) (t0State : Int) (t0Reason : Int) (t0Seq : Int) (t0Open : Bool) (t0Shard : Int) (t0At : (Nat → Int)) (t0Mode : Int) (t0Touched : (List Int)) (t0Votes : (List Int)) (t0Acks : (List Int)) (t0Got : (List (Nat → Int))) (alive1 : Bool) : Prop :=
  if t0State = 1 then
    if (t0Open) = true then
      ((0 + 1) * 224 ≤ 140737488355328) ∧ (
      if (alive1) = true then
        (each_P t0Tx t0State t0Reason t0Seq t0Open t0Shard t0At t0Mode t0Touched t0Votes t0Acks t0Got 8 0 ([])) ∧ (
        ((([] ++ [(rlock_F t0Tx t0State t0Reason t0Seq t0Open t0Shard t0At t0Mode t0Touched t0Votes t0Acks t0Got)]).length + (each_F t0Tx t0State t0Reason t0Seq t0Open t0Shard t0At t0Mode t0Touched t0Votes t0Acks t0Got 8 0 ([])).length) * 224 ≤ 140737488355328) ∧ (
        True))
      else
        True)
    else
      if (alive1) = true then
        (each_P t0Tx t0State t0Reason t0Seq t0Open t0Shard t0At t0Mode t0Touched t0Votes t0Acks t0Got 8 0 ([])) ∧ (
        ((0 + (each_F t0Tx t0State t0Reason t0Seq t0Open t0Shard t0At t0Mode t0Touched t0Votes t0Acks t0Got 8 0 ([])).length) * 224 ≤ 140737488355328) ∧ (
        True))
      else
        True
  else
    if t0State = 2 then
      (each_P t0Tx t0State t0Reason t0Seq t0Open t0Shard t0At t0Mode t0Touched t0Votes t0Acks t0Got 4 0 t0Votes) ∧ (
      True)
    else
      if ((rdec_F t0Tx t0State t0Reason t0Seq t0Open t0Shard t0At t0Mode t0Touched t0Votes t0Acks t0Got)) = true then
        (inI64 (4 - t0State)) ∧ (
        (each_P t0Tx t0State t0Reason t0Seq t0Open t0Shard t0At t0Mode t0Touched t0Votes t0Acks t0Got 6 (4 - t0State) t0Acks) ∧ (
        True))
      else
        True
theorem ragain_ok (t0Tx : Int) (t0State : Int) (t0Reason : Int) (t0Seq : Int) (t0Open : Bool) (t0Shard : Int) (t0At : (Nat → Int)) (t0Mode : Int) (t0Touched : (List Int)) (t0Votes : (List Int)) (t0Acks : (List Int)) (t0Got : (List (Nat → Int))) (alive1 : Bool) (hP : ragain_P t0Tx t0State t0Reason t0Seq t0Open t0Shard t0At t0Mode t0Touched t0Votes t0Acks t0Got alive1) : ragain_S t0Tx t0State t0Reason t0Seq t0Open t0Shard t0At t0Mode t0Touched t0Votes t0Acks t0Got alive1 (ragain_F t0Tx t0State t0Reason t0Seq t0Open t0Shard t0At t0Mode t0Touched t0Votes t0Acks t0Got alive1) := by
  obtain ⟨r, hr⟩ : ∃ r, r = ragain_F t0Tx t0State t0Reason t0Seq t0Open t0Shard t0At t0Mode t0Touched t0Votes t0Acks t0Got alive1 := ⟨_, rfl⟩
  rw [← hr]
  unfold ragain_F at hr
  unfold ragain_S
  unfold ragain_P at hP
  by_cases hp72 : t0State = 1
  · rw [if_pos hp72] at hr hP ⊢
    by_cases hp73 : (t0Open) = true
    · rw [if_pos hp73] at hr hP ⊢
      obtain ⟨hq0, hP⟩ := hP
      refine ⟨hq0, ?_⟩
      by_cases hp74 : (alive1) = true
      · rw [if_pos hp74] at hr hP ⊢
        obtain ⟨hq0, hP⟩ := hP
        refine ⟨hq0, ?_⟩
        obtain ⟨hq0, hP⟩ := hP
        refine ⟨hq0, ?_⟩
        exact hr
      · rw [if_neg hp74] at hr hP ⊢
        exact hr
    · rw [if_neg hp73] at hr hP ⊢
      by_cases hp75 : (alive1) = true
      · rw [if_pos hp75] at hr hP ⊢
        obtain ⟨hq0, hP⟩ := hP
        refine ⟨hq0, ?_⟩
        obtain ⟨hq0, hP⟩ := hP
        refine ⟨hq0, ?_⟩
        exact hr
      · rw [if_neg hp75] at hr hP ⊢
        exact hr
  · rw [if_neg hp72] at hr hP ⊢
    by_cases hp76 : t0State = 2
    · rw [if_pos hp76] at hr hP ⊢
      obtain ⟨hq0, hP⟩ := hP
      refine ⟨hq0, ?_⟩
      exact hr
    · rw [if_neg hp76] at hr hP ⊢
      by_cases hp77 : ((rdec_F t0Tx t0State t0Reason t0Seq t0Open t0Shard t0At t0Mode t0Touched t0Votes t0Acks t0Got)) = true
      · rw [if_pos hp77] at hr hP ⊢
        obtain ⟨hq0, hP⟩ := hP
        refine ⟨hq0, ?_⟩
        obtain ⟨hq0, hP⟩ := hP
        refine ⟨hq0, ?_⟩
        exact hr
      · rw [if_neg hp77] at hr hP ⊢
        exact hr
end Go.E
/- The reference's transactions: its steps are the program's. -/
namespace Go.E
open Go
section
variable (tx st re sq : Int) (op : Bool) (sh : Int) (at_ : Nat → Int) (mo : Int) (to_ vo ac : List Int) (go : List (Nat → Int))
def allV (to_ vo : List Int) : Bool := (List.range to_.length).all fun k => hasR_F vo (to_[k]!)
def rvote_F (m : Nat → Int) : T17 × List (Nat → Int) × Int :=
  if rform_F tx st re sq op sh at_ mo to_ vo ac go m 5 = true then
    if st = 2 then
      if hasR_F to_ (m 1) = true then
        if m 8 = 0 then rdecide_F tx st re sq op sh at_ mo to_ vo ac go 4 2
        else if allV to_ (rwith_F vo (m 1)) = true then rdecide_F tx st re sq op sh at_ mo to_ (rwith_F vo (m 1)) ac go 3 0
        else ((tx, st, re, sq, op, sh, at_, mo, to_, rwith_F vo (m 1), ac, go), [], 0)
      else ((tx, st, re, sq, op, sh, at_, mo, to_, vo, ac, go), [], 10)
    else ((tx, st, re, sq, op, sh, at_, mo, to_, vo, ac, go), [], 11)
  else ((tx, st, re, sq, op, sh, at_, mo, to_, vo, ac, go), [], 5)
end
def rvote_P (_tx _st _re _sq : Int) (_op : Bool) (_sh : Int) (_at : Nat → Int) (_mo : Int) (to_ vo _ac : List Int) (_go : List (Nat → Int)) (_m : Nat → Int) : Prop := to_.length ≤ 1000 ∧ vo.length ≤ 1000
section
variable {n : Nat} {tx st re sq : Int} {op : Bool} {sh : Int} {at_ : Nat → Int} {mo : Int} {to_ vo ac : List Int} {go : List (Nat → Int)}
theorem rwith_P_of {l : List Int} (h : l.length ≤ 1000) (x : Int) : rwith_P l x := by
  unfold rwith_P rising_P
  simp
  omega
theorem rwith_len {l : List Int} (h : l.length ≤ 1000) (x : Int) : (rwith_F l x).length ≤ 1001 := by
  unfold rwith_F
  have := len_rising (([] ++ l) ++ [x])
  simp at this ⊢
  omega
theorem rwith_is {l : List Int} (h : Rise l) (x : Int) : rwith_F l x = insI x l := with_rising h x
theorem rdecide_P_of (h : to_.length ≤ 1000) {s r : Int} (hs : 0 ≤ s ∧ s ≤ 4) : rdecide_P tx st re sq op sh at_ mo to_ vo ac go s r := by
  unfold rdecide_P each_P
  exact ⟨⟨by omega, by omega⟩, ⟨by omega, by simp⟩, trivial⟩
theorem rvote_ok (tx st re sq : Int) (op : Bool) (sh : Int) (at_ : Nat → Int) (mo : Int) (to_ vo ac : List Int) (go : List (Nat → Int)) (m : Nat → Int) (h : rvote_P tx st re sq op sh at_ mo to_ vo ac go m) :
    rvote_S tx st re sq op sh at_ mo to_ vo ac go m (rvote_F tx st re sq op sh at_ mo to_ vo ac go m) := by
  obtain ⟨h1, h2⟩ := h
  unfold rvote_S rvote_F
  by_cases a1 : rform_F tx st re sq op sh at_ mo to_ vo ac go m 5 = true
  · rw [if_pos a1, if_pos a1]
    by_cases a2 : st = 2
    · rw [if_pos a2, if_pos a2]
      refine ⟨by unfold hasR_P; omega, ?_⟩
      by_cases a3 : hasR_F to_ (m 1) = true
      · rw [if_pos a3, if_pos a3]
        by_cases a4 : m 8 = 0
        · rw [if_pos a4, if_pos a4]
          exact ⟨rdecide_P_of h1 (by omega), rfl⟩
        · rw [if_neg a4, if_neg a4]
          refine ⟨rwith_P_of h2 _, ?_⟩
          have hw := rwith_len h2 (m 1)
          have hd := rdecide_P_of (tx := tx) (st := st) (re := re) (sq := sq) (op := op) (sh := sh) (at_ := at_) (mo := mo) (to_ := to_) (vo := rwith_F vo (m 1)) (ac := ac) (go := go) h1 (s := 3) (r := 0) (by omega)
          have key := Wh.by (f := fun (s : Int × Int × Int × Int × Int × Bool × Int × (Nat → Int) × Int) (o : (Int × Int × Int × Int × Int × Bool × Int × (Nat → Int) × Int) ⊕ ((Int × Int × Int × Int × Bool × Int × (Nat → Int) × Int) ⊕ (Unit))) => rvote_l1 to_ vo m s.1 s.2.1 s.2.2.1 s.2.2.2.1 s.2.2.2.2.1 s.2.2.2.2.2.1 s.2.2.2.2.2.2.1 s.2.2.2.2.2.2.2.1 s.2.2.2.2.2.2.2.2 o)
            (fun s => ∃ k : Nat, s.1 = (k : Int) ∧ k ≤ to_.length ∧ ∀ q, q < k → hasR_F (rwith_F vo (m 1)) (to_[q]!) = true) (fun s => to_.length - s.1.toNat)
            (fun r => (∃ x, r = .inl x) ∧ allV to_ (rwith_F vo (m 1)) = true ∨ r = .inr () ∧ ¬ allV to_ (rwith_F vo (m 1)) = true)
            (s := ((0, 0, 0, 0, 0, false, 0, (fun _ => 0), 0) : Int × Int × Int × Int × Int × Bool × Int × (Nat → Int) × Int)) ⟨0, rfl, by omega, fun q hq => absurd hq (Nat.not_lt_zero _)⟩ (by
              rintro ⟨i, s⟩ ⟨k, rfl, hk, hv⟩
              dsimp only
              by_cases hlt : k < to_.length
              · by_cases hc : hasR_F (rwith_F vo (m 1)) (to_[k]!) = true
                · left
                  refine ⟨((k : Int) + 1, s), ?_, ⟨k + 1, by simp, hlt, fun q hq => ?_⟩, by dsimp only; omega⟩
                  · unfold rvote_l1
                    rw [if_pos (by omega), Int.toNat_natCast, if_pos hc]
                    exact ⟨⟨by omega, by omega⟩, by unfold hasR_P; omega, step1 (by omega), rfl⟩
                  · rcases Nat.lt_succ_iff_lt_or_eq.1 hq with hq | rfl
                    · exact hv q hq
                    · exact hc
                · right
                  refine ⟨.inr (), ?_, .inr ⟨rfl, fun e => hc ?_⟩⟩
                  · unfold rvote_l1
                    rw [if_pos (by omega), Int.toNat_natCast, if_neg hc]
                    exact ⟨⟨by omega, by omega⟩, by unfold hasR_P; omega, rfl⟩
                  · exact List.all_eq_true.1 e k (List.mem_range.2 hlt)
              · right
                refine ⟨.inl s, ?_, .inl ⟨⟨s, rfl⟩, List.all_eq_true.2 fun q hq => hv q (by have := List.mem_range.1 hq; omega)⟩⟩
                unfold rvote_l1
                rw [if_neg (by omega)])
          obtain ⟨r, hr, h3⟩ := key
          refine ⟨r, hr, ?_⟩
          rcases h3 with ⟨⟨x, rfl⟩, hv⟩ | ⟨rfl, hv⟩
          · rw [if_pos hv]
            exact ⟨hd, rfl⟩
          · rw [if_neg hv]; rfl
      · rw [if_neg a3, if_neg a3]
    · rw [if_neg a2, if_neg a2]
  · rw [if_neg a1, if_neg a1]
/-! ### The same steps -/
theorem ref02_is (a : Nat → Int) : ref02Ok_F a = resOk_F a := by
  unfold ref02Ok_F resOk_F
  rw [show decide (0 < a 0) = decide (1 ≤ a 0) from decide_eq_decide.2 (by omega), show decide (a 0 < 251) = decide (a 0 ≤ 250) from decide_eq_decide.2 (by omega), show decide (-1 < a 1) = decide (0 ≤ a 1) from decide_eq_decide.2 (by omega), show decide (a 1 < 251) = decide (a 1 ≤ 250) from decide_eq_decide.2 (by omega)]
theorem rform_iff {k : Int} {m : Nat → Int} : rform_F tx st re sq op sh at_ mo to_ vo ac go m k = true ↔ Form tx k m := by
  unfold rform_F Form
  simp [and_assoc]
theorem leftL_nil (l : List Int) : leftL l [] = l := by
  unfold leftL
  rw [List.filter_eq_self]
  intro x _
  rfl
theorem rdecide_is {s r : Int} : rdecide_F tx st re sq op sh at_ mo to_ vo ac go s r = ((tx, s, r, sq, false, sh, at_, mo, to_, vo, ac, go), to_.map (toMsg tx 6 (4 - s)), 0) := by
  unfold rdecide_F each_F
  rw [leftL_nil]
theorem rdec_iff : rdec_F tx st re sq op sh at_ mo to_ vo ac go = true ↔ st = 3 ∨ st = 4 := by
  unfold rdec_F
  simp
theorem rask_is (h : TI n tx st re sq op sh at_ mo to_ vo ac go) (s : Int) (a : Nat → Int) (m : Int) :
    rask_P tx st re sq op sh at_ mo to_ vo ac go s a m ∧ rask_F tx st re sq op sh at_ mo to_ vo ac go s a m = askC tx st re sq op sh at_ mo to_ vo ac go s a m := by
  have hq := h.hsq
  have h1 := h.lto
  unfold rask_P rask_F askC
  rw [ref02_is]
  by_cases hb : (1 ≤ s ∧ s ≤ 64) ∧ resOk_F a = true ∧ (1 ≤ m ∧ m ≤ 4)
  · have hb' : ¬ (((((decide (s < 1)) || (decide (64 < s))) || (!((resOk_F a)))) || (decide (m < 1))) || (decide (4 < m))) = true := by
      simp only [Bool.or_eq_true, decide_eq_true_eq, Bool.not_eq_true']
      rintro ((((h | h) | h) | h) | h)
      · omega
      · omega
      · rw [hb.2.1] at h; cases h
      · omega
      · omega
    rw [if_neg hb', if_neg hb', if_pos hb]
    by_cases hs : st = 1
    · rw [if_pos hs, if_pos hs, if_pos hs]
      by_cases ho : op = true
      · rw [if_pos ho, if_pos ho, if_pos ho]
        exact ⟨trivial, rfl⟩
      · rw [if_neg ho, if_neg ho, if_neg ho]
        by_cases h6 : sq = 1048576
        · rw [if_pos (show 1048576 ≤ sq by omega), if_pos (show 1048576 ≤ sq by omega), if_pos h6]
          exact ⟨trivial, rfl⟩
        · rw [if_neg (show ¬ 1048576 ≤ sq by omega), if_neg (show ¬ 1048576 ≤ sq by omega), if_neg h6, rwith_is h.to1]
          exact ⟨⟨⟨by omega, by omega⟩, rwith_P_of (by omega) _, trivial⟩, rfl⟩
    · rw [if_neg hs, if_neg hs, if_neg hs]
      exact ⟨trivial, rfl⟩
  · have hb' : (((((decide (s < 1)) || (decide (64 < s))) || (!((resOk_F a)))) || (decide (m < 1))) || (decide (4 < m))) = true := by
      simp only [Bool.or_eq_true, decide_eq_true_eq, Bool.not_eq_true']
      cases hr : resOk_F a
      · simp
      · simp only [hr, true_and] at hb
        simp
        omega
    rw [if_pos hb', if_pos hb', if_neg hb]
    exact ⟨trivial, rfl⟩
theorem eqN_comm {k : Nat} {a b : Nat → Int} : eqN k a b = eqN k b a := by
  rw [Bool.eq_iff_iff, eqN_iff, eqN_iff]
  exact ⟨fun h i hi => (h i hi).symm, fun h i hi => (h i hi).symm⟩
theorem ranswered_is (h : TI n tx st re sq op sh at_ mo to_ vo ac go) (hn : n ≤ 1000000) (m : Nat → Int) :
    ranswered_P tx st re sq op sh at_ mo to_ vo ac go m ∧ ranswered_F tx st re sq op sh at_ mo to_ vo ac go m = ansC tx st re sq op sh at_ mo to_ vo ac go m := by
  have hg := h.hgo
  unfold ranswered_P ranswered_F ansC
  rw [eqN_comm (a := at_)]
  refine ⟨?_, ?_⟩
  · refine ite_intro (fun _ => trivial) (fun _ => ite_intro (fun _ => ite_intro (fun _ => trivial) (fun _ => ite_intro (fun _ => ?_) (fun _ => trivial))) (fun _ => trivial))
    refine ⟨⟨by omega, ?_, trivial⟩, trivial⟩
    simp only [List.nil_append]
    omega
  · by_cases hf : Form tx 2 m ∨ Form tx 3 m
    · rw [if_neg (by rw [Bool.and_eq_true, Bool.not_eq_true', Bool.not_eq_true', ← Bool.not_eq_true, ← Bool.not_eq_true, rform_iff, rform_iff]; exact fun e => hf.elim e.1 e.2), if_pos hf]
      by_cases hs : st = 1
      · rw [if_pos hs, if_pos hs]
        by_cases hc : op = true ∧ m 4 = sq ∧ m 1 = sh ∧ (m 0 = 2 → eqN 2 (fun i => m (5 + i)) at_ = true)
        · obtain ⟨h1, h2, h3, h4⟩ := id hc
          have hc' : ¬ ((((!(op)) || (!(decide (sq = m 4)))) || (!(decide (sh = m 1)))) || ((decide (m 0 = 2)) && (!((eqN 2 (fun i => m (5 + i)) at_))))) = true := by
            by_cases h5 : m 0 = 2
            · simp [h1, h2, h3, h4 h5]
            · simp [h1, h2, h3, h5]
          rw [if_neg hc', if_pos hc]
          by_cases h5 : m 0 = 2
          · rw [if_pos h5, if_pos h5]; rfl
          · rw [if_neg h5, if_neg h5]
        · have hc' : ((((!(op)) || (!(decide (sq = m 4)))) || (!(decide (sh = m 1)))) || ((decide (m 0 = 2)) && (!((eqN 2 (fun i => m (5 + i)) at_))))) = true := by
            simp only [Bool.or_eq_true, Bool.not_eq_true', decide_eq_false_iff_not, Bool.and_eq_true, decide_eq_true_eq]
            by_cases h1 : op = true
            · by_cases h2 : m 4 = sq
              · by_cases h3 : m 1 = sh
                · right
                  by_cases h4 : m 0 = 2 ∧ eqN 2 (fun i => m (5 + i)) at_ = false
                  · exact h4
                  · exfalso
                    refine hc ⟨h1, h2, h3, fun e => ?_⟩
                    cases hq : eqN 2 (fun i => m (5 + i)) at_
                    · exact absurd ⟨e, hq⟩ h4
                    · rfl
                · exact .inl (.inr fun e => h3 e.symm)
              · exact .inl (.inl (.inr fun e => h2 e.symm))
            · simp only [Bool.not_eq_true] at h1; exact .inl (.inl (.inl h1))
          rw [if_pos hc', if_neg hc]
      · rw [if_neg hs, if_neg hs]
    · rw [if_pos (by rw [Bool.and_eq_true, Bool.not_eq_true', Bool.not_eq_true', ← Bool.not_eq_true, ← Bool.not_eq_true, rform_iff, rform_iff]; exact ⟨fun e => hf (.inl e), fun e => hf (.inr e)⟩), if_neg hf]
theorem rfinish_is (h : TI n tx st re sq op sh at_ mo to_ vo ac go) :
    rfinish_P tx st re sq op sh at_ mo to_ vo ac go ∧ rfinish_F tx st re sq op sh at_ mo to_ vo ac go = finC tx st re sq op sh at_ mo to_ vo ac go := by
  have h1 := h.lto
  unfold rfinish_P rfinish_F finC
  refine ⟨ite_intro (fun _ => ite_intro (fun _ => trivial) (fun _ => ite_intro (fun _ => ⟨rdecide_P_of (by omega) (by omega), trivial⟩) (fun _ => ⟨⟨by omega, by simp⟩, trivial⟩))) (fun _ => trivial), ?_⟩
  by_cases hs : st = 1
  · rw [if_pos hs, if_pos hs]
    by_cases ho : op = true
    · rw [if_pos ho, if_pos ho]
    · rw [if_neg ho, if_neg ho]
      by_cases ht : to_ = []
      · rw [if_pos (len0.2 ht), if_pos ht, rdecide_is]; rfl
      · rw [if_neg (fun e => ht (len0.1 e)), if_neg ht]
        unfold each_F
        rw [leftL_nil]
  · rw [if_neg hs, if_neg hs]
theorem allV_iff {l v : List Int} : allV l v = true ↔ ∀ x ∈ l, x ∈ v := by
  unfold allV
  rw [all_left, decide_eq_true_iff]
  unfold leftL
  rw [List.filter_eq_nil_iff]
  refine forall_congr' fun x => forall_congr' fun _ => ?_
  unfold hasI_F
  simp
theorem all_len {l v : List Int} (hv : Rise v) (hl : Rise l) (hs : ∀ x ∈ v, x ∈ l) : allV l v = true ↔ ¬ v.length < l.length := by
  rw [allV_iff]
  constructor
  · intro h
    have := sub_len hl h
    omega
  · intro h x hx
    refine Classical.byContradiction fun hn => h ?_
    have := nodup_len (l := x :: v) (m := l) (List.nodup_cons.2 ⟨hn, rising_nodup hv⟩) (fun s hs' => (List.mem_cons.1 hs').elim (fun e => e ▸ hx) (hs s))
    rw [List.length_cons] at this
    exact this
theorem rvote_is (h : TI n tx st re sq op sh at_ mo to_ vo ac go) (m : Nat → Int) :
    rvote_P tx st re sq op sh at_ mo to_ vo ac go m ∧ rvote_F tx st re sq op sh at_ mo to_ vo ac go m = voteC tx st re sq op sh at_ mo to_ vo ac go m := by
  have h1 := h.lto
  have h2 := h.lvo
  refine ⟨⟨by omega, by omega⟩, ?_⟩
  unfold rvote_F voteC
  by_cases hf : Form tx 5 m
  · rw [if_pos (rform_iff.2 hf), if_pos hf]
    by_cases hs : st = 2
    · rw [if_pos hs, if_pos hs]
      by_cases hm : m 1 ∈ to_
      · rw [if_pos (show hasR_F to_ (m 1) = true from decide_eq_true hm), if_pos hm]
        by_cases h8 : m 8 = 0
        · rw [if_pos h8, if_pos h8, rdecide_is]; rfl
        · rw [if_neg h8, if_neg h8, rwith_is h.vo1]
          have ha := all_len (l := to_) (v := insI (m 1) vo) (rising_insI h.vo1) h.to1 (fun x hx => (mem_insI.1 hx).elim (fun e => e ▸ hm) (h.vo2 x))
          by_cases hl : (insI (m 1) vo).length < to_.length
          · rw [if_neg (fun e => ha.1 e hl), if_pos hl]
          · rw [if_pos (ha.2 hl), if_neg hl, rdecide_is]; rfl
      · rw [if_neg (show ¬ hasR_F to_ (m 1) = true by unfold hasR_F; simpa using hm), if_neg hm]
    · rw [if_neg hs, if_neg hs]
  · rw [if_neg (fun e => hf (rform_iff.1 e)), if_neg hf]
theorem rabort_is (h : TI n tx st re sq op sh at_ mo to_ vo ac go) (r : Int) :
    rabort_P tx st re sq op sh at_ mo to_ vo ac go r ∧ rabort_F tx st re sq op sh at_ mo to_ vo ac go r = abortC tx st re sq op sh at_ mo to_ vo ac go r := by
  have h1 := h.lto
  unfold rabort_P rabort_F abortC
  refine ⟨ite_intro (fun _ => trivial) (fun _ => ite_intro (fun _ => trivial) (fun _ => ⟨rdecide_P_of (by omega) (by omega), trivial⟩)), ?_⟩
  by_cases hr : 1 ≤ r ∧ r ≤ 5
  · rw [if_neg (by simp; omega), if_pos hr]
    by_cases hd : st = 3 ∨ st = 4
    · rw [if_pos (rdec_iff.2 hd), if_pos hd]
    · rw [if_neg (fun e => hd (rdec_iff.1 e)), if_neg hd, rdecide_is]; rfl
  · rw [if_pos (by simp; omega), if_neg hr]
theorem rack_is (h : TI n tx st re sq op sh at_ mo to_ vo ac go) (m : Nat → Int) :
    rack_P tx st re sq op sh at_ mo to_ vo ac go m ∧ rack_F tx st re sq op sh at_ mo to_ vo ac go m = ackC tx st re sq op sh at_ mo to_ vo ac go m := by
  have h1 := h.lto
  have h3 := h.lac
  unfold rack_P rack_F ackC
  refine ⟨ite_intro (fun _ => ite_intro (fun _ => ⟨by unfold hasR_P; omega, ite_intro (fun _ => ⟨rwith_P_of (by omega) _, trivial⟩) (fun _ => trivial)⟩) (fun _ => trivial)) (fun _ => trivial), ?_⟩
  by_cases hf : Form tx 7 m
  · rw [if_pos (rform_iff.2 hf), if_pos hf]
    by_cases hd : st = 3 ∨ st = 4
    · rw [if_pos (rdec_iff.2 hd), if_pos hd]
      by_cases hm : m 1 ∈ to_
      · rw [if_pos (show hasR_F to_ (m 1) = true from decide_eq_true hm), if_pos hm, rwith_is h.ac1]
      · rw [if_neg (show ¬ hasR_F to_ (m 1) = true by unfold hasR_F; simpa using hm), if_neg hm]
    · rw [if_neg (fun e => hd (rdec_iff.1 e)), if_neg hd]
  · rw [if_neg (fun e => hf (rform_iff.1 e)), if_neg hf]
end
end Go.E
/- What functions of the program say, as relations. -/
namespace Go.E
open Go
def want17_S (t0Tx : Int) (t0State : Int) (t0Reason : Int) (t0Seq : Int) (t0Open : Bool) (t0Shard : Int) (t0At : (Nat → Int)) (t0Mode : Int) (t0Touched : (List Int)) (t0Votes : (List Int)) (t0Acks : (List Int)) (t0Got : (List (Nat → Int))) (a1 : (Nat → Int)) (r : (Int × Int × Int × Int × Bool × Int × (Nat → Int) × Int × (List Int) × (List Int) × (List Int) × (List (Nat → Int))) × (List (Nat → Int)) × Int) : Prop :=
  if a1 0 = 0 then
    (rask_P t0Tx t0State t0Reason t0Seq t0Open t0Shard t0At t0Mode t0Touched t0Votes t0Acks t0Got (a1 1) (fun i => a1 (2 + i)) (a1 4)) ∧ (
    r = (((((rask_F t0Tx t0State t0Reason t0Seq t0Open t0Shard t0At t0Mode t0Touched t0Votes t0Acks t0Got (a1 1) (fun i => a1 (2 + i)) (a1 4)).1).1, ((rask_F t0Tx t0State t0Reason t0Seq t0Open t0Shard t0At t0Mode t0Touched t0Votes t0Acks t0Got (a1 1) (fun i => a1 (2 + i)) (a1 4)).1).2.1, ((rask_F t0Tx t0State t0Reason t0Seq t0Open t0Shard t0At t0Mode t0Touched t0Votes t0Acks t0Got (a1 1) (fun i => a1 (2 + i)) (a1 4)).1).2.2.1, ((rask_F t0Tx t0State t0Reason t0Seq t0Open t0Shard t0At t0Mode t0Touched t0Votes t0Acks t0Got (a1 1) (fun i => a1 (2 + i)) (a1 4)).1).2.2.2.1, ((rask_F t0Tx t0State t0Reason t0Seq t0Open t0Shard t0At t0Mode t0Touched t0Votes t0Acks t0Got (a1 1) (fun i => a1 (2 + i)) (a1 4)).1).2.2.2.2.1, ((rask_F t0Tx t0State t0Reason t0Seq t0Open t0Shard t0At t0Mode t0Touched t0Votes t0Acks t0Got (a1 1) (fun i => a1 (2 + i)) (a1 4)).1).2.2.2.2.2.1, ((rask_F t0Tx t0State t0Reason t0Seq t0Open t0Shard t0At t0Mode t0Touched t0Votes t0Acks t0Got (a1 1) (fun i => a1 (2 + i)) (a1 4)).1).2.2.2.2.2.2.1, ((rask_F t0Tx t0State t0Reason t0Seq t0Open t0Shard t0At t0Mode t0Touched t0Votes t0Acks t0Got (a1 1) (fun i => a1 (2 + i)) (a1 4)).1).2.2.2.2.2.2.2.1, ((rask_F t0Tx t0State t0Reason t0Seq t0Open t0Shard t0At t0Mode t0Touched t0Votes t0Acks t0Got (a1 1) (fun i => a1 (2 + i)) (a1 4)).1).2.2.2.2.2.2.2.2.1, ((rask_F t0Tx t0State t0Reason t0Seq t0Open t0Shard t0At t0Mode t0Touched t0Votes t0Acks t0Got (a1 1) (fun i => a1 (2 + i)) (a1 4)).1).2.2.2.2.2.2.2.2.2.1, ((rask_F t0Tx t0State t0Reason t0Seq t0Open t0Shard t0At t0Mode t0Touched t0Votes t0Acks t0Got (a1 1) (fun i => a1 (2 + i)) (a1 4)).1).2.2.2.2.2.2.2.2.2.2.1, ((rask_F t0Tx t0State t0Reason t0Seq t0Open t0Shard t0At t0Mode t0Touched t0Votes t0Acks t0Got (a1 1) (fun i => a1 (2 + i)) (a1 4)).1).2.2.2.2.2.2.2.2.2.2.2), (rask_F t0Tx t0State t0Reason t0Seq t0Open t0Shard t0At t0Mode t0Touched t0Votes t0Acks t0Got (a1 1) (fun i => a1 (2 + i)) (a1 4)).2.1, (rask_F t0Tx t0State t0Reason t0Seq t0Open t0Shard t0At t0Mode t0Touched t0Votes t0Acks t0Got (a1 1) (fun i => a1 (2 + i)) (a1 4)).2.2)))
  else
    if a1 0 = 1 then
      (ranswered_P t0Tx t0State t0Reason t0Seq t0Open t0Shard t0At t0Mode t0Touched t0Votes t0Acks t0Got (fun i => a1 (5 + i))) ∧ (
      r = (((((ranswered_F t0Tx t0State t0Reason t0Seq t0Open t0Shard t0At t0Mode t0Touched t0Votes t0Acks t0Got (fun i => a1 (5 + i))).1).1, ((ranswered_F t0Tx t0State t0Reason t0Seq t0Open t0Shard t0At t0Mode t0Touched t0Votes t0Acks t0Got (fun i => a1 (5 + i))).1).2.1, ((ranswered_F t0Tx t0State t0Reason t0Seq t0Open t0Shard t0At t0Mode t0Touched t0Votes t0Acks t0Got (fun i => a1 (5 + i))).1).2.2.1, ((ranswered_F t0Tx t0State t0Reason t0Seq t0Open t0Shard t0At t0Mode t0Touched t0Votes t0Acks t0Got (fun i => a1 (5 + i))).1).2.2.2.1, ((ranswered_F t0Tx t0State t0Reason t0Seq t0Open t0Shard t0At t0Mode t0Touched t0Votes t0Acks t0Got (fun i => a1 (5 + i))).1).2.2.2.2.1, ((ranswered_F t0Tx t0State t0Reason t0Seq t0Open t0Shard t0At t0Mode t0Touched t0Votes t0Acks t0Got (fun i => a1 (5 + i))).1).2.2.2.2.2.1, ((ranswered_F t0Tx t0State t0Reason t0Seq t0Open t0Shard t0At t0Mode t0Touched t0Votes t0Acks t0Got (fun i => a1 (5 + i))).1).2.2.2.2.2.2.1, ((ranswered_F t0Tx t0State t0Reason t0Seq t0Open t0Shard t0At t0Mode t0Touched t0Votes t0Acks t0Got (fun i => a1 (5 + i))).1).2.2.2.2.2.2.2.1, ((ranswered_F t0Tx t0State t0Reason t0Seq t0Open t0Shard t0At t0Mode t0Touched t0Votes t0Acks t0Got (fun i => a1 (5 + i))).1).2.2.2.2.2.2.2.2.1, ((ranswered_F t0Tx t0State t0Reason t0Seq t0Open t0Shard t0At t0Mode t0Touched t0Votes t0Acks t0Got (fun i => a1 (5 + i))).1).2.2.2.2.2.2.2.2.2.1, ((ranswered_F t0Tx t0State t0Reason t0Seq t0Open t0Shard t0At t0Mode t0Touched t0Votes t0Acks t0Got (fun i => a1 (5 + i))).1).2.2.2.2.2.2.2.2.2.2.1, ((ranswered_F t0Tx t0State t0Reason t0Seq t0Open t0Shard t0At t0Mode t0Touched t0Votes t0Acks t0Got (fun i => a1 (5 + i))).1).2.2.2.2.2.2.2.2.2.2.2), [], (ranswered_F t0Tx t0State t0Reason t0Seq t0Open t0Shard t0At t0Mode t0Touched t0Votes t0Acks t0Got (fun i => a1 (5 + i))).2)))
    else
      if a1 0 = 2 then
        (rfinish_P t0Tx t0State t0Reason t0Seq t0Open t0Shard t0At t0Mode t0Touched t0Votes t0Acks t0Got) ∧ (
        r = (((((rfinish_F t0Tx t0State t0Reason t0Seq t0Open t0Shard t0At t0Mode t0Touched t0Votes t0Acks t0Got).1).1, ((rfinish_F t0Tx t0State t0Reason t0Seq t0Open t0Shard t0At t0Mode t0Touched t0Votes t0Acks t0Got).1).2.1, ((rfinish_F t0Tx t0State t0Reason t0Seq t0Open t0Shard t0At t0Mode t0Touched t0Votes t0Acks t0Got).1).2.2.1, ((rfinish_F t0Tx t0State t0Reason t0Seq t0Open t0Shard t0At t0Mode t0Touched t0Votes t0Acks t0Got).1).2.2.2.1, ((rfinish_F t0Tx t0State t0Reason t0Seq t0Open t0Shard t0At t0Mode t0Touched t0Votes t0Acks t0Got).1).2.2.2.2.1, ((rfinish_F t0Tx t0State t0Reason t0Seq t0Open t0Shard t0At t0Mode t0Touched t0Votes t0Acks t0Got).1).2.2.2.2.2.1, ((rfinish_F t0Tx t0State t0Reason t0Seq t0Open t0Shard t0At t0Mode t0Touched t0Votes t0Acks t0Got).1).2.2.2.2.2.2.1, ((rfinish_F t0Tx t0State t0Reason t0Seq t0Open t0Shard t0At t0Mode t0Touched t0Votes t0Acks t0Got).1).2.2.2.2.2.2.2.1, ((rfinish_F t0Tx t0State t0Reason t0Seq t0Open t0Shard t0At t0Mode t0Touched t0Votes t0Acks t0Got).1).2.2.2.2.2.2.2.2.1, ((rfinish_F t0Tx t0State t0Reason t0Seq t0Open t0Shard t0At t0Mode t0Touched t0Votes t0Acks t0Got).1).2.2.2.2.2.2.2.2.2.1, ((rfinish_F t0Tx t0State t0Reason t0Seq t0Open t0Shard t0At t0Mode t0Touched t0Votes t0Acks t0Got).1).2.2.2.2.2.2.2.2.2.2.1, ((rfinish_F t0Tx t0State t0Reason t0Seq t0Open t0Shard t0At t0Mode t0Touched t0Votes t0Acks t0Got).1).2.2.2.2.2.2.2.2.2.2.2), (rfinish_F t0Tx t0State t0Reason t0Seq t0Open t0Shard t0At t0Mode t0Touched t0Votes t0Acks t0Got).2.1, (rfinish_F t0Tx t0State t0Reason t0Seq t0Open t0Shard t0At t0Mode t0Touched t0Votes t0Acks t0Got).2.2)))
      else
        if a1 0 = 3 then
          (rvote_P t0Tx t0State t0Reason t0Seq t0Open t0Shard t0At t0Mode t0Touched t0Votes t0Acks t0Got (fun i => a1 (5 + i))) ∧ (
          r = (((((rvote_F t0Tx t0State t0Reason t0Seq t0Open t0Shard t0At t0Mode t0Touched t0Votes t0Acks t0Got (fun i => a1 (5 + i))).1).1, ((rvote_F t0Tx t0State t0Reason t0Seq t0Open t0Shard t0At t0Mode t0Touched t0Votes t0Acks t0Got (fun i => a1 (5 + i))).1).2.1, ((rvote_F t0Tx t0State t0Reason t0Seq t0Open t0Shard t0At t0Mode t0Touched t0Votes t0Acks t0Got (fun i => a1 (5 + i))).1).2.2.1, ((rvote_F t0Tx t0State t0Reason t0Seq t0Open t0Shard t0At t0Mode t0Touched t0Votes t0Acks t0Got (fun i => a1 (5 + i))).1).2.2.2.1, ((rvote_F t0Tx t0State t0Reason t0Seq t0Open t0Shard t0At t0Mode t0Touched t0Votes t0Acks t0Got (fun i => a1 (5 + i))).1).2.2.2.2.1, ((rvote_F t0Tx t0State t0Reason t0Seq t0Open t0Shard t0At t0Mode t0Touched t0Votes t0Acks t0Got (fun i => a1 (5 + i))).1).2.2.2.2.2.1, ((rvote_F t0Tx t0State t0Reason t0Seq t0Open t0Shard t0At t0Mode t0Touched t0Votes t0Acks t0Got (fun i => a1 (5 + i))).1).2.2.2.2.2.2.1, ((rvote_F t0Tx t0State t0Reason t0Seq t0Open t0Shard t0At t0Mode t0Touched t0Votes t0Acks t0Got (fun i => a1 (5 + i))).1).2.2.2.2.2.2.2.1, ((rvote_F t0Tx t0State t0Reason t0Seq t0Open t0Shard t0At t0Mode t0Touched t0Votes t0Acks t0Got (fun i => a1 (5 + i))).1).2.2.2.2.2.2.2.2.1, ((rvote_F t0Tx t0State t0Reason t0Seq t0Open t0Shard t0At t0Mode t0Touched t0Votes t0Acks t0Got (fun i => a1 (5 + i))).1).2.2.2.2.2.2.2.2.2.1, ((rvote_F t0Tx t0State t0Reason t0Seq t0Open t0Shard t0At t0Mode t0Touched t0Votes t0Acks t0Got (fun i => a1 (5 + i))).1).2.2.2.2.2.2.2.2.2.2.1, ((rvote_F t0Tx t0State t0Reason t0Seq t0Open t0Shard t0At t0Mode t0Touched t0Votes t0Acks t0Got (fun i => a1 (5 + i))).1).2.2.2.2.2.2.2.2.2.2.2), (rvote_F t0Tx t0State t0Reason t0Seq t0Open t0Shard t0At t0Mode t0Touched t0Votes t0Acks t0Got (fun i => a1 (5 + i))).2.1, (rvote_F t0Tx t0State t0Reason t0Seq t0Open t0Shard t0At t0Mode t0Touched t0Votes t0Acks t0Got (fun i => a1 (5 + i))).2.2)))
        else
          if a1 0 = 4 then
            (rabort_P t0Tx t0State t0Reason t0Seq t0Open t0Shard t0At t0Mode t0Touched t0Votes t0Acks t0Got (a1 1)) ∧ (
            r = (((((rabort_F t0Tx t0State t0Reason t0Seq t0Open t0Shard t0At t0Mode t0Touched t0Votes t0Acks t0Got (a1 1)).1).1, ((rabort_F t0Tx t0State t0Reason t0Seq t0Open t0Shard t0At t0Mode t0Touched t0Votes t0Acks t0Got (a1 1)).1).2.1, ((rabort_F t0Tx t0State t0Reason t0Seq t0Open t0Shard t0At t0Mode t0Touched t0Votes t0Acks t0Got (a1 1)).1).2.2.1, ((rabort_F t0Tx t0State t0Reason t0Seq t0Open t0Shard t0At t0Mode t0Touched t0Votes t0Acks t0Got (a1 1)).1).2.2.2.1, ((rabort_F t0Tx t0State t0Reason t0Seq t0Open t0Shard t0At t0Mode t0Touched t0Votes t0Acks t0Got (a1 1)).1).2.2.2.2.1, ((rabort_F t0Tx t0State t0Reason t0Seq t0Open t0Shard t0At t0Mode t0Touched t0Votes t0Acks t0Got (a1 1)).1).2.2.2.2.2.1, ((rabort_F t0Tx t0State t0Reason t0Seq t0Open t0Shard t0At t0Mode t0Touched t0Votes t0Acks t0Got (a1 1)).1).2.2.2.2.2.2.1, ((rabort_F t0Tx t0State t0Reason t0Seq t0Open t0Shard t0At t0Mode t0Touched t0Votes t0Acks t0Got (a1 1)).1).2.2.2.2.2.2.2.1, ((rabort_F t0Tx t0State t0Reason t0Seq t0Open t0Shard t0At t0Mode t0Touched t0Votes t0Acks t0Got (a1 1)).1).2.2.2.2.2.2.2.2.1, ((rabort_F t0Tx t0State t0Reason t0Seq t0Open t0Shard t0At t0Mode t0Touched t0Votes t0Acks t0Got (a1 1)).1).2.2.2.2.2.2.2.2.2.1, ((rabort_F t0Tx t0State t0Reason t0Seq t0Open t0Shard t0At t0Mode t0Touched t0Votes t0Acks t0Got (a1 1)).1).2.2.2.2.2.2.2.2.2.2.1, ((rabort_F t0Tx t0State t0Reason t0Seq t0Open t0Shard t0At t0Mode t0Touched t0Votes t0Acks t0Got (a1 1)).1).2.2.2.2.2.2.2.2.2.2.2), (rabort_F t0Tx t0State t0Reason t0Seq t0Open t0Shard t0At t0Mode t0Touched t0Votes t0Acks t0Got (a1 1)).2.1, (rabort_F t0Tx t0State t0Reason t0Seq t0Open t0Shard t0At t0Mode t0Touched t0Votes t0Acks t0Got (a1 1)).2.2)))
          else
            if a1 0 = 5 then
              (rack_P t0Tx t0State t0Reason t0Seq t0Open t0Shard t0At t0Mode t0Touched t0Votes t0Acks t0Got (fun i => a1 (5 + i))) ∧ (
              r = (((((rack_F t0Tx t0State t0Reason t0Seq t0Open t0Shard t0At t0Mode t0Touched t0Votes t0Acks t0Got (fun i => a1 (5 + i))).1).1, ((rack_F t0Tx t0State t0Reason t0Seq t0Open t0Shard t0At t0Mode t0Touched t0Votes t0Acks t0Got (fun i => a1 (5 + i))).1).2.1, ((rack_F t0Tx t0State t0Reason t0Seq t0Open t0Shard t0At t0Mode t0Touched t0Votes t0Acks t0Got (fun i => a1 (5 + i))).1).2.2.1, ((rack_F t0Tx t0State t0Reason t0Seq t0Open t0Shard t0At t0Mode t0Touched t0Votes t0Acks t0Got (fun i => a1 (5 + i))).1).2.2.2.1, ((rack_F t0Tx t0State t0Reason t0Seq t0Open t0Shard t0At t0Mode t0Touched t0Votes t0Acks t0Got (fun i => a1 (5 + i))).1).2.2.2.2.1, ((rack_F t0Tx t0State t0Reason t0Seq t0Open t0Shard t0At t0Mode t0Touched t0Votes t0Acks t0Got (fun i => a1 (5 + i))).1).2.2.2.2.2.1, ((rack_F t0Tx t0State t0Reason t0Seq t0Open t0Shard t0At t0Mode t0Touched t0Votes t0Acks t0Got (fun i => a1 (5 + i))).1).2.2.2.2.2.2.1, ((rack_F t0Tx t0State t0Reason t0Seq t0Open t0Shard t0At t0Mode t0Touched t0Votes t0Acks t0Got (fun i => a1 (5 + i))).1).2.2.2.2.2.2.2.1, ((rack_F t0Tx t0State t0Reason t0Seq t0Open t0Shard t0At t0Mode t0Touched t0Votes t0Acks t0Got (fun i => a1 (5 + i))).1).2.2.2.2.2.2.2.2.1, ((rack_F t0Tx t0State t0Reason t0Seq t0Open t0Shard t0At t0Mode t0Touched t0Votes t0Acks t0Got (fun i => a1 (5 + i))).1).2.2.2.2.2.2.2.2.2.1, ((rack_F t0Tx t0State t0Reason t0Seq t0Open t0Shard t0At t0Mode t0Touched t0Votes t0Acks t0Got (fun i => a1 (5 + i))).1).2.2.2.2.2.2.2.2.2.2.1, ((rack_F t0Tx t0State t0Reason t0Seq t0Open t0Shard t0At t0Mode t0Touched t0Votes t0Acks t0Got (fun i => a1 (5 + i))).1).2.2.2.2.2.2.2.2.2.2.2), [], (rack_F t0Tx t0State t0Reason t0Seq t0Open t0Shard t0At t0Mode t0Touched t0Votes t0Acks t0Got (fun i => a1 (5 + i))).2)))
            else
              r = (((t0Tx, t0State, t0Reason, t0Seq, t0Open, t0Shard, t0At, t0Mode, t0Touched, t0Votes, t0Acks, t0Got), [], 0))
def want17_F (t0Tx : Int) (t0State : Int) (t0Reason : Int) (t0Seq : Int) (t0Open : Bool) (t0Shard : Int) (t0At : (Nat → Int)) (t0Mode : Int) (t0Touched : (List Int)) (t0Votes : (List Int)) (t0Acks : (List Int)) (t0Got : (List (Nat → Int))) (a1 : (Nat → Int)) : (Int × Int × Int × Int × Bool × Int × (Nat → Int) × Int × (List Int) × (List Int) × (List Int) × (List (Nat → Int))) × (List (Nat → Int)) × Int :=
  if a1 0 = 0 then
    ((((rask_F t0Tx t0State t0Reason t0Seq t0Open t0Shard t0At t0Mode t0Touched t0Votes t0Acks t0Got (a1 1) (fun i => a1 (2 + i)) (a1 4)).1).1, ((rask_F t0Tx t0State t0Reason t0Seq t0Open t0Shard t0At t0Mode t0Touched t0Votes t0Acks t0Got (a1 1) (fun i => a1 (2 + i)) (a1 4)).1).2.1, ((rask_F t0Tx t0State t0Reason t0Seq t0Open t0Shard t0At t0Mode t0Touched t0Votes t0Acks t0Got (a1 1) (fun i => a1 (2 + i)) (a1 4)).1).2.2.1, ((rask_F t0Tx t0State t0Reason t0Seq t0Open t0Shard t0At t0Mode t0Touched t0Votes t0Acks t0Got (a1 1) (fun i => a1 (2 + i)) (a1 4)).1).2.2.2.1, ((rask_F t0Tx t0State t0Reason t0Seq t0Open t0Shard t0At t0Mode t0Touched t0Votes t0Acks t0Got (a1 1) (fun i => a1 (2 + i)) (a1 4)).1).2.2.2.2.1, ((rask_F t0Tx t0State t0Reason t0Seq t0Open t0Shard t0At t0Mode t0Touched t0Votes t0Acks t0Got (a1 1) (fun i => a1 (2 + i)) (a1 4)).1).2.2.2.2.2.1, ((rask_F t0Tx t0State t0Reason t0Seq t0Open t0Shard t0At t0Mode t0Touched t0Votes t0Acks t0Got (a1 1) (fun i => a1 (2 + i)) (a1 4)).1).2.2.2.2.2.2.1, ((rask_F t0Tx t0State t0Reason t0Seq t0Open t0Shard t0At t0Mode t0Touched t0Votes t0Acks t0Got (a1 1) (fun i => a1 (2 + i)) (a1 4)).1).2.2.2.2.2.2.2.1, ((rask_F t0Tx t0State t0Reason t0Seq t0Open t0Shard t0At t0Mode t0Touched t0Votes t0Acks t0Got (a1 1) (fun i => a1 (2 + i)) (a1 4)).1).2.2.2.2.2.2.2.2.1, ((rask_F t0Tx t0State t0Reason t0Seq t0Open t0Shard t0At t0Mode t0Touched t0Votes t0Acks t0Got (a1 1) (fun i => a1 (2 + i)) (a1 4)).1).2.2.2.2.2.2.2.2.2.1, ((rask_F t0Tx t0State t0Reason t0Seq t0Open t0Shard t0At t0Mode t0Touched t0Votes t0Acks t0Got (a1 1) (fun i => a1 (2 + i)) (a1 4)).1).2.2.2.2.2.2.2.2.2.2.1, ((rask_F t0Tx t0State t0Reason t0Seq t0Open t0Shard t0At t0Mode t0Touched t0Votes t0Acks t0Got (a1 1) (fun i => a1 (2 + i)) (a1 4)).1).2.2.2.2.2.2.2.2.2.2.2), (rask_F t0Tx t0State t0Reason t0Seq t0Open t0Shard t0At t0Mode t0Touched t0Votes t0Acks t0Got (a1 1) (fun i => a1 (2 + i)) (a1 4)).2.1, (rask_F t0Tx t0State t0Reason t0Seq t0Open t0Shard t0At t0Mode t0Touched t0Votes t0Acks t0Got (a1 1) (fun i => a1 (2 + i)) (a1 4)).2.2)
  else
    if a1 0 = 1 then
      ((((ranswered_F t0Tx t0State t0Reason t0Seq t0Open t0Shard t0At t0Mode t0Touched t0Votes t0Acks t0Got (fun i => a1 (5 + i))).1).1, ((ranswered_F t0Tx t0State t0Reason t0Seq t0Open t0Shard t0At t0Mode t0Touched t0Votes t0Acks t0Got (fun i => a1 (5 + i))).1).2.1, ((ranswered_F t0Tx t0State t0Reason t0Seq t0Open t0Shard t0At t0Mode t0Touched t0Votes t0Acks t0Got (fun i => a1 (5 + i))).1).2.2.1, ((ranswered_F t0Tx t0State t0Reason t0Seq t0Open t0Shard t0At t0Mode t0Touched t0Votes t0Acks t0Got (fun i => a1 (5 + i))).1).2.2.2.1, ((ranswered_F t0Tx t0State t0Reason t0Seq t0Open t0Shard t0At t0Mode t0Touched t0Votes t0Acks t0Got (fun i => a1 (5 + i))).1).2.2.2.2.1, ((ranswered_F t0Tx t0State t0Reason t0Seq t0Open t0Shard t0At t0Mode t0Touched t0Votes t0Acks t0Got (fun i => a1 (5 + i))).1).2.2.2.2.2.1, ((ranswered_F t0Tx t0State t0Reason t0Seq t0Open t0Shard t0At t0Mode t0Touched t0Votes t0Acks t0Got (fun i => a1 (5 + i))).1).2.2.2.2.2.2.1, ((ranswered_F t0Tx t0State t0Reason t0Seq t0Open t0Shard t0At t0Mode t0Touched t0Votes t0Acks t0Got (fun i => a1 (5 + i))).1).2.2.2.2.2.2.2.1, ((ranswered_F t0Tx t0State t0Reason t0Seq t0Open t0Shard t0At t0Mode t0Touched t0Votes t0Acks t0Got (fun i => a1 (5 + i))).1).2.2.2.2.2.2.2.2.1, ((ranswered_F t0Tx t0State t0Reason t0Seq t0Open t0Shard t0At t0Mode t0Touched t0Votes t0Acks t0Got (fun i => a1 (5 + i))).1).2.2.2.2.2.2.2.2.2.1, ((ranswered_F t0Tx t0State t0Reason t0Seq t0Open t0Shard t0At t0Mode t0Touched t0Votes t0Acks t0Got (fun i => a1 (5 + i))).1).2.2.2.2.2.2.2.2.2.2.1, ((ranswered_F t0Tx t0State t0Reason t0Seq t0Open t0Shard t0At t0Mode t0Touched t0Votes t0Acks t0Got (fun i => a1 (5 + i))).1).2.2.2.2.2.2.2.2.2.2.2), [], (ranswered_F t0Tx t0State t0Reason t0Seq t0Open t0Shard t0At t0Mode t0Touched t0Votes t0Acks t0Got (fun i => a1 (5 + i))).2)
    else
      if a1 0 = 2 then
        ((((rfinish_F t0Tx t0State t0Reason t0Seq t0Open t0Shard t0At t0Mode t0Touched t0Votes t0Acks t0Got).1).1, ((rfinish_F t0Tx t0State t0Reason t0Seq t0Open t0Shard t0At t0Mode t0Touched t0Votes t0Acks t0Got).1).2.1, ((rfinish_F t0Tx t0State t0Reason t0Seq t0Open t0Shard t0At t0Mode t0Touched t0Votes t0Acks t0Got).1).2.2.1, ((rfinish_F t0Tx t0State t0Reason t0Seq t0Open t0Shard t0At t0Mode t0Touched t0Votes t0Acks t0Got).1).2.2.2.1, ((rfinish_F t0Tx t0State t0Reason t0Seq t0Open t0Shard t0At t0Mode t0Touched t0Votes t0Acks t0Got).1).2.2.2.2.1, ((rfinish_F t0Tx t0State t0Reason t0Seq t0Open t0Shard t0At t0Mode t0Touched t0Votes t0Acks t0Got).1).2.2.2.2.2.1, ((rfinish_F t0Tx t0State t0Reason t0Seq t0Open t0Shard t0At t0Mode t0Touched t0Votes t0Acks t0Got).1).2.2.2.2.2.2.1, ((rfinish_F t0Tx t0State t0Reason t0Seq t0Open t0Shard t0At t0Mode t0Touched t0Votes t0Acks t0Got).1).2.2.2.2.2.2.2.1, ((rfinish_F t0Tx t0State t0Reason t0Seq t0Open t0Shard t0At t0Mode t0Touched t0Votes t0Acks t0Got).1).2.2.2.2.2.2.2.2.1, ((rfinish_F t0Tx t0State t0Reason t0Seq t0Open t0Shard t0At t0Mode t0Touched t0Votes t0Acks t0Got).1).2.2.2.2.2.2.2.2.2.1, ((rfinish_F t0Tx t0State t0Reason t0Seq t0Open t0Shard t0At t0Mode t0Touched t0Votes t0Acks t0Got).1).2.2.2.2.2.2.2.2.2.2.1, ((rfinish_F t0Tx t0State t0Reason t0Seq t0Open t0Shard t0At t0Mode t0Touched t0Votes t0Acks t0Got).1).2.2.2.2.2.2.2.2.2.2.2), (rfinish_F t0Tx t0State t0Reason t0Seq t0Open t0Shard t0At t0Mode t0Touched t0Votes t0Acks t0Got).2.1, (rfinish_F t0Tx t0State t0Reason t0Seq t0Open t0Shard t0At t0Mode t0Touched t0Votes t0Acks t0Got).2.2)
      else
        if a1 0 = 3 then
          ((((rvote_F t0Tx t0State t0Reason t0Seq t0Open t0Shard t0At t0Mode t0Touched t0Votes t0Acks t0Got (fun i => a1 (5 + i))).1).1, ((rvote_F t0Tx t0State t0Reason t0Seq t0Open t0Shard t0At t0Mode t0Touched t0Votes t0Acks t0Got (fun i => a1 (5 + i))).1).2.1, ((rvote_F t0Tx t0State t0Reason t0Seq t0Open t0Shard t0At t0Mode t0Touched t0Votes t0Acks t0Got (fun i => a1 (5 + i))).1).2.2.1, ((rvote_F t0Tx t0State t0Reason t0Seq t0Open t0Shard t0At t0Mode t0Touched t0Votes t0Acks t0Got (fun i => a1 (5 + i))).1).2.2.2.1, ((rvote_F t0Tx t0State t0Reason t0Seq t0Open t0Shard t0At t0Mode t0Touched t0Votes t0Acks t0Got (fun i => a1 (5 + i))).1).2.2.2.2.1, ((rvote_F t0Tx t0State t0Reason t0Seq t0Open t0Shard t0At t0Mode t0Touched t0Votes t0Acks t0Got (fun i => a1 (5 + i))).1).2.2.2.2.2.1, ((rvote_F t0Tx t0State t0Reason t0Seq t0Open t0Shard t0At t0Mode t0Touched t0Votes t0Acks t0Got (fun i => a1 (5 + i))).1).2.2.2.2.2.2.1, ((rvote_F t0Tx t0State t0Reason t0Seq t0Open t0Shard t0At t0Mode t0Touched t0Votes t0Acks t0Got (fun i => a1 (5 + i))).1).2.2.2.2.2.2.2.1, ((rvote_F t0Tx t0State t0Reason t0Seq t0Open t0Shard t0At t0Mode t0Touched t0Votes t0Acks t0Got (fun i => a1 (5 + i))).1).2.2.2.2.2.2.2.2.1, ((rvote_F t0Tx t0State t0Reason t0Seq t0Open t0Shard t0At t0Mode t0Touched t0Votes t0Acks t0Got (fun i => a1 (5 + i))).1).2.2.2.2.2.2.2.2.2.1, ((rvote_F t0Tx t0State t0Reason t0Seq t0Open t0Shard t0At t0Mode t0Touched t0Votes t0Acks t0Got (fun i => a1 (5 + i))).1).2.2.2.2.2.2.2.2.2.2.1, ((rvote_F t0Tx t0State t0Reason t0Seq t0Open t0Shard t0At t0Mode t0Touched t0Votes t0Acks t0Got (fun i => a1 (5 + i))).1).2.2.2.2.2.2.2.2.2.2.2), (rvote_F t0Tx t0State t0Reason t0Seq t0Open t0Shard t0At t0Mode t0Touched t0Votes t0Acks t0Got (fun i => a1 (5 + i))).2.1, (rvote_F t0Tx t0State t0Reason t0Seq t0Open t0Shard t0At t0Mode t0Touched t0Votes t0Acks t0Got (fun i => a1 (5 + i))).2.2)
        else
          if a1 0 = 4 then
            ((((rabort_F t0Tx t0State t0Reason t0Seq t0Open t0Shard t0At t0Mode t0Touched t0Votes t0Acks t0Got (a1 1)).1).1, ((rabort_F t0Tx t0State t0Reason t0Seq t0Open t0Shard t0At t0Mode t0Touched t0Votes t0Acks t0Got (a1 1)).1).2.1, ((rabort_F t0Tx t0State t0Reason t0Seq t0Open t0Shard t0At t0Mode t0Touched t0Votes t0Acks t0Got (a1 1)).1).2.2.1, ((rabort_F t0Tx t0State t0Reason t0Seq t0Open t0Shard t0At t0Mode t0Touched t0Votes t0Acks t0Got (a1 1)).1).2.2.2.1, ((rabort_F t0Tx t0State t0Reason t0Seq t0Open t0Shard t0At t0Mode t0Touched t0Votes t0Acks t0Got (a1 1)).1).2.2.2.2.1, ((rabort_F t0Tx t0State t0Reason t0Seq t0Open t0Shard t0At t0Mode t0Touched t0Votes t0Acks t0Got (a1 1)).1).2.2.2.2.2.1, ((rabort_F t0Tx t0State t0Reason t0Seq t0Open t0Shard t0At t0Mode t0Touched t0Votes t0Acks t0Got (a1 1)).1).2.2.2.2.2.2.1, ((rabort_F t0Tx t0State t0Reason t0Seq t0Open t0Shard t0At t0Mode t0Touched t0Votes t0Acks t0Got (a1 1)).1).2.2.2.2.2.2.2.1, ((rabort_F t0Tx t0State t0Reason t0Seq t0Open t0Shard t0At t0Mode t0Touched t0Votes t0Acks t0Got (a1 1)).1).2.2.2.2.2.2.2.2.1, ((rabort_F t0Tx t0State t0Reason t0Seq t0Open t0Shard t0At t0Mode t0Touched t0Votes t0Acks t0Got (a1 1)).1).2.2.2.2.2.2.2.2.2.1, ((rabort_F t0Tx t0State t0Reason t0Seq t0Open t0Shard t0At t0Mode t0Touched t0Votes t0Acks t0Got (a1 1)).1).2.2.2.2.2.2.2.2.2.2.1, ((rabort_F t0Tx t0State t0Reason t0Seq t0Open t0Shard t0At t0Mode t0Touched t0Votes t0Acks t0Got (a1 1)).1).2.2.2.2.2.2.2.2.2.2.2), (rabort_F t0Tx t0State t0Reason t0Seq t0Open t0Shard t0At t0Mode t0Touched t0Votes t0Acks t0Got (a1 1)).2.1, (rabort_F t0Tx t0State t0Reason t0Seq t0Open t0Shard t0At t0Mode t0Touched t0Votes t0Acks t0Got (a1 1)).2.2)
          else
            if a1 0 = 5 then
              ((((rack_F t0Tx t0State t0Reason t0Seq t0Open t0Shard t0At t0Mode t0Touched t0Votes t0Acks t0Got (fun i => a1 (5 + i))).1).1, ((rack_F t0Tx t0State t0Reason t0Seq t0Open t0Shard t0At t0Mode t0Touched t0Votes t0Acks t0Got (fun i => a1 (5 + i))).1).2.1, ((rack_F t0Tx t0State t0Reason t0Seq t0Open t0Shard t0At t0Mode t0Touched t0Votes t0Acks t0Got (fun i => a1 (5 + i))).1).2.2.1, ((rack_F t0Tx t0State t0Reason t0Seq t0Open t0Shard t0At t0Mode t0Touched t0Votes t0Acks t0Got (fun i => a1 (5 + i))).1).2.2.2.1, ((rack_F t0Tx t0State t0Reason t0Seq t0Open t0Shard t0At t0Mode t0Touched t0Votes t0Acks t0Got (fun i => a1 (5 + i))).1).2.2.2.2.1, ((rack_F t0Tx t0State t0Reason t0Seq t0Open t0Shard t0At t0Mode t0Touched t0Votes t0Acks t0Got (fun i => a1 (5 + i))).1).2.2.2.2.2.1, ((rack_F t0Tx t0State t0Reason t0Seq t0Open t0Shard t0At t0Mode t0Touched t0Votes t0Acks t0Got (fun i => a1 (5 + i))).1).2.2.2.2.2.2.1, ((rack_F t0Tx t0State t0Reason t0Seq t0Open t0Shard t0At t0Mode t0Touched t0Votes t0Acks t0Got (fun i => a1 (5 + i))).1).2.2.2.2.2.2.2.1, ((rack_F t0Tx t0State t0Reason t0Seq t0Open t0Shard t0At t0Mode t0Touched t0Votes t0Acks t0Got (fun i => a1 (5 + i))).1).2.2.2.2.2.2.2.2.1, ((rack_F t0Tx t0State t0Reason t0Seq t0Open t0Shard t0At t0Mode t0Touched t0Votes t0Acks t0Got (fun i => a1 (5 + i))).1).2.2.2.2.2.2.2.2.2.1, ((rack_F t0Tx t0State t0Reason t0Seq t0Open t0Shard t0At t0Mode t0Touched t0Votes t0Acks t0Got (fun i => a1 (5 + i))).1).2.2.2.2.2.2.2.2.2.2.1, ((rack_F t0Tx t0State t0Reason t0Seq t0Open t0Shard t0At t0Mode t0Touched t0Votes t0Acks t0Got (fun i => a1 (5 + i))).1).2.2.2.2.2.2.2.2.2.2.2), [], (rack_F t0Tx t0State t0Reason t0Seq t0Open t0Shard t0At t0Mode t0Touched t0Votes t0Acks t0Got (fun i => a1 (5 + i))).2)
            else
              ((t0Tx, t0State, t0Reason, t0Seq, t0Open, t0Shard, t0At, t0Mode, t0Touched, t0Votes, t0Acks, t0Got), [], 0)
def want17_P (t0Tx : Int) (t0State : Int) (t0Reason : Int) (t0Seq : Int) (t0Open : Bool) (t0Shard : Int) (t0At : (Nat → Int)) (t0Mode : Int) (t0Touched : (List Int)) (t0Votes : (List Int)) (t0Acks : (List Int)) (t0Got : (List (Nat → Int))) (a1 : (Nat → Int)) : Prop :=
  if a1 0 = 0 then
    (rask_P t0Tx t0State t0Reason t0Seq t0Open t0Shard t0At t0Mode t0Touched t0Votes t0Acks t0Got (a1 1) (fun i => a1 (2 + i)) (a1 4)) ∧ (
    True)
  else
    if a1 0 = 1 then
      (ranswered_P t0Tx t0State t0Reason t0Seq t0Open t0Shard t0At t0Mode t0Touched t0Votes t0Acks t0Got (fun i => a1 (5 + i))) ∧ (
      True)
    else
      if a1 0 = 2 then
        (rfinish_P t0Tx t0State t0Reason t0Seq t0Open t0Shard t0At t0Mode t0Touched t0Votes t0Acks t0Got) ∧ (
        True)
      else
        if a1 0 = 3 then
          (rvote_P t0Tx t0State t0Reason t0Seq t0Open t0Shard t0At t0Mode t0Touched t0Votes t0Acks t0Got (fun i => a1 (5 + i))) ∧ (
          True)
        else
          if a1 0 = 4 then
            (rabort_P t0Tx t0State t0Reason t0Seq t0Open t0Shard t0At t0Mode t0Touched t0Votes t0Acks t0Got (a1 1)) ∧ (
            True)
          else
            if a1 0 = 5 then
              (rack_P t0Tx t0State t0Reason t0Seq t0Open t0Shard t0At t0Mode t0Touched t0Votes t0Acks t0Got (fun i => a1 (5 + i))) ∧ (
              True)
            else
              True
theorem want17_ok (t0Tx : Int) (t0State : Int) (t0Reason : Int) (t0Seq : Int) (t0Open : Bool) (t0Shard : Int) (t0At : (Nat → Int)) (t0Mode : Int) (t0Touched : (List Int)) (t0Votes : (List Int)) (t0Acks : (List Int)) (t0Got : (List (Nat → Int))) (a1 : (Nat → Int)) (hP : want17_P t0Tx t0State t0Reason t0Seq t0Open t0Shard t0At t0Mode t0Touched t0Votes t0Acks t0Got a1) : want17_S t0Tx t0State t0Reason t0Seq t0Open t0Shard t0At t0Mode t0Touched t0Votes t0Acks t0Got a1 (want17_F t0Tx t0State t0Reason t0Seq t0Open t0Shard t0At t0Mode t0Touched t0Votes t0Acks t0Got a1) := by
  obtain ⟨r, hr⟩ : ∃ r, r = want17_F t0Tx t0State t0Reason t0Seq t0Open t0Shard t0At t0Mode t0Touched t0Votes t0Acks t0Got a1 := ⟨_, rfl⟩
  rw [← hr]
  unfold want17_F at hr
  unfold want17_S
  unfold want17_P at hP
  by_cases hp78 : a1 0 = 0
  · rw [if_pos hp78] at hr hP ⊢
    obtain ⟨hq0, hP⟩ := hP
    refine ⟨hq0, ?_⟩
    exact hr
  · rw [if_neg hp78] at hr hP ⊢
    by_cases hp79 : a1 0 = 1
    · rw [if_pos hp79] at hr hP ⊢
      obtain ⟨hq0, hP⟩ := hP
      refine ⟨hq0, ?_⟩
      exact hr
    · rw [if_neg hp79] at hr hP ⊢
      by_cases hp80 : a1 0 = 2
      · rw [if_pos hp80] at hr hP ⊢
        obtain ⟨hq0, hP⟩ := hP
        refine ⟨hq0, ?_⟩
        exact hr
      · rw [if_neg hp80] at hr hP ⊢
        by_cases hp81 : a1 0 = 3
        · rw [if_pos hp81] at hr hP ⊢
          obtain ⟨hq0, hP⟩ := hP
          refine ⟨hq0, ?_⟩
          exact hr
        · rw [if_neg hp81] at hr hP ⊢
          by_cases hp82 : a1 0 = 4
          · rw [if_pos hp82] at hr hP ⊢
            obtain ⟨hq0, hP⟩ := hP
            refine ⟨hq0, ?_⟩
            exact hr
          · rw [if_neg hp82] at hr hP ⊢
            by_cases hp83 : a1 0 = 5
            · rw [if_pos hp83] at hr hP ⊢
              obtain ⟨hq0, hP⟩ := hP
              refine ⟨hq0, ?_⟩
              exact hr
            · rw [if_neg hp83] at hr hP ⊢
              exact hr
end Go.E
/- What functions of the program say, as relations. -/
namespace Go.E
open Go
def msgs_l1 (a0 : (List (Nat → Int))) (b1 : (List (Nat → Int))) (i5 : Int) (o : (Int) ⊕ ((Unit) ⊕ (Unit))) : Prop :=
  if i5 < (a0.length : Int) then
    (0 ≤ i5 ∧ i5 < a0.length) ∧ (
    (0 ≤ i5 ∧ i5 < b1.length) ∧ (
    if ((eqN 28 (a0[i5.toNat]!) (b1[i5.toNat]!))) = true then
      (inI64 (i5 + 1)) ∧ (
      o = (.inl (i5 + 1)))
    else
      o = (.inr (.inr ()))))
  else
    o = (.inr (.inl ()))
def msgs_k1a (r : Bool) : Prop :=
  r = (true)
def msgs_k1b (r : Bool) : Prop :=
  r = (false)
def msgs_S (a0 : (List (Nat → Int))) (b1 : (List (Nat → Int))) (r : Bool) : Prop :=
  if (a0.length : Int) = (b1.length : Int) then
    ∃ x : (Unit) ⊕ (Unit), Wh (fun (s : Int) (o : (Int) ⊕ ((Unit) ⊕ (Unit))) => msgs_l1 a0 b1 s o) (0 : Int) x ∧ (match x with | .inl _ => msgs_k1a r | .inr _ => msgs_k1b r)
  else
    r = (false)
end Go.E
/- Lists of messages that are the same. -/
namespace Go.E
open Go
/-! ### The same messages -/
def msgs_F (a b : List (Nat → Int)) : Bool := decide (a.length = b.length) && (List.range a.length).all fun k => eqN 28 (a[k]!) (b[k]!)
def msgs_P (a _ : List (Nat → Int)) : Prop := a.length < 9000000000000000000
theorem msgs_ok (a b : List (Nat → Int)) (h : msgs_P a b) : msgs_S a b (msgs_F a b) := by
  unfold msgs_P at h
  unfold msgs_S msgs_F
  by_cases hl : a.length = b.length
  · rw [if_pos (by omega), decide_eq_true hl, Bool.true_and]
    have := Wh.all (f := fun (s : Int) (o : Int ⊕ (Unit ⊕ Unit)) => msgs_l1 a b s o) a.length (fun k => eqN 28 (a[k]!) (b[k]!)) (.inl ()) (.inr ()) (fun k hk hp => by
        unfold msgs_l1
        rw [if_pos (by omega)]
        refine ⟨⟨by omega, by omega⟩, ⟨by omega, by omega⟩, ?_⟩
        rw [Int.toNat_natCast, if_pos hp]
        exact ⟨step1 (by omega), rfl⟩) (fun k hk hp => by
        unfold msgs_l1
        rw [if_pos (by omega)]
        refine ⟨⟨by omega, by omega⟩, ⟨by omega, by omega⟩, ?_⟩
        rw [Int.toNat_natCast, if_neg (by rw [hp]; decide)]) (by
        unfold msgs_l1
        rw [if_neg (by omega)])
    refine ⟨_, this, ?_⟩
    by_cases hall : (List.range a.length).all (fun k => eqN 28 (a[k]!) (b[k]!)) = true
    · rw [if_pos hall, hall]; rfl
    · rw [if_neg hall]
      have : (List.range a.length).all (fun k => eqN 28 (a[k]!) (b[k]!)) = false := by simpa using hall
      rw [this]; rfl
  · rw [if_neg (by omega), decide_eq_false hl, Bool.false_and]
theorem msgs_self (a : List (Nat → Int)) : msgs_F a a = true := by
  unfold msgs_F
  rw [decide_eq_true rfl, Bool.true_and, List.all_eq_true]
  exact fun k _ => eqN_refl _ _
end Go.E
/- What functions of the program say, as relations. -/
namespace Go.E
open Go
def same17_S (a0Tx : Int) (a0State : Int) (a0Reason : Int) (a0Seq : Int) (a0Open : Bool) (a0Shard : Int) (a0At : (Nat → Int)) (a0Mode : Int) (a0Touched : (List Int)) (a0Votes : (List Int)) (a0Acks : (List Int)) (a0Got : (List (Nat → Int))) (b1Tx : Int) (b1State : Int) (b1Reason : Int) (b1Seq : Int) (b1Open : Bool) (b1Shard : Int) (b1At : (Nat → Int)) (b1Mode : Int) (b1Touched : (List Int)) (b1Votes : (List Int)) (b1Acks : (List Int)) (b1Got : (List (Nat → Int))) (r : Bool) : Prop :=
  if ((((((((!(decide (a0Tx = b1Tx))) || (!(decide (a0State = b1State)))) || (!(decide (a0Reason = b1Reason)))) || (!(decide (a0Seq = b1Seq)))) || (!(((a0Open) == (b1Open))))) || (!(decide (a0Shard = b1Shard)))) || (!((eqN 2 a0At b1At)))) || (!(decide (a0Mode = b1Mode)))) = true then
    r = (false)
  else
    (ints_P a0Touched b1Touched) ∧ ((((ints_F a0Touched b1Touched)) = true) → ints_P a0Votes b1Votes) ∧ (((((ints_F a0Touched b1Touched)) && ((ints_F a0Votes b1Votes))) = true) → ints_P a0Acks b1Acks) ∧ ((((((ints_F a0Touched b1Touched)) && ((ints_F a0Votes b1Votes))) && ((ints_F a0Acks b1Acks))) = true) → grants_P a0Got b1Got) ∧ (
    r = (((((ints_F a0Touched b1Touched)) && ((ints_F a0Votes b1Votes))) && ((ints_F a0Acks b1Acks))) && ((grants_F a0Got b1Got))))
def same17_F (a0Tx : Int) (a0State : Int) (a0Reason : Int) (a0Seq : Int) (a0Open : Bool) (a0Shard : Int) (a0At : (Nat → Int)) (a0Mode : Int) (a0Touched : (List Int)) (a0Votes : (List Int)) (a0Acks : (List Int)) (a0Got : (List (Nat → Int))) (b1Tx : Int) (b1State : Int) (b1Reason : Int) (b1Seq : Int) (b1Open : Bool) (b1Shard : Int) (b1At : (Nat → Int)) (b1Mode : Int) (b1Touched : (List Int)) (b1Votes : (List Int)) (b1Acks : (List Int)) (b1Got : (List (Nat → Int))) : Bool :=
  if ((((((((!(decide (a0Tx = b1Tx))) || (!(decide (a0State = b1State)))) || (!(decide (a0Reason = b1Reason)))) || (!(decide (a0Seq = b1Seq)))) || (!(((a0Open) == (b1Open))))) || (!(decide (a0Shard = b1Shard)))) || (!((eqN 2 a0At b1At)))) || (!(decide (a0Mode = b1Mode)))) = true then
    false
  else
    ((((ints_F a0Touched b1Touched)) && ((ints_F a0Votes b1Votes))) && ((ints_F a0Acks b1Acks))) && ((grants_F a0Got b1Got))
def same17_P (a0Tx : Int) (a0State : Int) (a0Reason : Int) (a0Seq : Int) (a0Open : Bool) (a0Shard : Int) (a0At : (Nat → Int)) (a0Mode : Int) (a0Touched : (List Int)) (a0Votes : (List Int)) (a0Acks : (List Int)) (a0Got : (List (Nat → Int))) (b1Tx : Int) (b1State : Int) (b1Reason : Int) (b1Seq : Int) (b1Open : Bool) (b1Shard : Int) (b1At : (Nat → Int)) (b1Mode : Int) (b1Touched : (List Int)) (b1Votes : (List Int)) (b1Acks : (List Int)) (b1Got : (List (Nat → Int))) : Prop :=
  if ((((((((!(decide (a0Tx = b1Tx))) || (!(decide (a0State = b1State)))) || (!(decide (a0Reason = b1Reason)))) || (!(decide (a0Seq = b1Seq)))) || (!(((a0Open) == (b1Open))))) || (!(decide (a0Shard = b1Shard)))) || (!((eqN 2 a0At b1At)))) || (!(decide (a0Mode = b1Mode)))) = true then
    True
  else
    (ints_P a0Touched b1Touched) ∧ ((((ints_F a0Touched b1Touched)) = true) → ints_P a0Votes b1Votes) ∧ (((((ints_F a0Touched b1Touched)) && ((ints_F a0Votes b1Votes))) = true) → ints_P a0Acks b1Acks) ∧ ((((((ints_F a0Touched b1Touched)) && ((ints_F a0Votes b1Votes))) && ((ints_F a0Acks b1Acks))) = true) → grants_P a0Got b1Got) ∧ (
    True)
theorem same17_ok (a0Tx : Int) (a0State : Int) (a0Reason : Int) (a0Seq : Int) (a0Open : Bool) (a0Shard : Int) (a0At : (Nat → Int)) (a0Mode : Int) (a0Touched : (List Int)) (a0Votes : (List Int)) (a0Acks : (List Int)) (a0Got : (List (Nat → Int))) (b1Tx : Int) (b1State : Int) (b1Reason : Int) (b1Seq : Int) (b1Open : Bool) (b1Shard : Int) (b1At : (Nat → Int)) (b1Mode : Int) (b1Touched : (List Int)) (b1Votes : (List Int)) (b1Acks : (List Int)) (b1Got : (List (Nat → Int))) (hP : same17_P a0Tx a0State a0Reason a0Seq a0Open a0Shard a0At a0Mode a0Touched a0Votes a0Acks a0Got b1Tx b1State b1Reason b1Seq b1Open b1Shard b1At b1Mode b1Touched b1Votes b1Acks b1Got) : same17_S a0Tx a0State a0Reason a0Seq a0Open a0Shard a0At a0Mode a0Touched a0Votes a0Acks a0Got b1Tx b1State b1Reason b1Seq b1Open b1Shard b1At b1Mode b1Touched b1Votes b1Acks b1Got (same17_F a0Tx a0State a0Reason a0Seq a0Open a0Shard a0At a0Mode a0Touched a0Votes a0Acks a0Got b1Tx b1State b1Reason b1Seq b1Open b1Shard b1At b1Mode b1Touched b1Votes b1Acks b1Got) := by
  obtain ⟨r, hr⟩ : ∃ r, r = same17_F a0Tx a0State a0Reason a0Seq a0Open a0Shard a0At a0Mode a0Touched a0Votes a0Acks a0Got b1Tx b1State b1Reason b1Seq b1Open b1Shard b1At b1Mode b1Touched b1Votes b1Acks b1Got := ⟨_, rfl⟩
  rw [← hr]
  unfold same17_F at hr
  unfold same17_S
  unfold same17_P at hP
  by_cases hp55 : ((((((((!(decide (a0Tx = b1Tx))) || (!(decide (a0State = b1State)))) || (!(decide (a0Reason = b1Reason)))) || (!(decide (a0Seq = b1Seq)))) || (!(((a0Open) == (b1Open))))) || (!(decide (a0Shard = b1Shard)))) || (!((eqN 2 a0At b1At)))) || (!(decide (a0Mode = b1Mode)))) = true
  · rw [if_pos hp55] at hr hP ⊢
    exact hr
  · rw [if_neg hp55] at hr hP ⊢
    obtain ⟨hq0, hq1, hq2, hq3, hP⟩ := hP
    refine ⟨hq0, hq1, hq2, hq3, ?_⟩
    exact hr
end Go.E
/- What functions of the program say, as relations. -/
namespace Go.E
open Go
def txnacts17_l1 (acts1 : (List (Nat → Int))) (living2 : Bool) (i10 : Int) (fb9 : Int) (fb9_1 : Int) (fb9_2 : Int) (fb9_3 : Int) (fb9_4 : Bool) (fb9_5 : Int) (fb9_6 : (Nat → Int)) (fb9_8 : Int) (fb9_9 : (List Int)) (fb9_10 : (List Int)) (fb9_11 : (List Int)) (fb9_12 : (List (Nat → Int))) (fb7 : Int) (fb7_1 : Int) (fb7_2 : Int) (fb7_3 : Int) (fb7_4 : Bool) (fb7_5 : Int) (fb7_6 : (Nat → Int)) (fb7_8 : Int) (fb7_9 : (List Int)) (fb7_10 : (List Int)) (fb7_11 : (List Int)) (fb7_12 : (List (Nat → Int))) (o : (Int × Int × Int × Int × Int × Bool × Int × (Nat → Int) × Int × (List Int) × (List Int) × (List Int) × (List (Nat → Int)) × Int × Int × Int × Int × Bool × Int × (Nat → Int) × Int × (List Int) × (List Int) × (List Int) × (List (Nat → Int))) ⊕ ((Int × Int × Int × Int × Bool × Int × (Nat → Int) × Int × (List Int) × (List Int) × (List Int) × (List (Nat → Int)) × Int × Int × Int × Int × Bool × Int × (Nat → Int) × Int × (List Int) × (List Int) × (List Int) × (List (Nat → Int))) ⊕ (Int × Int × Int × Int × Bool × Int × (Nat → Int) × Int × (List Int) × (List Int) × (List Int) × (List (Nat → Int)) × Int × Int × Int × Int × Bool × Int × (Nat → Int) × Int × (List Int) × (List Int) × (List Int) × (List (Nat → Int))))) : Prop :=
  if i10 < (acts1.length : Int) then
    if 0 ≤ (acts1[i10.toNat]!) 0 ∧ (acts1[i10.toNat]!) 0 ≤ 5 then
      ∃ rn23 : (Int × Int × Int × Int × Bool × Int × (Nat → Int) × Int × (List Int) × (List Int) × (List Int) × (List (Nat → Int))) × (List (Nat → Int)) × Int, rn23 = (act17_F fb7 fb7_1 fb7_2 fb7_3 fb7_4 fb7_5 fb7_6 fb7_8 fb7_9 fb7_10 fb7_11 fb7_12 (acts1[i10.toNat]!)) ∧ (
      (
        (0 ≤ i10 ∧ i10 < acts1.length) ∧ (
        (act17_P fb7 fb7_1 fb7_2 fb7_3 fb7_4 fb7_5 fb7_6 fb7_8 fb7_9 fb7_10 fb7_11 fb7_12 (acts1[i10.toNat]!)) ∧ (
        True))) ∧ (
      ∃ rn57 : (Int × Int × Int × Int × Bool × Int × (Nat → Int) × Int × (List Int) × (List Int) × (List Int) × (List (Nat → Int))) × (List (Nat → Int)) × Int, rn57 = (want17_F fb9 fb9_1 fb9_2 fb9_3 fb9_4 fb9_5 fb9_6 fb9_8 fb9_9 fb9_10 fb9_11 fb9_12 (acts1[i10.toNat]!)) ∧ (
      (
        (0 ≤ i10 ∧ i10 < acts1.length) ∧ (
        (want17_P fb9 fb9_1 fb9_2 fb9_3 fb9_4 fb9_5 fb9_6 fb9_8 fb9_9 fb9_10 fb9_11 fb9_12 (acts1[i10.toNat]!)) ∧ (
        True))) ∧ (
      if rn23.2.2 = rn57.2.2 then
        (msgs_P rn23.2.1 rn57.2.1) ∧ (
        if ((msgs_F rn23.2.1 rn57.2.1)) = true then
          (same17_P rn23.1.1 rn23.1.2.1 rn23.1.2.2.1 rn23.1.2.2.2.1 rn23.1.2.2.2.2.1 rn23.1.2.2.2.2.2.1 rn23.1.2.2.2.2.2.2.1 rn23.1.2.2.2.2.2.2.2.1 rn23.1.2.2.2.2.2.2.2.2.1 rn23.1.2.2.2.2.2.2.2.2.2.1 rn23.1.2.2.2.2.2.2.2.2.2.2.1 rn23.1.2.2.2.2.2.2.2.2.2.2.2 rn57.1.1 rn57.1.2.1 rn57.1.2.2.1 rn57.1.2.2.2.1 rn57.1.2.2.2.2.1 rn57.1.2.2.2.2.2.1 rn57.1.2.2.2.2.2.2.1 rn57.1.2.2.2.2.2.2.2.1 rn57.1.2.2.2.2.2.2.2.2.1 rn57.1.2.2.2.2.2.2.2.2.2.1 rn57.1.2.2.2.2.2.2.2.2.2.2.1 rn57.1.2.2.2.2.2.2.2.2.2.2.2) ∧ (
          if ((same17_F rn23.1.1 rn23.1.2.1 rn23.1.2.2.1 rn23.1.2.2.2.1 rn23.1.2.2.2.2.1 rn23.1.2.2.2.2.2.1 rn23.1.2.2.2.2.2.2.1 rn23.1.2.2.2.2.2.2.2.1 rn23.1.2.2.2.2.2.2.2.2.1 rn23.1.2.2.2.2.2.2.2.2.2.1 rn23.1.2.2.2.2.2.2.2.2.2.2.1 rn23.1.2.2.2.2.2.2.2.2.2.2.2 rn57.1.1 rn57.1.2.1 rn57.1.2.2.1 rn57.1.2.2.2.1 rn57.1.2.2.2.2.1 rn57.1.2.2.2.2.2.1 rn57.1.2.2.2.2.2.2.1 rn57.1.2.2.2.2.2.2.2.1 rn57.1.2.2.2.2.2.2.2.2.1 rn57.1.2.2.2.2.2.2.2.2.2.1 rn57.1.2.2.2.2.2.2.2.2.2.2.1 rn57.1.2.2.2.2.2.2.2.2.2.2.2)) = true then
            (tagain_P rn23.1.1 rn23.1.2.1 rn23.1.2.2.1 rn23.1.2.2.2.1 rn23.1.2.2.2.2.1 rn23.1.2.2.2.2.2.1 rn23.1.2.2.2.2.2.2.1 rn23.1.2.2.2.2.2.2.2.1 rn23.1.2.2.2.2.2.2.2.2.1 rn23.1.2.2.2.2.2.2.2.2.2.1 rn23.1.2.2.2.2.2.2.2.2.2.2.1 rn23.1.2.2.2.2.2.2.2.2.2.2.2 living2) ∧ (
            (ragain_P rn57.1.1 rn57.1.2.1 rn57.1.2.2.1 rn57.1.2.2.2.1 rn57.1.2.2.2.2.1 rn57.1.2.2.2.2.2.1 rn57.1.2.2.2.2.2.2.1 rn57.1.2.2.2.2.2.2.2.1 rn57.1.2.2.2.2.2.2.2.2.1 rn57.1.2.2.2.2.2.2.2.2.2.1 rn57.1.2.2.2.2.2.2.2.2.2.2.1 rn57.1.2.2.2.2.2.2.2.2.2.2.2 living2) ∧ (
            (msgs_P (tagain_F rn23.1.1 rn23.1.2.1 rn23.1.2.2.1 rn23.1.2.2.2.1 rn23.1.2.2.2.2.1 rn23.1.2.2.2.2.2.1 rn23.1.2.2.2.2.2.2.1 rn23.1.2.2.2.2.2.2.2.1 rn23.1.2.2.2.2.2.2.2.2.1 rn23.1.2.2.2.2.2.2.2.2.2.1 rn23.1.2.2.2.2.2.2.2.2.2.2.1 rn23.1.2.2.2.2.2.2.2.2.2.2.2 living2) (ragain_F rn57.1.1 rn57.1.2.1 rn57.1.2.2.1 rn57.1.2.2.2.1 rn57.1.2.2.2.2.1 rn57.1.2.2.2.2.2.1 rn57.1.2.2.2.2.2.2.1 rn57.1.2.2.2.2.2.2.2.1 rn57.1.2.2.2.2.2.2.2.2.1 rn57.1.2.2.2.2.2.2.2.2.2.1 rn57.1.2.2.2.2.2.2.2.2.2.2.1 rn57.1.2.2.2.2.2.2.2.2.2.2.2 living2)) ∧ (
            if ((msgs_F (tagain_F rn23.1.1 rn23.1.2.1 rn23.1.2.2.1 rn23.1.2.2.2.1 rn23.1.2.2.2.2.1 rn23.1.2.2.2.2.2.1 rn23.1.2.2.2.2.2.2.1 rn23.1.2.2.2.2.2.2.2.1 rn23.1.2.2.2.2.2.2.2.2.1 rn23.1.2.2.2.2.2.2.2.2.2.1 rn23.1.2.2.2.2.2.2.2.2.2.2.1 rn23.1.2.2.2.2.2.2.2.2.2.2.2 living2) (ragain_F rn57.1.1 rn57.1.2.1 rn57.1.2.2.1 rn57.1.2.2.2.1 rn57.1.2.2.2.2.1 rn57.1.2.2.2.2.2.1 rn57.1.2.2.2.2.2.2.1 rn57.1.2.2.2.2.2.2.2.1 rn57.1.2.2.2.2.2.2.2.2.1 rn57.1.2.2.2.2.2.2.2.2.2.1 rn57.1.2.2.2.2.2.2.2.2.2.2.1 rn57.1.2.2.2.2.2.2.2.2.2.2.2 living2))) = true then
              (((!((((tdecided_F rn23.1.1 rn23.1.2.1 rn23.1.2.2.1 rn23.1.2.2.2.1 rn23.1.2.2.2.2.1 rn23.1.2.2.2.2.2.1 rn23.1.2.2.2.2.2.2.1 rn23.1.2.2.2.2.2.2.2.1 rn23.1.2.2.2.2.2.2.2.2.1 rn23.1.2.2.2.2.2.2.2.2.2.1 rn23.1.2.2.2.2.2.2.2.2.2.2.1 rn23.1.2.2.2.2.2.2.2.2.2.2.2)) == ((rdec_F rn57.1.1 rn57.1.2.1 rn57.1.2.2.1 rn57.1.2.2.2.1 rn57.1.2.2.2.2.1 rn57.1.2.2.2.2.2.1 rn57.1.2.2.2.2.2.2.1 rn57.1.2.2.2.2.2.2.2.1 rn57.1.2.2.2.2.2.2.2.2.1 rn57.1.2.2.2.2.2.2.2.2.2.1 rn57.1.2.2.2.2.2.2.2.2.2.2.1 rn57.1.2.2.2.2.2.2.2.2.2.2.2))))) = false) → tover_P rn23.1.1 rn23.1.2.1 rn23.1.2.2.1 rn23.1.2.2.2.1 rn23.1.2.2.2.2.1 rn23.1.2.2.2.2.2.1 rn23.1.2.2.2.2.2.2.1 rn23.1.2.2.2.2.2.2.2.1 rn23.1.2.2.2.2.2.2.2.2.1 rn23.1.2.2.2.2.2.2.2.2.2.1 rn23.1.2.2.2.2.2.2.2.2.2.2.1 rn23.1.2.2.2.2.2.2.2.2.2.2.2) ∧ (((!((((tdecided_F rn23.1.1 rn23.1.2.1 rn23.1.2.2.1 rn23.1.2.2.2.1 rn23.1.2.2.2.2.1 rn23.1.2.2.2.2.2.1 rn23.1.2.2.2.2.2.2.1 rn23.1.2.2.2.2.2.2.2.1 rn23.1.2.2.2.2.2.2.2.2.1 rn23.1.2.2.2.2.2.2.2.2.2.1 rn23.1.2.2.2.2.2.2.2.2.2.2.1 rn23.1.2.2.2.2.2.2.2.2.2.2.2)) == ((rdec_F rn57.1.1 rn57.1.2.1 rn57.1.2.2.1 rn57.1.2.2.2.1 rn57.1.2.2.2.2.1 rn57.1.2.2.2.2.2.1 rn57.1.2.2.2.2.2.2.1 rn57.1.2.2.2.2.2.2.2.1 rn57.1.2.2.2.2.2.2.2.2.1 rn57.1.2.2.2.2.2.2.2.2.2.1 rn57.1.2.2.2.2.2.2.2.2.2.2.1 rn57.1.2.2.2.2.2.2.2.2.2.2.2))))) = false) → over_P rn57.1.1 rn57.1.2.1 rn57.1.2.2.1 rn57.1.2.2.2.1 rn57.1.2.2.2.2.1 rn57.1.2.2.2.2.2.1 rn57.1.2.2.2.2.2.2.1 rn57.1.2.2.2.2.2.2.2.1 rn57.1.2.2.2.2.2.2.2.2.1 rn57.1.2.2.2.2.2.2.2.2.2.1 rn57.1.2.2.2.2.2.2.2.2.2.2.1 rn57.1.2.2.2.2.2.2.2.2.2.2.2) ∧ (
              if ((!((((tdecided_F rn23.1.1 rn23.1.2.1 rn23.1.2.2.1 rn23.1.2.2.2.1 rn23.1.2.2.2.2.1 rn23.1.2.2.2.2.2.1 rn23.1.2.2.2.2.2.2.1 rn23.1.2.2.2.2.2.2.2.1 rn23.1.2.2.2.2.2.2.2.2.1 rn23.1.2.2.2.2.2.2.2.2.2.1 rn23.1.2.2.2.2.2.2.2.2.2.2.1 rn23.1.2.2.2.2.2.2.2.2.2.2.2)) == ((rdec_F rn57.1.1 rn57.1.2.1 rn57.1.2.2.1 rn57.1.2.2.2.1 rn57.1.2.2.2.2.1 rn57.1.2.2.2.2.2.1 rn57.1.2.2.2.2.2.2.1 rn57.1.2.2.2.2.2.2.2.1 rn57.1.2.2.2.2.2.2.2.2.1 rn57.1.2.2.2.2.2.2.2.2.2.1 rn57.1.2.2.2.2.2.2.2.2.2.2.1 rn57.1.2.2.2.2.2.2.2.2.2.2.2))))) || (!((((tover_F rn23.1.1 rn23.1.2.1 rn23.1.2.2.1 rn23.1.2.2.2.1 rn23.1.2.2.2.2.1 rn23.1.2.2.2.2.2.1 rn23.1.2.2.2.2.2.2.1 rn23.1.2.2.2.2.2.2.2.1 rn23.1.2.2.2.2.2.2.2.2.1 rn23.1.2.2.2.2.2.2.2.2.2.1 rn23.1.2.2.2.2.2.2.2.2.2.2.1 rn23.1.2.2.2.2.2.2.2.2.2.2.2)) == ((over_F rn57.1.1 rn57.1.2.1 rn57.1.2.2.1 rn57.1.2.2.2.1 rn57.1.2.2.2.2.1 rn57.1.2.2.2.2.2.1 rn57.1.2.2.2.2.2.2.1 rn57.1.2.2.2.2.2.2.2.1 rn57.1.2.2.2.2.2.2.2.2.1 rn57.1.2.2.2.2.2.2.2.2.2.1 rn57.1.2.2.2.2.2.2.2.2.2.2.1 rn57.1.2.2.2.2.2.2.2.2.2.2.2)))))) = true then
                o = (.inr (.inr (rn57.1.1, rn57.1.2.1, rn57.1.2.2.1, rn57.1.2.2.2.1, rn57.1.2.2.2.2.1, rn57.1.2.2.2.2.2.1, rn57.1.2.2.2.2.2.2.1, rn57.1.2.2.2.2.2.2.2.1, rn57.1.2.2.2.2.2.2.2.2.1, rn57.1.2.2.2.2.2.2.2.2.2.1, rn57.1.2.2.2.2.2.2.2.2.2.2.1, rn57.1.2.2.2.2.2.2.2.2.2.2.2, rn23.1.1, rn23.1.2.1, rn23.1.2.2.1, rn23.1.2.2.2.1, rn23.1.2.2.2.2.1, rn23.1.2.2.2.2.2.1, rn23.1.2.2.2.2.2.2.1, rn23.1.2.2.2.2.2.2.2.1, rn23.1.2.2.2.2.2.2.2.2.1, rn23.1.2.2.2.2.2.2.2.2.2.1, rn23.1.2.2.2.2.2.2.2.2.2.2.1, rn23.1.2.2.2.2.2.2.2.2.2.2.2)))
              else
                (inI64 (i10 + 1)) ∧ (
                o = (.inl (i10 + 1, rn57.1.1, rn57.1.2.1, rn57.1.2.2.1, rn57.1.2.2.2.1, rn57.1.2.2.2.2.1, rn57.1.2.2.2.2.2.1, rn57.1.2.2.2.2.2.2.1, rn57.1.2.2.2.2.2.2.2.1, rn57.1.2.2.2.2.2.2.2.2.1, rn57.1.2.2.2.2.2.2.2.2.2.1, rn57.1.2.2.2.2.2.2.2.2.2.2.1, rn57.1.2.2.2.2.2.2.2.2.2.2.2, rn23.1.1, rn23.1.2.1, rn23.1.2.2.1, rn23.1.2.2.2.1, rn23.1.2.2.2.2.1, rn23.1.2.2.2.2.2.1, rn23.1.2.2.2.2.2.2.1, rn23.1.2.2.2.2.2.2.2.1, rn23.1.2.2.2.2.2.2.2.2.1, rn23.1.2.2.2.2.2.2.2.2.2.1, rn23.1.2.2.2.2.2.2.2.2.2.2.1, rn23.1.2.2.2.2.2.2.2.2.2.2.2))))
            else
              o = (.inr (.inr (rn57.1.1, rn57.1.2.1, rn57.1.2.2.1, rn57.1.2.2.2.1, rn57.1.2.2.2.2.1, rn57.1.2.2.2.2.2.1, rn57.1.2.2.2.2.2.2.1, rn57.1.2.2.2.2.2.2.2.1, rn57.1.2.2.2.2.2.2.2.2.1, rn57.1.2.2.2.2.2.2.2.2.2.1, rn57.1.2.2.2.2.2.2.2.2.2.2.1, rn57.1.2.2.2.2.2.2.2.2.2.2.2, rn23.1.1, rn23.1.2.1, rn23.1.2.2.1, rn23.1.2.2.2.1, rn23.1.2.2.2.2.1, rn23.1.2.2.2.2.2.1, rn23.1.2.2.2.2.2.2.1, rn23.1.2.2.2.2.2.2.2.1, rn23.1.2.2.2.2.2.2.2.2.1, rn23.1.2.2.2.2.2.2.2.2.2.1, rn23.1.2.2.2.2.2.2.2.2.2.2.1, rn23.1.2.2.2.2.2.2.2.2.2.2.2))))))
          else
            o = (.inr (.inr (rn57.1.1, rn57.1.2.1, rn57.1.2.2.1, rn57.1.2.2.2.1, rn57.1.2.2.2.2.1, rn57.1.2.2.2.2.2.1, rn57.1.2.2.2.2.2.2.1, rn57.1.2.2.2.2.2.2.2.1, rn57.1.2.2.2.2.2.2.2.2.1, rn57.1.2.2.2.2.2.2.2.2.2.1, rn57.1.2.2.2.2.2.2.2.2.2.2.1, rn57.1.2.2.2.2.2.2.2.2.2.2.2, rn23.1.1, rn23.1.2.1, rn23.1.2.2.1, rn23.1.2.2.2.1, rn23.1.2.2.2.2.1, rn23.1.2.2.2.2.2.1, rn23.1.2.2.2.2.2.2.1, rn23.1.2.2.2.2.2.2.2.1, rn23.1.2.2.2.2.2.2.2.2.1, rn23.1.2.2.2.2.2.2.2.2.2.1, rn23.1.2.2.2.2.2.2.2.2.2.2.1, rn23.1.2.2.2.2.2.2.2.2.2.2.2))))
        else
          o = (.inr (.inr (rn57.1.1, rn57.1.2.1, rn57.1.2.2.1, rn57.1.2.2.2.1, rn57.1.2.2.2.2.1, rn57.1.2.2.2.2.2.1, rn57.1.2.2.2.2.2.2.1, rn57.1.2.2.2.2.2.2.2.1, rn57.1.2.2.2.2.2.2.2.2.1, rn57.1.2.2.2.2.2.2.2.2.2.1, rn57.1.2.2.2.2.2.2.2.2.2.2.1, rn57.1.2.2.2.2.2.2.2.2.2.2.2, rn23.1.1, rn23.1.2.1, rn23.1.2.2.1, rn23.1.2.2.2.1, rn23.1.2.2.2.2.1, rn23.1.2.2.2.2.2.1, rn23.1.2.2.2.2.2.2.1, rn23.1.2.2.2.2.2.2.2.1, rn23.1.2.2.2.2.2.2.2.2.1, rn23.1.2.2.2.2.2.2.2.2.2.1, rn23.1.2.2.2.2.2.2.2.2.2.2.1, rn23.1.2.2.2.2.2.2.2.2.2.2.2))))
      else
        o = (.inr (.inr (rn57.1.1, rn57.1.2.1, rn57.1.2.2.1, rn57.1.2.2.2.1, rn57.1.2.2.2.2.1, rn57.1.2.2.2.2.2.1, rn57.1.2.2.2.2.2.2.1, rn57.1.2.2.2.2.2.2.2.1, rn57.1.2.2.2.2.2.2.2.2.1, rn57.1.2.2.2.2.2.2.2.2.2.1, rn57.1.2.2.2.2.2.2.2.2.2.2.1, rn57.1.2.2.2.2.2.2.2.2.2.2.2, rn23.1.1, rn23.1.2.1, rn23.1.2.2.1, rn23.1.2.2.2.1, rn23.1.2.2.2.2.1, rn23.1.2.2.2.2.2.1, rn23.1.2.2.2.2.2.2.1, rn23.1.2.2.2.2.2.2.2.1, rn23.1.2.2.2.2.2.2.2.2.1, rn23.1.2.2.2.2.2.2.2.2.2.1, rn23.1.2.2.2.2.2.2.2.2.2.2.1, rn23.1.2.2.2.2.2.2.2.2.2.2.2)))))))
    else
      (
        (0 ≤ i10 ∧ i10 < acts1.length) ∧ (
        (¬ ((acts1[i10.toNat]!) 0 = 0)) ∧ (
        (¬ ((acts1[i10.toNat]!) 0 = 1)) ∧ (
        (¬ ((acts1[i10.toNat]!) 0 = 2)) ∧ (
        (¬ ((acts1[i10.toNat]!) 0 = 3)) ∧ (
        (¬ ((acts1[i10.toNat]!) 0 = 4)) ∧ (
        (¬ ((acts1[i10.toNat]!) 0 = 5)) ∧ (
        True)))))))) ∧ (
      ∃ rn131 : (Int × Int × Int × Int × Bool × Int × (Nat → Int) × Int × (List Int) × (List Int) × (List Int) × (List (Nat → Int))) × (List (Nat → Int)) × Int, rn131 = (want17_F fb9 fb9_1 fb9_2 fb9_3 fb9_4 fb9_5 fb9_6 fb9_8 fb9_9 fb9_10 fb9_11 fb9_12 (acts1[i10.toNat]!)) ∧ (
      (
        (0 ≤ i10 ∧ i10 < acts1.length) ∧ (
        (want17_P fb9 fb9_1 fb9_2 fb9_3 fb9_4 fb9_5 fb9_6 fb9_8 fb9_9 fb9_10 fb9_11 fb9_12 (acts1[i10.toNat]!)) ∧ (
        True))) ∧ (
      if (code_F 0) = rn131.2.2 then
        (msgs_P ([]) rn131.2.1) ∧ (
        if ((msgs_F ([]) rn131.2.1)) = true then
          (same17_P fb7 fb7_1 fb7_2 fb7_3 fb7_4 fb7_5 fb7_6 fb7_8 fb7_9 fb7_10 fb7_11 fb7_12 rn131.1.1 rn131.1.2.1 rn131.1.2.2.1 rn131.1.2.2.2.1 rn131.1.2.2.2.2.1 rn131.1.2.2.2.2.2.1 rn131.1.2.2.2.2.2.2.1 rn131.1.2.2.2.2.2.2.2.1 rn131.1.2.2.2.2.2.2.2.2.1 rn131.1.2.2.2.2.2.2.2.2.2.1 rn131.1.2.2.2.2.2.2.2.2.2.2.1 rn131.1.2.2.2.2.2.2.2.2.2.2.2) ∧ (
          if ((same17_F fb7 fb7_1 fb7_2 fb7_3 fb7_4 fb7_5 fb7_6 fb7_8 fb7_9 fb7_10 fb7_11 fb7_12 rn131.1.1 rn131.1.2.1 rn131.1.2.2.1 rn131.1.2.2.2.1 rn131.1.2.2.2.2.1 rn131.1.2.2.2.2.2.1 rn131.1.2.2.2.2.2.2.1 rn131.1.2.2.2.2.2.2.2.1 rn131.1.2.2.2.2.2.2.2.2.1 rn131.1.2.2.2.2.2.2.2.2.2.1 rn131.1.2.2.2.2.2.2.2.2.2.2.1 rn131.1.2.2.2.2.2.2.2.2.2.2.2)) = true then
            (tagain_P fb7 fb7_1 fb7_2 fb7_3 fb7_4 fb7_5 fb7_6 fb7_8 fb7_9 fb7_10 fb7_11 fb7_12 living2) ∧ (
            (ragain_P rn131.1.1 rn131.1.2.1 rn131.1.2.2.1 rn131.1.2.2.2.1 rn131.1.2.2.2.2.1 rn131.1.2.2.2.2.2.1 rn131.1.2.2.2.2.2.2.1 rn131.1.2.2.2.2.2.2.2.1 rn131.1.2.2.2.2.2.2.2.2.1 rn131.1.2.2.2.2.2.2.2.2.2.1 rn131.1.2.2.2.2.2.2.2.2.2.2.1 rn131.1.2.2.2.2.2.2.2.2.2.2.2 living2) ∧ (
            (msgs_P (tagain_F fb7 fb7_1 fb7_2 fb7_3 fb7_4 fb7_5 fb7_6 fb7_8 fb7_9 fb7_10 fb7_11 fb7_12 living2) (ragain_F rn131.1.1 rn131.1.2.1 rn131.1.2.2.1 rn131.1.2.2.2.1 rn131.1.2.2.2.2.1 rn131.1.2.2.2.2.2.1 rn131.1.2.2.2.2.2.2.1 rn131.1.2.2.2.2.2.2.2.1 rn131.1.2.2.2.2.2.2.2.2.1 rn131.1.2.2.2.2.2.2.2.2.2.1 rn131.1.2.2.2.2.2.2.2.2.2.2.1 rn131.1.2.2.2.2.2.2.2.2.2.2.2 living2)) ∧ (
            if ((msgs_F (tagain_F fb7 fb7_1 fb7_2 fb7_3 fb7_4 fb7_5 fb7_6 fb7_8 fb7_9 fb7_10 fb7_11 fb7_12 living2) (ragain_F rn131.1.1 rn131.1.2.1 rn131.1.2.2.1 rn131.1.2.2.2.1 rn131.1.2.2.2.2.1 rn131.1.2.2.2.2.2.1 rn131.1.2.2.2.2.2.2.1 rn131.1.2.2.2.2.2.2.2.1 rn131.1.2.2.2.2.2.2.2.2.1 rn131.1.2.2.2.2.2.2.2.2.2.1 rn131.1.2.2.2.2.2.2.2.2.2.2.1 rn131.1.2.2.2.2.2.2.2.2.2.2.2 living2))) = true then
              (((!((((tdecided_F fb7 fb7_1 fb7_2 fb7_3 fb7_4 fb7_5 fb7_6 fb7_8 fb7_9 fb7_10 fb7_11 fb7_12)) == ((rdec_F rn131.1.1 rn131.1.2.1 rn131.1.2.2.1 rn131.1.2.2.2.1 rn131.1.2.2.2.2.1 rn131.1.2.2.2.2.2.1 rn131.1.2.2.2.2.2.2.1 rn131.1.2.2.2.2.2.2.2.1 rn131.1.2.2.2.2.2.2.2.2.1 rn131.1.2.2.2.2.2.2.2.2.2.1 rn131.1.2.2.2.2.2.2.2.2.2.2.1 rn131.1.2.2.2.2.2.2.2.2.2.2.2))))) = false) → tover_P fb7 fb7_1 fb7_2 fb7_3 fb7_4 fb7_5 fb7_6 fb7_8 fb7_9 fb7_10 fb7_11 fb7_12) ∧ (((!((((tdecided_F fb7 fb7_1 fb7_2 fb7_3 fb7_4 fb7_5 fb7_6 fb7_8 fb7_9 fb7_10 fb7_11 fb7_12)) == ((rdec_F rn131.1.1 rn131.1.2.1 rn131.1.2.2.1 rn131.1.2.2.2.1 rn131.1.2.2.2.2.1 rn131.1.2.2.2.2.2.1 rn131.1.2.2.2.2.2.2.1 rn131.1.2.2.2.2.2.2.2.1 rn131.1.2.2.2.2.2.2.2.2.1 rn131.1.2.2.2.2.2.2.2.2.2.1 rn131.1.2.2.2.2.2.2.2.2.2.2.1 rn131.1.2.2.2.2.2.2.2.2.2.2.2))))) = false) → over_P rn131.1.1 rn131.1.2.1 rn131.1.2.2.1 rn131.1.2.2.2.1 rn131.1.2.2.2.2.1 rn131.1.2.2.2.2.2.1 rn131.1.2.2.2.2.2.2.1 rn131.1.2.2.2.2.2.2.2.1 rn131.1.2.2.2.2.2.2.2.2.1 rn131.1.2.2.2.2.2.2.2.2.2.1 rn131.1.2.2.2.2.2.2.2.2.2.2.1 rn131.1.2.2.2.2.2.2.2.2.2.2.2) ∧ (
              if ((!((((tdecided_F fb7 fb7_1 fb7_2 fb7_3 fb7_4 fb7_5 fb7_6 fb7_8 fb7_9 fb7_10 fb7_11 fb7_12)) == ((rdec_F rn131.1.1 rn131.1.2.1 rn131.1.2.2.1 rn131.1.2.2.2.1 rn131.1.2.2.2.2.1 rn131.1.2.2.2.2.2.1 rn131.1.2.2.2.2.2.2.1 rn131.1.2.2.2.2.2.2.2.1 rn131.1.2.2.2.2.2.2.2.2.1 rn131.1.2.2.2.2.2.2.2.2.2.1 rn131.1.2.2.2.2.2.2.2.2.2.2.1 rn131.1.2.2.2.2.2.2.2.2.2.2.2))))) || (!((((tover_F fb7 fb7_1 fb7_2 fb7_3 fb7_4 fb7_5 fb7_6 fb7_8 fb7_9 fb7_10 fb7_11 fb7_12)) == ((over_F rn131.1.1 rn131.1.2.1 rn131.1.2.2.1 rn131.1.2.2.2.1 rn131.1.2.2.2.2.1 rn131.1.2.2.2.2.2.1 rn131.1.2.2.2.2.2.2.1 rn131.1.2.2.2.2.2.2.2.1 rn131.1.2.2.2.2.2.2.2.2.1 rn131.1.2.2.2.2.2.2.2.2.2.1 rn131.1.2.2.2.2.2.2.2.2.2.2.1 rn131.1.2.2.2.2.2.2.2.2.2.2.2)))))) = true then
                o = (.inr (.inr (rn131.1.1, rn131.1.2.1, rn131.1.2.2.1, rn131.1.2.2.2.1, rn131.1.2.2.2.2.1, rn131.1.2.2.2.2.2.1, rn131.1.2.2.2.2.2.2.1, rn131.1.2.2.2.2.2.2.2.1, rn131.1.2.2.2.2.2.2.2.2.1, rn131.1.2.2.2.2.2.2.2.2.2.1, rn131.1.2.2.2.2.2.2.2.2.2.2.1, rn131.1.2.2.2.2.2.2.2.2.2.2.2, fb7, fb7_1, fb7_2, fb7_3, fb7_4, fb7_5, fb7_6, fb7_8, fb7_9, fb7_10, fb7_11, fb7_12)))
              else
                (inI64 (i10 + 1)) ∧ (
                o = (.inl (i10 + 1, rn131.1.1, rn131.1.2.1, rn131.1.2.2.1, rn131.1.2.2.2.1, rn131.1.2.2.2.2.1, rn131.1.2.2.2.2.2.1, rn131.1.2.2.2.2.2.2.1, rn131.1.2.2.2.2.2.2.2.1, rn131.1.2.2.2.2.2.2.2.2.1, rn131.1.2.2.2.2.2.2.2.2.2.1, rn131.1.2.2.2.2.2.2.2.2.2.2.1, rn131.1.2.2.2.2.2.2.2.2.2.2.2, fb7, fb7_1, fb7_2, fb7_3, fb7_4, fb7_5, fb7_6, fb7_8, fb7_9, fb7_10, fb7_11, fb7_12))))
            else
              o = (.inr (.inr (rn131.1.1, rn131.1.2.1, rn131.1.2.2.1, rn131.1.2.2.2.1, rn131.1.2.2.2.2.1, rn131.1.2.2.2.2.2.1, rn131.1.2.2.2.2.2.2.1, rn131.1.2.2.2.2.2.2.2.1, rn131.1.2.2.2.2.2.2.2.2.1, rn131.1.2.2.2.2.2.2.2.2.2.1, rn131.1.2.2.2.2.2.2.2.2.2.2.1, rn131.1.2.2.2.2.2.2.2.2.2.2.2, fb7, fb7_1, fb7_2, fb7_3, fb7_4, fb7_5, fb7_6, fb7_8, fb7_9, fb7_10, fb7_11, fb7_12))))))
          else
            o = (.inr (.inr (rn131.1.1, rn131.1.2.1, rn131.1.2.2.1, rn131.1.2.2.2.1, rn131.1.2.2.2.2.1, rn131.1.2.2.2.2.2.1, rn131.1.2.2.2.2.2.2.1, rn131.1.2.2.2.2.2.2.2.1, rn131.1.2.2.2.2.2.2.2.2.1, rn131.1.2.2.2.2.2.2.2.2.2.1, rn131.1.2.2.2.2.2.2.2.2.2.2.1, rn131.1.2.2.2.2.2.2.2.2.2.2.2, fb7, fb7_1, fb7_2, fb7_3, fb7_4, fb7_5, fb7_6, fb7_8, fb7_9, fb7_10, fb7_11, fb7_12))))
        else
          o = (.inr (.inr (rn131.1.1, rn131.1.2.1, rn131.1.2.2.1, rn131.1.2.2.2.1, rn131.1.2.2.2.2.1, rn131.1.2.2.2.2.2.1, rn131.1.2.2.2.2.2.2.1, rn131.1.2.2.2.2.2.2.2.1, rn131.1.2.2.2.2.2.2.2.2.1, rn131.1.2.2.2.2.2.2.2.2.2.1, rn131.1.2.2.2.2.2.2.2.2.2.2.1, rn131.1.2.2.2.2.2.2.2.2.2.2.2, fb7, fb7_1, fb7_2, fb7_3, fb7_4, fb7_5, fb7_6, fb7_8, fb7_9, fb7_10, fb7_11, fb7_12))))
      else
        o = (.inr (.inr (rn131.1.1, rn131.1.2.1, rn131.1.2.2.1, rn131.1.2.2.2.1, rn131.1.2.2.2.2.1, rn131.1.2.2.2.2.2.1, rn131.1.2.2.2.2.2.2.1, rn131.1.2.2.2.2.2.2.2.1, rn131.1.2.2.2.2.2.2.2.2.1, rn131.1.2.2.2.2.2.2.2.2.2.1, rn131.1.2.2.2.2.2.2.2.2.2.2.1, rn131.1.2.2.2.2.2.2.2.2.2.2.2, fb7, fb7_1, fb7_2, fb7_3, fb7_4, fb7_5, fb7_6, fb7_8, fb7_9, fb7_10, fb7_11, fb7_12))))))
  else
    o = (.inr (.inl (fb9, fb9_1, fb9_2, fb9_3, fb9_4, fb9_5, fb9_6, fb9_8, fb9_9, fb9_10, fb9_11, fb9_12, fb7, fb7_1, fb7_2, fb7_3, fb7_4, fb7_5, fb7_6, fb7_8, fb7_9, fb7_10, fb7_11, fb7_12)))
def txnacts17_k1a (tx0 : Int) (fb9 : Int) (fb9_1 : Int) (fb9_2 : Int) (fb9_3 : Int) (fb9_4 : Bool) (fb9_5 : Int) (fb9_6 : (Nat → Int)) (fb9_8 : Int) (fb9_9 : (List Int)) (fb9_10 : (List Int)) (fb9_11 : (List Int)) (fb9_12 : (List (Nat → Int))) (fb7 : Int) (fb7_1 : Int) (fb7_2 : Int) (fb7_3 : Int) (fb7_4 : Bool) (fb7_5 : Int) (fb7_6 : (Nat → Int)) (fb7_8 : Int) (fb7_9 : (List Int)) (fb7_10 : (List Int)) (fb7_11 : (List Int)) (fb7_12 : (List (Nat → Int))) (r : Bool) : Prop :=
  if (tnew_F tx0).2 = 0 then
    (same17_P fb7 fb7_1 fb7_2 fb7_3 fb7_4 fb7_5 fb7_6 fb7_8 fb7_9 fb7_10 fb7_11 fb7_12 fb9 fb9_1 fb9_2 fb9_3 fb9_4 fb9_5 fb9_6 fb9_8 fb9_9 fb9_10 fb9_11 fb9_12) ∧ (
    r = ((same17_F fb7 fb7_1 fb7_2 fb7_3 fb7_4 fb7_5 fb7_6 fb7_8 fb7_9 fb7_10 fb7_11 fb7_12 fb9 fb9_1 fb9_2 fb9_3 fb9_4 fb9_5 fb9_6 fb9_8 fb9_9 fb9_10 fb9_11 fb9_12)))
  else
    r = (false)
def txnacts17_k1b (fb9 : Int) (fb9_1 : Int) (fb9_2 : Int) (fb9_3 : Int) (fb9_4 : Bool) (fb9_5 : Int) (fb9_6 : (Nat → Int)) (fb9_8 : Int) (fb9_9 : (List Int)) (fb9_10 : (List Int)) (fb9_11 : (List Int)) (fb9_12 : (List (Nat → Int))) (fb7 : Int) (fb7_1 : Int) (fb7_2 : Int) (fb7_3 : Int) (fb7_4 : Bool) (fb7_5 : Int) (fb7_6 : (Nat → Int)) (fb7_8 : Int) (fb7_9 : (List Int)) (fb7_10 : (List Int)) (fb7_11 : (List Int)) (fb7_12 : (List (Nat → Int))) (r : Bool) : Prop :=
  r = (false)
def txnacts17_S (tx0 : Int) (acts1 : (List (Nat → Int))) (living2 : Bool) (r : Bool) : Prop :=
  if (alive17_F) = true then
    if 100 < (acts1.length : Int) then
      r = (true)
    else
      if ((decide (tx0 < 1)) || (decide (1048576 < tx0))) = true then
        if (code_F ((tnew_F tx0).2)) = 1 then
          (same17_P (((tnew_F tx0).1).1) (((tnew_F tx0).1).2.1) (((tnew_F tx0).1).2.2.1) (((tnew_F tx0).1).2.2.2.1) (((tnew_F tx0).1).2.2.2.2.1) (((tnew_F tx0).1).2.2.2.2.2.1) (((tnew_F tx0).1).2.2.2.2.2.2.1) (((tnew_F tx0).1).2.2.2.2.2.2.2.1) (((tnew_F tx0).1).2.2.2.2.2.2.2.2.1) (((tnew_F tx0).1).2.2.2.2.2.2.2.2.2.1) (((tnew_F tx0).1).2.2.2.2.2.2.2.2.2.2.1) (((tnew_F tx0).1).2.2.2.2.2.2.2.2.2.2.2) 0 0 0 0 false 0 (fun _ => 0) 0 ([]) ([]) ([]) ([])) ∧ (
          r = ((same17_F (((tnew_F tx0).1).1) (((tnew_F tx0).1).2.1) (((tnew_F tx0).1).2.2.1) (((tnew_F tx0).1).2.2.2.1) (((tnew_F tx0).1).2.2.2.2.1) (((tnew_F tx0).1).2.2.2.2.2.1) (((tnew_F tx0).1).2.2.2.2.2.2.1) (((tnew_F tx0).1).2.2.2.2.2.2.2.1) (((tnew_F tx0).1).2.2.2.2.2.2.2.2.1) (((tnew_F tx0).1).2.2.2.2.2.2.2.2.2.1) (((tnew_F tx0).1).2.2.2.2.2.2.2.2.2.2.1) (((tnew_F tx0).1).2.2.2.2.2.2.2.2.2.2.2) 0 0 0 0 false 0 (fun _ => 0) 0 ([]) ([]) ([]) ([]))))
        else
          r = (false)
      else
        ∃ x : (Int × Int × Int × Int × Bool × Int × (Nat → Int) × Int × (List Int) × (List Int) × (List Int) × (List (Nat → Int)) × Int × Int × Int × Int × Bool × Int × (Nat → Int) × Int × (List Int) × (List Int) × (List Int) × (List (Nat → Int))) ⊕ (Int × Int × Int × Int × Bool × Int × (Nat → Int) × Int × (List Int) × (List Int) × (List Int) × (List (Nat → Int)) × Int × Int × Int × Int × Bool × Int × (Nat → Int) × Int × (List Int) × (List Int) × (List Int) × (List (Nat → Int))), Wh (fun (s : Int × Int × Int × Int × Int × Bool × Int × (Nat → Int) × Int × (List Int) × (List Int) × (List Int) × (List (Nat → Int)) × Int × Int × Int × Int × Bool × Int × (Nat → Int) × Int × (List Int) × (List Int) × (List Int) × (List (Nat → Int))) (o : (Int × Int × Int × Int × Int × Bool × Int × (Nat → Int) × Int × (List Int) × (List Int) × (List Int) × (List (Nat → Int)) × Int × Int × Int × Int × Bool × Int × (Nat → Int) × Int × (List Int) × (List Int) × (List Int) × (List (Nat → Int))) ⊕ ((Int × Int × Int × Int × Bool × Int × (Nat → Int) × Int × (List Int) × (List Int) × (List Int) × (List (Nat → Int)) × Int × Int × Int × Int × Bool × Int × (Nat → Int) × Int × (List Int) × (List Int) × (List Int) × (List (Nat → Int))) ⊕ (Int × Int × Int × Int × Bool × Int × (Nat → Int) × Int × (List Int) × (List Int) × (List Int) × (List (Nat → Int)) × Int × Int × Int × Int × Bool × Int × (Nat → Int) × Int × (List Int) × (List Int) × (List Int) × (List (Nat → Int))))) => txnacts17_l1 acts1 living2 s.1 s.2.1 s.2.2.1 s.2.2.2.1 s.2.2.2.2.1 s.2.2.2.2.2.1 s.2.2.2.2.2.2.1 s.2.2.2.2.2.2.2.1 s.2.2.2.2.2.2.2.2.1 s.2.2.2.2.2.2.2.2.2.1 s.2.2.2.2.2.2.2.2.2.2.1 s.2.2.2.2.2.2.2.2.2.2.2.1 s.2.2.2.2.2.2.2.2.2.2.2.2.1 s.2.2.2.2.2.2.2.2.2.2.2.2.2.1 s.2.2.2.2.2.2.2.2.2.2.2.2.2.2.1 s.2.2.2.2.2.2.2.2.2.2.2.2.2.2.2.1 s.2.2.2.2.2.2.2.2.2.2.2.2.2.2.2.2.1 s.2.2.2.2.2.2.2.2.2.2.2.2.2.2.2.2.2.1 s.2.2.2.2.2.2.2.2.2.2.2.2.2.2.2.2.2.2.1 s.2.2.2.2.2.2.2.2.2.2.2.2.2.2.2.2.2.2.2.1 s.2.2.2.2.2.2.2.2.2.2.2.2.2.2.2.2.2.2.2.2.1 s.2.2.2.2.2.2.2.2.2.2.2.2.2.2.2.2.2.2.2.2.2.1 s.2.2.2.2.2.2.2.2.2.2.2.2.2.2.2.2.2.2.2.2.2.2.1 s.2.2.2.2.2.2.2.2.2.2.2.2.2.2.2.2.2.2.2.2.2.2.2.1 s.2.2.2.2.2.2.2.2.2.2.2.2.2.2.2.2.2.2.2.2.2.2.2.2 o) ((0, tx0, 1, 0, 0, false, 0, (fun _ => 0), 0, [], [], [], [], ((tnew_F tx0).1).1, ((tnew_F tx0).1).2.1, ((tnew_F tx0).1).2.2.1, ((tnew_F tx0).1).2.2.2.1, ((tnew_F tx0).1).2.2.2.2.1, ((tnew_F tx0).1).2.2.2.2.2.1, ((tnew_F tx0).1).2.2.2.2.2.2.1, ((tnew_F tx0).1).2.2.2.2.2.2.2.1, ((tnew_F tx0).1).2.2.2.2.2.2.2.2.1, ((tnew_F tx0).1).2.2.2.2.2.2.2.2.2.1, ((tnew_F tx0).1).2.2.2.2.2.2.2.2.2.2.1, ((tnew_F tx0).1).2.2.2.2.2.2.2.2.2.2.2) : Int × Int × Int × Int × Int × Bool × Int × (Nat → Int) × Int × (List Int) × (List Int) × (List Int) × (List (Nat → Int)) × Int × Int × Int × Int × Bool × Int × (Nat → Int) × Int × (List Int) × (List Int) × (List Int) × (List (Nat → Int))) x ∧ (match x with | .inl (fb9, fb9_1, fb9_2, fb9_3, fb9_4, fb9_5, fb9_6, fb9_8, fb9_9, fb9_10, fb9_11, fb9_12, fb7, fb7_1, fb7_2, fb7_3, fb7_4, fb7_5, fb7_6, fb7_8, fb7_9, fb7_10, fb7_11, fb7_12) => txnacts17_k1a tx0 fb9 fb9_1 fb9_2 fb9_3 fb9_4 fb9_5 fb9_6 fb9_8 fb9_9 fb9_10 fb9_11 fb9_12 fb7 fb7_1 fb7_2 fb7_3 fb7_4 fb7_5 fb7_6 fb7_8 fb7_9 fb7_10 fb7_11 fb7_12 r | .inr (fb9, fb9_1, fb9_2, fb9_3, fb9_4, fb9_5, fb9_6, fb9_8, fb9_9, fb9_10, fb9_11, fb9_12, fb7, fb7_1, fb7_2, fb7_3, fb7_4, fb7_5, fb7_6, fb7_8, fb7_9, fb7_10, fb7_11, fb7_12) => txnacts17_k1b fb9 fb9_1 fb9_2 fb9_3 fb9_4 fb9_5 fb9_6 fb9_8 fb9_9 fb9_10 fb9_11 fb9_12 fb7 fb7_1 fb7_2 fb7_3 fb7_4 fb7_5 fb7_6 fb7_8 fb7_9 fb7_10 fb7_11 fb7_12 r)
  else
    r = (false)
end Go.E
/- errors.Is between two errors that are numbers of type api.Errno, or nil. -/
namespace Go.Proofs.Ytmfbefghdaiicaa
open Go Go.E Go.RowKit Go.Extern.Stop Go.Stop Go.Extern
theorem run_equalIn_iface_int {P : Program} (w : World) (d : Nat) {ti tn : TypeId} {ms : Array (String × TypeId)} {i : TypeInfo} {k : IntKind} (a b : Int)
    (hi : P.underlying ti = some (.interface ms)) (hn : P.underlying tn = some (.int k)) (hinfo : P.info? tn = some i) (hcomp : i.comparable = true) :
    (Op.equalIn (d + 2) ti (.iface tn (.int k a)) (.iface tn (.int k b))).run P w = .ok (a == b) w := by
  simp [Op.equalIn, run_underlying hi, run_underlying hn, typeInfo, hinfo, hcomp]
theorem run_eql_iface_int {P : Program} (w : World) {ti tn : TypeId} {ms : Array (String × TypeId)} {i : TypeInfo} {k : IntKind} (a b : Int)
    (hi : P.underlying ti = some (.interface ms)) (hn : P.underlying tn = some (.int k)) (hinfo : P.info? tn = some i) (hcomp : i.comparable = true) :
    (binOp .eql ti (.iface tn (.int k a)) (.iface tn (.int k b))).run P w = .ok (.bool (a == b)) w := by
  simp only [binOp]
  simp [Op.equal, Op.maxDepth, run_equalIn_iface_int w 9998 a b hi hn hinfo hcomp]
theorem isTypeOf (v : Value) (w : World) : (Extern.ReflectliteType.typeOf #[.iface 68 v]).run Try.prog w = .ok (.iface 109 (.agg #[.pointer (some ⟨0, 68, none⟩)])) w := by kernel_rfl
def cmpFn : Array Value → Sem Value := Extern.ReflectliteType.method fun t => do Rtype.noPackHeld "Comparable" t; pure (.bool (← typeInfo t).comparable)
theorem isComparable (w : World) : (cmpFn #[.agg #[.pointer (some ⟨0, 68, none⟩)]]).run Try.prog w = .ok (.bool true) w := by kernel_rfl
theorem isMethodComparable (v : Value) (w : World) : (Go.method 263 109 v "Comparable").run Try.prog w = .ok (102, v) w := by kernel_rfl
theorem isComp : (Try.prog.info? 68).map (·.comparable) = some true := by kernel_rfl
theorem noIsE (v : Value) (xT : TypeId) (w : World) : (Instr.typeAssert (.iface 68 v) xT 111 true).run Try.prog w = .ok (.tuple #[.nilIface, .bool false]) w := run_typeAssert_lacksB Try.underlying111 (by kernel_rfl) (by kernel_rfl) v xT w
theorem noUnwrapE (v : Value) (xT : TypeId) (w : World) : (Instr.typeAssert (.iface 68 v) xT 114 true).run Try.prog w = .ok (.tuple #[.nilIface, .bool false]) w := run_typeAssert_lacksB Try.underlying114 (by kernel_rfl) (by kernel_rfl) v xT w
theorem noUnwrapsE (v : Value) (xT : TypeId) (w : World) : (Instr.typeAssert (.iface 68 v) xT 116 true).run Try.prog w = .ok (.tuple #[.nilIface, .bool false]) w := run_typeAssert_lacksB Try.underlying116 (by kernel_rfl) (by kernel_rfl) v xT w
theorem is_errno (a b : Int) (w : World) : Calls Try.prog 33 #[.iface 68 (.int .i64 a), .iface 68 (.int .i64 b)] w fun e w' => e = .returned (.bool (decide (a = b))) ∧ w' = w := by
  obtain ⟨i, hi, hcmp⟩ := Option.map_eq_some_iff.1 isComp
  have h8 := @run_callFunc_extern Try.prog 56 _ Extern.ReflectliteType.typeOf Try.func56 (by kernel_rfl) (by kernel_rfl) (by kernel_rfl) (by kernel_rfl)
  have h32 := @run_callFunc_extern Try.prog 102 _ cmpFn Try.func102 (by kernel_rfl) (by kernel_rfl) (by kernel_rfl) (by kernel_rfl)
  have tT := isTypeOf
  have cT := isComparable
  have mR := isMethodComparable
  have nE := noIsE
  have uE := noUnwrapE
  have vE := noUnwrapsE
  by_cases hab : a = b
  · subst hab
    have heq := run_eql_iface_int (P := Try.prog) w a a Try.underlying32 Try.underlying68 hi hcmp
    rw [show (a == a) = true from by simp] at heq
    go_enter Try.func33, Try.ntmps33
    go_wp2
    refine wp_loop_rounds 1 ?_
    rw [rounds_succ]
    go_wp2
    go_ret
    exact ⟨by simp, rfl⟩
  · have heq := run_eql_iface_int (P := Try.prog) w a b Try.underlying32 Try.underlying68 hi hcmp
    rw [show (a == b) = false from by simpa using hab] at heq
    have hd : decide (a = b) = false := by simpa using hab
    rw [hd]
    have H : Hid (¬ a = b) := Lib.hid hab
    clear hab hd
    go_enter Try.func33, Try.ntmps33
    go_wp2
    refine wp_loop_rounds 1 ?_
    rw [rounds_succ]
    go_wp2
    go_ret
    exact ⟨rfl, rfl⟩
theorem is_nil (b : Int) (w : World) : Calls Try.prog 33 #[.nilIface, .iface 68 (.int .i64 b)] w fun e w' => e = .returned (.bool false) ∧ w' = w := by
  have hn := run_eql_iface_nil_left (P := Try.prog) w 68 (.int .i64 b) Try.underlying32
  go_enter Try.func33, Try.ntmps33
  go_wp2
  go_ret
  exact ⟨rfl, rfl⟩
theorem con_of_calls {P : Program} {f : FuncId} {args : Array Value} {w : World} {v : Value} (h : Calls P f args w fun e w' => e = .returned v ∧ w' = w) : Con P f args w (Is v []) :=
  Calls.mono h fun e w' ⟨h1, h2⟩ => ⟨v, [], h1, by rw [h2]; exact St.refl w, rfl, rfl⟩
theorem errIs_c (a b : Int) (w : World) (hb : b ≠ 0) : Con Try.prog 33 #[errV 68 a, errV 68 b] w (Is (.bool (decide (a = b))) []) := by
  rw [show errV 68 b = .iface 68 (.int .i64 b) from if_neg hb]
  by_cases ha : a = 0
  · subst ha
    rw [show errV 68 0 = .nilIface from rfl, show decide ((0 : Int) = b) = false from by simpa using fun e => hb e.symm]
    exact con_of_calls (is_nil b w)
  · rw [show errV 68 a = .iface 68 (.int .i64 a) from if_neg ha]
    exact con_of_calls (is_errno a b w)
end Go.Proofs.Ytmfbefghdaiicaa
/- The code answers as the relations say. -/
namespace Go.Proofs.Ytmfbefghdaiicaa
open Go Go.E
theorem errIs_c2 (a b : Int) (w : World) (h : errIs_P a b) : Con Try.prog 33 #[errV 68 a, errV 68 b] w (Is (.bool (errIs_F a b)) []) := errIs_c a b w h
theorem code_con (e0 : Int) (w : World) (r : Int) (h : code_S e0 r) : Con Try.prog 15 #[errV 68 e0] w (Is (.int .i64 r) []) := by
  unfold code_S at h
  refine ce Try.func15 rfl Try.ntmps15 rfl (wS (va rfl (nS (xw_seq (wS (vm rfl (xQ rfl (o_eqE Try.underlying32 rfl (fun _ => rfl) rfl rfl) (nS (wd rfl h (fun hp1 h => ?_) fun hp1 h => ?_)))))))))
  · refine wS (va rfl (nS (xw_ret (xq_then_ret ?_))))
    subst h
    exact rO Try.results15 rfl (⟨rfl, rfl⟩)
  · refine xw_skip (xq_then (xw_seq (wS (va rfl (nS (xw_block ?_))))))
    obtain ⟨x1, hx1, h⟩ := h
    refine xw_wh (fun (i3 : Int) e H => e = [(0, errV 68 e0), (3, .int .i64 i3)] ∧ H = []) (fun x ex e H => match x with | .inl _ => ex = .exit 0 ∧ e = [] ∧ H = [] | .inr x2 => ex = .ret ∧ e = [(2, .int .i64 x2)] ∧ H = []) hx1 ⟨[(0, errV 68 e0), (3, .int .i64 1)], [], (sl rfl), fun _ h => h, ⟨rfl, rfl⟩⟩ ?_ ?_
    · rintro i3 o _ _ ⟨rfl, rfl⟩ hb
      have h : code_l1 e0 i3 o := hb
      clear hb
      unfold code_l1 at h
      refine xw_seq (wS (vm rfl (xQ rfl (o_leq rfl rfl) (nS (wd rfl h (fun hp2 h => ?_) fun hp2 h => ?_)))))
      · refine xw_skip (xq_then (xw_seq (xw_block (wS (vm rfl (vm rfl ?_))))))
        obtain ⟨ho3, h⟩ := h
        refine xQ rfl (o_mkE rfl Try.underlying68 rfl ho3) ?_
        obtain ⟨ho4, h⟩ := h
        refine xc rfl kf33 rfl (fun w1 hw1 => errIs_c2 _ _ w1 ho4) (nS (wb rfl h (fun hp5 h => ?_) fun hp5 h => ?_))
        · exact wS (vm rfl (va rfl (nS (xw_ret (xq_blk_ret (xq_then_ret (xq_out (r := (.inr i3 : (Unit) ⊕ (Int))) (e' := [(2, .int .i64 i3)]) ([]) (sl rfl) (fun _ h => h) h (by intro hh; cases hh) ⟨rfl, rfl, rfl⟩)))))))
        · refine xw_skip (xq_blk 1 (xq_then (xw_region (vm rfl ?_))))
          obtain ⟨ho6, h⟩ := h
          exact xQ rfl (o_add rfl rfl rfl ho6) (va rfl (xo_nil (xq_next (s' := (i3 + 1 : Int)) (e' := [(0, errV 68 e0), (3, .int .i64 (i3 + 1))]) ([]) (sl rfl) (fun _ h => h) h ⟨rfl, rfl⟩)))
      · exact xw_exit (xq_then_exit (xq_out (r := (.inl () : (Unit) ⊕ (Int))) (e' := []) ([]) (sl rfl) (fun _ h => h) h (by intro hh; cases hh) ⟨rfl, rfl, rfl⟩))
    · rcases x1 with _ | x2
      · rintro _ _ _ ⟨rfl, rfl, rfl⟩
        replace h : code_k1a r := h
        unfold code_k1a at h
        refine xq_blk_eq (xq_then (wS (va rfl (nS (xw_ret ?_)))))
        subst h
        exact rO Try.results15 rfl (⟨rfl, rfl⟩)
      rintro _ _ _ ⟨rfl, rfl, rfl⟩
      replace h : code_k1b x2 r := h
      unfold code_k1b at h
      refine xq_blk_ret (xq_then_ret ?_)
      subst h
      exact rO Try.results15 rfl (⟨rfl, rfl⟩)
end Go.Proofs.Ytmfbefghdaiicaa
/- The code answers as the relations say. -/
namespace Go.Proofs.Ytmfbefghdaiicaa
open Go Go.E
theorem inn_con (n0 : Int) (low1 : Int) (high2 : Int) (w : World) (r : Bool) (h : inn_S n0 low1 high2 r) : Con Try.prog 79 #[.int .i64 n0,.int .i64 low1,.int .i64 high2] w (Is (.bool r) []) := by
 unfold inn_S at h; refine ce Try.func79 rfl Try.ntmps79 rfl (wS (va rfl (nS (xw_seq (wk [] rfl [(6,.bool ((decide (low1≤n0)) && (decide (n0≤high2))))] ?_ ?_)))))
 ·refine xw_region (vm rfl (vm rfl (xQ rfl (o_geq rfl rfl) (vm rfl (od' 10 rfl (fun hp1=>?_) fun hp1=>?_)))))
  ·exact vm rfl (vm rfl (xQ rfl (o_leq rfl rfl) (vt rfl (va rfl (xo_nil (qk rfl (by simp [hp1]) rfl))))))
  ·exact vs rfl (vs rfl (vs rfl (vf rfl (va rfl (xo_nil (qk rfl (by simp [hp1]) rfl))))))
 ·refine xq_then (xw_ret ?_); subst h
  exact rO Try.results79 rfl (⟨rfl,rfl⟩)
theorem shard_con (n0 : Int) (w : World) (r : Bool) (h : shard_S n0 r) : Con Try.prog 78 #[.int .i64 n0] w (Is (.bool r) []) := by
 unfold shard_S at h; refine ce Try.func78 rfl Try.ntmps78 rfl (wS (va rfl (nR (vm rfl (xc rfl kf79 rfl (fun w1 hw1=>inn_con _ _ _ w1 _ (inn_ok _ _ _)) (va rfl (nS (xw_ret ?_)))))))); subst h
 exact rO Try.results78 rfl (⟨rfl,rfl⟩)
theorem tx_con (n0 : Int) (w : World) (r : Bool) (h : tx_S n0 r) : Con Try.prog 80 #[.int .i64 n0] w (Is (.bool r) []) := by
 unfold tx_S at h; refine ce Try.func80 rfl Try.ntmps80 rfl (wS (va rfl (nR (vm rfl (xc rfl kf79 rfl (fun w1 hw1=>inn_con _ _ _ w1 _ (inn_ok _ _ _)) (va rfl (nS (xw_ret ?_)))))))); subst h
 exact rO Try.results80 rfl (⟨rfl,rfl⟩)
theorem ends_con (m0 : (Nat → Int)) (w : World) (r : Bool) (h : ends_S m0 r) : Con Try.prog 74 #[AI 28 m0] w (Is (.bool r) []) := by
 unfold ends_S at h; refine ce Try.func74 rfl Try.ntmps74 rfl (wS (xr rfl (o_boxA rfl) ?_)); rintro _ _ ⟨b1,hb1,rfl,rfl⟩; refine va rfl (nS (xw_seq (wS (xQ rfl (o_fa0 fl42_0 rfl) (xQ rfl (o_ldI (v := m0 0) rfl ts3 mH (by omega) rfl) (nS (xw_block (xw_seq (xw_block (xw_seq ?_)))))))))); refine xw_block (xw_seq (xw_seq (wS (xQ rfl (o_eql rfl rfl) (va rfl (nS (wd rfl h (fun hp1 h=>?_) fun hp1 h=>?_)))))))
 ·refine xw_exit (xq_then_exit (xq_then_exit (xq_blk_eq (xq_then (wS (xQ rfl (o_fa0 fl42_1 rfl) (xQ rfl (o_ldI (v := m0 1) rfl ts3 mH (by omega) rfl) (xQ rfl (o_neq rfl rfl) (nS (wn rfl h (fun hp2 h=>?_) fun hp2 h=>?_))))))))))
  ·refine xw_seq (wk [] rfl [(2,.bool (((shard_F (m0 1))) && (decide (m0 2=0))))] ?_ ?_)
   ·refine xw_region (xQ rfl (o_fa0 fl42_1 rfl) (xQ rfl (o_ldI (v := m0 1) rfl ts3 mH (by omega) rfl) (xc rfl kf78 rfl (fun w1 hw1=>shard_con _ w1 _ (shard_ok _)) (vm rfl (ob' 18 rfl (fun hp3=>?_) fun hp3=>?_)))))
    ·exact xQ rfl (o_fa0 fl42_2 rfl) (xQ rfl (o_ldI (v := m0 2) rfl ts3 mH (by omega) rfl) (xQ rfl (o_eql rfl rfl) (vt rfl (va rfl (xo_nil (qk rfl (by simp [hp1,hp2,hp3]) rfl))))))
    ·exact vs rfl (vs rfl (vs rfl (vf rfl (va rfl (xo_nil (qk rfl (by simp [hp1,hp2,hp3]) rfl))))))
   ·refine xq_then (xw_ret (xq_blk_ret (xq_then_ret (xq_blk_ret (xq_then_ret ?_))))); subst h
    exact yA Try.results74 rfl [] (Kp.st (Kp.new hb1 Kp.nil)) (⟨rfl,rfl⟩)
  ·refine xw_skip (xq_blk 2 (xq_then (xw_seq (xw_seq (wk [] rfl [(2,.bool ((decide (m0 1=0)) && ((shard_F (m0 2)))))] ?_ ?_)))))
   ·exact xw_region (xQ rfl (o_fa0 fl42_1 rfl) (xQ rfl (o_ldI (v := m0 1) rfl ts3 mH (by omega) rfl) (xQ rfl (o_eql rfl rfl) (vm rfl (xo_val 26 rfl (v' := .bool true) (congrArg Value.bool (dT hp2)) (xQ rfl (o_fa0 fl42_2 rfl) (xQ rfl (o_ldI (v := m0 2) rfl ts3 mH (by omega) rfl) (xc rfl kf78 rfl (fun w1 hw1=>shard_con _ w1 _ (shard_ok _)) (vt rfl (va rfl (xo_nil (qk rfl (by simp [hp1,hp2]) rfl))))))))))))
   ·refine xq_then (xw_ret (xq_then_ret (xq_blk_ret (xq_then_ret ?_)))); subst h
    exact yA Try.results74 rfl [] (Kp.st (Kp.new hb1 Kp.nil)) (⟨rfl,rfl⟩)
 ·refine xw_skip (xq_then (xw_seq (wS (xQ rfl (o_eql rfl rfl) (va rfl (nS (wk [1] rfl [(7,.bool ((decide (m0 0=1)) || ((decide (m0 0=4)) || ((decide (m0 0=6)) || (decide (m0 0=8))))))] ?_ ?_)))))))
  ·refine wd' rfl (fun hp5=>?_) fun hp5=>?_
   ·exact xw_skip (qk rfl (by simp [hp1,hp5]) rfl)
   ·refine wS (xQ rfl (o_eql rfl rfl) (va rfl (nS (wk [1] rfl [(7,.bool ((decide (m0 0=4)) || ((decide (m0 0=6)) || (decide (m0 0=8)))))] ?_ ?_))))
    ·refine wd' rfl (fun hp6=>?_) fun hp6=>?_
     ·exact xw_skip (qk rfl (by simp [hp1,hp5,hp6]) rfl)
     ·refine wS (xQ rfl (o_eql rfl rfl) (va rfl (nS (wk [1] rfl [(7,.bool ((decide (m0 0=6)) || (decide (m0 0=8))))] ?_ ?_))))
      ·refine wd' rfl (fun hp7=>?_) fun hp7=>?_
       ·exact xw_skip (qk rfl (by simp [hp1,hp5,hp6,hp7]) rfl)
       ·exact xw_region (xQ rfl (o_eql rfl rfl) (va rfl (xo_nil (qk rfl (by simp [hp1,hp5,hp6,hp7]) rfl))))
      ·exact qk rfl (by simp [hp1,hp5,hp6]) rfl
    ·exact qk rfl (by simp [hp1,hp5]) rfl
  ·refine xq_then (wb rfl h (fun hp8 h=>?_) fun hp8 h=>?_)
   ·refine xw_exit (xq_then_exit (xq_blk_ne rfl (xq_then_exit (xq_blk_eq (xq_then (xw_seq (xw_seq (wk [] rfl [(2,.bool ((decide (m0 1=0)) && ((shard_F (m0 2)))))] ?_ ?_))))))))
    ·refine xw_region (xQ rfl (o_fa0 fl42_1 rfl) (xQ rfl (o_ldI (v := m0 1) rfl ts3 mH (by omega) rfl) (xQ rfl (o_eql rfl rfl) (vm rfl (od' 26 rfl (fun hp9=>?_) fun hp9=>?_)))))
     ·exact xQ rfl (o_fa0 fl42_2 rfl) (xQ rfl (o_ldI (v := m0 2) rfl ts3 mH (by omega) rfl) (xc rfl kf78 rfl (fun w1 hw1=>shard_con _ w1 _ (shard_ok _)) (vt rfl (va rfl (xo_nil (qk rfl (by simp [hp1,hp8,hp9]) rfl))))))
     ·exact vs rfl (vs rfl (vs rfl (vf rfl (va rfl (xo_nil (qk rfl (by simp [hp1,hp8,hp9]) rfl))))))
    ·refine xq_then (xw_ret (xq_then_ret (xq_blk_ret (xq_then_ret ?_)))); subst h
     exact yA Try.results74 rfl [] (Kp.st (Kp.new hb1 Kp.nil)) (⟨rfl,rfl⟩)
   ·refine xw_skip (xq_then (xw_exit (xq_blk_ne rfl (xq_then_exit (xq_blk_ne rfl (xq_then_exit (xq_blk_eq (xq_then (xw_seq (wk [] rfl [(2,.bool (((shard_F (m0 1))) && (decide (m0 2=0))))] ?_ ?_))))))))))
    ·refine xw_region (xQ rfl (o_fa0 fl42_1 rfl) (xQ rfl (o_ldI (v := m0 1) rfl ts3 mH (by omega) rfl) (xc rfl kf78 rfl (fun w1 hw1=>shard_con _ w1 _ (shard_ok _)) (vm rfl (ob' 34 rfl (fun hp10=>?_) fun hp10=>?_)))))
     ·exact xQ rfl (o_fa0 fl42_2 rfl) (xQ rfl (o_ldI (v := m0 2) rfl ts3 mH (by omega) rfl) (xQ rfl (o_eql rfl rfl) (vt rfl (va rfl (xo_nil (qk rfl (by simp [hp1,hp8,hp10]) rfl))))))
     ·exact vs rfl (vs rfl (vs rfl (vf rfl (va rfl (xo_nil (qk rfl (by simp [hp1,hp8,hp10]) rfl))))))
    ·refine xq_then (xw_ret ?_); subst h
     exact yA Try.results74 rfl [] (Kp.st (Kp.new hb1 Kp.nil)) (⟨rfl,rfl⟩)
theorem resOk_con (r0 : (Nat → Int)) (w : World) (r : Bool) (h : resOk_S r0 r) : Con Try.prog 49 #[AI 2 r0] w (Is (.bool r) []) := by
 unfold resOk_S at h; refine ce Try.func49 rfl Try.ntmps49 rfl (wS (xr rfl (o_boxA rfl) ?_)); rintro _ _ ⟨b1,hb1,rfl,rfl⟩; refine va rfl (nS (xw_seq (wk [] rfl [(2,.bool ((((decide (1≤r0 0)) && (decide (r0 0≤250))) && (decide (0≤r0 1))) && (decide (r0 1≤250))))] ?_ ?_)))
 ·refine xw_region (xQ rfl (o_fa0 fl25_0 rfl) (xQ rfl (o_ldI (v := r0 0) rfl ts3 mH (by omega) rfl) (xQ rfl (o_geq rfl rfl) (vm rfl (od' 6 rfl (fun hp1=>?_) fun hp1=>?_)))))
  ·refine xQ rfl (o_fa0 fl25_0 rfl) (xQ rfl (o_ldI (v := r0 0) rfl ts3 mH (by omega) rfl) (xQ rfl (o_leq rfl rfl) (vt rfl (vm rfl (od' 11 rfl (fun hp2=>?_) fun hp2=>?_)))))
   ·refine xQ rfl (o_fa0 fl25_1 rfl) (xQ rfl (o_ldI (v := r0 1) rfl ts3 mH (by omega) rfl) (xQ rfl (o_geq rfl rfl) (vt rfl (vm rfl (od' 16 rfl (fun hp3=>?_) fun hp3=>?_)))))
    ·exact xQ rfl (o_fa0 fl25_1 rfl) (xQ rfl (o_ldI (v := r0 1) rfl ts3 mH (by omega) rfl) (xQ rfl (o_leq rfl rfl) (vt rfl (va rfl (xo_nil (qk rfl (by simp [hp1,hp2,hp3]) rfl))))))
    ·exact vs rfl (vs rfl (vs rfl (vf rfl (va rfl (xo_nil (qk rfl (by simp [hp1,hp2,hp3]) rfl))))))
   ·exact vs rfl (vs rfl (vs rfl (vf rfl (vm rfl (vs rfl (vs rfl (vs rfl (vf rfl (va rfl (xo_nil (qk rfl (by simp [hp1,hp2]) rfl)))))))))))
  ·refine vs rfl (vs rfl (vs rfl (vf rfl (vm rfl (vs rfl (vs rfl (vs rfl (vf rfl (vm rfl (vs rfl (vs rfl (vs rfl (vf rfl ?_))))))))))))); exact va rfl (xo_nil (qk rfl (by simp [hp1]) rfl))
 ·refine xq_then (xw_ret ?_); subst h
  exact yA Try.results49 rfl [] (Kp.st (Kp.new hb1 Kp.nil)) (⟨rfl,rfl⟩)
theorem path_con (m0 : (Nat → Int)) (w : World) (r : Bool) (h : path_S m0 r) : Con Try.prog 81 #[AI 28 m0] w (Is (.bool r) []) := by
 unfold path_S at h; refine ce Try.func81 rfl Try.ntmps81 rfl (wS (xr rfl (o_boxA rfl) ?_)); rintro _ _ ⟨b1,hb1,rfl,rfl⟩; refine va rfl (nS (xw_seq (xw_seq (wk [1] rfl [(22,.bool (((!((inn_F (m0 11) 1 8))) || (!((tx_F (m0 9))))) || (!((inn_F (m0 10) 0 1048576)))))] ?_ ?_))))
 ·refine xw_region (xQ rfl (o_fa0 fl42_10 rfl) (xQ rfl (o_ldI (v := m0 11) rfl ts3 mH (by omega) rfl) (xc rfl kf79 rfl (fun w1 hw1=>inn_con _ _ _ w1 _ (inn_ok _ _ _)) (xQ rfl (o_not rfl) (vm rfl (oc' 11 rfl (fun hp1=>?_) fun hp1=>?_))))))
  ·exact vs rfl (vs rfl (vs rfl (vs rfl (vt rfl (vm rfl (vs rfl (vs rfl (vs rfl (vs rfl (vt rfl (xo_nil (qk rfl (by simp [hp1]) rfl))))))))))))
  ·refine xQ rfl (o_fa0 fl42_8 rfl) (xQ rfl (o_ldI (v := m0 9) rfl ts3 mH (by omega) rfl) (xc rfl kf80 rfl (fun w1 hw1=>tx_con _ w1 _ (tx_ok _)) (xQ rfl (o_not rfl) (vf rfl (vm rfl (oc' 17 rfl (fun hp2=>?_) fun hp2=>?_))))))
   ·exact vs rfl (vs rfl (vs rfl (vs rfl (vt rfl (xo_nil (qk rfl (by simp [hp1,hp2]) rfl))))))
   ·exact xQ rfl (o_fa0 fl42_9 rfl) (xQ rfl (o_ldI (v := m0 10) rfl ts3 mH (by omega) rfl) (xc rfl kf79 rfl (fun w1 hw1=>inn_con _ _ _ w1 _ (inn_ok _ _ _)) (xQ rfl (o_not rfl) (vf rfl (xo_nil (qk rfl (by simp [hp1,hp2]) rfl))))))
 ·refine xq_then (wb rfl h (fun hp3 h=>?_) fun hp3 h=>?_)
  ·refine wS (va rfl (nS (xw_ret (xq_then_ret ?_)))); subst h
   exact yA Try.results81 rfl [] (Kp.st (Kp.new hb1 Kp.nil)) (⟨rfl,rfl⟩)
  ·refine xw_skip (xq_then (xw_seq (wS (xQ rfl (o_fa0 fl42_11 rfl) (xQ rfl (o_ldSI rfl ts40 mH (by omega) (fun _ _=>rfl)) (vm rfl (nS (xw_block ?_)))))))); obtain ⟨x1,hx1,h⟩ := h; refine xw_wh (fun (x25 : Int) e H=>e=[(1,.pointer (some ⟨b1,0,none⟩)),(24,AI 16 (fun i=>m0 (12 + i))),(25,.int .i64 x25)]∧H=(b1,BK 28 (iv m0) 42)::([])) (fun x ex e H=>match x with | .inl _=>ex=.exit 0∧e=[]∧H=(b1,BK 28 (iv m0) 42)::([]) | .inr _=>ex=.ret∧e=[(2,.bool false)]∧H=(b1,BK 28 (iv m0) 42)::([])) hx1 ⟨[(1,.pointer (some ⟨b1,0,none⟩)),(24,AI 16 (fun i=>m0 (12 + i))),(25,.int .i64 0)],(b1,_)::([]),(sl rfl),fun _ h=>h,⟨rfl,rfl⟩⟩ ?_ ?_
   ·rintro x25 o _ _ ⟨rfl,rfl⟩ hb; have h : path_l1 m0 x25 o := hb
    clear hb; unfold path_l1 at h; refine wS (xQ rfl (o_lss rfl rfl) (nS (xw_seq (wd rfl h (fun hp4 h=>?_) fun hp4 h=>?_))))
    ·refine xw_skip (xq_then (xw_seq (xw_block (wS (vm rfl ?_))))); obtain ⟨ho5,h⟩ := h; refine xQ rfl (o_ixAI (j := x25.toNat) ea40 rfl rfl ho5 rfl (by decide) (fun _ _=>rfl)) (xr rfl (o_alloc ze39 rfl) ?_); rintro _ _ ⟨b4,hb4,rfl,rfl⟩; refine va rfl (xZ rfl (o_stWI rfl rfl ts39 mH (.here _ _ _ _)) (nS (xw_seq (wS (vm rfl (xQ rfl (o_fa0 fl42_10 rfl) (xQ rfl (o_ldI (v := m0 11) rfl ts3 (mT mH) (by omega) rfl) (xQ rfl (o_geq rfl rfl) (nS (wd rfl h (fun hp6 h=>?_) fun hp6 h=>?_))))))))))
     ·refine xw_seq (wS (xQ rfl (o_ldW rfl ts39 mH) (xQ rfl (o_build fk39 ze39 (.nil _)) (xQ rfl (o_neqA eq39 rfl rfl) (nS (wc rfl h (fun hp7 h=>?_) fun hp7 h=>?_))))))
      ·exact wS (va rfl (nS (xw_ret (xq_then_ret (xq_then_ret (xq_blk_ret (xq_then_ret (xq_out (r := (.inr () : (Unit) ⊕ (Unit))) (e' := [(2,.bool false)]) ((b1,_)::([])) (sl rfl) (Kp.st (Kp.new hb4 (Kp.keep Kp.nil))) h (by intro hh; cases hh) ⟨rfl,rfl,rfl⟩))))))))
      ·refine xw_skip (xq_then (xw_exit (xq_then_exit (xq_blk_eq (xq_then (xw_region ?_)))))); obtain ⟨ho8,h⟩ := h; exact xQ rfl (o_add rfl rfl rfl ho8) (vm rfl (xo_nil (xq_next (s' := (x25 + 1 : Int)) (e' := [(1,.pointer (some ⟨b1,0,none⟩)),(24,AI 16 (fun i=>m0 (12 + i))),(25,.int .i64 (x25 + 1))]) ((b1,_)::([])) (sl rfl) (Kp.st (Kp.new hb4 (Kp.keep Kp.nil))) h ⟨rfl,rfl⟩)))
     ·refine xw_skip (xq_then (xw_seq (xw_seq (wk [1,3,4,24,25] rfl [(45,.bool ((!((tx_F (m0 (12 + (x25.toNat * 2)))))) || (!((inn_F (m0 (12 + ((x25.toNat * 2) + 1))) 1 1048576)))))] ?_ ?_))))
      ·refine xw_region (xQ rfl (o_fa0 fl39_0 rfl) (xQ rfl (o_ldI (v := m0 (12 + (x25.toNat * 2))) rfl ts3 mH (by omega) rfl) (xc rfl kf80 rfl (fun w1 hw1=>tx_con _ w1 _ (tx_ok _)) (xQ rfl (o_not rfl) (vm rfl (oc' 40 rfl (fun hp9=>?_) fun hp9=>?_))))))
       ·exact vs rfl (vs rfl (vs rfl (vs rfl (vt rfl (xo_nil (qk rfl (by simp [hp4,hp6,hp9]) rfl))))))
       ·exact xQ rfl (o_fa0 fl39_1 rfl) (xQ rfl (o_ldI (v := m0 (12 + ((x25.toNat * 2) + 1))) rfl ts3 mH (by omega) rfl) (xc rfl kf79 rfl (fun w1 hw1=>inn_con _ _ _ w1 _ (inn_ok _ _ _)) (xQ rfl (o_not rfl) (vf rfl (xo_nil (qk rfl (by simp [hp4,hp6,hp9]) rfl))))))
      ·refine xq_then (wb rfl h (fun hp10 h=>?_) fun hp10 h=>?_)
       ·exact wS (va rfl (nS (xw_ret (xq_then_ret (xq_blk_ret (xq_then_ret (xq_out (r := (.inr () : (Unit) ⊕ (Unit))) (e' := [(2,.bool false)]) ((b1,_)::([])) (sl rfl) (Kp.st (Kp.new hb4 (Kp.keep Kp.nil))) h (by intro hh; cases hh) ⟨rfl,rfl,rfl⟩)))))))
       ·refine xw_skip (xq_then (wS (xQ rfl (o_fa0 fl42_11 rfl) (vm rfl ?_)))); obtain ⟨ho11,h⟩ := h; refine xQ rfl (o_slA (h := x25.toNat) ea40 rfl rfl (Int.toNat_of_nonneg ho11.1).symm (by omega)) (xQ rfl (o_len rfl Try.underlying128 rfl) (vm rfl (nS (xw_block ?_)))); obtain ⟨x2,hx2,h⟩ := h; refine xw_wh (fun (x50 : Int) e H=>e=[(1,.pointer (some ⟨b1,0,none⟩)),(4,.pointer (some ⟨b4,0,none⟩)),(24,AI 16 (fun i=>m0 (12 + i))),(25,.int .i64 x25),(48,.slice (some ⟨b1,12,none⟩) x25.toNat 8),(49,.int .i64 (x25.toNat : Int)),(50,.int .i64 x50)]∧H=(b4,BK 2 (iv (fun i=>(fun i=>m0 (12 + i)) ((x25.toNat * 2) + i))) 39)::((b1,BK 28 (iv m0) 42)::([]))) (fun x ex e H=>match x with | .inl _=>ex=.exit 2∧e=[(1,.pointer (some ⟨b1,0,none⟩)),(24,AI 16 (fun i=>m0 (12 + i))),(25,.int .i64 x25)]∧H=(b4,BK 2 (iv (fun i=>(fun i=>m0 (12 + i)) ((x25.toNat * 2) + i))) 39)::((b1,BK 28 (iv m0) 42)::([])) | .inr _=>ex=.ret∧e=[(2,.bool false)]∧H=(b4,BK 2 (iv (fun i=>(fun i=>m0 (12 + i)) ((x25.toNat * 2) + i))) 39)::((b1,BK 28 (iv m0) 42)::([]))) hx2 ⟨[(1,.pointer (some ⟨b1,0,none⟩)),(4,.pointer (some ⟨b4,0,none⟩)),(24,AI 16 (fun i=>m0 (12 + i))),(25,.int .i64 x25),(48,.slice (some ⟨b1,12,none⟩) x25.toNat 8),(49,.int .i64 (x25.toNat : Int)),(50,.int .i64 0)],(b4,_)::((b1,_)::([])),(sl rfl),fun _ h=>h,⟨rfl,rfl⟩⟩ ?_ ?_
        ·rintro x50 o _ _ ⟨rfl,rfl⟩ hb; have h : path_l2 m0 x25 x50 o := hb
         clear hb; unfold path_l2 at h; refine wS (xQ rfl (o_lss rfl rfl) (nS (xw_seq (wd rfl h (fun hp12 h=>?_) fun hp12 h=>?_))))
         ·refine xw_skip (xq_then (xw_seq (xw_block (wS ?_)))); obtain ⟨ho13,h⟩ := h; refine xQ rfl (o_ixs el128 rfl rfl ho13 rfl) (xQ rfl (o_ldSI rfl ts39 (mT mH) (by have := ho11; have := ho13; omega) (fun _ _=>rfl)) (xr rfl (o_alloc ze39 rfl) ?_)); rintro _ _ ⟨b6,hb6,rfl,rfl⟩; refine xZ rfl (o_stWI rfl rfl ts39 mH (.here _ _ _ _)) (nR (xQ rfl (o_fa0 fl39_0 rfl) (xQ rfl (o_ldI (v := m0 (12 + (x50.toNat * 2))) rfl ts3 mH (by omega) rfl) (xQ rfl (o_fa0 fl39_0 rfl) (xQ rfl (o_ldI (v := m0 (12 + (x25.toNat * 2))) rfl ts3 (mT mH) (by omega) rfl) (xQ rfl (o_eql rfl rfl) (nS (wd rfl h (fun hp14 h=>?_) fun hp14 h=>?_))))))))
          ·exact wS (va rfl (nS (xw_ret (xq_blk_ret (xq_then_ret (xq_out (r := (.inr () : (Unit) ⊕ (Unit))) (e' := [(2,.bool false)]) ((b4,_)::((b1,_)::([]))) (sl rfl) (Kp.st (Kp.new hb6 (Kp.keep (Kp.keep Kp.nil)))) h (by intro hh; cases hh) ⟨rfl,rfl,rfl⟩))))))
          ·refine xw_skip (xq_blk 3 (xq_then (xw_region ?_))); obtain ⟨ho15,h⟩ := h; exact xQ rfl (o_add rfl rfl rfl ho15) (vm rfl (xo_nil (xq_next (s' := (x50 + 1 : Int)) (e' := [(1,.pointer (some ⟨b1,0,none⟩)),(4,.pointer (some ⟨b4,0,none⟩)),(24,AI 16 (fun i=>m0 (12 + i))),(25,.int .i64 x25),(48,.slice (some ⟨b1,12,none⟩) x25.toNat 8),(49,.int .i64 (x25.toNat : Int)),(50,.int .i64 (x50 + 1))]) ((b4,_)::((b1,_)::([]))) (sl rfl) (Kp.st (Kp.new hb6 (Kp.keep (Kp.keep Kp.nil)))) h ⟨rfl,rfl⟩)))
         ·exact xw_exit (xq_then_exit (xq_out (r := (.inl () : (Unit) ⊕ (Unit))) (e' := [(1,.pointer (some ⟨b1,0,none⟩)),(24,AI 16 (fun i=>m0 (12 + i))),(25,.int .i64 x25)]) ((b4,_)::((b1,_)::([]))) (sl rfl) (fun _ h=>h) h (by intro hh; cases hh) ⟨rfl,rfl,rfl⟩))
        ·rcases x2 with _ | x2
         ·rintro _ _ _ ⟨rfl,rfl,rfl⟩; replace h : path_k2a x25 o := h; unfold path_k2a at h; refine xq_blk_eq (xq_blk 1 (xq_then (xw_region ?_))); obtain ⟨ho16,h⟩ := h; exact xQ rfl (o_add rfl rfl rfl ho16) (vm rfl (xo_nil (xq_next (s' := (x25 + 1 : Int)) (e' := [(1,.pointer (some ⟨b1,0,none⟩)),(24,AI 16 (fun i=>m0 (12 + i))),(25,.int .i64 (x25 + 1))]) ((b1,_)::([])) (sl rfl) (Kp.st (Kp.new hb4 (Kp.keep Kp.nil))) h ⟨rfl,rfl⟩)))
         cases x2
         rintro _ _ _ ⟨rfl,rfl,rfl⟩; replace h : path_k2b o := h; unfold path_k2b at h; exact xq_blk_ret (xq_blk_ret (xq_then_ret (xq_out (r := (.inr () : (Unit) ⊕ (Unit))) (e' := [(2,.bool false)]) ((b1,_)::([])) (sl rfl) (Kp.st (Kp.new hb4 (Kp.keep Kp.nil))) h (by intro hh; cases hh) ⟨rfl,rfl,rfl⟩)))
    ·exact xw_exit (xq_then_exit (xq_out (r := (.inl () : (Unit) ⊕ (Unit))) (e' := []) ((b1,_)::([])) (sl rfl) (fun _ h=>h) h (by intro hh; cases hh) ⟨rfl,rfl,rfl⟩))
   ·rcases x1 with _ | x1
    ·rintro _ _ _ ⟨rfl,rfl,rfl⟩; replace h : path_k1a r := h; unfold path_k1a at h; refine xq_blk_eq (xq_then (wS (va rfl (nS (xw_ret ?_))))); subst h
     exact yA Try.results81 rfl [] (Kp.st (Kp.new hb1 Kp.nil)) (⟨rfl,rfl⟩)
    cases x1
    rintro _ _ _ ⟨rfl,rfl,rfl⟩; replace h : path_k1b r := h; unfold path_k1b at h; refine xq_blk_ret (xq_then_ret ?_); subst h
    exact yA Try.results81 rfl [] (Kp.st (Kp.new hb1 Kp.nil)) (⟨rfl,rfl⟩)
end Go.Proofs.Ytmfbefghdaiicaa
