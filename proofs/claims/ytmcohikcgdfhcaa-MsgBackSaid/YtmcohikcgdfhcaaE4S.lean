/- What functions of the program say, as relations. -/
import Derived.Test.YtmcohikcgdfhcaaP4e
set_option maxHeartbeats 1000000
set_option linter.unusedVariables false
set_option linter.unusedSimpArgs false
set_option maxRecDepth 100000
namespace Go.E
open Go

def errIs_F (a b : Int) : Bool := decide (a = b)
def errIs_P (_ b : Int) : Prop := b ≠ 0

def code_l1 (e0 : Int) (i3 : Int) (o : (Int) ⊕ ((Unit) ⊕ (Int))) : Prop :=
  if i3 ≤ 15 then
    (i3 ≠ 0) ∧ (
    (errIs_P e0 i3) ∧ (
    if ((errIs_F e0 i3)) = true then
      o = (.inr (.inr i3))
    else
      (inI64 (i3 + 1)) ∧ (
      o = (.inl (i3 + 1)))))
  else
    o = (.inr (.inl ()))

def code_k1a (r : Int) : Prop :=
  r = ((-1))

def code_k1b (x2 : Int) (r : Int) : Prop :=
  r = (x2)

def code_S (e0 : Int) (r : Int) : Prop :=
  if e0 = 0 then
    r = (0)
  else
    ∃ x : (Unit) ⊕ (Int), Wh (fun (s : Int) (o : (Int) ⊕ ((Unit) ⊕ (Int))) => code_l1 e0 s o) (1 : Int) x ∧ (match x with | .inl _ => code_k1a r | .inr x2 => code_k1b x2 r)

def refEnc_l1 (m0 : (Nat → Int)) (b3 : (List Int)) (i4 : Int) (o : ((List Int) × Int) ⊕ ((List Int))) : Prop :=
  if i4 < 8 then
    (0 ≤ i4 ∧ i4 < 8) ∧ (
    (four_P (m0 (12 + (i4.toNat * 2)))) ∧ (
    ((b3.length + (four_F (m0 (12 + (i4.toNat * 2)))).length) * 1 ≤ 140737488355328) ∧ (
    (0 ≤ i4 ∧ i4 < 8) ∧ (
    (four_P (m0 ((12 + (i4.toNat * 2)) + 1))) ∧ (
    (((b3 ++ (four_F (m0 (12 + (i4.toNat * 2))))).length + (four_F (m0 ((12 + (i4.toNat * 2)) + 1))).length) * 1 ≤ 140737488355328) ∧ (
    (inI64 (i4 + 1)) ∧ (
    o = (.inl (((b3 ++ (four_F (m0 (12 + (i4.toNat * 2))))) ++ (four_F (m0 ((12 + (i4.toNat * 2)) + 1)))), i4 + 1)))))))))
  else
    o = (.inr b3)

def refEnc_k1a (b3 : (List Int)) (r : (List Int)) : Prop :=
  r = (b3)

def refEnc_S (m0 : (Nat → Int)) (r : (List Int)) : Prop :=
  (four_P (m0 3)) ∧ (
  ((3 + (four_F (m0 3)).length) * 1 ≤ 140737488355328) ∧ (
  (four_P (m0 4)) ∧ (
  ((([IntKind.u8.wrap (m0 0), IntKind.u8.wrap (m0 1), IntKind.u8.wrap (m0 2)] ++ (four_F (m0 3))).length + (four_F (m0 4)).length) * 1 ≤ 140737488355328) ∧ (
  (((([IntKind.u8.wrap (m0 0), IntKind.u8.wrap (m0 1), IntKind.u8.wrap (m0 2)] ++ (four_F (m0 3))) ++ (four_F (m0 4))).length + 4) * 1 ≤ 140737488355328) ∧ (
  (four_P (m0 9)) ∧ (
  ((((([IntKind.u8.wrap (m0 0), IntKind.u8.wrap (m0 1), IntKind.u8.wrap (m0 2)] ++ (four_F (m0 3))) ++ (four_F (m0 4))) ++ [IntKind.u8.wrap (m0 5), IntKind.u8.wrap (m0 6), IntKind.u8.wrap (m0 7), IntKind.u8.wrap (m0 8)]).length + (four_F (m0 9)).length) * 1 ≤ 140737488355328) ∧ (
  (four_P (m0 10)) ∧ (
  (((((([IntKind.u8.wrap (m0 0), IntKind.u8.wrap (m0 1), IntKind.u8.wrap (m0 2)] ++ (four_F (m0 3))) ++ (four_F (m0 4))) ++ [IntKind.u8.wrap (m0 5), IntKind.u8.wrap (m0 6), IntKind.u8.wrap (m0 7), IntKind.u8.wrap (m0 8)]) ++ (four_F (m0 9))).length + (four_F (m0 10)).length) * 1 ≤ 140737488355328) ∧ (
  ((((((([IntKind.u8.wrap (m0 0), IntKind.u8.wrap (m0 1), IntKind.u8.wrap (m0 2)] ++ (four_F (m0 3))) ++ (four_F (m0 4))) ++ [IntKind.u8.wrap (m0 5), IntKind.u8.wrap (m0 6), IntKind.u8.wrap (m0 7), IntKind.u8.wrap (m0 8)]) ++ (four_F (m0 9))) ++ (four_F (m0 10))).length + 1) * 1 ≤ 140737488355328) ∧ (
  ∃ x : (List Int), Wh (fun (s : (List Int) × Int) (o : ((List Int) × Int) ⊕ ((List Int))) => refEnc_l1 m0 s.1 s.2 o) (((((((([IntKind.u8.wrap (m0 0), IntKind.u8.wrap (m0 1), IntKind.u8.wrap (m0 2)] ++ (four_F (m0 3))) ++ (four_F (m0 4))) ++ [IntKind.u8.wrap (m0 5), IntKind.u8.wrap (m0 6), IntKind.u8.wrap (m0 7), IntKind.u8.wrap (m0 8)]) ++ (four_F (m0 9))) ++ (four_F (m0 10))) ++ [IntKind.u8.wrap (m0 11)]), 0) : (List Int) × Int) x ∧ refEnc_k1a x r))))))))))

def refDec_S (b0 : (List Int)) (r : (Nat → Int) × Int) : Prop :=
  if (b0.length : Int) < 88 then
    r = (((fun _ => 0), 3))
  else
    if 88 < (b0.length : Int) then
      r = (((fun _ => 0), 4))
    else
      (0 ≤ (0 : Int) ∧ (0 : Int) < b0.length) ∧ (
      (0 ≤ (1 : Int) ∧ (1 : Int) < b0.length) ∧ (
      (0 ≤ (2 : Int) ∧ (2 : Int) < b0.length) ∧ (
      (at4_P b0 3) ∧ (
      (at4_P b0 7) ∧ (
      (0 ≤ (14 : Int) ∧ (14 : Int) < b0.length) ∧ (
      (at4_P b0 15) ∧ (
      (at4_P b0 19) ∧ (
      (0 ≤ (23 : Int) ∧ (23 : Int) < b0.length) ∧ (
      (0 ≤ (11 : Int) ∧ (11 : Int) < b0.length) ∧ (
      (0 ≤ (12 : Int) ∧ (12 : Int) < b0.length) ∧ (
      (0 ≤ (13 : Int) ∧ (13 : Int) < b0.length) ∧ (
      (at4_P b0 24) ∧ (
      (at4_P b0 28) ∧ (
      (at4_P b0 32) ∧ (
      (at4_P b0 36) ∧ (
      (at4_P b0 40) ∧ (
      (at4_P b0 44) ∧ (
      (at4_P b0 48) ∧ (
      (at4_P b0 52) ∧ (
      (at4_P b0 56) ∧ (
      (at4_P b0 60) ∧ (
      (at4_P b0 64) ∧ (
      (at4_P b0 68) ∧ (
      (at4_P b0 72) ∧ (
      (at4_P b0 76) ∧ (
      (at4_P b0 80) ∧ (
      (at4_P b0 84) ∧ (
      if ((ref04Ok_F (updRI (updRI (updRI (updRI (updRI (updRI (updRI (updRI (updI (updRI (updI (updI (updI (updI (updI (updI (updI (updI (updI (fun _ => 0) 0 (IntKind.i64.wrap (b0[0]!))) 1 (IntKind.i64.wrap (b0[1]!))) 2 (IntKind.i64.wrap (b0[2]!))) 3 (at4_F b0 3)) 4 (at4_F b0 7)) 8 (IntKind.i64.wrap (b0[14]!))) 9 (at4_F b0 15)) 10 (at4_F b0 19)) 11 (IntKind.i64.wrap (b0[23]!))) 5 2 (updI (updI (fun _ => 0) 0 (IntKind.i64.wrap (b0[11]!))) 1 (IntKind.i64.wrap (b0[12]!)))) 7 (IntKind.i64.wrap (b0[13]!))) 12 2 (updI (updI (fun _ => 0) 0 (at4_F b0 24)) 1 (at4_F b0 28))) 14 2 (updI (updI (fun _ => 0) 0 (at4_F b0 32)) 1 (at4_F b0 36))) 16 2 (updI (updI (fun _ => 0) 0 (at4_F b0 40)) 1 (at4_F b0 44))) 18 2 (updI (updI (fun _ => 0) 0 (at4_F b0 48)) 1 (at4_F b0 52))) 20 2 (updI (updI (fun _ => 0) 0 (at4_F b0 56)) 1 (at4_F b0 60))) 22 2 (updI (updI (fun _ => 0) 0 (at4_F b0 64)) 1 (at4_F b0 68))) 24 2 (updI (updI (fun _ => 0) 0 (at4_F b0 72)) 1 (at4_F b0 76))) 26 2 (updI (updI (fun _ => 0) 0 (at4_F b0 80)) 1 (at4_F b0 84))))) = true then
        r = (((updRI (updRI (updRI (updRI (updRI (updRI (updRI (updRI (updI (updRI (updI (updI (updI (updI (updI (updI (updI (updI (updI (fun _ => 0) 0 (IntKind.i64.wrap (b0[0]!))) 1 (IntKind.i64.wrap (b0[1]!))) 2 (IntKind.i64.wrap (b0[2]!))) 3 (at4_F b0 3)) 4 (at4_F b0 7)) 8 (IntKind.i64.wrap (b0[14]!))) 9 (at4_F b0 15)) 10 (at4_F b0 19)) 11 (IntKind.i64.wrap (b0[23]!))) 5 2 (updI (updI (fun _ => 0) 0 (IntKind.i64.wrap (b0[11]!))) 1 (IntKind.i64.wrap (b0[12]!)))) 7 (IntKind.i64.wrap (b0[13]!))) 12 2 (updI (updI (fun _ => 0) 0 (at4_F b0 24)) 1 (at4_F b0 28))) 14 2 (updI (updI (fun _ => 0) 0 (at4_F b0 32)) 1 (at4_F b0 36))) 16 2 (updI (updI (fun _ => 0) 0 (at4_F b0 40)) 1 (at4_F b0 44))) 18 2 (updI (updI (fun _ => 0) 0 (at4_F b0 48)) 1 (at4_F b0 52))) 20 2 (updI (updI (fun _ => 0) 0 (at4_F b0 56)) 1 (at4_F b0 60))) 22 2 (updI (updI (fun _ => 0) 0 (at4_F b0 64)) 1 (at4_F b0 68))) 24 2 (updI (updI (fun _ => 0) 0 (at4_F b0 72)) 1 (at4_F b0 76))) 26 2 (updI (updI (fun _ => 0) 0 (at4_F b0 80)) 1 (at4_F b0 84))), 0))
      else
        r = (((fun _ => 0), 5))))))))))))))))))))))))))))))

def refDec_F (b0 : (List Int)) : (Nat → Int) × Int :=
  if (b0.length : Int) < 88 then
    ((fun _ => 0), 3)
  else
    if 88 < (b0.length : Int) then
      ((fun _ => 0), 4)
    else
      if ((ref04Ok_F (updRI (updRI (updRI (updRI (updRI (updRI (updRI (updRI (updI (updRI (updI (updI (updI (updI (updI (updI (updI (updI (updI (fun _ => 0) 0 (IntKind.i64.wrap (b0[0]!))) 1 (IntKind.i64.wrap (b0[1]!))) 2 (IntKind.i64.wrap (b0[2]!))) 3 (at4_F b0 3)) 4 (at4_F b0 7)) 8 (IntKind.i64.wrap (b0[14]!))) 9 (at4_F b0 15)) 10 (at4_F b0 19)) 11 (IntKind.i64.wrap (b0[23]!))) 5 2 (updI (updI (fun _ => 0) 0 (IntKind.i64.wrap (b0[11]!))) 1 (IntKind.i64.wrap (b0[12]!)))) 7 (IntKind.i64.wrap (b0[13]!))) 12 2 (updI (updI (fun _ => 0) 0 (at4_F b0 24)) 1 (at4_F b0 28))) 14 2 (updI (updI (fun _ => 0) 0 (at4_F b0 32)) 1 (at4_F b0 36))) 16 2 (updI (updI (fun _ => 0) 0 (at4_F b0 40)) 1 (at4_F b0 44))) 18 2 (updI (updI (fun _ => 0) 0 (at4_F b0 48)) 1 (at4_F b0 52))) 20 2 (updI (updI (fun _ => 0) 0 (at4_F b0 56)) 1 (at4_F b0 60))) 22 2 (updI (updI (fun _ => 0) 0 (at4_F b0 64)) 1 (at4_F b0 68))) 24 2 (updI (updI (fun _ => 0) 0 (at4_F b0 72)) 1 (at4_F b0 76))) 26 2 (updI (updI (fun _ => 0) 0 (at4_F b0 80)) 1 (at4_F b0 84))))) = true then
        ((updRI (updRI (updRI (updRI (updRI (updRI (updRI (updRI (updI (updRI (updI (updI (updI (updI (updI (updI (updI (updI (updI (fun _ => 0) 0 (IntKind.i64.wrap (b0[0]!))) 1 (IntKind.i64.wrap (b0[1]!))) 2 (IntKind.i64.wrap (b0[2]!))) 3 (at4_F b0 3)) 4 (at4_F b0 7)) 8 (IntKind.i64.wrap (b0[14]!))) 9 (at4_F b0 15)) 10 (at4_F b0 19)) 11 (IntKind.i64.wrap (b0[23]!))) 5 2 (updI (updI (fun _ => 0) 0 (IntKind.i64.wrap (b0[11]!))) 1 (IntKind.i64.wrap (b0[12]!)))) 7 (IntKind.i64.wrap (b0[13]!))) 12 2 (updI (updI (fun _ => 0) 0 (at4_F b0 24)) 1 (at4_F b0 28))) 14 2 (updI (updI (fun _ => 0) 0 (at4_F b0 32)) 1 (at4_F b0 36))) 16 2 (updI (updI (fun _ => 0) 0 (at4_F b0 40)) 1 (at4_F b0 44))) 18 2 (updI (updI (fun _ => 0) 0 (at4_F b0 48)) 1 (at4_F b0 52))) 20 2 (updI (updI (fun _ => 0) 0 (at4_F b0 56)) 1 (at4_F b0 60))) 22 2 (updI (updI (fun _ => 0) 0 (at4_F b0 64)) 1 (at4_F b0 68))) 24 2 (updI (updI (fun _ => 0) 0 (at4_F b0 72)) 1 (at4_F b0 76))) 26 2 (updI (updI (fun _ => 0) 0 (at4_F b0 80)) 1 (at4_F b0 84))), 0)
      else
        ((fun _ => 0), 5)

def refDec_P (b0 : (List Int)) : Prop :=
  if (b0.length : Int) < 88 then
    True
  else
    if 88 < (b0.length : Int) then
      True
    else
      (0 ≤ (0 : Int) ∧ (0 : Int) < b0.length) ∧ (
      (0 ≤ (1 : Int) ∧ (1 : Int) < b0.length) ∧ (
      (0 ≤ (2 : Int) ∧ (2 : Int) < b0.length) ∧ (
      (at4_P b0 3) ∧ (
      (at4_P b0 7) ∧ (
      (0 ≤ (14 : Int) ∧ (14 : Int) < b0.length) ∧ (
      (at4_P b0 15) ∧ (
      (at4_P b0 19) ∧ (
      (0 ≤ (23 : Int) ∧ (23 : Int) < b0.length) ∧ (
      (0 ≤ (11 : Int) ∧ (11 : Int) < b0.length) ∧ (
      (0 ≤ (12 : Int) ∧ (12 : Int) < b0.length) ∧ (
      (0 ≤ (13 : Int) ∧ (13 : Int) < b0.length) ∧ (
      (at4_P b0 24) ∧ (
      (at4_P b0 28) ∧ (
      (at4_P b0 32) ∧ (
      (at4_P b0 36) ∧ (
      (at4_P b0 40) ∧ (
      (at4_P b0 44) ∧ (
      (at4_P b0 48) ∧ (
      (at4_P b0 52) ∧ (
      (at4_P b0 56) ∧ (
      (at4_P b0 60) ∧ (
      (at4_P b0 64) ∧ (
      (at4_P b0 68) ∧ (
      (at4_P b0 72) ∧ (
      (at4_P b0 76) ∧ (
      (at4_P b0 80) ∧ (
      (at4_P b0 84) ∧ (
      if ((ref04Ok_F (updRI (updRI (updRI (updRI (updRI (updRI (updRI (updRI (updI (updRI (updI (updI (updI (updI (updI (updI (updI (updI (updI (fun _ => 0) 0 (IntKind.i64.wrap (b0[0]!))) 1 (IntKind.i64.wrap (b0[1]!))) 2 (IntKind.i64.wrap (b0[2]!))) 3 (at4_F b0 3)) 4 (at4_F b0 7)) 8 (IntKind.i64.wrap (b0[14]!))) 9 (at4_F b0 15)) 10 (at4_F b0 19)) 11 (IntKind.i64.wrap (b0[23]!))) 5 2 (updI (updI (fun _ => 0) 0 (IntKind.i64.wrap (b0[11]!))) 1 (IntKind.i64.wrap (b0[12]!)))) 7 (IntKind.i64.wrap (b0[13]!))) 12 2 (updI (updI (fun _ => 0) 0 (at4_F b0 24)) 1 (at4_F b0 28))) 14 2 (updI (updI (fun _ => 0) 0 (at4_F b0 32)) 1 (at4_F b0 36))) 16 2 (updI (updI (fun _ => 0) 0 (at4_F b0 40)) 1 (at4_F b0 44))) 18 2 (updI (updI (fun _ => 0) 0 (at4_F b0 48)) 1 (at4_F b0 52))) 20 2 (updI (updI (fun _ => 0) 0 (at4_F b0 56)) 1 (at4_F b0 60))) 22 2 (updI (updI (fun _ => 0) 0 (at4_F b0 64)) 1 (at4_F b0 68))) 24 2 (updI (updI (fun _ => 0) 0 (at4_F b0 72)) 1 (at4_F b0 76))) 26 2 (updI (updI (fun _ => 0) 0 (at4_F b0 80)) 1 (at4_F b0 84))))) = true then
        True
      else
        True))))))))))))))))))))))))))))

theorem refDec_ok (b0 : (List Int)) (hP : refDec_P b0) : refDec_S b0 (refDec_F b0) := by
  obtain ⟨r, hr⟩ : ∃ r, r = refDec_F b0 := ⟨_, rfl⟩
  rw [← hr]
  unfold refDec_F at hr
  unfold refDec_S
  unfold refDec_P at hP
  by_cases hp17 : (b0.length : Int) < 88
  · rw [if_pos hp17] at hr hP ⊢
    exact hr
  · rw [if_neg hp17] at hr hP ⊢
    by_cases hp18 : 88 < (b0.length : Int)
    · rw [if_pos hp18] at hr hP ⊢
      exact hr
    · rw [if_neg hp18] at hr hP ⊢
      obtain ⟨hq0, hP⟩ := hP
      refine ⟨hq0, ?_⟩
      obtain ⟨hq0, hP⟩ := hP
      refine ⟨hq0, ?_⟩
      obtain ⟨hq0, hP⟩ := hP
      refine ⟨hq0, ?_⟩
      obtain ⟨hq0, hP⟩ := hP
      refine ⟨hq0, ?_⟩
      obtain ⟨hq0, hP⟩ := hP
      refine ⟨hq0, ?_⟩
      obtain ⟨hq0, hP⟩ := hP
      refine ⟨hq0, ?_⟩
      obtain ⟨hq0, hP⟩ := hP
      refine ⟨hq0, ?_⟩
      obtain ⟨hq0, hP⟩ := hP
      refine ⟨hq0, ?_⟩
      obtain ⟨hq0, hP⟩ := hP
      refine ⟨hq0, ?_⟩
      obtain ⟨hq0, hP⟩ := hP
      refine ⟨hq0, ?_⟩
      obtain ⟨hq0, hP⟩ := hP
      refine ⟨hq0, ?_⟩
      obtain ⟨hq0, hP⟩ := hP
      refine ⟨hq0, ?_⟩
      obtain ⟨hq0, hP⟩ := hP
      refine ⟨hq0, ?_⟩
      obtain ⟨hq0, hP⟩ := hP
      refine ⟨hq0, ?_⟩
      obtain ⟨hq0, hP⟩ := hP
      refine ⟨hq0, ?_⟩
      obtain ⟨hq0, hP⟩ := hP
      refine ⟨hq0, ?_⟩
      obtain ⟨hq0, hP⟩ := hP
      refine ⟨hq0, ?_⟩
      obtain ⟨hq0, hP⟩ := hP
      refine ⟨hq0, ?_⟩
      obtain ⟨hq0, hP⟩ := hP
      refine ⟨hq0, ?_⟩
      obtain ⟨hq0, hP⟩ := hP
      refine ⟨hq0, ?_⟩
      obtain ⟨hq0, hP⟩ := hP
      refine ⟨hq0, ?_⟩
      obtain ⟨hq0, hP⟩ := hP
      refine ⟨hq0, ?_⟩
      obtain ⟨hq0, hP⟩ := hP
      refine ⟨hq0, ?_⟩
      obtain ⟨hq0, hP⟩ := hP
      refine ⟨hq0, ?_⟩
      obtain ⟨hq0, hP⟩ := hP
      refine ⟨hq0, ?_⟩
      obtain ⟨hq0, hP⟩ := hP
      refine ⟨hq0, ?_⟩
      obtain ⟨hq0, hP⟩ := hP
      refine ⟨hq0, ?_⟩
      obtain ⟨hq0, hP⟩ := hP
      refine ⟨hq0, ?_⟩
      by_cases hp19 : ((ref04Ok_F (updRI (updRI (updRI (updRI (updRI (updRI (updRI (updRI (updI (updRI (updI (updI (updI (updI (updI (updI (updI (updI (updI (fun _ => 0) 0 (IntKind.i64.wrap (b0[0]!))) 1 (IntKind.i64.wrap (b0[1]!))) 2 (IntKind.i64.wrap (b0[2]!))) 3 (at4_F b0 3)) 4 (at4_F b0 7)) 8 (IntKind.i64.wrap (b0[14]!))) 9 (at4_F b0 15)) 10 (at4_F b0 19)) 11 (IntKind.i64.wrap (b0[23]!))) 5 2 (updI (updI (fun _ => 0) 0 (IntKind.i64.wrap (b0[11]!))) 1 (IntKind.i64.wrap (b0[12]!)))) 7 (IntKind.i64.wrap (b0[13]!))) 12 2 (updI (updI (fun _ => 0) 0 (at4_F b0 24)) 1 (at4_F b0 28))) 14 2 (updI (updI (fun _ => 0) 0 (at4_F b0 32)) 1 (at4_F b0 36))) 16 2 (updI (updI (fun _ => 0) 0 (at4_F b0 40)) 1 (at4_F b0 44))) 18 2 (updI (updI (fun _ => 0) 0 (at4_F b0 48)) 1 (at4_F b0 52))) 20 2 (updI (updI (fun _ => 0) 0 (at4_F b0 56)) 1 (at4_F b0 60))) 22 2 (updI (updI (fun _ => 0) 0 (at4_F b0 64)) 1 (at4_F b0 68))) 24 2 (updI (updI (fun _ => 0) 0 (at4_F b0 72)) 1 (at4_F b0 76))) 26 2 (updI (updI (fun _ => 0) 0 (at4_F b0 80)) 1 (at4_F b0 84))))) = true
      · rw [if_pos hp19] at hr hP ⊢
        exact hr
      · rw [if_neg hp19] at hr hP ⊢
        exact hr

end Go.E
