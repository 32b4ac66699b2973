/- What functions of the program say, as relations. -/
import Derived.Test.YtmcohikcgdfhcaaP4b
set_option maxHeartbeats 1000000
set_option linter.unusedVariables false
set_option linter.unusedSimpArgs false
set_option maxRecDepth 100000
namespace Go.E
open Go

def enc_S (m0 : (Nat → Int)) (r : (List Int) × Int) : Prop :=
  if (msgOk_F m0) = 0 then
    (put_P ([]) 1 ([m0 0, m0 1, m0 2])) ∧ (
    (put_P (([]) ++ ([m0 0, m0 1, m0 2]).flatMap (beN 1)) 4 ([m0 3, m0 4])) ∧ (
    (put_P ((([]) ++ ([m0 0, m0 1, m0 2]).flatMap (beN 1)) ++ ([m0 3, m0 4]).flatMap (beN 4)) 1 ([m0 5, m0 6, m0 7, m0 8])) ∧ (
    (put_P (((([]) ++ ([m0 0, m0 1, m0 2]).flatMap (beN 1)) ++ ([m0 3, m0 4]).flatMap (beN 4)) ++ ([m0 5, m0 6, m0 7, m0 8]).flatMap (beN 1)) 4 ([m0 9, m0 10])) ∧ (
    (put_P ((((([]) ++ ([m0 0, m0 1, m0 2]).flatMap (beN 1)) ++ ([m0 3, m0 4]).flatMap (beN 4)) ++ ([m0 5, m0 6, m0 7, m0 8]).flatMap (beN 1)) ++ ([m0 9, m0 10]).flatMap (beN 4)) 1 ([m0 11])) ∧ (
    (put_P (((((([]) ++ ([m0 0, m0 1, m0 2]).flatMap (beN 1)) ++ ([m0 3, m0 4]).flatMap (beN 4)) ++ ([m0 5, m0 6, m0 7, m0 8]).flatMap (beN 1)) ++ ([m0 9, m0 10]).flatMap (beN 4)) ++ ([m0 11]).flatMap (beN 1)) 4 ([m0 12, m0 13])) ∧ (
    (put_P ((((((([]) ++ ([m0 0, m0 1, m0 2]).flatMap (beN 1)) ++ ([m0 3, m0 4]).flatMap (beN 4)) ++ ([m0 5, m0 6, m0 7, m0 8]).flatMap (beN 1)) ++ ([m0 9, m0 10]).flatMap (beN 4)) ++ ([m0 11]).flatMap (beN 1)) ++ ([m0 12, m0 13]).flatMap (beN 4)) 4 ([m0 14, m0 15])) ∧ (
    (put_P (((((((([]) ++ ([m0 0, m0 1, m0 2]).flatMap (beN 1)) ++ ([m0 3, m0 4]).flatMap (beN 4)) ++ ([m0 5, m0 6, m0 7, m0 8]).flatMap (beN 1)) ++ ([m0 9, m0 10]).flatMap (beN 4)) ++ ([m0 11]).flatMap (beN 1)) ++ ([m0 12, m0 13]).flatMap (beN 4)) ++ ([m0 14, m0 15]).flatMap (beN 4)) 4 ([m0 16, m0 17])) ∧ (
    (put_P ((((((((([]) ++ ([m0 0, m0 1, m0 2]).flatMap (beN 1)) ++ ([m0 3, m0 4]).flatMap (beN 4)) ++ ([m0 5, m0 6, m0 7, m0 8]).flatMap (beN 1)) ++ ([m0 9, m0 10]).flatMap (beN 4)) ++ ([m0 11]).flatMap (beN 1)) ++ ([m0 12, m0 13]).flatMap (beN 4)) ++ ([m0 14, m0 15]).flatMap (beN 4)) ++ ([m0 16, m0 17]).flatMap (beN 4)) 4 ([m0 18, m0 19])) ∧ (
    (put_P (((((((((([]) ++ ([m0 0, m0 1, m0 2]).flatMap (beN 1)) ++ ([m0 3, m0 4]).flatMap (beN 4)) ++ ([m0 5, m0 6, m0 7, m0 8]).flatMap (beN 1)) ++ ([m0 9, m0 10]).flatMap (beN 4)) ++ ([m0 11]).flatMap (beN 1)) ++ ([m0 12, m0 13]).flatMap (beN 4)) ++ ([m0 14, m0 15]).flatMap (beN 4)) ++ ([m0 16, m0 17]).flatMap (beN 4)) ++ ([m0 18, m0 19]).flatMap (beN 4)) 4 ([m0 20, m0 21])) ∧ (
    (put_P ((((((((((([]) ++ ([m0 0, m0 1, m0 2]).flatMap (beN 1)) ++ ([m0 3, m0 4]).flatMap (beN 4)) ++ ([m0 5, m0 6, m0 7, m0 8]).flatMap (beN 1)) ++ ([m0 9, m0 10]).flatMap (beN 4)) ++ ([m0 11]).flatMap (beN 1)) ++ ([m0 12, m0 13]).flatMap (beN 4)) ++ ([m0 14, m0 15]).flatMap (beN 4)) ++ ([m0 16, m0 17]).flatMap (beN 4)) ++ ([m0 18, m0 19]).flatMap (beN 4)) ++ ([m0 20, m0 21]).flatMap (beN 4)) 4 ([m0 22, m0 23])) ∧ (
    (put_P (((((((((((([]) ++ ([m0 0, m0 1, m0 2]).flatMap (beN 1)) ++ ([m0 3, m0 4]).flatMap (beN 4)) ++ ([m0 5, m0 6, m0 7, m0 8]).flatMap (beN 1)) ++ ([m0 9, m0 10]).flatMap (beN 4)) ++ ([m0 11]).flatMap (beN 1)) ++ ([m0 12, m0 13]).flatMap (beN 4)) ++ ([m0 14, m0 15]).flatMap (beN 4)) ++ ([m0 16, m0 17]).flatMap (beN 4)) ++ ([m0 18, m0 19]).flatMap (beN 4)) ++ ([m0 20, m0 21]).flatMap (beN 4)) ++ ([m0 22, m0 23]).flatMap (beN 4)) 4 ([m0 24, m0 25])) ∧ (
    (put_P ((((((((((((([]) ++ ([m0 0, m0 1, m0 2]).flatMap (beN 1)) ++ ([m0 3, m0 4]).flatMap (beN 4)) ++ ([m0 5, m0 6, m0 7, m0 8]).flatMap (beN 1)) ++ ([m0 9, m0 10]).flatMap (beN 4)) ++ ([m0 11]).flatMap (beN 1)) ++ ([m0 12, m0 13]).flatMap (beN 4)) ++ ([m0 14, m0 15]).flatMap (beN 4)) ++ ([m0 16, m0 17]).flatMap (beN 4)) ++ ([m0 18, m0 19]).flatMap (beN 4)) ++ ([m0 20, m0 21]).flatMap (beN 4)) ++ ([m0 22, m0 23]).flatMap (beN 4)) ++ ([m0 24, m0 25]).flatMap (beN 4)) 4 ([m0 26, m0 27])) ∧ (
    r = (((((((((((((((([]) ++ ([m0 0, m0 1, m0 2]).flatMap (beN 1)) ++ ([m0 3, m0 4]).flatMap (beN 4)) ++ ([m0 5, m0 6, m0 7, m0 8]).flatMap (beN 1)) ++ ([m0 9, m0 10]).flatMap (beN 4)) ++ ([m0 11]).flatMap (beN 1)) ++ ([m0 12, m0 13]).flatMap (beN 4)) ++ ([m0 14, m0 15]).flatMap (beN 4)) ++ ([m0 16, m0 17]).flatMap (beN 4)) ++ ([m0 18, m0 19]).flatMap (beN 4)) ++ ([m0 20, m0 21]).flatMap (beN 4)) ++ ([m0 22, m0 23]).flatMap (beN 4)) ++ ([m0 24, m0 25]).flatMap (beN 4)) ++ ([m0 26, m0 27]).flatMap (beN 4)), 0)))))))))))))))
  else
    r = (([], (msgOk_F m0)))

def enc_F (m0 : (Nat → Int)) : (List Int) × Int :=
  if (msgOk_F m0) = 0 then
    ((((((((((((((([]) ++ ([m0 0, m0 1, m0 2]).flatMap (beN 1)) ++ ([m0 3, m0 4]).flatMap (beN 4)) ++ ([m0 5, m0 6, m0 7, m0 8]).flatMap (beN 1)) ++ ([m0 9, m0 10]).flatMap (beN 4)) ++ ([m0 11]).flatMap (beN 1)) ++ ([m0 12, m0 13]).flatMap (beN 4)) ++ ([m0 14, m0 15]).flatMap (beN 4)) ++ ([m0 16, m0 17]).flatMap (beN 4)) ++ ([m0 18, m0 19]).flatMap (beN 4)) ++ ([m0 20, m0 21]).flatMap (beN 4)) ++ ([m0 22, m0 23]).flatMap (beN 4)) ++ ([m0 24, m0 25]).flatMap (beN 4)) ++ ([m0 26, m0 27]).flatMap (beN 4)), 0)
  else
    ([], (msgOk_F m0))

def enc_P (m0 : (Nat → Int)) : Prop :=
  if (msgOk_F m0) = 0 then
    (put_P ([]) 1 ([m0 0, m0 1, m0 2])) ∧ (
    (put_P (([]) ++ ([m0 0, m0 1, m0 2]).flatMap (beN 1)) 4 ([m0 3, m0 4])) ∧ (
    (put_P ((([]) ++ ([m0 0, m0 1, m0 2]).flatMap (beN 1)) ++ ([m0 3, m0 4]).flatMap (beN 4)) 1 ([m0 5, m0 6, m0 7, m0 8])) ∧ (
    (put_P (((([]) ++ ([m0 0, m0 1, m0 2]).flatMap (beN 1)) ++ ([m0 3, m0 4]).flatMap (beN 4)) ++ ([m0 5, m0 6, m0 7, m0 8]).flatMap (beN 1)) 4 ([m0 9, m0 10])) ∧ (
    (put_P ((((([]) ++ ([m0 0, m0 1, m0 2]).flatMap (beN 1)) ++ ([m0 3, m0 4]).flatMap (beN 4)) ++ ([m0 5, m0 6, m0 7, m0 8]).flatMap (beN 1)) ++ ([m0 9, m0 10]).flatMap (beN 4)) 1 ([m0 11])) ∧ (
    (put_P (((((([]) ++ ([m0 0, m0 1, m0 2]).flatMap (beN 1)) ++ ([m0 3, m0 4]).flatMap (beN 4)) ++ ([m0 5, m0 6, m0 7, m0 8]).flatMap (beN 1)) ++ ([m0 9, m0 10]).flatMap (beN 4)) ++ ([m0 11]).flatMap (beN 1)) 4 ([m0 12, m0 13])) ∧ (
    (put_P ((((((([]) ++ ([m0 0, m0 1, m0 2]).flatMap (beN 1)) ++ ([m0 3, m0 4]).flatMap (beN 4)) ++ ([m0 5, m0 6, m0 7, m0 8]).flatMap (beN 1)) ++ ([m0 9, m0 10]).flatMap (beN 4)) ++ ([m0 11]).flatMap (beN 1)) ++ ([m0 12, m0 13]).flatMap (beN 4)) 4 ([m0 14, m0 15])) ∧ (
    (put_P (((((((([]) ++ ([m0 0, m0 1, m0 2]).flatMap (beN 1)) ++ ([m0 3, m0 4]).flatMap (beN 4)) ++ ([m0 5, m0 6, m0 7, m0 8]).flatMap (beN 1)) ++ ([m0 9, m0 10]).flatMap (beN 4)) ++ ([m0 11]).flatMap (beN 1)) ++ ([m0 12, m0 13]).flatMap (beN 4)) ++ ([m0 14, m0 15]).flatMap (beN 4)) 4 ([m0 16, m0 17])) ∧ (
    (put_P ((((((((([]) ++ ([m0 0, m0 1, m0 2]).flatMap (beN 1)) ++ ([m0 3, m0 4]).flatMap (beN 4)) ++ ([m0 5, m0 6, m0 7, m0 8]).flatMap (beN 1)) ++ ([m0 9, m0 10]).flatMap (beN 4)) ++ ([m0 11]).flatMap (beN 1)) ++ ([m0 12, m0 13]).flatMap (beN 4)) ++ ([m0 14, m0 15]).flatMap (beN 4)) ++ ([m0 16, m0 17]).flatMap (beN 4)) 4 ([m0 18, m0 19])) ∧ (
    (put_P (((((((((([]) ++ ([m0 0, m0 1, m0 2]).flatMap (beN 1)) ++ ([m0 3, m0 4]).flatMap (beN 4)) ++ ([m0 5, m0 6, m0 7, m0 8]).flatMap (beN 1)) ++ ([m0 9, m0 10]).flatMap (beN 4)) ++ ([m0 11]).flatMap (beN 1)) ++ ([m0 12, m0 13]).flatMap (beN 4)) ++ ([m0 14, m0 15]).flatMap (beN 4)) ++ ([m0 16, m0 17]).flatMap (beN 4)) ++ ([m0 18, m0 19]).flatMap (beN 4)) 4 ([m0 20, m0 21])) ∧ (
    (put_P ((((((((((([]) ++ ([m0 0, m0 1, m0 2]).flatMap (beN 1)) ++ ([m0 3, m0 4]).flatMap (beN 4)) ++ ([m0 5, m0 6, m0 7, m0 8]).flatMap (beN 1)) ++ ([m0 9, m0 10]).flatMap (beN 4)) ++ ([m0 11]).flatMap (beN 1)) ++ ([m0 12, m0 13]).flatMap (beN 4)) ++ ([m0 14, m0 15]).flatMap (beN 4)) ++ ([m0 16, m0 17]).flatMap (beN 4)) ++ ([m0 18, m0 19]).flatMap (beN 4)) ++ ([m0 20, m0 21]).flatMap (beN 4)) 4 ([m0 22, m0 23])) ∧ (
    (put_P (((((((((((([]) ++ ([m0 0, m0 1, m0 2]).flatMap (beN 1)) ++ ([m0 3, m0 4]).flatMap (beN 4)) ++ ([m0 5, m0 6, m0 7, m0 8]).flatMap (beN 1)) ++ ([m0 9, m0 10]).flatMap (beN 4)) ++ ([m0 11]).flatMap (beN 1)) ++ ([m0 12, m0 13]).flatMap (beN 4)) ++ ([m0 14, m0 15]).flatMap (beN 4)) ++ ([m0 16, m0 17]).flatMap (beN 4)) ++ ([m0 18, m0 19]).flatMap (beN 4)) ++ ([m0 20, m0 21]).flatMap (beN 4)) ++ ([m0 22, m0 23]).flatMap (beN 4)) 4 ([m0 24, m0 25])) ∧ (
    (put_P ((((((((((((([]) ++ ([m0 0, m0 1, m0 2]).flatMap (beN 1)) ++ ([m0 3, m0 4]).flatMap (beN 4)) ++ ([m0 5, m0 6, m0 7, m0 8]).flatMap (beN 1)) ++ ([m0 9, m0 10]).flatMap (beN 4)) ++ ([m0 11]).flatMap (beN 1)) ++ ([m0 12, m0 13]).flatMap (beN 4)) ++ ([m0 14, m0 15]).flatMap (beN 4)) ++ ([m0 16, m0 17]).flatMap (beN 4)) ++ ([m0 18, m0 19]).flatMap (beN 4)) ++ ([m0 20, m0 21]).flatMap (beN 4)) ++ ([m0 22, m0 23]).flatMap (beN 4)) ++ ([m0 24, m0 25]).flatMap (beN 4)) 4 ([m0 26, m0 27])) ∧ (
    True)))))))))))))
  else
    True

theorem enc_ok (m0 : (Nat → Int)) (hP : enc_P m0) : enc_S m0 (enc_F m0) := by
  obtain ⟨r, hr⟩ : ∃ r, r = enc_F m0 := ⟨_, rfl⟩
  rw [← hr]
  unfold enc_F at hr
  unfold enc_S
  unfold enc_P at hP
  by_cases hp13 : (msgOk_F m0) = 0
  · rw [if_pos hp13] at hr hP ⊢
    obtain ⟨hq0, hP⟩ := hP
    refine ⟨hq0, ?_⟩
    obtain ⟨hq0, hP⟩ := hP
    refine ⟨hq0, ?_⟩
    obtain ⟨hq0, hP⟩ := hP
    refine ⟨hq0, ?_⟩
    obtain ⟨hq0, hP⟩ := hP
    refine ⟨hq0, ?_⟩
    obtain ⟨hq0, hP⟩ := hP
    refine ⟨hq0, ?_⟩
    obtain ⟨hq0, hP⟩ := hP
    refine ⟨hq0, ?_⟩
    obtain ⟨hq0, hP⟩ := hP
    refine ⟨hq0, ?_⟩
    obtain ⟨hq0, hP⟩ := hP
    refine ⟨hq0, ?_⟩
    obtain ⟨hq0, hP⟩ := hP
    refine ⟨hq0, ?_⟩
    obtain ⟨hq0, hP⟩ := hP
    refine ⟨hq0, ?_⟩
    obtain ⟨hq0, hP⟩ := hP
    refine ⟨hq0, ?_⟩
    obtain ⟨hq0, hP⟩ := hP
    refine ⟨hq0, ?_⟩
    obtain ⟨hq0, hP⟩ := hP
    refine ⟨hq0, ?_⟩
    exact hr
  · rw [if_neg hp13] at hr hP ⊢
    exact hr

def dcd_S (b0 : (List Int)) (r : (Nat → Int) × Int) : Prop :=
  if (b0.length : Int) < 88 then
    r = (((fun _ => 0), 3))
  else
    if 88 < (b0.length : Int) then
      r = (((fun _ => 0), 4))
    else
      (cloneB_P b0) ∧ (
      (take_P b0 0 1) ∧ (
      (take_P b0 1 1) ∧ (
      (take_P b0 2 1) ∧ (
      (take_P b0 3 4) ∧ (
      (take_P b0 7 4) ∧ (
      (take_P b0 11 1) ∧ (
      (take_P b0 12 1) ∧ (
      (take_P b0 13 1) ∧ (
      (take_P b0 14 1) ∧ (
      (take_P b0 15 4) ∧ (
      (take_P b0 19 4) ∧ (
      (take_P b0 23 1) ∧ (
      (take_P b0 24 4) ∧ (
      (take_P b0 28 4) ∧ (
      (take_P b0 32 4) ∧ (
      (take_P b0 36 4) ∧ (
      (take_P b0 40 4) ∧ (
      (take_P b0 44 4) ∧ (
      (take_P b0 48 4) ∧ (
      (take_P b0 52 4) ∧ (
      (take_P b0 56 4) ∧ (
      (take_P b0 60 4) ∧ (
      (take_P b0 64 4) ∧ (
      (take_P b0 68 4) ∧ (
      (take_P b0 72 4) ∧ (
      (take_P b0 76 4) ∧ (
      (take_P b0 80 4) ∧ (
      (take_P b0 84 4) ∧ (
      if (msgOk_F (updI (updI (updI (updI (updI (updI (updI (updI (updI (updI (updI (updI (updI (updI (updI (updI (updI (updI (updI (updI (updI (updI (updI (updI (updI (updI (updI (updI (fun _ => 0) 0 (numF b0 0 1)) 1 (numF b0 1 1)) 2 (numF b0 2 1)) 3 (numF b0 3 4)) 4 (numF b0 7 4)) 5 (numF b0 11 1)) 6 (numF b0 12 1)) 8 (numF b0 14 1)) 9 (numF b0 15 4)) 10 (numF b0 19 4)) 11 (numF b0 23 1)) 12 (numF b0 24 4)) 13 (numF b0 28 4)) 14 (numF b0 32 4)) 15 (numF b0 36 4)) 16 (numF b0 40 4)) 17 (numF b0 44 4)) 18 (numF b0 48 4)) 19 (numF b0 52 4)) 20 (numF b0 56 4)) 21 (numF b0 60 4)) 22 (numF b0 64 4)) 23 (numF b0 68 4)) 24 (numF b0 72 4)) 25 (numF b0 76 4)) 26 (numF b0 80 4)) 27 (numF b0 84 4)) 7 (numF b0 13 1))) = 0 then
        r = (((updI (updI (updI (updI (updI (updI (updI (updI (updI (updI (updI (updI (updI (updI (updI (updI (updI (updI (updI (updI (updI (updI (updI (updI (updI (updI (updI (updI (fun _ => 0) 0 (numF b0 0 1)) 1 (numF b0 1 1)) 2 (numF b0 2 1)) 3 (numF b0 3 4)) 4 (numF b0 7 4)) 5 (numF b0 11 1)) 6 (numF b0 12 1)) 8 (numF b0 14 1)) 9 (numF b0 15 4)) 10 (numF b0 19 4)) 11 (numF b0 23 1)) 12 (numF b0 24 4)) 13 (numF b0 28 4)) 14 (numF b0 32 4)) 15 (numF b0 36 4)) 16 (numF b0 40 4)) 17 (numF b0 44 4)) 18 (numF b0 48 4)) 19 (numF b0 52 4)) 20 (numF b0 56 4)) 21 (numF b0 60 4)) 22 (numF b0 64 4)) 23 (numF b0 68 4)) 24 (numF b0 72 4)) 25 (numF b0 76 4)) 26 (numF b0 80 4)) 27 (numF b0 84 4)) 7 (numF b0 13 1)), 0))
      else
        r = (((fun _ => 0), (msgOk_F (updI (updI (updI (updI (updI (updI (updI (updI (updI (updI (updI (updI (updI (updI (updI (updI (updI (updI (updI (updI (updI (updI (updI (updI (updI (updI (updI (updI (fun _ => 0) 0 (numF b0 0 1)) 1 (numF b0 1 1)) 2 (numF b0 2 1)) 3 (numF b0 3 4)) 4 (numF b0 7 4)) 5 (numF b0 11 1)) 6 (numF b0 12 1)) 8 (numF b0 14 1)) 9 (numF b0 15 4)) 10 (numF b0 19 4)) 11 (numF b0 23 1)) 12 (numF b0 24 4)) 13 (numF b0 28 4)) 14 (numF b0 32 4)) 15 (numF b0 36 4)) 16 (numF b0 40 4)) 17 (numF b0 44 4)) 18 (numF b0 48 4)) 19 (numF b0 52 4)) 20 (numF b0 56 4)) 21 (numF b0 60 4)) 22 (numF b0 64 4)) 23 (numF b0 68 4)) 24 (numF b0 72 4)) 25 (numF b0 76 4)) 26 (numF b0 80 4)) 27 (numF b0 84 4)) 7 (numF b0 13 1))))))))))))))))))))))))))))))))))

def dcd_F (b0 : (List Int)) : (Nat → Int) × Int :=
  if (b0.length : Int) < 88 then
    ((fun _ => 0), 3)
  else
    if 88 < (b0.length : Int) then
      ((fun _ => 0), 4)
    else
      if (msgOk_F (updI (updI (updI (updI (updI (updI (updI (updI (updI (updI (updI (updI (updI (updI (updI (updI (updI (updI (updI (updI (updI (updI (updI (updI (updI (updI (updI (updI (fun _ => 0) 0 (numF b0 0 1)) 1 (numF b0 1 1)) 2 (numF b0 2 1)) 3 (numF b0 3 4)) 4 (numF b0 7 4)) 5 (numF b0 11 1)) 6 (numF b0 12 1)) 8 (numF b0 14 1)) 9 (numF b0 15 4)) 10 (numF b0 19 4)) 11 (numF b0 23 1)) 12 (numF b0 24 4)) 13 (numF b0 28 4)) 14 (numF b0 32 4)) 15 (numF b0 36 4)) 16 (numF b0 40 4)) 17 (numF b0 44 4)) 18 (numF b0 48 4)) 19 (numF b0 52 4)) 20 (numF b0 56 4)) 21 (numF b0 60 4)) 22 (numF b0 64 4)) 23 (numF b0 68 4)) 24 (numF b0 72 4)) 25 (numF b0 76 4)) 26 (numF b0 80 4)) 27 (numF b0 84 4)) 7 (numF b0 13 1))) = 0 then
        ((updI (updI (updI (updI (updI (updI (updI (updI (updI (updI (updI (updI (updI (updI (updI (updI (updI (updI (updI (updI (updI (updI (updI (updI (updI (updI (updI (updI (fun _ => 0) 0 (numF b0 0 1)) 1 (numF b0 1 1)) 2 (numF b0 2 1)) 3 (numF b0 3 4)) 4 (numF b0 7 4)) 5 (numF b0 11 1)) 6 (numF b0 12 1)) 8 (numF b0 14 1)) 9 (numF b0 15 4)) 10 (numF b0 19 4)) 11 (numF b0 23 1)) 12 (numF b0 24 4)) 13 (numF b0 28 4)) 14 (numF b0 32 4)) 15 (numF b0 36 4)) 16 (numF b0 40 4)) 17 (numF b0 44 4)) 18 (numF b0 48 4)) 19 (numF b0 52 4)) 20 (numF b0 56 4)) 21 (numF b0 60 4)) 22 (numF b0 64 4)) 23 (numF b0 68 4)) 24 (numF b0 72 4)) 25 (numF b0 76 4)) 26 (numF b0 80 4)) 27 (numF b0 84 4)) 7 (numF b0 13 1)), 0)
      else
        ((fun _ => 0), (msgOk_F (updI (updI (updI (updI (updI (updI (updI (updI (updI (updI (updI (updI (updI (updI (updI (updI (updI (updI (updI (updI (updI (updI (updI (updI (updI (updI (updI (updI (fun _ => 0) 0 (numF b0 0 1)) 1 (numF b0 1 1)) 2 (numF b0 2 1)) 3 (numF b0 3 4)) 4 (numF b0 7 4)) 5 (numF b0 11 1)) 6 (numF b0 12 1)) 8 (numF b0 14 1)) 9 (numF b0 15 4)) 10 (numF b0 19 4)) 11 (numF b0 23 1)) 12 (numF b0 24 4)) 13 (numF b0 28 4)) 14 (numF b0 32 4)) 15 (numF b0 36 4)) 16 (numF b0 40 4)) 17 (numF b0 44 4)) 18 (numF b0 48 4)) 19 (numF b0 52 4)) 20 (numF b0 56 4)) 21 (numF b0 60 4)) 22 (numF b0 64 4)) 23 (numF b0 68 4)) 24 (numF b0 72 4)) 25 (numF b0 76 4)) 26 (numF b0 80 4)) 27 (numF b0 84 4)) 7 (numF b0 13 1))))

def dcd_P (b0 : (List Int)) : Prop :=
  if (b0.length : Int) < 88 then
    True
  else
    if 88 < (b0.length : Int) then
      True
    else
      (cloneB_P b0) ∧ (
      (take_P b0 0 1) ∧ (
      (take_P b0 1 1) ∧ (
      (take_P b0 2 1) ∧ (
      (take_P b0 3 4) ∧ (
      (take_P b0 7 4) ∧ (
      (take_P b0 11 1) ∧ (
      (take_P b0 12 1) ∧ (
      (take_P b0 13 1) ∧ (
      (take_P b0 14 1) ∧ (
      (take_P b0 15 4) ∧ (
      (take_P b0 19 4) ∧ (
      (take_P b0 23 1) ∧ (
      (take_P b0 24 4) ∧ (
      (take_P b0 28 4) ∧ (
      (take_P b0 32 4) ∧ (
      (take_P b0 36 4) ∧ (
      (take_P b0 40 4) ∧ (
      (take_P b0 44 4) ∧ (
      (take_P b0 48 4) ∧ (
      (take_P b0 52 4) ∧ (
      (take_P b0 56 4) ∧ (
      (take_P b0 60 4) ∧ (
      (take_P b0 64 4) ∧ (
      (take_P b0 68 4) ∧ (
      (take_P b0 72 4) ∧ (
      (take_P b0 76 4) ∧ (
      (take_P b0 80 4) ∧ (
      (take_P b0 84 4) ∧ (
      if (msgOk_F (updI (updI (updI (updI (updI (updI (updI (updI (updI (updI (updI (updI (updI (updI (updI (updI (updI (updI (updI (updI (updI (updI (updI (updI (updI (updI (updI (updI (fun _ => 0) 0 (numF b0 0 1)) 1 (numF b0 1 1)) 2 (numF b0 2 1)) 3 (numF b0 3 4)) 4 (numF b0 7 4)) 5 (numF b0 11 1)) 6 (numF b0 12 1)) 8 (numF b0 14 1)) 9 (numF b0 15 4)) 10 (numF b0 19 4)) 11 (numF b0 23 1)) 12 (numF b0 24 4)) 13 (numF b0 28 4)) 14 (numF b0 32 4)) 15 (numF b0 36 4)) 16 (numF b0 40 4)) 17 (numF b0 44 4)) 18 (numF b0 48 4)) 19 (numF b0 52 4)) 20 (numF b0 56 4)) 21 (numF b0 60 4)) 22 (numF b0 64 4)) 23 (numF b0 68 4)) 24 (numF b0 72 4)) 25 (numF b0 76 4)) 26 (numF b0 80 4)) 27 (numF b0 84 4)) 7 (numF b0 13 1))) = 0 then
        True
      else
        True)))))))))))))))))))))))))))))

theorem dcd_ok (b0 : (List Int)) (hP : dcd_P b0) : dcd_S b0 (dcd_F b0) := by
  obtain ⟨r, hr⟩ : ∃ r, r = dcd_F b0 := ⟨_, rfl⟩
  rw [← hr]
  unfold dcd_F at hr
  unfold dcd_S
  unfold dcd_P at hP
  by_cases hp14 : (b0.length : Int) < 88
  · rw [if_pos hp14] at hr hP ⊢
    exact hr
  · rw [if_neg hp14] at hr hP ⊢
    by_cases hp15 : 88 < (b0.length : Int)
    · rw [if_pos hp15] at hr hP ⊢
      exact hr
    · rw [if_neg hp15] at hr hP ⊢
      obtain ⟨hq0, hP⟩ := hP
      refine ⟨hq0, ?_⟩
      obtain ⟨hq0, hP⟩ := hP
      refine ⟨hq0, ?_⟩
      obtain ⟨hq0, hP⟩ := hP
      refine ⟨hq0, ?_⟩
      obtain ⟨hq0, hP⟩ := hP
      refine ⟨hq0, ?_⟩
      obtain ⟨hq0, hP⟩ := hP
      refine ⟨hq0, ?_⟩
      obtain ⟨hq0, hP⟩ := hP
      refine ⟨hq0, ?_⟩
      obtain ⟨hq0, hP⟩ := hP
      refine ⟨hq0, ?_⟩
      obtain ⟨hq0, hP⟩ := hP
      refine ⟨hq0, ?_⟩
      obtain ⟨hq0, hP⟩ := hP
      refine ⟨hq0, ?_⟩
      obtain ⟨hq0, hP⟩ := hP
      refine ⟨hq0, ?_⟩
      obtain ⟨hq0, hP⟩ := hP
      refine ⟨hq0, ?_⟩
      obtain ⟨hq0, hP⟩ := hP
      refine ⟨hq0, ?_⟩
      obtain ⟨hq0, hP⟩ := hP
      refine ⟨hq0, ?_⟩
      obtain ⟨hq0, hP⟩ := hP
      refine ⟨hq0, ?_⟩
      obtain ⟨hq0, hP⟩ := hP
      refine ⟨hq0, ?_⟩
      obtain ⟨hq0, hP⟩ := hP
      refine ⟨hq0, ?_⟩
      obtain ⟨hq0, hP⟩ := hP
      refine ⟨hq0, ?_⟩
      obtain ⟨hq0, hP⟩ := hP
      refine ⟨hq0, ?_⟩
      obtain ⟨hq0, hP⟩ := hP
      refine ⟨hq0, ?_⟩
      obtain ⟨hq0, hP⟩ := hP
      refine ⟨hq0, ?_⟩
      obtain ⟨hq0, hP⟩ := hP
      refine ⟨hq0, ?_⟩
      obtain ⟨hq0, hP⟩ := hP
      refine ⟨hq0, ?_⟩
      obtain ⟨hq0, hP⟩ := hP
      refine ⟨hq0, ?_⟩
      obtain ⟨hq0, hP⟩ := hP
      refine ⟨hq0, ?_⟩
      obtain ⟨hq0, hP⟩ := hP
      refine ⟨hq0, ?_⟩
      obtain ⟨hq0, hP⟩ := hP
      refine ⟨hq0, ?_⟩
      obtain ⟨hq0, hP⟩ := hP
      refine ⟨hq0, ?_⟩
      obtain ⟨hq0, hP⟩ := hP
      refine ⟨hq0, ?_⟩
      obtain ⟨hq0, hP⟩ := hP
      refine ⟨hq0, ?_⟩
      by_cases hp16 : (msgOk_F (updI (updI (updI (updI (updI (updI (updI (updI (updI (updI (updI (updI (updI (updI (updI (updI (updI (updI (updI (updI (updI (updI (updI (updI (updI (updI (updI (updI (fun _ => 0) 0 (numF b0 0 1)) 1 (numF b0 1 1)) 2 (numF b0 2 1)) 3 (numF b0 3 4)) 4 (numF b0 7 4)) 5 (numF b0 11 1)) 6 (numF b0 12 1)) 8 (numF b0 14 1)) 9 (numF b0 15 4)) 10 (numF b0 19 4)) 11 (numF b0 23 1)) 12 (numF b0 24 4)) 13 (numF b0 28 4)) 14 (numF b0 32 4)) 15 (numF b0 36 4)) 16 (numF b0 40 4)) 17 (numF b0 44 4)) 18 (numF b0 48 4)) 19 (numF b0 52 4)) 20 (numF b0 56 4)) 21 (numF b0 60 4)) 22 (numF b0 64 4)) 23 (numF b0 68 4)) 24 (numF b0 72 4)) 25 (numF b0 76 4)) 26 (numF b0 80 4)) 27 (numF b0 84 4)) 7 (numF b0 13 1))) = 0
      · rw [if_pos hp16] at hr hP ⊢
        exact hr
      · rw [if_neg hp16] at hr hP ⊢
        exact hr

end Go.E
