/- What functions of the program say, as relations. -/
import Derived.Test.YtmcohikcgdfhcaaP4g
set_option maxHeartbeats 1000000
set_option linter.unusedVariables false
set_option linter.unusedSimpArgs false
set_option maxRecDepth 100000
namespace Go.E
open Go

def msgOkL_S (m0 : (Nat → Int)) (r : Bool) : Prop :=
  if (alive4_F) = true then
    if ((ref04Ok_F m0)) = true then
      if (msgOk_F m0) = 0 then
        if (enc_F m0).2 = 0 then
          (refEnc_P m0) ∧ (
          (same_P ((enc_F m0).1) (refEnc_F m0)) ∧ (
          r = ((same_F ((enc_F m0).1) (refEnc_F m0)))))
        else
          r = (false)
      else
        r = (false)
    else
      r = (((decide ((code_F (msgOk_F m0)) = 5)) && (decide ((((enc_F m0).1).length : Int) = 0))) && (decide ((code_F ((enc_F m0).2)) = 5)))
  else
    r = (false)

def msgOkL_F (m0 : (Nat → Int)) : Bool :=
  if (alive4_F) = true then
    if ((ref04Ok_F m0)) = true then
      if (msgOk_F m0) = 0 then
        if (enc_F m0).2 = 0 then
          (same_F ((enc_F m0).1) (refEnc_F m0))
        else
          false
      else
        false
    else
      ((decide ((code_F (msgOk_F m0)) = 5)) && (decide ((((enc_F m0).1).length : Int) = 0))) && (decide ((code_F ((enc_F m0).2)) = 5))
  else
    false

def msgOkL_P (m0 : (Nat → Int)) : Prop :=
  if (alive4_F) = true then
    if ((ref04Ok_F m0)) = true then
      if (msgOk_F m0) = 0 then
        if (enc_F m0).2 = 0 then
          (refEnc_P m0) ∧ (
          (same_P ((enc_F m0).1) (refEnc_F m0)) ∧ (
          True))
        else
          True
      else
        True
    else
      True
  else
    True

theorem msgOkL_ok (m0 : (Nat → Int)) (hP : msgOkL_P m0) : msgOkL_S m0 (msgOkL_F m0) := by
  obtain ⟨r, hr⟩ : ∃ r, r = msgOkL_F m0 := ⟨_, rfl⟩
  rw [← hr]
  unfold msgOkL_F at hr
  unfold msgOkL_S
  unfold msgOkL_P at hP
  by_cases hp20 : (alive4_F) = true
  · rw [if_pos hp20] at hr hP ⊢
    by_cases hp21 : ((ref04Ok_F m0)) = true
    · rw [if_pos hp21] at hr hP ⊢
      by_cases hp22 : (msgOk_F m0) = 0
      · rw [if_pos hp22] at hr hP ⊢
        by_cases hp23 : (enc_F m0).2 = 0
        · rw [if_pos hp23] at hr hP ⊢
          obtain ⟨hq0, hP⟩ := hP
          refine ⟨hq0, ?_⟩
          obtain ⟨hq0, hP⟩ := hP
          refine ⟨hq0, ?_⟩
          exact hr
        · rw [if_neg hp23] at hr hP ⊢
          exact hr
      · rw [if_neg hp22] at hr hP ⊢
        exact hr
    · rw [if_neg hp21] at hr hP ⊢
      exact hr
  · rw [if_neg hp20] at hr hP ⊢
    exact hr

def msgReadsL_S (b0 : (List Int)) (r : Bool) : Prop :=
  if (alive4_F) = true then
    ((0 + b0.length) * 1 ≤ 140737488355328) ∧ (
    (dcd_P ([] ++ b0)) ∧ (
    (refDec_P b0) ∧ (
    r = (((eqN 28 ((dcd_F ([] ++ b0)).1) ((refDec_F b0).1))) && (decide ((code_F ((dcd_F ([] ++ b0)).2)) = (refDec_F b0).2))))))
  else
    r = (false)

def msgReadsL_F (b0 : (List Int)) : Bool :=
  if (alive4_F) = true then
    ((eqN 28 ((dcd_F ([] ++ b0)).1) ((refDec_F b0).1))) && (decide ((code_F ((dcd_F ([] ++ b0)).2)) = (refDec_F b0).2))
  else
    false

def msgReadsL_P (b0 : (List Int)) : Prop :=
  if (alive4_F) = true then
    ((0 + b0.length) * 1 ≤ 140737488355328) ∧ (
    (dcd_P ([] ++ b0)) ∧ (
    (refDec_P b0) ∧ (
    True)))
  else
    True

theorem msgReadsL_ok (b0 : (List Int)) (hP : msgReadsL_P b0) : msgReadsL_S b0 (msgReadsL_F b0) := by
  obtain ⟨r, hr⟩ : ∃ r, r = msgReadsL_F b0 := ⟨_, rfl⟩
  rw [← hr]
  unfold msgReadsL_F at hr
  unfold msgReadsL_S
  unfold msgReadsL_P at hP
  by_cases hp24 : (alive4_F) = true
  · rw [if_pos hp24] at hr hP ⊢
    obtain ⟨hq0, hP⟩ := hP
    refine ⟨hq0, ?_⟩
    obtain ⟨hq0, hP⟩ := hP
    refine ⟨hq0, ?_⟩
    obtain ⟨hq0, hP⟩ := hP
    refine ⟨hq0, ?_⟩
    exact hr
  · rw [if_neg hp24] at hr hP ⊢
    exact hr

def msgBackL_S (m0 : (Nat → Int)) (b1 : (List Int)) (r : Bool) : Prop :=
  if (alive4_F) = true then
    if (enc_F m0).2 = 0 then
      (dcd_P ((enc_F m0).1)) ∧ (
      if (((!(decide ((dcd_F ((enc_F m0).1)).2 = 0))) || (!((eqN 28 ((dcd_F ((enc_F m0).1)).1) m0)))) || (!(decide ((((enc_F m0).1).length : Int) = 88)))) = true then
        r = (false)
      else
        (dcd_P b1) ∧ (
        if (dcd_F b1).2 = 0 then
          (((decide ((enc_F ((dcd_F b1).1)).2 = 0)) = true) → same_P ((enc_F ((dcd_F b1).1)).1) b1) ∧ (
          r = ((decide ((enc_F ((dcd_F b1).1)).2 = 0)) && ((same_F ((enc_F ((dcd_F b1).1)).1) b1))))
        else
          r = ((eqN 28 ((dcd_F b1).1) (fun _ => 0)))))
    else
      (dcd_P b1) ∧ (
      if (dcd_F b1).2 = 0 then
        (((decide ((enc_F ((dcd_F b1).1)).2 = 0)) = true) → same_P ((enc_F ((dcd_F b1).1)).1) b1) ∧ (
        r = ((decide ((enc_F ((dcd_F b1).1)).2 = 0)) && ((same_F ((enc_F ((dcd_F b1).1)).1) b1))))
      else
        r = ((eqN 28 ((dcd_F b1).1) (fun _ => 0))))
  else
    r = (false)

def msgBackL_F (m0 : (Nat → Int)) (b1 : (List Int)) : Bool :=
  if (alive4_F) = true then
    if (enc_F m0).2 = 0 then
      if (((!(decide ((dcd_F ((enc_F m0).1)).2 = 0))) || (!((eqN 28 ((dcd_F ((enc_F m0).1)).1) m0)))) || (!(decide ((((enc_F m0).1).length : Int) = 88)))) = true then
        false
      else
        if (dcd_F b1).2 = 0 then
          (decide ((enc_F ((dcd_F b1).1)).2 = 0)) && ((same_F ((enc_F ((dcd_F b1).1)).1) b1))
        else
          (eqN 28 ((dcd_F b1).1) (fun _ => 0))
    else
      if (dcd_F b1).2 = 0 then
        (decide ((enc_F ((dcd_F b1).1)).2 = 0)) && ((same_F ((enc_F ((dcd_F b1).1)).1) b1))
      else
        (eqN 28 ((dcd_F b1).1) (fun _ => 0))
  else
    false

def msgBackL_P (m0 : (Nat → Int)) (b1 : (List Int)) : Prop :=
  if (alive4_F) = true then
    if (enc_F m0).2 = 0 then
      (dcd_P ((enc_F m0).1)) ∧ (
      if (((!(decide ((dcd_F ((enc_F m0).1)).2 = 0))) || (!((eqN 28 ((dcd_F ((enc_F m0).1)).1) m0)))) || (!(decide ((((enc_F m0).1).length : Int) = 88)))) = true then
        True
      else
        (dcd_P b1) ∧ (
        if (dcd_F b1).2 = 0 then
          (((decide ((enc_F ((dcd_F b1).1)).2 = 0)) = true) → same_P ((enc_F ((dcd_F b1).1)).1) b1) ∧ (
          True)
        else
          True))
    else
      (dcd_P b1) ∧ (
      if (dcd_F b1).2 = 0 then
        (((decide ((enc_F ((dcd_F b1).1)).2 = 0)) = true) → same_P ((enc_F ((dcd_F b1).1)).1) b1) ∧ (
        True)
      else
        True)
  else
    True

theorem msgBackL_ok (m0 : (Nat → Int)) (b1 : (List Int)) (hP : msgBackL_P m0 b1) : msgBackL_S m0 b1 (msgBackL_F m0 b1) := by
  obtain ⟨r, hr⟩ : ∃ r, r = msgBackL_F m0 b1 := ⟨_, rfl⟩
  rw [← hr]
  unfold msgBackL_F at hr
  unfold msgBackL_S
  unfold msgBackL_P at hP
  by_cases hp25 : (alive4_F) = true
  · rw [if_pos hp25] at hr hP ⊢
    by_cases hp26 : (enc_F m0).2 = 0
    · rw [if_pos hp26] at hr hP ⊢
      obtain ⟨hq0, hP⟩ := hP
      refine ⟨hq0, ?_⟩
      by_cases hp27 : (((!(decide ((dcd_F ((enc_F m0).1)).2 = 0))) || (!((eqN 28 ((dcd_F ((enc_F m0).1)).1) m0)))) || (!(decide ((((enc_F m0).1).length : Int) = 88)))) = true
      · rw [if_pos hp27] at hr hP ⊢
        exact hr
      · rw [if_neg hp27] at hr hP ⊢
        obtain ⟨hq0, hP⟩ := hP
        refine ⟨hq0, ?_⟩
        by_cases hp28 : (dcd_F b1).2 = 0
        · rw [if_pos hp28] at hr hP ⊢
          obtain ⟨hq0, hP⟩ := hP
          refine ⟨hq0, ?_⟩
          exact hr
        · rw [if_neg hp28] at hr hP ⊢
          exact hr
    · rw [if_neg hp26] at hr hP ⊢
      obtain ⟨hq0, hP⟩ := hP
      refine ⟨hq0, ?_⟩
      by_cases hp29 : (dcd_F b1).2 = 0
      · rw [if_pos hp29] at hr hP ⊢
        obtain ⟨hq0, hP⟩ := hP
        refine ⟨hq0, ?_⟩
        exact hr
      · rw [if_neg hp29] at hr hP ⊢
        exact hr
  · rw [if_neg hp25] at hr hP ⊢
    exact hr

def msgOneL_S (m0 : (Nat → Int)) (at1 : Int) (by2 : Int) (r : Bool) : Prop :=
  if (alive4_F) = true then
    if ((!(decide ((enc_F m0).2 = 0))) || (!(decide ((((enc_F m0).1).length : Int) = 88)))) = true then
      r = (!(decide ((enc_F m0).2 = 0)))
    else
      (0 ≤ (IntKind.i64.wrap at1).tmod 88 ∧ (IntKind.i64.wrap at1).tmod 88 < ((enc_F m0).1).length) ∧ (
      (0 ≤ (IntKind.i64.wrap at1).tmod 88 ∧ (IntKind.i64.wrap at1).tmod 88 < ((enc_F m0).1).length) ∧ (
      (dcd_P (((enc_F m0).1).set (((IntKind.i64.wrap at1).tmod 88).toNat) (IntKind.u8.wrap ((((enc_F m0).1)[((IntKind.i64.wrap at1).tmod 88).toNat]!) + by2)))) ∧ (
      r = ((!(decide ((dcd_F (((enc_F m0).1).set (((IntKind.i64.wrap at1).tmod 88).toNat) (IntKind.u8.wrap ((((enc_F m0).1)[((IntKind.i64.wrap at1).tmod 88).toNat]!) + by2)))).2 = 0))) || ((((eqN 28 ((dcd_F (((enc_F m0).1).set (((IntKind.i64.wrap at1).tmod 88).toNat) (IntKind.u8.wrap ((((enc_F m0).1)[((IntKind.i64.wrap at1).tmod 88).toNat]!) + by2)))).1) m0)) == (decide (by2 = 0))))))))
  else
    r = (false)

def msgOneL_F (m0 : (Nat → Int)) (at1 : Int) (by2 : Int) : Bool :=
  if (alive4_F) = true then
    if ((!(decide ((enc_F m0).2 = 0))) || (!(decide ((((enc_F m0).1).length : Int) = 88)))) = true then
      !(decide ((enc_F m0).2 = 0))
    else
      (!(decide ((dcd_F (((enc_F m0).1).set (((IntKind.i64.wrap at1).tmod 88).toNat) (IntKind.u8.wrap ((((enc_F m0).1)[((IntKind.i64.wrap at1).tmod 88).toNat]!) + by2)))).2 = 0))) || ((((eqN 28 ((dcd_F (((enc_F m0).1).set (((IntKind.i64.wrap at1).tmod 88).toNat) (IntKind.u8.wrap ((((enc_F m0).1)[((IntKind.i64.wrap at1).tmod 88).toNat]!) + by2)))).1) m0)) == (decide (by2 = 0))))
  else
    false

def msgOneL_P (m0 : (Nat → Int)) (at1 : Int) (by2 : Int) : Prop :=
  if (alive4_F) = true then
    if ((!(decide ((enc_F m0).2 = 0))) || (!(decide ((((enc_F m0).1).length : Int) = 88)))) = true then
      True
    else
      (0 ≤ (IntKind.i64.wrap at1).tmod 88 ∧ (IntKind.i64.wrap at1).tmod 88 < ((enc_F m0).1).length) ∧ (
      (0 ≤ (IntKind.i64.wrap at1).tmod 88 ∧ (IntKind.i64.wrap at1).tmod 88 < ((enc_F m0).1).length) ∧ (
      (dcd_P (((enc_F m0).1).set (((IntKind.i64.wrap at1).tmod 88).toNat) (IntKind.u8.wrap ((((enc_F m0).1)[((IntKind.i64.wrap at1).tmod 88).toNat]!) + by2)))) ∧ (
      True)))
  else
    True

theorem msgOneL_ok (m0 : (Nat → Int)) (at1 : Int) (by2 : Int) (hP : msgOneL_P m0 at1 by2) : msgOneL_S m0 at1 by2 (msgOneL_F m0 at1 by2) := by
  obtain ⟨r, hr⟩ : ∃ r, r = msgOneL_F m0 at1 by2 := ⟨_, rfl⟩
  rw [← hr]
  unfold msgOneL_F at hr
  unfold msgOneL_S
  unfold msgOneL_P at hP
  by_cases hp30 : (alive4_F) = true
  · rw [if_pos hp30] at hr hP ⊢
    by_cases hp31 : ((!(decide ((enc_F m0).2 = 0))) || (!(decide ((((enc_F m0).1).length : Int) = 88)))) = true
    · rw [if_pos hp31] at hr hP ⊢
      exact hr
    · rw [if_neg hp31] at hr hP ⊢
      obtain ⟨hq0, hP⟩ := hP
      refine ⟨hq0, ?_⟩
      obtain ⟨hq0, hP⟩ := hP
      refine ⟨hq0, ?_⟩
      obtain ⟨hq0, hP⟩ := hP
      refine ⟨hq0, ?_⟩
      exact hr
  · rw [if_neg hp30] at hr hP ⊢
    exact hr

end Go.E
