/- What functions of the program say, as relations. -/
import Derived.Test.YtndkjhaiopcpeaaPM
import Derived.Test.YtndkjhaiopcpeaaPCd
set_option maxHeartbeats 1000000
set_option linter.unusedVariables false
set_option linter.unusedSimpArgs false
set_option maxRecDepth 100000
namespace Go.E
open Go

def answers_S (m0 : (Nat → Int)) (r : Bool) : Prop :=
  if m0 0 = 2 then
    r = (decide ((msgOk_F m0) = 0))
  else
    if m0 0 = 3 then
      r = (decide ((msgOk_F m0) = 0))
    else
      r = (false)

def answers_F (m0 : (Nat → Int)) : Bool :=
  if m0 0 = 2 then
    decide ((msgOk_F m0) = 0)
  else
    if m0 0 = 3 then
      decide ((msgOk_F m0) = 0)
    else
      false

theorem answers_ok (m0 : (Nat → Int)) : answers_S m0 (answers_F m0) := by
  obtain ⟨r, hr⟩ : ∃ r, r = answers_F m0 := ⟨_, rfl⟩
  rw [← hr]
  unfold answers_F at hr
  unfold answers_S
  by_cases hp13 : m0 0 = 2
  · rw [if_pos hp13] at hr ⊢
    exact hr
  · rw [if_neg hp13] at hr ⊢
    by_cases hp14 : m0 0 = 3
    · rw [if_pos hp14] at hr ⊢
      exact hr
    · rw [if_neg hp14] at hr ⊢
      exact hr

def bopen_S (b0last : (List (Int × (Nat → Int)))) (tx1 : Int) (seq2 : Int) (r : (Nat → Int) × Int × (List (Int × (Nat → Int)))) : Prop :=
  if ((((decide (tx1 < 1)) || (decide (1048576 < tx1))) || (decide (seq2 < 1))) || (decide (1048576 < seq2))) = true then
    r = (((fun _ => 0), 1, b0last))
  else
    if seq2 < (mget ieq b0last tx1 (fun _ => 0)) 0 then
      r = (((fun _ => 0), 14, b0last))
    else
      if (mget ieq b0last tx1 (fun _ => 0)) 0 < seq2 then
        r = (((fun _ => 0), 0, mset ieq b0last tx1 (updI (fun _ => 0) 0 seq2)))
      else
        if (mget ieq b0last tx1 (fun _ => 0)) 1 = 0 then
          r = (((fun _ => 0), 8, b0last))
        else
          r = (((fun i => (mget ieq b0last tx1 (fun _ => 0)) (1 + i)), 15, b0last))

def bopen_F (b0last : (List (Int × (Nat → Int)))) (tx1 : Int) (seq2 : Int) : (Nat → Int) × Int × (List (Int × (Nat → Int))) :=
  if ((((decide (tx1 < 1)) || (decide (1048576 < tx1))) || (decide (seq2 < 1))) || (decide (1048576 < seq2))) = true then
    ((fun _ => 0), 1, b0last)
  else
    if seq2 < (mget ieq b0last tx1 (fun _ => 0)) 0 then
      ((fun _ => 0), 14, b0last)
    else
      if (mget ieq b0last tx1 (fun _ => 0)) 0 < seq2 then
        ((fun _ => 0), 0, mset ieq b0last tx1 (updI (fun _ => 0) 0 seq2))
      else
        if (mget ieq b0last tx1 (fun _ => 0)) 1 = 0 then
          ((fun _ => 0), 8, b0last)
        else
          ((fun i => (mget ieq b0last tx1 (fun _ => 0)) (1 + i)), 15, b0last)

theorem bopen_ok (b0last : (List (Int × (Nat → Int)))) (tx1 : Int) (seq2 : Int) : bopen_S b0last tx1 seq2 (bopen_F b0last tx1 seq2) := by
  obtain ⟨r, hr⟩ : ∃ r, r = bopen_F b0last tx1 seq2 := ⟨_, rfl⟩
  rw [← hr]
  unfold bopen_F at hr
  unfold bopen_S
  by_cases hp15 : ((((decide (tx1 < 1)) || (decide (1048576 < tx1))) || (decide (seq2 < 1))) || (decide (1048576 < seq2))) = true
  · rw [if_pos hp15] at hr ⊢
    exact hr
  · rw [if_neg hp15] at hr ⊢
    by_cases hp16 : seq2 < (mget ieq b0last tx1 (fun _ => 0)) 0
    · rw [if_pos hp16] at hr ⊢
      exact hr
    · rw [if_neg hp16] at hr ⊢
      by_cases hp17 : (mget ieq b0last tx1 (fun _ => 0)) 0 < seq2
      · rw [if_pos hp17] at hr ⊢
        exact hr
      · rw [if_neg hp17] at hr ⊢
        by_cases hp18 : (mget ieq b0last tx1 (fun _ => 0)) 1 = 0
        · rw [if_pos hp18] at hr ⊢
          exact hr
        · rw [if_neg hp18] at hr ⊢
          exact hr

def bclose_S (b0last : (List (Int × (Nat → Int)))) (m1 : (Nat → Int)) (r : Int × (List (Int × (Nat → Int)))) : Prop :=
  if ((answers_F m1)) = true then
    if ((mhas ieq b0last (m1 3))) = true then
      if (mget ieq b0last (m1 3) (fun _ => 0)) 0 = m1 4 then
        if (mget ieq b0last (m1 3) (fun _ => 0)) 1 = 0 then
          r = ((0, mset ieq b0last (m1 3) (updRI (updI (fun _ => 0) 0 (m1 4)) 1 28 m1)))
        else
          r = ((15, b0last))
      else
        r = ((14, b0last))
    else
      r = ((10, b0last))
  else
    r = ((5, b0last))

def bclose_F (b0last : (List (Int × (Nat → Int)))) (m1 : (Nat → Int)) : Int × (List (Int × (Nat → Int))) :=
  if ((answers_F m1)) = true then
    if ((mhas ieq b0last (m1 3))) = true then
      if (mget ieq b0last (m1 3) (fun _ => 0)) 0 = m1 4 then
        if (mget ieq b0last (m1 3) (fun _ => 0)) 1 = 0 then
          (0, mset ieq b0last (m1 3) (updRI (updI (fun _ => 0) 0 (m1 4)) 1 28 m1))
        else
          (15, b0last)
      else
        (14, b0last)
    else
      (10, b0last)
  else
    (5, b0last)

theorem bclose_ok (b0last : (List (Int × (Nat → Int)))) (m1 : (Nat → Int)) : bclose_S b0last m1 (bclose_F b0last m1) := by
  obtain ⟨r, hr⟩ : ∃ r, r = bclose_F b0last m1 := ⟨_, rfl⟩
  rw [← hr]
  unfold bclose_F at hr
  unfold bclose_S
  by_cases hp19 : ((answers_F m1)) = true
  · rw [if_pos hp19] at hr ⊢
    by_cases hp20 : ((mhas ieq b0last (m1 3))) = true
    · rw [if_pos hp20] at hr ⊢
      by_cases hp21 : (mget ieq b0last (m1 3) (fun _ => 0)) 0 = m1 4
      · rw [if_pos hp21] at hr ⊢
        by_cases hp22 : (mget ieq b0last (m1 3) (fun _ => 0)) 1 = 0
        · rw [if_pos hp22] at hr ⊢
          exact hr
        · rw [if_neg hp22] at hr ⊢
          exact hr
      · rw [if_neg hp21] at hr ⊢
        exact hr
    · rw [if_neg hp20] at hr ⊢
      exact hr
  · rw [if_neg hp19] at hr ⊢
    exact hr

def blast_S (b0last : (List (Int × (Nat → Int)))) (tx1 : Int) (r : Int × Int) : Prop :=
  if ((mhas ieq b0last tx1)) = true then
    r = (((mget ieq b0last tx1 (fun _ => 0)) 0, 0))
  else
    r = ((0, 10))

def blast_F (b0last : (List (Int × (Nat → Int)))) (tx1 : Int) : Int × Int :=
  if ((mhas ieq b0last tx1)) = true then
    ((mget ieq b0last tx1 (fun _ => 0)) 0, 0)
  else
    (0, 10)

theorem blast_ok (b0last : (List (Int × (Nat → Int)))) (tx1 : Int) : blast_S b0last tx1 (blast_F b0last tx1) := by
  obtain ⟨r, hr⟩ : ∃ r, r = blast_F b0last tx1 := ⟨_, rfl⟩
  rw [← hr]
  unfold blast_F at hr
  unfold blast_S
  by_cases hp23 : ((mhas ieq b0last tx1)) = true
  · rw [if_pos hp23] at hr ⊢
    exact hr
  · rw [if_neg hp23] at hr ⊢
    exact hr

def bforget_S (b0last : (List (Int × (Nat → Int)))) (tx1 : Int) (r : Int × (List (Int × (Nat → Int)))) : Prop :=
  if (blast_F b0last tx1).2 = 0 then
    r = ((0, mdel ieq b0last tx1))
  else
    r = (((blast_F b0last tx1).2, b0last))

def bforget_F (b0last : (List (Int × (Nat → Int)))) (tx1 : Int) : Int × (List (Int × (Nat → Int))) :=
  if (blast_F b0last tx1).2 = 0 then
    (0, mdel ieq b0last tx1)
  else
    ((blast_F b0last tx1).2, b0last)

theorem bforget_ok (b0last : (List (Int × (Nat → Int)))) (tx1 : Int) : bforget_S b0last tx1 (bforget_F b0last tx1) := by
  obtain ⟨r, hr⟩ : ∃ r, r = bforget_F b0last tx1 := ⟨_, rfl⟩
  rw [← hr]
  unfold bforget_F at hr
  unfold bforget_S
  by_cases hp24 : (blast_F b0last tx1).2 = 0
  · rw [if_pos hp24] at hr ⊢
    exact hr
  · rw [if_neg hp24] at hr ⊢
    exact hr

def answer_S (tx0 : Int) (seq1 : Int) (r : (Nat → Int)) : Prop :=
  r = ((updI (updI (updI (updI (updI (fun _ => 0) 0 3) 1 1) 3 tx0) 4 seq1) 8 6))

def answer_F (tx0 : Int) (seq1 : Int) : (Nat → Int) :=
  (updI (updI (updI (updI (updI (fun _ => 0) 0 3) 1 1) 3 tx0) 4 seq1) 8 6)

theorem answer_ok (tx0 : Int) (seq1 : Int) : answer_S tx0 seq1 (answer_F tx0 seq1) := by
  obtain ⟨r, hr⟩ : ∃ r, r = answer_F tx0 seq1 := ⟨_, rfl⟩
  rw [← hr]
  unfold answer_F at hr
  unfold answer_S
  exact hr

end Go.E
