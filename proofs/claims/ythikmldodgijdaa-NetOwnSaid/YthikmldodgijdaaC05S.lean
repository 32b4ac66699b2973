/- What functions of the program say, as relations. -/
import Derived.Test.YthikmldodgijdaaB05S
import Derived.Test.YthikmldodgijdaaPMs
import Derived.Test.YthikmldodgijdaaPR
set_option maxHeartbeats 1000000
set_option linter.unusedVariables false
set_option linter.unusedSimpArgs false
set_option maxRecDepth 100000
namespace Go.E
open Go

def alive05_S (r : Bool) : Prop :=
  (send_P 9 ([]) (letter_F 1)) ∧ (
  if (send_F 9 ([]) (letter_F 1)).1 = 0 then
    (send_P 9 ((send_F 9 ([]) (letter_F 1)).2) (letter_F 2)) ∧ (
    if (send_F 9 ((send_F 9 ([]) (letter_F 1)).2) (letter_F 2)).1 = 0 then
      (send_P 9 ((send_F 9 ((send_F 9 ([]) (letter_F 1)).2) (letter_F 2)).2) (letter_F 3)) ∧ (
      if (send_F 9 ((send_F 9 ((send_F 9 ([]) (letter_F 1)).2) (letter_F 2)).2) (letter_F 3)).1 = 0 then
        (deliver_P 9 ((send_F 9 ((send_F 9 ((send_F 9 ([]) (letter_F 1)).2) (letter_F 2)).2) (letter_F 3)).2) 4) ∧ (
        (twice_P 9 ((deliver_F 9 ((send_F 9 ((send_F 9 ((send_F 9 ([]) (letter_F 1)).2) (letter_F 2)).2) (letter_F 3)).2) 4).2.2) (-1)) ∧ (
        if ((eqN 28 ((deliver_F 9 ((send_F 9 ((send_F 9 ((send_F 9 ([]) (letter_F 1)).2) (letter_F 2)).2) (letter_F 3)).2) 4).1) (letter_F 2))) = true then
          if (deliver_F 9 ((send_F 9 ((send_F 9 ((send_F 9 ([]) (letter_F 1)).2) (letter_F 2)).2) (letter_F 3)).2) 4).2.1 = 0 then
            if (twice_F 9 ((deliver_F 9 ((send_F 9 ((send_F 9 ((send_F 9 ([]) (letter_F 1)).2) (letter_F 2)).2) (letter_F 3)).2) 4).2.2) (-1)).1 = 0 then
              (nall_P 9 ((twice_F 9 ((deliver_F 9 ((send_F 9 ((send_F 9 ((send_F 9 ([]) (letter_F 1)).2) (letter_F 2)).2) (letter_F 3)).2) 4).2.2) (-1)).2)) ∧ (
              (msgs_P (nall_F 9 ((twice_F 9 ((deliver_F 9 ((send_F 9 ((send_F 9 ((send_F 9 ([]) (letter_F 1)).2) (letter_F 2)).2) (letter_F 3)).2) 4).2.2) (-1)).2)) ([(letter_F 1), (letter_F 3), (letter_F 3)])) ∧ (
              r = ((msgs_F (nall_F 9 ((twice_F 9 ((deliver_F 9 ((send_F 9 ((send_F 9 ((send_F 9 ([]) (letter_F 1)).2) (letter_F 2)).2) (letter_F 3)).2) 4).2.2) (-1)).2)) ([(letter_F 1), (letter_F 3), (letter_F 3)])))))
            else
              r = (false)
          else
            r = (false)
        else
          r = (false)))
      else
        r = (false))
    else
      r = (false))
  else
    r = (false))

def alive05_F : Bool :=
  if (send_F 9 ([]) (letter_F 1)).1 = 0 then
    if (send_F 9 ((send_F 9 ([]) (letter_F 1)).2) (letter_F 2)).1 = 0 then
      if (send_F 9 ((send_F 9 ((send_F 9 ([]) (letter_F 1)).2) (letter_F 2)).2) (letter_F 3)).1 = 0 then
        if ((eqN 28 ((deliver_F 9 ((send_F 9 ((send_F 9 ((send_F 9 ([]) (letter_F 1)).2) (letter_F 2)).2) (letter_F 3)).2) 4).1) (letter_F 2))) = true then
          if (deliver_F 9 ((send_F 9 ((send_F 9 ((send_F 9 ([]) (letter_F 1)).2) (letter_F 2)).2) (letter_F 3)).2) 4).2.1 = 0 then
            if (twice_F 9 ((deliver_F 9 ((send_F 9 ((send_F 9 ((send_F 9 ([]) (letter_F 1)).2) (letter_F 2)).2) (letter_F 3)).2) 4).2.2) (-1)).1 = 0 then
              (msgs_F (nall_F 9 ((twice_F 9 ((deliver_F 9 ((send_F 9 ((send_F 9 ((send_F 9 ([]) (letter_F 1)).2) (letter_F 2)).2) (letter_F 3)).2) 4).2.2) (-1)).2)) ([(letter_F 1), (letter_F 3), (letter_F 3)]))
            else
              false
          else
            false
        else
          false
      else
        false
    else
      false
  else
    false

def alive05_P : Prop :=
  (send_P 9 ([]) (letter_F 1)) ∧ (
  if (send_F 9 ([]) (letter_F 1)).1 = 0 then
    (send_P 9 ((send_F 9 ([]) (letter_F 1)).2) (letter_F 2)) ∧ (
    if (send_F 9 ((send_F 9 ([]) (letter_F 1)).2) (letter_F 2)).1 = 0 then
      (send_P 9 ((send_F 9 ((send_F 9 ([]) (letter_F 1)).2) (letter_F 2)).2) (letter_F 3)) ∧ (
      if (send_F 9 ((send_F 9 ((send_F 9 ([]) (letter_F 1)).2) (letter_F 2)).2) (letter_F 3)).1 = 0 then
        (deliver_P 9 ((send_F 9 ((send_F 9 ((send_F 9 ([]) (letter_F 1)).2) (letter_F 2)).2) (letter_F 3)).2) 4) ∧ (
        (twice_P 9 ((deliver_F 9 ((send_F 9 ((send_F 9 ((send_F 9 ([]) (letter_F 1)).2) (letter_F 2)).2) (letter_F 3)).2) 4).2.2) (-1)) ∧ (
        if ((eqN 28 ((deliver_F 9 ((send_F 9 ((send_F 9 ((send_F 9 ([]) (letter_F 1)).2) (letter_F 2)).2) (letter_F 3)).2) 4).1) (letter_F 2))) = true then
          if (deliver_F 9 ((send_F 9 ((send_F 9 ((send_F 9 ([]) (letter_F 1)).2) (letter_F 2)).2) (letter_F 3)).2) 4).2.1 = 0 then
            if (twice_F 9 ((deliver_F 9 ((send_F 9 ((send_F 9 ((send_F 9 ([]) (letter_F 1)).2) (letter_F 2)).2) (letter_F 3)).2) 4).2.2) (-1)).1 = 0 then
              (nall_P 9 ((twice_F 9 ((deliver_F 9 ((send_F 9 ((send_F 9 ((send_F 9 ([]) (letter_F 1)).2) (letter_F 2)).2) (letter_F 3)).2) 4).2.2) (-1)).2)) ∧ (
              (msgs_P (nall_F 9 ((twice_F 9 ((deliver_F 9 ((send_F 9 ((send_F 9 ((send_F 9 ([]) (letter_F 1)).2) (letter_F 2)).2) (letter_F 3)).2) 4).2.2) (-1)).2)) ([(letter_F 1), (letter_F 3), (letter_F 3)])) ∧ (
              True))
            else
              True
          else
            True
        else
          True))
      else
        True)
    else
      True)
  else
    True)

theorem alive05_ok (hP : alive05_P) : alive05_S (alive05_F) := by
  obtain ⟨r, hr⟩ : ∃ r, r = alive05_F := ⟨_, rfl⟩
  rw [← hr]
  unfold alive05_F at hr
  unfold alive05_S
  unfold alive05_P at hP
  obtain ⟨hq0, hP⟩ := hP
  refine ⟨hq0, ?_⟩
  by_cases hp24 : (send_F 9 ([]) (letter_F 1)).1 = 0
  · rw [if_pos hp24] at hr hP ⊢
    obtain ⟨hq0, hP⟩ := hP
    refine ⟨hq0, ?_⟩
    by_cases hp25 : (send_F 9 ((send_F 9 ([]) (letter_F 1)).2) (letter_F 2)).1 = 0
    · rw [if_pos hp25] at hr hP ⊢
      obtain ⟨hq0, hP⟩ := hP
      refine ⟨hq0, ?_⟩
      by_cases hp26 : (send_F 9 ((send_F 9 ((send_F 9 ([]) (letter_F 1)).2) (letter_F 2)).2) (letter_F 3)).1 = 0
      · rw [if_pos hp26] at hr hP ⊢
        obtain ⟨hq0, hP⟩ := hP
        refine ⟨hq0, ?_⟩
        obtain ⟨hq0, hP⟩ := hP
        refine ⟨hq0, ?_⟩
        by_cases hp27 : ((eqN 28 ((deliver_F 9 ((send_F 9 ((send_F 9 ((send_F 9 ([]) (letter_F 1)).2) (letter_F 2)).2) (letter_F 3)).2) 4).1) (letter_F 2))) = true
        · rw [if_pos hp27] at hr hP ⊢
          by_cases hp28 : (deliver_F 9 ((send_F 9 ((send_F 9 ((send_F 9 ([]) (letter_F 1)).2) (letter_F 2)).2) (letter_F 3)).2) 4).2.1 = 0
          · rw [if_pos hp28] at hr hP ⊢
            by_cases hp29 : (twice_F 9 ((deliver_F 9 ((send_F 9 ((send_F 9 ((send_F 9 ([]) (letter_F 1)).2) (letter_F 2)).2) (letter_F 3)).2) 4).2.2) (-1)).1 = 0
            · rw [if_pos hp29] at hr hP ⊢
              obtain ⟨hq0, hP⟩ := hP
              refine ⟨hq0, ?_⟩
              obtain ⟨hq0, hP⟩ := hP
              refine ⟨hq0, ?_⟩
              exact hr
            · rw [if_neg hp29] at hr hP ⊢
              exact hr
          · rw [if_neg hp28] at hr hP ⊢
            exact hr
        · rw [if_neg hp27] at hr hP ⊢
          exact hr
      · rw [if_neg hp26] at hr hP ⊢
        exact hr
    · rw [if_neg hp25] at hr hP ⊢
      exact hr
  · rw [if_neg hp24] at hr hP ⊢
    exact hr

def limit5_l1 (limit0 : Int) (l1 : (List (Nat → Int))) (i8 : Int) (fb13_1 : (List (Nat → Int))) (o : (Int × (List (Nat → Int))) ⊕ (((List (Nat → Int))) ⊕ ((List (Nat → Int))))) : Prop :=
  if i8 < (l1.length : Int) then
    (0 ≤ i8 ∧ i8 < l1.length) ∧ (
    (act_P (1 + ((IntKind.i64.wrap limit0).tmod 20)) fb13_1 (l1[i8.toNat]!)) ∧ (
    if (nlen_F (1 + ((IntKind.i64.wrap limit0).tmod 20)) fb13_1) = 1 + ((IntKind.i64.wrap limit0).tmod 20) then
      (0 ≤ i8 ∧ i8 < l1.length) ∧ (
      if l1[i8.toNat]! 0 = 0 then
        (0 ≤ i8 ∧ i8 < l1.length) ∧ (
        if ((okB (fun i => (l1[i8.toNat]!) (2 + i)))) = true then
          if (((decide ((act_F (1 + ((IntKind.i64.wrap limit0).tmod 20)) fb13_1 (l1[i8.toNat]!)).2.1 = 6)) == (true))) = true then
            if 1 + ((IntKind.i64.wrap limit0).tmod 20) < (nlen_F (1 + ((IntKind.i64.wrap limit0).tmod 20)) ((act_F (1 + ((IntKind.i64.wrap limit0).tmod 20)) fb13_1 (l1[i8.toNat]!)).2.2)) then
              o = (.inr (.inr ((act_F (1 + ((IntKind.i64.wrap limit0).tmod 20)) fb13_1 (l1[i8.toNat]!)).2.2)))
            else
              (inI64 (i8 + 1)) ∧ (
              o = (.inl (i8 + 1, (act_F (1 + ((IntKind.i64.wrap limit0).tmod 20)) fb13_1 (l1[i8.toNat]!)).2.2)))
          else
            o = (.inr (.inr ((act_F (1 + ((IntKind.i64.wrap limit0).tmod 20)) fb13_1 (l1[i8.toNat]!)).2.2)))
        else
          (0 ≤ i8 ∧ i8 < l1.length) ∧ (
          if (((decide ((act_F (1 + ((IntKind.i64.wrap limit0).tmod 20)) fb13_1 (l1[i8.toNat]!)).2.1 = 6)) == (decide (l1[i8.toNat]! 0 = 3)))) = true then
            if 1 + ((IntKind.i64.wrap limit0).tmod 20) < (nlen_F (1 + ((IntKind.i64.wrap limit0).tmod 20)) ((act_F (1 + ((IntKind.i64.wrap limit0).tmod 20)) fb13_1 (l1[i8.toNat]!)).2.2)) then
              o = (.inr (.inr ((act_F (1 + ((IntKind.i64.wrap limit0).tmod 20)) fb13_1 (l1[i8.toNat]!)).2.2)))
            else
              (inI64 (i8 + 1)) ∧ (
              o = (.inl (i8 + 1, (act_F (1 + ((IntKind.i64.wrap limit0).tmod 20)) fb13_1 (l1[i8.toNat]!)).2.2)))
          else
            o = (.inr (.inr ((act_F (1 + ((IntKind.i64.wrap limit0).tmod 20)) fb13_1 (l1[i8.toNat]!)).2.2)))))
      else
        (0 ≤ i8 ∧ i8 < l1.length) ∧ (
        if (((decide ((act_F (1 + ((IntKind.i64.wrap limit0).tmod 20)) fb13_1 (l1[i8.toNat]!)).2.1 = 6)) == (decide (l1[i8.toNat]! 0 = 3)))) = true then
          if 1 + ((IntKind.i64.wrap limit0).tmod 20) < (nlen_F (1 + ((IntKind.i64.wrap limit0).tmod 20)) ((act_F (1 + ((IntKind.i64.wrap limit0).tmod 20)) fb13_1 (l1[i8.toNat]!)).2.2)) then
            o = (.inr (.inr ((act_F (1 + ((IntKind.i64.wrap limit0).tmod 20)) fb13_1 (l1[i8.toNat]!)).2.2)))
          else
            (inI64 (i8 + 1)) ∧ (
            o = (.inl (i8 + 1, (act_F (1 + ((IntKind.i64.wrap limit0).tmod 20)) fb13_1 (l1[i8.toNat]!)).2.2)))
        else
          o = (.inr (.inr ((act_F (1 + ((IntKind.i64.wrap limit0).tmod 20)) fb13_1 (l1[i8.toNat]!)).2.2)))))
    else
      if (((decide ((act_F (1 + ((IntKind.i64.wrap limit0).tmod 20)) fb13_1 (l1[i8.toNat]!)).2.1 = 6)) == (false))) = true then
        if 1 + ((IntKind.i64.wrap limit0).tmod 20) < (nlen_F (1 + ((IntKind.i64.wrap limit0).tmod 20)) ((act_F (1 + ((IntKind.i64.wrap limit0).tmod 20)) fb13_1 (l1[i8.toNat]!)).2.2)) then
          o = (.inr (.inr ((act_F (1 + ((IntKind.i64.wrap limit0).tmod 20)) fb13_1 (l1[i8.toNat]!)).2.2)))
        else
          (inI64 (i8 + 1)) ∧ (
          o = (.inl (i8 + 1, (act_F (1 + ((IntKind.i64.wrap limit0).tmod 20)) fb13_1 (l1[i8.toNat]!)).2.2)))
      else
        o = (.inr (.inr ((act_F (1 + ((IntKind.i64.wrap limit0).tmod 20)) fb13_1 (l1[i8.toNat]!)).2.2)))))
  else
    o = (.inr (.inl fb13_1))

def limit5_k1a (fb13_1 : (List (Nat → Int))) (r : Bool) : Prop :=
  r = (true)

def limit5_k1b (fb13_1 : (List (Nat → Int))) (r : Bool) : Prop :=
  r = (false)

def limit5_S (limit0 : Int) (l1 : (List (Nat → Int))) (r : Bool) : Prop :=
  (alive05_P) ∧ (
  if (alive05_F) = true then
    if 100 < (l1.length : Int) then
      r = (true)
    else
      (inI64 (1 + ((IntKind.i64.wrap limit0).tmod 20))) ∧ (
      if ((decide (1 + ((IntKind.i64.wrap limit0).tmod 20) < 1)) || (decide (65536 < 1 + ((IntKind.i64.wrap limit0).tmod 20)))) = true then
        r = (false)
      else
        ∃ x : ((List (Nat → Int))) ⊕ ((List (Nat → Int))), Wh (fun (s : Int × (List (Nat → Int))) (o : (Int × (List (Nat → Int))) ⊕ (((List (Nat → Int))) ⊕ ((List (Nat → Int))))) => limit5_l1 limit0 l1 s.1 s.2 o) ((0, []) : Int × (List (Nat → Int))) x ∧ (match x with | .inl fb13_1 => limit5_k1a fb13_1 r | .inr fb13_1 => limit5_k1b fb13_1 r))
  else
    r = (false))

def round5_l1 (l0 : (List (Nat → Int))) (i11 : Int) (fb13a_1 : (List (Nat → Int))) (fb13_1 : (List (Nat → Int))) (o : (Int × (List (Nat → Int)) × (List (Nat → Int))) ⊕ ((List (Nat → Int)) × (List (Nat → Int)))) : Prop :=
  if i11 < (l0.length : Int) then
    (0 ≤ i11 ∧ i11 < l0.length) ∧ (
    (act_P 200 fb13_1 (l0[i11.toNat]!)) ∧ (
    (0 ≤ i11 ∧ i11 < l0.length) ∧ (
    (act_P 200 fb13a_1 (l0[i11.toNat]!)) ∧ (
    (inI64 (i11 + 1)) ∧ (
    o = (.inl (i11 + 1, (act_F 200 fb13a_1 (l0[i11.toNat]!)).2.2, (act_F 200 fb13_1 (l0[i11.toNat]!)).2.2)))))))
  else
    o = (.inr (fb13a_1, fb13_1))

def round5_l2 (fb13_1 : (List (Nat → Int))) (i13 : Int) (fb13_1a : (List (Nat → Int))) (o : (Int × (List (Nat → Int))) ⊕ (((List (Nat → Int))) ⊕ ((List (Nat → Int))))) : Prop :=
  if i13 < (((ntake_F 200 fb13_1).1).length : Int) then
    (0 ≤ i13 ∧ i13 < ((ntake_F 200 fb13_1).1).length) ∧ (
    (send_P 200 fb13_1a (((ntake_F 200 fb13_1).1)[i13.toNat]!)) ∧ (
    if (send_F 200 fb13_1a (((ntake_F 200 fb13_1).1)[i13.toNat]!)).1 = 0 then
      (inI64 (i13 + 1)) ∧ (
      o = (.inl (i13 + 1, (send_F 200 fb13_1a (((ntake_F 200 fb13_1).1)[i13.toNat]!)).2)))
    else
      o = (.inr (.inr ((send_F 200 fb13_1a (((ntake_F 200 fb13_1).1)[i13.toNat]!)).2)))))
  else
    o = (.inr (.inl fb13_1a))

def round5_k2a (k1 : Int) (by2 : Int) (fb13a_1 : (List (Nat → Int))) (fb13_1 : (List (Nat → Int))) (fb13_1a : (List (Nat → Int))) (r : Bool) : Prop :=
  (deliver_P 200 fb13_1a (IntKind.i64.wrap k1)) ∧ (
  (inI64 ((nlen_F 200 fb13_1a) * (IntKind.i64.wrap by2))) ∧ (
  (inI64 ((IntKind.i64.wrap k1) + ((nlen_F 200 fb13_1a) * (IntKind.i64.wrap by2)))) ∧ (
  (deliver_P 200 fb13a_1 ((IntKind.i64.wrap k1) + ((nlen_F 200 fb13_1a) * (IntKind.i64.wrap by2)))) ∧ (
  if (nlen_F 200 fb13_1a) = (((ntake_F 200 fb13_1).1).length : Int) then
    if ((eqN 28 ((deliver_F 200 fb13_1a (IntKind.i64.wrap k1)).1) ((deliver_F 200 fb13a_1 ((IntKind.i64.wrap k1) + ((nlen_F 200 fb13_1a) * (IntKind.i64.wrap by2)))).1))) = true then
      if (code_F ((deliver_F 200 fb13_1a (IntKind.i64.wrap k1)).2.1)) = (code_F ((deliver_F 200 fb13a_1 ((IntKind.i64.wrap k1) + ((nlen_F 200 fb13_1a) * (IntKind.i64.wrap by2)))).2.1)) then
        (nall_P 200 ((deliver_F 200 fb13_1a (IntKind.i64.wrap k1)).2.2)) ∧ (
        (nall_P 200 ((deliver_F 200 fb13a_1 ((IntKind.i64.wrap k1) + ((nlen_F 200 fb13_1a) * (IntKind.i64.wrap by2)))).2.2)) ∧ (
        (msgs_P (nall_F 200 ((deliver_F 200 fb13_1a (IntKind.i64.wrap k1)).2.2)) (nall_F 200 ((deliver_F 200 fb13a_1 ((IntKind.i64.wrap k1) + ((nlen_F 200 fb13_1a) * (IntKind.i64.wrap by2)))).2.2))) ∧ (
        r = ((msgs_F (nall_F 200 ((deliver_F 200 fb13_1a (IntKind.i64.wrap k1)).2.2)) (nall_F 200 ((deliver_F 200 fb13a_1 ((IntKind.i64.wrap k1) + ((nlen_F 200 fb13_1a) * (IntKind.i64.wrap by2)))).2.2)))))))
      else
        r = (false)
    else
      r = (false)
  else
    r = (false)))))

def round5_k2b (fb13_1a : (List (Nat → Int))) (r : Bool) : Prop :=
  r = (false)

def round5_k1a (k1 : Int) (by2 : Int) (fb13a_1 : (List (Nat → Int))) (fb13_1 : (List (Nat → Int))) (r : Bool) : Prop :=
  (ntake_P 200 fb13_1) ∧ (
  ∃ x : ((List (Nat → Int))) ⊕ ((List (Nat → Int))), Wh (fun (s : Int × (List (Nat → Int))) (o : (Int × (List (Nat → Int))) ⊕ (((List (Nat → Int))) ⊕ ((List (Nat → Int))))) => round5_l2 fb13_1 s.1 s.2 o) ((0, (ntake_F 200 fb13_1).2) : Int × (List (Nat → Int))) x ∧ (match x with | .inl fb13_1a => round5_k2a k1 by2 fb13a_1 fb13_1 fb13_1a r | .inr fb13_1a => round5_k2b fb13_1a r))

def round5_S (l0 : (List (Nat → Int))) (k1 : Int) (by2 : Int) (r : Bool) : Prop :=
  (alive05_P) ∧ (
  if (alive05_F) = true then
    if 100 < (l0.length : Int) then
      r = (true)
    else
      ∃ x : (List (Nat → Int)) × (List (Nat → Int)), Wh (fun (s : Int × (List (Nat → Int)) × (List (Nat → Int))) (o : (Int × (List (Nat → Int)) × (List (Nat → Int))) ⊕ ((List (Nat → Int)) × (List (Nat → Int)))) => round5_l1 l0 s.1 s.2.1 s.2.2 o) ((0, [], []) : Int × (List (Nat → Int)) × (List (Nat → Int))) x ∧ round5_k1a k1 by2 x.1 x.2 r
  else
    r = (false))

end Go.E
