/- What functions of the program say, as relations. -/
import Derived.Test.YtdmibiefinhneaaP10d
set_option maxHeartbeats 1000000
set_option linter.unusedVariables false
set_option linter.unusedSimpArgs false
set_option maxRecDepth 100000
namespace Go.E
open Go

def alive10_S (r : Bool) : Prop :=
  (greach_P ([(updI (updI (fun _ => 0) 0 1) 2 2), (updI (updI (fun _ => 0) 0 2) 2 3), (updI (updI (fun _ => 0) 0 3) 2 1), (updI (updI (fun _ => 0) 0 4) 2 1)]) 4) ∧ (
  (ints_P (greach_F ([(updI (updI (fun _ => 0) 0 1) 2 2), (updI (updI (fun _ => 0) 0 2) 2 3), (updI (updI (fun _ => 0) 0 3) 2 1), (updI (updI (fun _ => 0) 0 4) 2 1)]) 4) ([1, 2, 3])) ∧ (
  if ((ints_F (greach_F ([(updI (updI (fun _ => 0) 0 1) 2 2), (updI (updI (fun _ => 0) 0 2) 2 3), (updI (updI (fun _ => 0) 0 3) 2 1), (updI (updI (fun _ => 0) 0 4) 2 1)]) 4) ([1, 2, 3]))) = true then
    (gcirc_P ([(updI (updI (fun _ => 0) 0 1) 2 2), (updI (updI (fun _ => 0) 0 2) 2 3), (updI (updI (fun _ => 0) 0 3) 2 1), (updI (updI (fun _ => 0) 0 4) 2 1)])) ∧ (
    (ints_P (gcirc_F ([(updI (updI (fun _ => 0) 0 1) 2 2), (updI (updI (fun _ => 0) 0 2) 2 3), (updI (updI (fun _ => 0) 0 3) 2 1), (updI (updI (fun _ => 0) 0 4) 2 1)])) ([1, 2, 3])) ∧ (
    if ((ints_F (gcirc_F ([(updI (updI (fun _ => 0) 0 1) 2 2), (updI (updI (fun _ => 0) 0 2) 2 3), (updI (updI (fun _ => 0) 0 3) 2 1), (updI (updI (fun _ => 0) 0 4) 2 1)])) ([1, 2, 3]))) = true then
      (gway_P ([(updI (updI (fun _ => 0) 0 1) 2 2), (updI (updI (fun _ => 0) 0 2) 2 3), (updI (updI (fun _ => 0) 0 3) 2 1), (updI (updI (fun _ => 0) 0 4) 2 1)]) 4 3) ∧ (
      (ints_P (gway_F ([(updI (updI (fun _ => 0) 0 1) 2 2), (updI (updI (fun _ => 0) 0 2) 2 3), (updI (updI (fun _ => 0) 0 3) 2 1), (updI (updI (fun _ => 0) 0 4) 2 1)]) 4 3) ([4, 1, 2, 3])) ∧ (
      r = ((ints_F (gway_F ([(updI (updI (fun _ => 0) 0 1) 2 2), (updI (updI (fun _ => 0) 0 2) 2 3), (updI (updI (fun _ => 0) 0 3) 2 1), (updI (updI (fun _ => 0) 0 4) 2 1)]) 4 3) ([4, 1, 2, 3])))))
    else
      r = (false)))
  else
    r = (false)))

noncomputable def alive10_F : Bool :=
  if ((ints_F (greach_F ([(updI (updI (fun _ => 0) 0 1) 2 2), (updI (updI (fun _ => 0) 0 2) 2 3), (updI (updI (fun _ => 0) 0 3) 2 1), (updI (updI (fun _ => 0) 0 4) 2 1)]) 4) ([1, 2, 3]))) = true then
    if ((ints_F (gcirc_F ([(updI (updI (fun _ => 0) 0 1) 2 2), (updI (updI (fun _ => 0) 0 2) 2 3), (updI (updI (fun _ => 0) 0 3) 2 1), (updI (updI (fun _ => 0) 0 4) 2 1)])) ([1, 2, 3]))) = true then
      (ints_F (gway_F ([(updI (updI (fun _ => 0) 0 1) 2 2), (updI (updI (fun _ => 0) 0 2) 2 3), (updI (updI (fun _ => 0) 0 3) 2 1), (updI (updI (fun _ => 0) 0 4) 2 1)]) 4 3) ([4, 1, 2, 3]))
    else
      false
  else
    false

def alive10_P : Prop :=
  (greach_P ([(updI (updI (fun _ => 0) 0 1) 2 2), (updI (updI (fun _ => 0) 0 2) 2 3), (updI (updI (fun _ => 0) 0 3) 2 1), (updI (updI (fun _ => 0) 0 4) 2 1)]) 4) ∧ (
  (ints_P (greach_F ([(updI (updI (fun _ => 0) 0 1) 2 2), (updI (updI (fun _ => 0) 0 2) 2 3), (updI (updI (fun _ => 0) 0 3) 2 1), (updI (updI (fun _ => 0) 0 4) 2 1)]) 4) ([1, 2, 3])) ∧ (
  if ((ints_F (greach_F ([(updI (updI (fun _ => 0) 0 1) 2 2), (updI (updI (fun _ => 0) 0 2) 2 3), (updI (updI (fun _ => 0) 0 3) 2 1), (updI (updI (fun _ => 0) 0 4) 2 1)]) 4) ([1, 2, 3]))) = true then
    (gcirc_P ([(updI (updI (fun _ => 0) 0 1) 2 2), (updI (updI (fun _ => 0) 0 2) 2 3), (updI (updI (fun _ => 0) 0 3) 2 1), (updI (updI (fun _ => 0) 0 4) 2 1)])) ∧ (
    (ints_P (gcirc_F ([(updI (updI (fun _ => 0) 0 1) 2 2), (updI (updI (fun _ => 0) 0 2) 2 3), (updI (updI (fun _ => 0) 0 3) 2 1), (updI (updI (fun _ => 0) 0 4) 2 1)])) ([1, 2, 3])) ∧ (
    if ((ints_F (gcirc_F ([(updI (updI (fun _ => 0) 0 1) 2 2), (updI (updI (fun _ => 0) 0 2) 2 3), (updI (updI (fun _ => 0) 0 3) 2 1), (updI (updI (fun _ => 0) 0 4) 2 1)])) ([1, 2, 3]))) = true then
      (gway_P ([(updI (updI (fun _ => 0) 0 1) 2 2), (updI (updI (fun _ => 0) 0 2) 2 3), (updI (updI (fun _ => 0) 0 3) 2 1), (updI (updI (fun _ => 0) 0 4) 2 1)]) 4 3) ∧ (
      (ints_P (gway_F ([(updI (updI (fun _ => 0) 0 1) 2 2), (updI (updI (fun _ => 0) 0 2) 2 3), (updI (updI (fun _ => 0) 0 3) 2 1), (updI (updI (fun _ => 0) 0 4) 2 1)]) 4 3) ([4, 1, 2, 3])) ∧ (
      True))
    else
      True))
  else
    True))

theorem alive10_ok (hP : alive10_P) : alive10_S (alive10_F) := by
  obtain ⟨r, hr⟩ : ∃ r, r = alive10_F := ⟨_, rfl⟩
  rw [← hr]
  unfold alive10_F at hr
  unfold alive10_S
  unfold alive10_P at hP
  obtain ⟨hq0, hP⟩ := hP
  refine ⟨hq0, ?_⟩
  obtain ⟨hq0, hP⟩ := hP
  refine ⟨hq0, ?_⟩
  by_cases hp1 : ((ints_F (greach_F ([(updI (updI (fun _ => 0) 0 1) 2 2), (updI (updI (fun _ => 0) 0 2) 2 3), (updI (updI (fun _ => 0) 0 3) 2 1), (updI (updI (fun _ => 0) 0 4) 2 1)]) 4) ([1, 2, 3]))) = true
  · rw [if_pos hp1] at hr hP ⊢
    obtain ⟨hq0, hP⟩ := hP
    refine ⟨hq0, ?_⟩
    obtain ⟨hq0, hP⟩ := hP
    refine ⟨hq0, ?_⟩
    by_cases hp2 : ((ints_F (gcirc_F ([(updI (updI (fun _ => 0) 0 1) 2 2), (updI (updI (fun _ => 0) 0 2) 2 3), (updI (updI (fun _ => 0) 0 3) 2 1), (updI (updI (fun _ => 0) 0 4) 2 1)])) ([1, 2, 3]))) = true
    · rw [if_pos hp2] at hr hP ⊢
      obtain ⟨hq0, hP⟩ := hP
      refine ⟨hq0, ?_⟩
      obtain ⟨hq0, hP⟩ := hP
      refine ⟨hq0, ?_⟩
      exact hr
    · rw [if_neg hp2] at hr hP ⊢
      exact hr
  · rw [if_neg hp1] at hr hP ⊢
    exact hr

def reach10_S (l0 : (List (Nat → Int))) (from1 : Int) (r : Bool) : Prop :=
  (alive10_P) ∧ (
  if (alive10_F) = true then
    if 60 < (l0.length : Int) then
      r = (true)
    else
      (greach_P l0 from1) ∧ (
      (reachR_P l0 from1) ∧ (
      (ints_P (greach_F l0 from1) (reachR_F l0 from1)) ∧ (
      if ((ints_F (greach_F l0 from1) (reachR_F l0 from1))) = true then
        (gcirc_P l0) ∧ (
        (circR_P l0) ∧ (
        (ints_P (gcirc_F l0) (circR_F l0)) ∧ (
        r = ((ints_F (gcirc_F l0) (circR_F l0))))))
      else
        r = (false))))
  else
    r = (false))

noncomputable def reach10_F (l0 : (List (Nat → Int))) (from1 : Int) : Bool :=
  if (alive10_F) = true then
    if 60 < (l0.length : Int) then
      true
    else
      if ((ints_F (greach_F l0 from1) (reachR_F l0 from1))) = true then
        (ints_F (gcirc_F l0) (circR_F l0))
      else
        false
  else
    false

def reach10_P (l0 : (List (Nat → Int))) (from1 : Int) : Prop :=
  (alive10_P) ∧ (
  if (alive10_F) = true then
    if 60 < (l0.length : Int) then
      True
    else
      (greach_P l0 from1) ∧ (
      (reachR_P l0 from1) ∧ (
      (ints_P (greach_F l0 from1) (reachR_F l0 from1)) ∧ (
      if ((ints_F (greach_F l0 from1) (reachR_F l0 from1))) = true then
        (gcirc_P l0) ∧ (
        (circR_P l0) ∧ (
        (ints_P (gcirc_F l0) (circR_F l0)) ∧ (
        True)))
      else
        True)))
  else
    True)

theorem reach10_ok (l0 : (List (Nat → Int))) (from1 : Int) (hP : reach10_P l0 from1) : reach10_S l0 from1 (reach10_F l0 from1) := by
  obtain ⟨r, hr⟩ : ∃ r, r = reach10_F l0 from1 := ⟨_, rfl⟩
  rw [← hr]
  unfold reach10_F at hr
  unfold reach10_S
  unfold reach10_P at hP
  obtain ⟨hq0, hP⟩ := hP
  refine ⟨hq0, ?_⟩
  by_cases hp3 : (alive10_F) = true
  · rw [if_pos hp3] at hr hP ⊢
    by_cases hp4 : 60 < (l0.length : Int)
    · rw [if_pos hp4] at hr hP ⊢
      exact hr
    · rw [if_neg hp4] at hr hP ⊢
      obtain ⟨hq0, hP⟩ := hP
      refine ⟨hq0, ?_⟩
      obtain ⟨hq0, hP⟩ := hP
      refine ⟨hq0, ?_⟩
      obtain ⟨hq0, hP⟩ := hP
      refine ⟨hq0, ?_⟩
      by_cases hp5 : ((ints_F (greach_F l0 from1) (reachR_F l0 from1))) = true
      · rw [if_pos hp5] at hr hP ⊢
        obtain ⟨hq0, hP⟩ := hP
        refine ⟨hq0, ?_⟩
        obtain ⟨hq0, hP⟩ := hP
        refine ⟨hq0, ?_⟩
        obtain ⟨hq0, hP⟩ := hP
        refine ⟨hq0, ?_⟩
        exact hr
      · rw [if_neg hp5] at hr hP ⊢
        exact hr
  · rw [if_neg hp3] at hr hP ⊢
    exact hr

def order10_S (l0 : (List (Nat → Int))) (r : Bool) : Prop :=
  (alive10_P) ∧ (
  if (alive10_F) = true then
    if 60 < (l0.length : Int) then
      r = (true)
    else
      (gorder_P l0) ∧ (
      (orderR_P l0) ∧ (
      if ((orderR_F l0).2) = true then
        (ints_P ((gorder_F l0).1) ((orderR_F l0).1)) ∧ (
        r = (((ints_F ((gorder_F l0).1) ((orderR_F l0).1))) && (decide ((gorder_F l0).2 = 0))))
      else
        r = ((decide ((((gorder_F l0).1).length : Int) = 0)) && (decide ((code_F ((gorder_F l0).2)) = 11)))))
  else
    r = (false))

noncomputable def order10_F (l0 : (List (Nat → Int))) : Bool :=
  if (alive10_F) = true then
    if 60 < (l0.length : Int) then
      true
    else
      if ((orderR_F l0).2) = true then
        ((ints_F ((gorder_F l0).1) ((orderR_F l0).1))) && (decide ((gorder_F l0).2 = 0))
      else
        (decide ((((gorder_F l0).1).length : Int) = 0)) && (decide ((code_F ((gorder_F l0).2)) = 11))
  else
    false

def order10_P (l0 : (List (Nat → Int))) : Prop :=
  (alive10_P) ∧ (
  if (alive10_F) = true then
    if 60 < (l0.length : Int) then
      True
    else
      (gorder_P l0) ∧ (
      (orderR_P l0) ∧ (
      if ((orderR_F l0).2) = true then
        (ints_P ((gorder_F l0).1) ((orderR_F l0).1)) ∧ (
        True)
      else
        True))
  else
    True)

theorem order10_ok (l0 : (List (Nat → Int))) (hP : order10_P l0) : order10_S l0 (order10_F l0) := by
  obtain ⟨r, hr⟩ : ∃ r, r = order10_F l0 := ⟨_, rfl⟩
  rw [← hr]
  unfold order10_F at hr
  unfold order10_S
  unfold order10_P at hP
  obtain ⟨hq0, hP⟩ := hP
  refine ⟨hq0, ?_⟩
  by_cases hp6 : (alive10_F) = true
  · rw [if_pos hp6] at hr hP ⊢
    by_cases hp7 : 60 < (l0.length : Int)
    · rw [if_pos hp7] at hr hP ⊢
      exact hr
    · rw [if_neg hp7] at hr hP ⊢
      obtain ⟨hq0, hP⟩ := hP
      refine ⟨hq0, ?_⟩
      obtain ⟨hq0, hP⟩ := hP
      refine ⟨hq0, ?_⟩
      by_cases hp8 : ((orderR_F l0).2) = true
      · rw [if_pos hp8] at hr hP ⊢
        obtain ⟨hq0, hP⟩ := hP
        refine ⟨hq0, ?_⟩
        exact hr
      · rw [if_neg hp8] at hr hP ⊢
        exact hr
  · rw [if_neg hp6] at hr hP ⊢
    exact hr

def either10_l1 (l0 : (List (Nat → Int))) (at6 : (List (Int × Int))) (i7 : Int) (o : ((List (Int × Int)) × Int) ⊕ ((List (Int × Int)))) : Prop :=
  if i7 < (((gorder_F l0).1).length : Int) then
    (0 ≤ i7 ∧ i7 < ((gorder_F l0).1).length) ∧ (
    (inI64 (i7 + 1)) ∧ (
    o = (.inl (mset ieq at6 (((gorder_F l0).1)[i7.toNat]!) i7, i7 + 1))))
  else
    o = (.inr at6)

def either10_l2 (l0 : (List (Nat → Int))) (at6 : (List (Int × Int))) (i8 : Int) (o : (Int) ⊕ ((Unit) ⊕ (Unit))) : Prop :=
  if ((decide (i8 < (l0.length : Int))) && (decide ((gorder_F l0).2 = 0))) = true then
    (0 ≤ i8 ∧ i8 < l0.length) ∧ (
    (0 ≤ i8 ∧ i8 < l0.length) ∧ (
    if (((!((mhas ieq at6 (l0[i8.toNat]! 0)))) || (!((mhas ieq at6 (l0[i8.toNat]! 2))))) || (decide (mget ieq at6 (l0[i8.toNat]! 2) 0 ≤ mget ieq at6 (l0[i8.toNat]! 0) 0))) = true then
      o = (.inr (.inr ()))
    else
      (inI64 (i8 + 1)) ∧ (
      o = (.inl (i8 + 1)))))
  else
    o = (.inr (.inl ()))

def either10_l5 (l0 : (List (Nat → Int))) (i13 : Int) (k15 : Int) (on16 : Bool) (n18 : Int) (o : (Bool × Int) ⊕ (Bool)) : Prop :=
  if n18 < ((gcirc_F l0).length : Int) then
    (((on16) = false) → 0 ≤ n18 ∧ n18 < (gcirc_F l0).length) ∧ (((on16) = false) → 0 ≤ k15 ∧ k15 < (gway_F l0 ((gcirc_F l0)[i13.toNat]!) ((gcirc_F l0)[i13.toNat]!)).length) ∧ (
    (inI64 (n18 + 1)) ∧ (
    o = (.inl ((on16) || (decide ((gcirc_F l0)[n18.toNat]! = (gway_F l0 ((gcirc_F l0)[i13.toNat]!) ((gcirc_F l0)[i13.toNat]!))[k15.toNat]!)), n18 + 1))))
  else
    o = (.inr on16)

def either10_l6 (l0 : (List (Nat → Int))) (i13 : Int) (k15 : Int) (leads17 : Bool) (n19 : Int) (o : (Bool × Int) ⊕ (Bool)) : Prop :=
  if n19 < (l0.length : Int) then
    (((leads17) = false) → 0 ≤ n19 ∧ n19 < l0.length) ∧ (((leads17) = false) → inI64 (k15 - 1)) ∧ (((leads17) = false) → 0 ≤ k15 - 1 ∧ k15 - 1 < (gway_F l0 ((gcirc_F l0)[i13.toNat]!) ((gcirc_F l0)[i13.toNat]!)).length) ∧ (((leads17) = false) → ((decide (l0[n19.toNat]! 0 = (gway_F l0 ((gcirc_F l0)[i13.toNat]!) ((gcirc_F l0)[i13.toNat]!))[(k15 - 1).toNat]!)) = true) → 0 ≤ n19 ∧ n19 < l0.length) ∧ (((leads17) = false) → ((decide (l0[n19.toNat]! 0 = (gway_F l0 ((gcirc_F l0)[i13.toNat]!) ((gcirc_F l0)[i13.toNat]!))[(k15 - 1).toNat]!)) = true) → 0 ≤ k15 ∧ k15 < (gway_F l0 ((gcirc_F l0)[i13.toNat]!) ((gcirc_F l0)[i13.toNat]!)).length) ∧ (
    (inI64 (n19 + 1)) ∧ (
    o = (.inl ((leads17) || ((decide (l0[n19.toNat]! 0 = (gway_F l0 ((gcirc_F l0)[i13.toNat]!) ((gcirc_F l0)[i13.toNat]!))[(k15 - 1).toNat]!)) && (decide (l0[n19.toNat]! 2 = (gway_F l0 ((gcirc_F l0)[i13.toNat]!) ((gcirc_F l0)[i13.toNat]!))[k15.toNat]!))), n19 + 1))))
  else
    o = (.inr leads17)

def either10_k6a (k15 : Int) (on16 : Bool) (leads17 : Bool) (o : (Int) ⊕ ((Unit) ⊕ (Unit))) : Prop :=
  if ((!(on16)) || (!(leads17))) = true then
    o = (.inr (.inr ()))
  else
    (inI64 (k15 + 1)) ∧ (
    o = (.inl (k15 + 1)))

def either10_k5a (l0 : (List (Nat → Int))) (i13 : Int) (k15 : Int) (on16 : Bool) (o : (Int) ⊕ ((Unit) ⊕ (Unit))) : Prop :=
  ∃ x : Bool, Wh (fun (s : Bool × Int) (o : (Bool × Int) ⊕ (Bool)) => either10_l6 l0 i13 k15 s.1 s.2 o) ((false, 0) : Bool × Int) x ∧ either10_k6a k15 on16 x o

def either10_l4 (l0 : (List (Nat → Int))) (i13 : Int) (k15 : Int) (o : (Int) ⊕ ((Unit) ⊕ (Unit))) : Prop :=
  if k15 < ((gway_F l0 ((gcirc_F l0)[i13.toNat]!) ((gcirc_F l0)[i13.toNat]!)).length : Int) then
    ∃ x : Bool, Wh (fun (s : Bool × Int) (o : (Bool × Int) ⊕ (Bool)) => either10_l5 l0 i13 k15 s.1 s.2 o) ((false, 0) : Bool × Int) x ∧ either10_k5a l0 i13 k15 x o
  else
    o = (.inr (.inl ()))

def either10_k4a (i13 : Int) (o : (Int) ⊕ ((Unit) ⊕ (Unit))) : Prop :=
  (inI64 (i13 + 1)) ∧ (
  o = (.inl (i13 + 1)))

def either10_k4b (o : (Int) ⊕ ((Unit) ⊕ (Unit))) : Prop :=
  o = (.inr (.inr ()))

def either10_l3 (l0 : (List (Nat → Int))) (i13 : Int) (o : (Int) ⊕ ((Unit) ⊕ (Unit))) : Prop :=
  if i13 < ((gcirc_F l0).length : Int) then
    (0 ≤ i13 ∧ i13 < (gcirc_F l0).length) ∧ (
    (0 ≤ i13 ∧ i13 < (gcirc_F l0).length) ∧ (
    (gway_P l0 ((gcirc_F l0)[i13.toNat]!) ((gcirc_F l0)[i13.toNat]!)) ∧ (
    (((decide (((gway_F l0 ((gcirc_F l0)[i13.toNat]!) ((gcirc_F l0)[i13.toNat]!)).length : Int) < 2)) = false) → 0 ≤ (0 : Int) ∧ (0 : Int) < (gway_F l0 ((gcirc_F l0)[i13.toNat]!) ((gcirc_F l0)[i13.toNat]!)).length) ∧ (((decide (((gway_F l0 ((gcirc_F l0)[i13.toNat]!) ((gcirc_F l0)[i13.toNat]!)).length : Int) < 2)) = false) → 0 ≤ i13 ∧ i13 < (gcirc_F l0).length) ∧ ((((decide (((gway_F l0 ((gcirc_F l0)[i13.toNat]!) ((gcirc_F l0)[i13.toNat]!)).length : Int) < 2)) || (!(decide ((gway_F l0 ((gcirc_F l0)[i13.toNat]!) ((gcirc_F l0)[i13.toNat]!))[0]! = (gcirc_F l0)[i13.toNat]!)))) = false) → inI64 (((gway_F l0 ((gcirc_F l0)[i13.toNat]!) ((gcirc_F l0)[i13.toNat]!)).length : Int) - 1)) ∧ ((((decide (((gway_F l0 ((gcirc_F l0)[i13.toNat]!) ((gcirc_F l0)[i13.toNat]!)).length : Int) < 2)) || (!(decide ((gway_F l0 ((gcirc_F l0)[i13.toNat]!) ((gcirc_F l0)[i13.toNat]!))[0]! = (gcirc_F l0)[i13.toNat]!)))) = false) → 0 ≤ ((gway_F l0 ((gcirc_F l0)[i13.toNat]!) ((gcirc_F l0)[i13.toNat]!)).length : Int) - 1 ∧ ((gway_F l0 ((gcirc_F l0)[i13.toNat]!) ((gcirc_F l0)[i13.toNat]!)).length : Int) - 1 < (gway_F l0 ((gcirc_F l0)[i13.toNat]!) ((gcirc_F l0)[i13.toNat]!)).length) ∧ ((((decide (((gway_F l0 ((gcirc_F l0)[i13.toNat]!) ((gcirc_F l0)[i13.toNat]!)).length : Int) < 2)) || (!(decide ((gway_F l0 ((gcirc_F l0)[i13.toNat]!) ((gcirc_F l0)[i13.toNat]!))[0]! = (gcirc_F l0)[i13.toNat]!)))) = false) → 0 ≤ i13 ∧ i13 < (gcirc_F l0).length) ∧ (
    if (((decide (((gway_F l0 ((gcirc_F l0)[i13.toNat]!) ((gcirc_F l0)[i13.toNat]!)).length : Int) < 2)) || (!(decide ((gway_F l0 ((gcirc_F l0)[i13.toNat]!) ((gcirc_F l0)[i13.toNat]!))[0]! = (gcirc_F l0)[i13.toNat]!)))) || (!(decide ((gway_F l0 ((gcirc_F l0)[i13.toNat]!) ((gcirc_F l0)[i13.toNat]!))[(((gway_F l0 ((gcirc_F l0)[i13.toNat]!) ((gcirc_F l0)[i13.toNat]!)).length : Int) - 1).toNat]! = (gcirc_F l0)[i13.toNat]!)))) = true then
      o = (.inr (.inr ()))
    else
      ∃ x : (Unit) ⊕ (Unit), Wh (fun (s : Int) (o : (Int) ⊕ ((Unit) ⊕ (Unit))) => either10_l4 l0 i13 s o) (1 : Int) x ∧ (match x with | .inl _ => either10_k4a i13 o | .inr _ => either10_k4b o)))))
  else
    o = (.inr (.inl ()))

def either10_k3a (r : Bool) : Prop :=
  r = (true)

def either10_k3b (r : Bool) : Prop :=
  r = (false)

def either10_k2a (l0 : (List (Nat → Int))) (r : Bool) : Prop :=
  ∃ x : (Unit) ⊕ (Unit), Wh (fun (s : Int) (o : (Int) ⊕ ((Unit) ⊕ (Unit))) => either10_l3 l0 s o) (0 : Int) x ∧ (match x with | .inl _ => either10_k3a r | .inr _ => either10_k3b r)

def either10_k2b (r : Bool) : Prop :=
  r = (false)

def either10_k1a (l0 : (List (Nat → Int))) (at6 : (List (Int × Int))) (r : Bool) : Prop :=
  ∃ x : (Unit) ⊕ (Unit), Wh (fun (s : Int) (o : (Int) ⊕ ((Unit) ⊕ (Unit))) => either10_l2 l0 at6 s o) (0 : Int) x ∧ (match x with | .inl _ => either10_k2a l0 r | .inr _ => either10_k2b r)

def either10_S (l0 : (List (Nat → Int))) (r : Bool) : Prop :=
  (alive10_P) ∧ (
  if (alive10_F) = true then
    if 60 < (l0.length : Int) then
      r = (true)
    else
      (gorder_P l0) ∧ (
      (gcirc_P l0) ∧ (
      if (((decide ((gorder_F l0).2 = 0)) == (decide (((gcirc_F l0).length : Int) = 0)))) = true then
        ∃ x : (List (Int × Int)), Wh (fun (s : (List (Int × Int)) × Int) (o : ((List (Int × Int)) × Int) ⊕ ((List (Int × Int)))) => either10_l1 l0 s.1 s.2 o) (([], 0) : (List (Int × Int)) × Int) x ∧ either10_k1a l0 x r
      else
        r = (false)))
  else
    r = (false))

def more10_l1 (l0 : (List (Nat → Int))) (turned8 : (List (Nat → Int))) (i9 : Int) (o : ((List (Nat → Int)) × Int) ⊕ ((List (Nat → Int)))) : Prop :=
  if i9 < (l0.length : Int) then
    (0 ≤ i9 ∧ i9 < l0.length) ∧ (
    (0 ≤ i9 ∧ i9 < l0.length) ∧ (
    ((turned8.length + 1) * 32 ≤ 140737488355328) ∧ (
    (inI64 (i9 + 1)) ∧ (
    o = (.inl ((turned8 ++ [(updI (updI (fun _ => 0) 0 (l0[i9.toNat]! 2)) 2 (l0[i9.toNat]! 0))]), i9 + 1))))))
  else
    o = (.inr turned8)

def more10_l2 (l0 : (List (Nat → Int))) (more1 : (List (Nat → Int))) (from2 : Int) (in10 : (List (Int × Bool))) (x66 : Int) (o : ((List (Int × Bool)) × Int) ⊕ ((List (Int × Bool)))) : Prop :=
  if x66 < ((greach_F (([] ++ l0) ++ more1) from2).length : Int) then
    (0 ≤ x66 ∧ x66 < (greach_F (([] ++ l0) ++ more1) from2).length) ∧ (
    (inI64 (x66 + 1)) ∧ (
    o = (.inl (mset ieq in10 ((greach_F (([] ++ l0) ++ more1) from2)[x66.toNat]!) true, x66 + 1))))
  else
    o = (.inr in10)

def more10_l3 (l0 : (List (Nat → Int))) (from2 : Int) (in10 : (List (Int × Bool))) (x77 : Int) (o : (Int) ⊕ ((Unit) ⊕ (Unit))) : Prop :=
  if x77 < ((greach_F l0 from2).length : Int) then
    (0 ≤ x77 ∧ x77 < (greach_F l0 from2).length) ∧ (
    if ((mget ieq in10 ((greach_F l0 from2)[x77.toNat]!) false)) = true then
      (inI64 (x77 + 1)) ∧ (
      o = (.inl (x77 + 1)))
    else
      o = (.inr (.inr ())))
  else
    o = (.inr (.inl ()))

def more10_l4 (l0 : (List (Nat → Int))) (more1 : (List (Nat → Int))) (on15 : (List (Int × Bool))) (x90 : Int) (o : ((List (Int × Bool)) × Int) ⊕ ((List (Int × Bool)))) : Prop :=
  if x90 < ((gcirc_F (([] ++ l0) ++ more1)).length : Int) then
    (0 ≤ x90 ∧ x90 < (gcirc_F (([] ++ l0) ++ more1)).length) ∧ (
    (inI64 (x90 + 1)) ∧ (
    o = (.inl (mset ieq on15 ((gcirc_F (([] ++ l0) ++ more1))[x90.toNat]!) true, x90 + 1))))
  else
    o = (.inr on15)

def more10_l5 (l0 : (List (Nat → Int))) (on15 : (List (Int × Bool))) (x100 : Int) (o : (Int) ⊕ ((Unit) ⊕ (Unit))) : Prop :=
  if x100 < ((gcirc_F l0).length : Int) then
    (0 ≤ x100 ∧ x100 < (gcirc_F l0).length) ∧ (
    if ((mget ieq on15 ((gcirc_F l0)[x100.toNat]!) false)) = true then
      (inI64 (x100 + 1)) ∧ (
      o = (.inl (x100 + 1)))
    else
      o = (.inr (.inr ())))
  else
    o = (.inr (.inl ()))

def more10_k5a (r : Bool) : Prop :=
  r = (true)

def more10_k5b (r : Bool) : Prop :=
  r = (false)

def more10_k4a (l0 : (List (Nat → Int))) (on15 : (List (Int × Bool))) (r : Bool) : Prop :=
  (gcirc_P l0) ∧ (
  ∃ x : (Unit) ⊕ (Unit), Wh (fun (s : Int) (o : (Int) ⊕ ((Unit) ⊕ (Unit))) => more10_l5 l0 on15 s o) (0 : Int) x ∧ (match x with | .inl _ => more10_k5a r | .inr _ => more10_k5b r))

def more10_k3a (l0 : (List (Nat → Int))) (more1 : (List (Nat → Int))) (r : Bool) : Prop :=
  (gcirc_P (([] ++ l0) ++ more1)) ∧ (
  ∃ x : (List (Int × Bool)), Wh (fun (s : (List (Int × Bool)) × Int) (o : ((List (Int × Bool)) × Int) ⊕ ((List (Int × Bool)))) => more10_l4 l0 more1 s.1 s.2 o) (([], 0) : (List (Int × Bool)) × Int) x ∧ more10_k4a l0 x r)

def more10_k3b (r : Bool) : Prop :=
  r = (false)

def more10_k2a (l0 : (List (Nat → Int))) (more1 : (List (Nat → Int))) (from2 : Int) (in10 : (List (Int × Bool))) (r : Bool) : Prop :=
  (greach_P l0 from2) ∧ (
  ∃ x : (Unit) ⊕ (Unit), Wh (fun (s : Int) (o : (Int) ⊕ ((Unit) ⊕ (Unit))) => more10_l3 l0 from2 in10 s o) (0 : Int) x ∧ (match x with | .inl _ => more10_k3a l0 more1 r | .inr _ => more10_k3b r))

def more10_k1a (l0 : (List (Nat → Int))) (more1 : (List (Nat → Int))) (from2 : Int) (turned8 : (List (Nat → Int))) (r : Bool) : Prop :=
  (gcirc_P turned8) ∧ (
  (gcirc_P l0) ∧ (
  (ints_P (gcirc_F turned8) (gcirc_F l0)) ∧ (
  if ((ints_F (gcirc_F turned8) (gcirc_F l0))) = true then
    (greach_P (([] ++ l0) ++ more1) from2) ∧ (
    ∃ x : (List (Int × Bool)), Wh (fun (s : (List (Int × Bool)) × Int) (o : ((List (Int × Bool)) × Int) ⊕ ((List (Int × Bool)))) => more10_l2 l0 more1 from2 s.1 s.2 o) (([], 0) : (List (Int × Bool)) × Int) x ∧ more10_k2a l0 more1 from2 x r)
  else
    r = (false))))

def more10_S (l0 : (List (Nat → Int))) (more1 : (List (Nat → Int))) (from2 : Int) (r : Bool) : Prop :=
  (alive10_P) ∧ (
  if (alive10_F) = true then
    if ((decide (40 < (l0.length : Int))) || (decide (40 < (more1.length : Int)))) = true then
      r = (true)
    else
      ((0 + l0.length) * 32 ≤ 140737488355328) ∧ (
      ((([] ++ l0).length + more1.length) * 32 ≤ 140737488355328) ∧ (
      ∃ x : (List (Nat → Int)), Wh (fun (s : (List (Nat → Int)) × Int) (o : ((List (Nat → Int)) × Int) ⊕ ((List (Nat → Int)))) => more10_l1 l0 s.1 s.2 o) (([], 0) : (List (Nat → Int)) × Int) x ∧ more10_k1a l0 more1 from2 x r))
  else
    r = (false))

end Go.E
