/- What functions of the program say, as relations. -/
import Derived.Test.YtcnbdkkmcdjncaaP11c
set_option maxHeartbeats 1000000
set_option linter.unusedVariables false
set_option linter.unusedSimpArgs false
set_option maxRecDepth 100000
namespace Go.E
open Go

def alive11_S (r : Bool) : Prop :=
  (wof_P ([(updI (updI (fun _ => 0) 0 3) 2 5), (updI (updI (fun _ => 0) 0 2) 2 5), (updI (updI (fun _ => 0) 0 5) 2 2)])) ∧ (
  (oldest_P ([(updI (updI (fun _ => 0) 0 3) 2 5), (updI (updI (fun _ => 0) 0 2) 2 5), (updI (updI (fun _ => 0) 0 5) 2 2)])) ∧ (
  if ((wof_F ([(updI (updI (fun _ => 0) 0 3) 2 5), (updI (updI (fun _ => 0) 0 2) 2 5), (updI (updI (fun _ => 0) 0 5) 2 2)])).length : Int) = 1 then
    (0 ≤ (0 : Int) ∧ (0 : Int) < (wof_F ([(updI (updI (fun _ => 0) 0 3) 2 5), (updI (updI (fun _ => 0) 0 2) 2 5), (updI (updI (fun _ => 0) 0 5) 2 2)])).length) ∧ (
    if ((eqN 2 ((wof_F ([(updI (updI (fun _ => 0) 0 3) 2 5), (updI (updI (fun _ => 0) 0 2) 2 5), (updI (updI (fun _ => 0) 0 5) 2 2)]))[0]!) (updI (updI (fun _ => 0) 0 5) 1 2))) = true then
      (wrest_P ([(updI (updI (fun _ => 0) 0 3) 2 5), (updI (updI (fun _ => 0) 0 2) 2 5), (updI (updI (fun _ => 0) 0 5) 2 2)])) ∧ (
      if ((wrest_F ([(updI (updI (fun _ => 0) 0 3) 2 5), (updI (updI (fun _ => 0) 0 2) 2 5), (updI (updI (fun _ => 0) 0 5) 2 2)])).length : Int) = 0 then
        if (oldest_F ([(updI (updI (fun _ => 0) 0 3) 2 5), (updI (updI (fun _ => 0) 0 2) 2 5), (updI (updI (fun _ => 0) 0 5) 2 2)])).1 = 2 then
          r = ((oldest_F ([(updI (updI (fun _ => 0) 0 3) 2 5), (updI (updI (fun _ => 0) 0 2) 2 5), (updI (updI (fun _ => 0) 0 5) 2 2)])).2)
        else
          r = (false)
      else
        r = (false))
    else
      r = (false))
  else
    r = (false)))

def alive11_F : Bool :=
  if ((wof_F ([(updI (updI (fun _ => 0) 0 3) 2 5), (updI (updI (fun _ => 0) 0 2) 2 5), (updI (updI (fun _ => 0) 0 5) 2 2)])).length : Int) = 1 then
    if ((eqN 2 ((wof_F ([(updI (updI (fun _ => 0) 0 3) 2 5), (updI (updI (fun _ => 0) 0 2) 2 5), (updI (updI (fun _ => 0) 0 5) 2 2)]))[0]!) (updI (updI (fun _ => 0) 0 5) 1 2))) = true then
      if ((wrest_F ([(updI (updI (fun _ => 0) 0 3) 2 5), (updI (updI (fun _ => 0) 0 2) 2 5), (updI (updI (fun _ => 0) 0 5) 2 2)])).length : Int) = 0 then
        if (oldest_F ([(updI (updI (fun _ => 0) 0 3) 2 5), (updI (updI (fun _ => 0) 0 2) 2 5), (updI (updI (fun _ => 0) 0 5) 2 2)])).1 = 2 then
          (oldest_F ([(updI (updI (fun _ => 0) 0 3) 2 5), (updI (updI (fun _ => 0) 0 2) 2 5), (updI (updI (fun _ => 0) 0 5) 2 2)])).2
        else
          false
      else
        false
    else
      false
  else
    false

def alive11_P : Prop :=
  (wof_P ([(updI (updI (fun _ => 0) 0 3) 2 5), (updI (updI (fun _ => 0) 0 2) 2 5), (updI (updI (fun _ => 0) 0 5) 2 2)])) ∧ (
  (oldest_P ([(updI (updI (fun _ => 0) 0 3) 2 5), (updI (updI (fun _ => 0) 0 2) 2 5), (updI (updI (fun _ => 0) 0 5) 2 2)])) ∧ (
  if ((wof_F ([(updI (updI (fun _ => 0) 0 3) 2 5), (updI (updI (fun _ => 0) 0 2) 2 5), (updI (updI (fun _ => 0) 0 5) 2 2)])).length : Int) = 1 then
    (0 ≤ (0 : Int) ∧ (0 : Int) < (wof_F ([(updI (updI (fun _ => 0) 0 3) 2 5), (updI (updI (fun _ => 0) 0 2) 2 5), (updI (updI (fun _ => 0) 0 5) 2 2)])).length) ∧ (
    if ((eqN 2 ((wof_F ([(updI (updI (fun _ => 0) 0 3) 2 5), (updI (updI (fun _ => 0) 0 2) 2 5), (updI (updI (fun _ => 0) 0 5) 2 2)]))[0]!) (updI (updI (fun _ => 0) 0 5) 1 2))) = true then
      (wrest_P ([(updI (updI (fun _ => 0) 0 3) 2 5), (updI (updI (fun _ => 0) 0 2) 2 5), (updI (updI (fun _ => 0) 0 5) 2 2)])) ∧ (
      if ((wrest_F ([(updI (updI (fun _ => 0) 0 3) 2 5), (updI (updI (fun _ => 0) 0 2) 2 5), (updI (updI (fun _ => 0) 0 5) 2 2)])).length : Int) = 0 then
        if (oldest_F ([(updI (updI (fun _ => 0) 0 3) 2 5), (updI (updI (fun _ => 0) 0 2) 2 5), (updI (updI (fun _ => 0) 0 5) 2 2)])).1 = 2 then
          True
        else
          True
      else
        True)
    else
      True)
  else
    True))

theorem alive11_ok (hP : alive11_P) : alive11_S (alive11_F) := by
  obtain ⟨r, hr⟩ : ∃ r, r = alive11_F := ⟨_, rfl⟩
  rw [← hr]
  unfold alive11_F at hr
  unfold alive11_S
  unfold alive11_P at hP
  obtain ⟨hq0, hP⟩ := hP
  refine ⟨hq0, ?_⟩
  obtain ⟨hq0, hP⟩ := hP
  refine ⟨hq0, ?_⟩
  by_cases hp1 : ((wof_F ([(updI (updI (fun _ => 0) 0 3) 2 5), (updI (updI (fun _ => 0) 0 2) 2 5), (updI (updI (fun _ => 0) 0 5) 2 2)])).length : Int) = 1
  · rw [if_pos hp1] at hr hP ⊢
    obtain ⟨hq0, hP⟩ := hP
    refine ⟨hq0, ?_⟩
    by_cases hp2 : ((eqN 2 ((wof_F ([(updI (updI (fun _ => 0) 0 3) 2 5), (updI (updI (fun _ => 0) 0 2) 2 5), (updI (updI (fun _ => 0) 0 5) 2 2)]))[0]!) (updI (updI (fun _ => 0) 0 5) 1 2))) = true
    · rw [if_pos hp2] at hr hP ⊢
      obtain ⟨hq0, hP⟩ := hP
      refine ⟨hq0, ?_⟩
      by_cases hp3 : ((wrest_F ([(updI (updI (fun _ => 0) 0 3) 2 5), (updI (updI (fun _ => 0) 0 2) 2 5), (updI (updI (fun _ => 0) 0 5) 2 2)])).length : Int) = 0
      · rw [if_pos hp3] at hr hP ⊢
        by_cases hp4 : (oldest_F ([(updI (updI (fun _ => 0) 0 3) 2 5), (updI (updI (fun _ => 0) 0 2) 2 5), (updI (updI (fun _ => 0) 0 5) 2 2)])).1 = 2
        · rw [if_pos hp4] at hr hP ⊢
          exact hr
        · rw [if_neg hp4] at hr hP ⊢
          exact hr
      · rw [if_neg hp3] at hr hP ⊢
        exact hr
    · rw [if_neg hp2] at hr hP ⊢
      exact hr
  · rw [if_neg hp1] at hr hP ⊢
    exact hr

def of11_l1 (l0 : (List (Nat → Int))) (i5 : Int) (o : (Int) ⊕ ((Unit) ⊕ (Unit))) : Prop :=
  if i5 < ((wof_F l0).length : Int) then
    (0 ≤ i5 ∧ i5 < (wof_F l0).length) ∧ (0 ≤ i5 ∧ i5 < (ofR_F l0).length) ∧ (((!(decide ((wof_F l0)[i5.toNat]! 0 = (ofR_F l0)[i5.toNat]! 0))) = false) → 0 ≤ i5 ∧ i5 < (wof_F l0).length) ∧ (((!(decide ((wof_F l0)[i5.toNat]! 0 = (ofR_F l0)[i5.toNat]! 0))) = false) → 0 ≤ i5 ∧ i5 < (ofR_F l0).length) ∧ (
    if ((!(decide ((wof_F l0)[i5.toNat]! 0 = (ofR_F l0)[i5.toNat]! 0))) || (!(decide ((wof_F l0)[i5.toNat]! 1 = (ofR_F l0)[i5.toNat]! 1)))) = true then
      o = (.inr (.inr ()))
    else
      (inI64 (i5 + 1)) ∧ (
      o = (.inl (i5 + 1))))
  else
    o = (.inr (.inl ()))

def of11_k1a (l0 : (List (Nat → Int))) (r : Bool) : Prop :=
  (wrest_P l0) ∧ (
  (restR_P l0) ∧ (
  (esame_P (wrest_F l0) (restR_F l0)) ∧ (
  r = ((esame_F (wrest_F l0) (restR_F l0))))))

def of11_k1b (r : Bool) : Prop :=
  r = (false)

def of11_S (l0 : (List (Nat → Int))) (r : Bool) : Prop :=
  (alive11_P) ∧ (
  if (alive11_F) = true then
    if 60 < (l0.length : Int) then
      r = (true)
    else
      (wof_P l0) ∧ (
      (ofR_P l0) ∧ (
      if ((wof_F l0).length : Int) = ((ofR_F l0).length : Int) then
        ∃ x : (Unit) ⊕ (Unit), Wh (fun (s : Int) (o : (Int) ⊕ ((Unit) ⊕ (Unit))) => of11_l1 l0 s o) (0 : Int) x ∧ (match x with | .inl _ => of11_k1a l0 r | .inr _ => of11_k1b r)
      else
        r = (false)))
  else
    r = (false))

def by11_l1 (l0 : (List (Nat → Int))) (i6 : Int) (o : (Int) ⊕ ((Unit) ⊕ (Unit))) : Prop :=
  if i6 < (l0.length : Int) then
    (0 ≤ i6 ∧ i6 < l0.length) ∧ (((decide (l0[i6.toNat]! 0 < (oldest_F l0).1)) = false) → 0 ≤ i6 ∧ i6 < l0.length) ∧ (
    if ((decide (l0[i6.toNat]! 0 < (oldest_F l0).1)) || (decide (l0[i6.toNat]! 2 < (oldest_F l0).1))) = true then
      o = (.inr (.inr ()))
    else
      (inI64 (i6 + 1)) ∧ (
      o = (.inl (i6 + 1))))
  else
    o = (.inr (.inl ()))

def by11_l3 (l0 : (List (Nat → Int))) (i7 : Int) (waits8 : Bool) (k9 : Int) (o : (Bool × Int) ⊕ ((Bool) ⊕ (Unit))) : Prop :=
  if k9 < (l0.length : Int) then
    (((waits8) = false) → 0 ≤ k9 ∧ k9 < l0.length) ∧ (((waits8) = false) → 0 ≤ i7 ∧ i7 < (wof_F l0).length) ∧ (((waits8) = false) → ((decide (l0[k9.toNat]! 0 = (wof_F l0)[i7.toNat]! 1)) = true) → 0 ≤ k9 ∧ k9 < l0.length) ∧ (((waits8) = false) → ((decide (l0[k9.toNat]! 0 = (wof_F l0)[i7.toNat]! 1)) = true) → 0 ≤ i7 ∧ i7 < (wof_F l0).length) ∧ (
    (0 ≤ k9 ∧ k9 < l0.length) ∧ (0 ≤ i7 ∧ i7 < (wof_F l0).length) ∧ (((decide (l0[k9.toNat]! 2 = (wof_F l0)[i7.toNat]! 0)) = true) → 0 ≤ k9 ∧ k9 < l0.length) ∧ (((decide (l0[k9.toNat]! 2 = (wof_F l0)[i7.toNat]! 0)) = true) → 0 ≤ i7 ∧ i7 < (wof_F l0).length) ∧ (
    if ((decide (l0[k9.toNat]! 2 = (wof_F l0)[i7.toNat]! 0)) && (decide (l0[k9.toNat]! 0 < (wof_F l0)[i7.toNat]! 1))) = true then
      o = (.inr (.inr ()))
    else
      (inI64 (k9 + 1)) ∧ (
      o = (.inl ((waits8) || ((decide (l0[k9.toNat]! 0 = (wof_F l0)[i7.toNat]! 1)) && (decide (l0[k9.toNat]! 2 = (wof_F l0)[i7.toNat]! 0))), k9 + 1)))))
  else
    o = (.inr (.inl waits8))

def by11_k3a (l0 : (List (Nat → Int))) (i7 : Int) (waits8 : Bool) (o : (Int) ⊕ ((Unit) ⊕ (Unit))) : Prop :=
  (((!(waits8)) = false) → 0 ≤ i7 ∧ i7 < (wof_F l0).length) ∧ (((!(waits8)) = false) → 0 ≤ i7 ∧ i7 < (wof_F l0).length) ∧ ((((!(waits8)) || (decide ((wof_F l0)[i7.toNat]! 0 ≤ (wof_F l0)[i7.toNat]! 1))) = false) → 0 ≤ i7 ∧ i7 < (wof_F l0).length) ∧ (((((!(waits8)) || (decide ((wof_F l0)[i7.toNat]! 0 ≤ (wof_F l0)[i7.toNat]! 1))) || (decide ((wof_F l0)[i7.toNat]! 0 = (oldest_F l0).1))) = false) → ((decide (0 < i7)) = true) → inI64 (i7 - 1)) ∧ (((((!(waits8)) || (decide ((wof_F l0)[i7.toNat]! 0 ≤ (wof_F l0)[i7.toNat]! 1))) || (decide ((wof_F l0)[i7.toNat]! 0 = (oldest_F l0).1))) = false) → ((decide (0 < i7)) = true) → 0 ≤ i7 - 1 ∧ i7 - 1 < (wof_F l0).length) ∧ (((((!(waits8)) || (decide ((wof_F l0)[i7.toNat]! 0 ≤ (wof_F l0)[i7.toNat]! 1))) || (decide ((wof_F l0)[i7.toNat]! 0 = (oldest_F l0).1))) = false) → ((decide (0 < i7)) = true) → 0 ≤ i7 ∧ i7 < (wof_F l0).length) ∧ (
  if ((((!(waits8)) || (decide ((wof_F l0)[i7.toNat]! 0 ≤ (wof_F l0)[i7.toNat]! 1))) || (decide ((wof_F l0)[i7.toNat]! 0 = (oldest_F l0).1))) || ((decide (0 < i7)) && (decide ((wof_F l0)[i7.toNat]! 0 ≤ (wof_F l0)[(i7 - 1).toNat]! 0)))) = true then
    o = (.inr (.inr ()))
  else
    (inI64 (i7 + 1)) ∧ (
    o = (.inl (i7 + 1))))

def by11_k3b (o : (Int) ⊕ ((Unit) ⊕ (Unit))) : Prop :=
  o = (.inr (.inr ()))

def by11_l2 (l0 : (List (Nat → Int))) (i7 : Int) (o : (Int) ⊕ ((Unit) ⊕ (Unit))) : Prop :=
  if i7 < ((wof_F l0).length : Int) then
    ∃ x : (Bool) ⊕ (Unit), Wh (fun (s : Bool × Int) (o : (Bool × Int) ⊕ ((Bool) ⊕ (Unit))) => by11_l3 l0 i7 s.1 s.2 o) ((false, 0) : Bool × Int) x ∧ (match x with | .inl waits8 => by11_k3a l0 i7 waits8 o | .inr _ => by11_k3b o)
  else
    o = (.inr (.inl ()))

def by11_k2a (r : Bool) : Prop :=
  r = (true)

def by11_k2b (r : Bool) : Prop :=
  r = (false)

def by11_k1a (l0 : (List (Nat → Int))) (r : Bool) : Prop :=
  ∃ x : (Unit) ⊕ (Unit), Wh (fun (s : Int) (o : (Int) ⊕ ((Unit) ⊕ (Unit))) => by11_l2 l0 s o) (0 : Int) x ∧ (match x with | .inl _ => by11_k2a r | .inr _ => by11_k2b r)

def by11_k1b (r : Bool) : Prop :=
  r = (false)

def by11_S (l0 : (List (Nat → Int))) (r : Bool) : Prop :=
  (alive11_P) ∧ (
  if (alive11_F) = true then
    if 60 < (l0.length : Int) then
      r = (true)
    else
      (wof_P l0) ∧ (
      (oldest_P l0) ∧ (
      if ((((oldest_F l0).2) == (decide (0 < (l0.length : Int))))) = true then
        ∃ x : (Unit) ⊕ (Unit), Wh (fun (s : Int) (o : (Int) ⊕ ((Unit) ⊕ (Unit))) => by11_l1 l0 s o) (0 : Int) x ∧ (match x with | .inl _ => by11_k1a l0 r | .inr _ => by11_k1b r)
      else
        r = (false)))
  else
    r = (false))

def more11_l2 (l0 : (List (Nat → Int))) (more1 : (List (Nat → Int))) (i7 : Int) (there8 : Bool) (k9 : Int) (o : (Bool × Int) ⊕ (Bool)) : Prop :=
  if k9 < ((wof_F (([] ++ l0) ++ more1)).length : Int) then
    (((there8) = false) → 0 ≤ k9 ∧ k9 < (wof_F (([] ++ l0) ++ more1)).length) ∧ (((there8) = false) → 0 ≤ i7 ∧ i7 < (wof_F l0).length) ∧ (((there8) = false) → ((decide ((wof_F (([] ++ l0) ++ more1))[k9.toNat]! 0 = (wof_F l0)[i7.toNat]! 0)) = true) → 0 ≤ k9 ∧ k9 < (wof_F (([] ++ l0) ++ more1)).length) ∧ (((there8) = false) → ((decide ((wof_F (([] ++ l0) ++ more1))[k9.toNat]! 0 = (wof_F l0)[i7.toNat]! 0)) = true) → 0 ≤ i7 ∧ i7 < (wof_F l0).length) ∧ (
    (inI64 (k9 + 1)) ∧ (
    o = (.inl ((there8) || ((decide ((wof_F (([] ++ l0) ++ more1))[k9.toNat]! 0 = (wof_F l0)[i7.toNat]! 0)) && (decide ((wof_F (([] ++ l0) ++ more1))[k9.toNat]! 1 ≤ (wof_F l0)[i7.toNat]! 1))), k9 + 1))))
  else
    o = (.inr there8)

def more11_k2a (i7 : Int) (there8 : Bool) (o : (Int) ⊕ ((Unit) ⊕ (Unit))) : Prop :=
  if (there8) = true then
    (inI64 (i7 + 1)) ∧ (
    o = (.inl (i7 + 1)))
  else
    o = (.inr (.inr ()))

def more11_l1 (l0 : (List (Nat → Int))) (more1 : (List (Nat → Int))) (i7 : Int) (o : (Int) ⊕ ((Unit) ⊕ (Unit))) : Prop :=
  if i7 < ((wof_F l0).length : Int) then
    ∃ x : Bool, Wh (fun (s : Bool × Int) (o : (Bool × Int) ⊕ (Bool)) => more11_l2 l0 more1 i7 s.1 s.2 o) ((false, 0) : Bool × Int) x ∧ more11_k2a i7 x o
  else
    o = (.inr (.inl ()))

def more11_k1a (r : Bool) : Prop :=
  r = (true)

def more11_k1b (r : Bool) : Prop :=
  r = (false)

def more11_S (l0 : (List (Nat → Int))) (more1 : (List (Nat → Int))) (r : Bool) : Prop :=
  (alive11_P) ∧ (
  if (alive11_F) = true then
    if ((decide (40 < (l0.length : Int))) || (decide (40 < (more1.length : Int)))) = true then
      r = (true)
    else
      (wof_P l0) ∧ (
      ((0 + l0.length) * 32 ≤ 140737488355328) ∧ (
      ((([] ++ l0).length + more1.length) * 32 ≤ 140737488355328) ∧ (
      (wof_P (([] ++ l0) ++ more1)) ∧ (
      ∃ x : (Unit) ⊕ (Unit), Wh (fun (s : Int) (o : (Int) ⊕ ((Unit) ⊕ (Unit))) => more11_l1 l0 more1 s o) (0 : Int) x ∧ (match x with | .inl _ => more11_k1a r | .inr _ => more11_k1b r)))))
  else
    r = (false))

end Go.E
