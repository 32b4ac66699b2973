/- What functions of the program say, as relations. -/
import Derived.Test.YtljklmlodfbdnaaGreatP18c
import Derived.Test.YtljklmlodfbdnaaGreatE27
set_option maxHeartbeats 1000000
set_option linter.unusedVariables false
set_option linter.unusedSimpArgs false
set_option maxRecDepth 100000
namespace Go.E
open Go

def kset_S (o0c : (Nat → Int)) (o0clients : (Nat → Int)) (o0time : Int) (o0last : Int) (o0txns : (List (Int × (Int × Int × Int × Int × Bool × Int × (Nat → Int) × Int × (List Int) × (List Int) × (List Int) × (List (Nat → Int)))))) (o0trace : (List (Nat → Int))) (t1Tx : Int) (t1State : Int) (t1Reason : Int) (t1Seq : Int) (t1Open : Bool) (t1Shard : Int) (t1At : (Nat → Int)) (t1Mode : Int) (t1Touched : (List Int)) (t1Votes : (List Int)) (t1Acks : (List Int)) (t1Got : (List (Nat → Int))) (r : (List (Int × (Int × Int × Int × Int × Bool × Int × (Nat → Int) × Int × (List Int) × (List Int) × (List Int) × (List (Nat → Int))))) × (List (Nat → Int)) × (Nat → Int)) : Prop :=
  if (mget ieq o0txns t1Tx (0, 0, 0, 0, false, 0, (fun _ => 0), 0, [], [], [], [])).2.1 = t1State then
    r = ((mset ieq o0txns t1Tx (t1Tx, t1State, t1Reason, t1Seq, t1Open, t1Shard, t1At, t1Mode, t1Touched, t1Votes, t1Acks, t1Got), o0trace, o0clients))
  else
    if t1State = 2 then
      ((o0trace.length + 1) * 56 ≤ 140737488355328) ∧ (
      r = ((mset ieq o0txns t1Tx (t1Tx, t1State, t1Reason, t1Seq, t1Open, t1Shard, t1At, t1Mode, t1Touched, t1Votes, t1Acks, t1Got), (o0trace ++ [(updI (updI (fun _ => 0) 0 5) 2 t1Tx)]), o0clients)))
    else
      if t1State = 4 then
        ((o0trace.length + 1) * 56 ≤ 140737488355328) ∧ (
        (cend_P o0clients t1Tx) ∧ (
        r = ((mset ieq o0txns t1Tx (t1Tx, t1State, t1Reason, t1Seq, t1Open, t1Shard, t1At, t1Mode, t1Touched, t1Votes, t1Acks, t1Got), (o0trace ++ [(updI (updI (updI (fun _ => 0) 0 7) 2 t1Tx) 6 t1Reason)]), (cend_F o0clients t1Tx).2))))
      else
        if t1State = 3 then
          ((o0trace.length + 1) * 56 ≤ 140737488355328) ∧ (
          (cend_P o0clients t1Tx) ∧ (
          r = ((mset ieq o0txns t1Tx (t1Tx, t1State, t1Reason, t1Seq, t1Open, t1Shard, t1At, t1Mode, t1Touched, t1Votes, t1Acks, t1Got), (o0trace ++ [(updI (updI (fun _ => 0) 0 6) 2 t1Tx)]), (cend_F o0clients t1Tx).2))))
        else
          r = ((mset ieq o0txns t1Tx (t1Tx, t1State, t1Reason, t1Seq, t1Open, t1Shard, t1At, t1Mode, t1Touched, t1Votes, t1Acks, t1Got), o0trace, o0clients))

def kset_F (o0c : (Nat → Int)) (o0clients : (Nat → Int)) (o0time : Int) (o0last : Int) (o0txns : (List (Int × (Int × Int × Int × Int × Bool × Int × (Nat → Int) × Int × (List Int) × (List Int) × (List Int) × (List (Nat → Int)))))) (o0trace : (List (Nat → Int))) (t1Tx : Int) (t1State : Int) (t1Reason : Int) (t1Seq : Int) (t1Open : Bool) (t1Shard : Int) (t1At : (Nat → Int)) (t1Mode : Int) (t1Touched : (List Int)) (t1Votes : (List Int)) (t1Acks : (List Int)) (t1Got : (List (Nat → Int))) : (List (Int × (Int × Int × Int × Int × Bool × Int × (Nat → Int) × Int × (List Int) × (List Int) × (List Int) × (List (Nat → Int))))) × (List (Nat → Int)) × (Nat → Int) :=
  if (mget ieq o0txns t1Tx (0, 0, 0, 0, false, 0, (fun _ => 0), 0, [], [], [], [])).2.1 = t1State then
    (mset ieq o0txns t1Tx (t1Tx, t1State, t1Reason, t1Seq, t1Open, t1Shard, t1At, t1Mode, t1Touched, t1Votes, t1Acks, t1Got), o0trace, o0clients)
  else
    if t1State = 2 then
      (mset ieq o0txns t1Tx (t1Tx, t1State, t1Reason, t1Seq, t1Open, t1Shard, t1At, t1Mode, t1Touched, t1Votes, t1Acks, t1Got), (o0trace ++ [(updI (updI (fun _ => 0) 0 5) 2 t1Tx)]), o0clients)
    else
      if t1State = 4 then
        (mset ieq o0txns t1Tx (t1Tx, t1State, t1Reason, t1Seq, t1Open, t1Shard, t1At, t1Mode, t1Touched, t1Votes, t1Acks, t1Got), (o0trace ++ [(updI (updI (updI (fun _ => 0) 0 7) 2 t1Tx) 6 t1Reason)]), (cend_F o0clients t1Tx).2)
      else
        if t1State = 3 then
          (mset ieq o0txns t1Tx (t1Tx, t1State, t1Reason, t1Seq, t1Open, t1Shard, t1At, t1Mode, t1Touched, t1Votes, t1Acks, t1Got), (o0trace ++ [(updI (updI (fun _ => 0) 0 6) 2 t1Tx)]), (cend_F o0clients t1Tx).2)
        else
          (mset ieq o0txns t1Tx (t1Tx, t1State, t1Reason, t1Seq, t1Open, t1Shard, t1At, t1Mode, t1Touched, t1Votes, t1Acks, t1Got), o0trace, o0clients)

def kset_P (o0c : (Nat → Int)) (o0clients : (Nat → Int)) (o0time : Int) (o0last : Int) (o0txns : (List (Int × (Int × Int × Int × Int × Bool × Int × (Nat → Int) × Int × (List Int) × (List Int) × (List Int) × (List (Nat → Int)))))) (o0trace : (List (Nat → Int))) (t1Tx : Int) (t1State : Int) (t1Reason : Int) (t1Seq : Int) (t1Open : Bool) (t1Shard : Int) (t1At : (Nat → Int)) (t1Mode : Int) (t1Touched : (List Int)) (t1Votes : (List Int)) (t1Acks : (List Int)) (t1Got : (List (Nat → Int))) : Prop :=
  if (mget ieq o0txns t1Tx (0, 0, 0, 0, false, 0, (fun _ => 0), 0, [], [], [], [])).2.1 = t1State then
    True
  else
    if t1State = 2 then
      ((o0trace.length + 1) * 56 ≤ 140737488355328) ∧ (
      True)
    else
      if t1State = 4 then
        ((o0trace.length + 1) * 56 ≤ 140737488355328) ∧ (
        (cend_P o0clients t1Tx) ∧ (
        True))
      else
        if t1State = 3 then
          ((o0trace.length + 1) * 56 ≤ 140737488355328) ∧ (
          (cend_P o0clients t1Tx) ∧ (
          True))
        else
          True

theorem kset_ok (o0c : (Nat → Int)) (o0clients : (Nat → Int)) (o0time : Int) (o0last : Int) (o0txns : (List (Int × (Int × Int × Int × Int × Bool × Int × (Nat → Int) × Int × (List Int) × (List Int) × (List Int) × (List (Nat → Int)))))) (o0trace : (List (Nat → Int))) (t1Tx : Int) (t1State : Int) (t1Reason : Int) (t1Seq : Int) (t1Open : Bool) (t1Shard : Int) (t1At : (Nat → Int)) (t1Mode : Int) (t1Touched : (List Int)) (t1Votes : (List Int)) (t1Acks : (List Int)) (t1Got : (List (Nat → Int))) (hP : kset_P o0c o0clients o0time o0last o0txns o0trace t1Tx t1State t1Reason t1Seq t1Open t1Shard t1At t1Mode t1Touched t1Votes t1Acks t1Got) : kset_S o0c o0clients o0time o0last o0txns o0trace t1Tx t1State t1Reason t1Seq t1Open t1Shard t1At t1Mode t1Touched t1Votes t1Acks t1Got (kset_F o0c o0clients o0time o0last o0txns o0trace t1Tx t1State t1Reason t1Seq t1Open t1Shard t1At t1Mode t1Touched t1Votes t1Acks t1Got) := by
  obtain ⟨r, hr⟩ : ∃ r, r = kset_F o0c o0clients o0time o0last o0txns o0trace t1Tx t1State t1Reason t1Seq t1Open t1Shard t1At t1Mode t1Touched t1Votes t1Acks t1Got := ⟨_, rfl⟩
  rw [← hr]
  unfold kset_F at hr
  unfold kset_S
  unfold kset_P at hP
  by_cases hp67 : (mget ieq o0txns t1Tx (0, 0, 0, 0, false, 0, (fun _ => 0), 0, [], [], [], [])).2.1 = t1State
  · rw [if_pos hp67] at hr hP ⊢
    exact hr
  · rw [if_neg hp67] at hr hP ⊢
    by_cases hp68 : t1State = 2
    · rw [if_pos hp68] at hr hP ⊢
      obtain ⟨hq0, hP⟩ := hP
      refine ⟨hq0, ?_⟩
      exact hr
    · rw [if_neg hp68] at hr hP ⊢
      by_cases hp69 : t1State = 4
      · rw [if_pos hp69] at hr hP ⊢
        obtain ⟨hq0, hP⟩ := hP
        refine ⟨hq0, ?_⟩
        obtain ⟨hq0, hP⟩ := hP
        refine ⟨hq0, ?_⟩
        exact hr
      · rw [if_neg hp69] at hr hP ⊢
        by_cases hp70 : t1State = 3
        · rw [if_pos hp70] at hr hP ⊢
          obtain ⟨hq0, hP⟩ := hP
          refine ⟨hq0, ?_⟩
          obtain ⟨hq0, hP⟩ := hP
          refine ⟨hq0, ?_⟩
          exact hr
        · rw [if_neg hp70] at hr hP ⊢
          exact hr

def kalive_S (o0c : (Nat → Int)) (o0clients : (Nat → Int)) (o0time : Int) (o0last : Int) (o0txns : (List (Int × (Int × Int × Int × Int × Bool × Int × (Nat → Int) × Int × (List Int) × (List Int) × (List Int) × (List (Nat → Int)))))) (o0trace : (List (Nat → Int))) (id1 : Int) (r : Int × (Nat → Int)) : Prop :=
  (calive_P o0clients id1) ∧ (
  if ((calive_F o0clients id1)) = true then
    r = ((0, o0clients))
  else
    (cbegin_P o0clients id1 1048576) ∧ (
    (errIs_P ((cbegin_F o0clients id1 1048576).1) 11) ∧ (
    if ((errIs_F ((cbegin_F o0clients id1 1048576).1) 11)) = true then
      r = (((cbegin_F o0clients id1 1048576).1, (cbegin_F o0clients id1 1048576).2))
    else
      r = ((10, (cbegin_F o0clients id1 1048576).2)))))

def kalive_F (o0c : (Nat → Int)) (o0clients : (Nat → Int)) (o0time : Int) (o0last : Int) (o0txns : (List (Int × (Int × Int × Int × Int × Bool × Int × (Nat → Int) × Int × (List Int) × (List Int) × (List Int) × (List (Nat → Int)))))) (o0trace : (List (Nat → Int))) (id1 : Int) : Int × (Nat → Int) :=
  if ((calive_F o0clients id1)) = true then
    (0, o0clients)
  else
    if ((errIs_F ((cbegin_F o0clients id1 1048576).1) 11)) = true then
      ((cbegin_F o0clients id1 1048576).1, (cbegin_F o0clients id1 1048576).2)
    else
      (10, (cbegin_F o0clients id1 1048576).2)

def kalive_P (o0c : (Nat → Int)) (o0clients : (Nat → Int)) (o0time : Int) (o0last : Int) (o0txns : (List (Int × (Int × Int × Int × Int × Bool × Int × (Nat → Int) × Int × (List Int) × (List Int) × (List Int) × (List (Nat → Int)))))) (o0trace : (List (Nat → Int))) (id1 : Int) : Prop :=
  (calive_P o0clients id1) ∧ (
  if ((calive_F o0clients id1)) = true then
    True
  else
    (cbegin_P o0clients id1 1048576) ∧ (
    (errIs_P ((cbegin_F o0clients id1 1048576).1) 11) ∧ (
    if ((errIs_F ((cbegin_F o0clients id1 1048576).1) 11)) = true then
      True
    else
      True)))

theorem kalive_ok (o0c : (Nat → Int)) (o0clients : (Nat → Int)) (o0time : Int) (o0last : Int) (o0txns : (List (Int × (Int × Int × Int × Int × Bool × Int × (Nat → Int) × Int × (List Int) × (List Int) × (List Int) × (List (Nat → Int)))))) (o0trace : (List (Nat → Int))) (id1 : Int) (hP : kalive_P o0c o0clients o0time o0last o0txns o0trace id1) : kalive_S o0c o0clients o0time o0last o0txns o0trace id1 (kalive_F o0c o0clients o0time o0last o0txns o0trace id1) := by
  obtain ⟨r, hr⟩ : ∃ r, r = kalive_F o0c o0clients o0time o0last o0txns o0trace id1 := ⟨_, rfl⟩
  rw [← hr]
  unfold kalive_F at hr
  unfold kalive_S
  unfold kalive_P at hP
  obtain ⟨hq0, hP⟩ := hP
  refine ⟨hq0, ?_⟩
  by_cases hp71 : ((calive_F o0clients id1)) = true
  · rw [if_pos hp71] at hr hP ⊢
    exact hr
  · rw [if_neg hp71] at hr hP ⊢
    obtain ⟨hq0, hP⟩ := hP
    refine ⟨hq0, ?_⟩
    obtain ⟨hq0, hP⟩ := hP
    refine ⟨hq0, ?_⟩
    by_cases hp72 : ((errIs_F ((cbegin_F o0clients id1 1048576).1) 11)) = true
    · rw [if_pos hp72] at hr hP ⊢
      exact hr
    · rw [if_neg hp72] at hr hP ⊢
      exact hr

def kbegin_S (o0c : (Nat → Int)) (o0clients : (Nat → Int)) (o0time : Int) (o0last : Int) (o0txns : (List (Int × (Int × Int × Int × Int × Bool × Int × (Nat → Int) × Int × (List Int) × (List Int) × (List Int) × (List (Nat → Int)))))) (o0trace : (List (Nat → Int))) (id1 : Int) (r : Int × Int × Int × (List (Int × (Int × Int × Int × Int × Bool × Int × (Nat → Int) × Int × (List Int) × (List Int) × (List Int) × (List (Nat → Int))))) × (List (Nat → Int)) × (Nat → Int)) : Prop :=
  (kalive_P o0c o0clients o0time o0last o0txns o0trace id1) ∧ (
  if (kalive_F o0c o0clients o0time o0last o0txns o0trace id1).1 = 0 then
    (cnow_P ((kalive_F o0c o0clients o0time o0last o0txns o0trace id1).2) id1) ∧ (
    if (cnow_F ((kalive_F o0c o0clients o0time o0last o0txns o0trace id1).2) id1).2 = 0 then
      r = ((0, 8, o0last, o0txns, o0trace, (kalive_F o0c o0clients o0time o0last o0txns o0trace id1).2))
    else
      (inI64 (o0last + 1)) ∧ (
      if (tnew_F (o0last + 1)).2 = 0 then
        (inI64 (o0last + 1)) ∧ (
        (cbegin_P ((kalive_F o0c o0clients o0time o0last o0txns o0trace id1).2) id1 (((tnew_F (o0last + 1)).1).1)) ∧ (
        ((o0trace.length + 1) * 56 ≤ 140737488355328) ∧ (
        r = ((((tnew_F (o0last + 1)).1).1, 0, o0last + 1, mset ieq o0txns (((tnew_F (o0last + 1)).1).1) (((tnew_F (o0last + 1)).1).1, ((tnew_F (o0last + 1)).1).2.1, ((tnew_F (o0last + 1)).1).2.2.1, ((tnew_F (o0last + 1)).1).2.2.2.1, ((tnew_F (o0last + 1)).1).2.2.2.2.1, ((tnew_F (o0last + 1)).1).2.2.2.2.2.1, ((tnew_F (o0last + 1)).1).2.2.2.2.2.2.1, ((tnew_F (o0last + 1)).1).2.2.2.2.2.2.2.1, ((tnew_F (o0last + 1)).1).2.2.2.2.2.2.2.2.1, ((tnew_F (o0last + 1)).1).2.2.2.2.2.2.2.2.2.1, ((tnew_F (o0last + 1)).1).2.2.2.2.2.2.2.2.2.2.1, ((tnew_F (o0last + 1)).1).2.2.2.2.2.2.2.2.2.2.2), (o0trace ++ [(updI (updI (updI (fun _ => 0) 0 1) 1 id1) 2 (((tnew_F (o0last + 1)).1).1))]), (cbegin_F ((kalive_F o0c o0clients o0time o0last o0txns o0trace id1).2) id1 (((tnew_F (o0last + 1)).1).1)).2)))))
      else
        r = ((0, 6, o0last, o0txns, o0trace, (kalive_F o0c o0clients o0time o0last o0txns o0trace id1).2))))
  else
    r = ((0, (kalive_F o0c o0clients o0time o0last o0txns o0trace id1).1, o0last, o0txns, o0trace, (kalive_F o0c o0clients o0time o0last o0txns o0trace id1).2)))

def kbegin_F (o0c : (Nat → Int)) (o0clients : (Nat → Int)) (o0time : Int) (o0last : Int) (o0txns : (List (Int × (Int × Int × Int × Int × Bool × Int × (Nat → Int) × Int × (List Int) × (List Int) × (List Int) × (List (Nat → Int)))))) (o0trace : (List (Nat → Int))) (id1 : Int) : Int × Int × Int × (List (Int × (Int × Int × Int × Int × Bool × Int × (Nat → Int) × Int × (List Int) × (List Int) × (List Int) × (List (Nat → Int))))) × (List (Nat → Int)) × (Nat → Int) :=
  if (kalive_F o0c o0clients o0time o0last o0txns o0trace id1).1 = 0 then
    if (cnow_F ((kalive_F o0c o0clients o0time o0last o0txns o0trace id1).2) id1).2 = 0 then
      (0, 8, o0last, o0txns, o0trace, (kalive_F o0c o0clients o0time o0last o0txns o0trace id1).2)
    else
      if (tnew_F (o0last + 1)).2 = 0 then
        (((tnew_F (o0last + 1)).1).1, 0, o0last + 1, mset ieq o0txns (((tnew_F (o0last + 1)).1).1) (((tnew_F (o0last + 1)).1).1, ((tnew_F (o0last + 1)).1).2.1, ((tnew_F (o0last + 1)).1).2.2.1, ((tnew_F (o0last + 1)).1).2.2.2.1, ((tnew_F (o0last + 1)).1).2.2.2.2.1, ((tnew_F (o0last + 1)).1).2.2.2.2.2.1, ((tnew_F (o0last + 1)).1).2.2.2.2.2.2.1, ((tnew_F (o0last + 1)).1).2.2.2.2.2.2.2.1, ((tnew_F (o0last + 1)).1).2.2.2.2.2.2.2.2.1, ((tnew_F (o0last + 1)).1).2.2.2.2.2.2.2.2.2.1, ((tnew_F (o0last + 1)).1).2.2.2.2.2.2.2.2.2.2.1, ((tnew_F (o0last + 1)).1).2.2.2.2.2.2.2.2.2.2.2), (o0trace ++ [(updI (updI (updI (fun _ => 0) 0 1) 1 id1) 2 (((tnew_F (o0last + 1)).1).1))]), (cbegin_F ((kalive_F o0c o0clients o0time o0last o0txns o0trace id1).2) id1 (((tnew_F (o0last + 1)).1).1)).2)
      else
        (0, 6, o0last, o0txns, o0trace, (kalive_F o0c o0clients o0time o0last o0txns o0trace id1).2)
  else
    (0, (kalive_F o0c o0clients o0time o0last o0txns o0trace id1).1, o0last, o0txns, o0trace, (kalive_F o0c o0clients o0time o0last o0txns o0trace id1).2)

def kbegin_P (o0c : (Nat → Int)) (o0clients : (Nat → Int)) (o0time : Int) (o0last : Int) (o0txns : (List (Int × (Int × Int × Int × Int × Bool × Int × (Nat → Int) × Int × (List Int) × (List Int) × (List Int) × (List (Nat → Int)))))) (o0trace : (List (Nat → Int))) (id1 : Int) : Prop :=
  (kalive_P o0c o0clients o0time o0last o0txns o0trace id1) ∧ (
  if (kalive_F o0c o0clients o0time o0last o0txns o0trace id1).1 = 0 then
    (cnow_P ((kalive_F o0c o0clients o0time o0last o0txns o0trace id1).2) id1) ∧ (
    if (cnow_F ((kalive_F o0c o0clients o0time o0last o0txns o0trace id1).2) id1).2 = 0 then
      True
    else
      (inI64 (o0last + 1)) ∧ (
      if (tnew_F (o0last + 1)).2 = 0 then
        (inI64 (o0last + 1)) ∧ (
        (cbegin_P ((kalive_F o0c o0clients o0time o0last o0txns o0trace id1).2) id1 (((tnew_F (o0last + 1)).1).1)) ∧ (
        ((o0trace.length + 1) * 56 ≤ 140737488355328) ∧ (
        True)))
      else
        True))
  else
    True)

theorem kbegin_ok (o0c : (Nat → Int)) (o0clients : (Nat → Int)) (o0time : Int) (o0last : Int) (o0txns : (List (Int × (Int × Int × Int × Int × Bool × Int × (Nat → Int) × Int × (List Int) × (List Int) × (List Int) × (List (Nat → Int)))))) (o0trace : (List (Nat → Int))) (id1 : Int) (hP : kbegin_P o0c o0clients o0time o0last o0txns o0trace id1) : kbegin_S o0c o0clients o0time o0last o0txns o0trace id1 (kbegin_F o0c o0clients o0time o0last o0txns o0trace id1) := by
  obtain ⟨r, hr⟩ : ∃ r, r = kbegin_F o0c o0clients o0time o0last o0txns o0trace id1 := ⟨_, rfl⟩
  rw [← hr]
  unfold kbegin_F at hr
  unfold kbegin_S
  unfold kbegin_P at hP
  obtain ⟨hq0, hP⟩ := hP
  refine ⟨hq0, ?_⟩
  by_cases hp73 : (kalive_F o0c o0clients o0time o0last o0txns o0trace id1).1 = 0
  · rw [if_pos hp73] at hr hP ⊢
    obtain ⟨hq0, hP⟩ := hP
    refine ⟨hq0, ?_⟩
    by_cases hp74 : (cnow_F ((kalive_F o0c o0clients o0time o0last o0txns o0trace id1).2) id1).2 = 0
    · rw [if_pos hp74] at hr hP ⊢
      exact hr
    · rw [if_neg hp74] at hr hP ⊢
      obtain ⟨hq0, hP⟩ := hP
      refine ⟨hq0, ?_⟩
      by_cases hp75 : (tnew_F (o0last + 1)).2 = 0
      · rw [if_pos hp75] at hr hP ⊢
        obtain ⟨hq0, hP⟩ := hP
        refine ⟨hq0, ?_⟩
        obtain ⟨hq0, hP⟩ := hP
        refine ⟨hq0, ?_⟩
        obtain ⟨hq0, hP⟩ := hP
        refine ⟨hq0, ?_⟩
        exact hr
      · rw [if_neg hp75] at hr hP ⊢
        exact hr
  · rw [if_neg hp73] at hr hP ⊢
    exact hr

def klock_S (o0c : (Nat → Int)) (o0clients : (Nat → Int)) (o0time : Int) (o0last : Int) (o0txns : (List (Int × (Int × Int × Int × Int × Bool × Int × (Nat → Int) × Int × (List Int) × (List Int) × (List Int) × (List (Nat → Int)))))) (o0trace : (List (Nat → Int))) (id1 : Int) (at2 : (Nat → Int)) (m3 : Int) (r : (List (Nat → Int)) × Int × (List (Int × (Int × Int × Int × Int × Bool × Int × (Nat → Int) × Int × (List Int) × (List Int) × (List Int) × (List (Nat → Int))))) × (List (Nat → Int)) × (Nat → Int)) : Prop :=
  (kalive_P o0c o0clients o0time o0last o0txns o0trace id1) ∧ (
  if (kalive_F o0c o0clients o0time o0last o0txns o0trace id1).1 = 0 then
    (cnow_P ((kalive_F o0c o0clients o0time o0last o0txns o0trace id1).2) id1) ∧ (
    if (cnow_F ((kalive_F o0c o0clients o0time o0last o0txns o0trace id1).2) id1).2 = 0 then
      ∃ tn9 : (Int × Int × Int × Int × Bool × Int × (Nat → Int) × Int × (List Int) × (List Int) × (List Int) × (List (Nat → Int))), tn9 = mget ieq o0txns ((cnow_F ((kalive_F o0c o0clients o0time o0last o0txns o0trace id1).2) id1).1) (0, 0, 0, 0, false, 0, (fun _ => 0), 0, [], [], [], []) ∧ (
      (resShard_P at2 (o0c 0)) ∧ (
      if (resShard_F at2 (o0c 0)).2 = 0 then
        (task_P ((tn9).1) ((tn9).2.1) ((tn9).2.2.1) ((tn9).2.2.2.1) ((tn9).2.2.2.2.1) ((tn9).2.2.2.2.2.1) ((tn9).2.2.2.2.2.2.1) ((tn9).2.2.2.2.2.2.2.1) ((tn9).2.2.2.2.2.2.2.2.1) ((tn9).2.2.2.2.2.2.2.2.2.1) ((tn9).2.2.2.2.2.2.2.2.2.2.1) ((tn9).2.2.2.2.2.2.2.2.2.2.2) ((resShard_F at2 (o0c 0)).1) at2 m3) ∧ (
        ∃ rn14 : (Int × Int × Int × Int × Bool × Int × (Nat → Int) × Int × (List Int) × (List Int) × (List Int) × (List (Nat → Int))) × (List (Nat → Int)) × Int, rn14 = (task_F ((tn9).1) ((tn9).2.1) ((tn9).2.2.1) ((tn9).2.2.2.1) ((tn9).2.2.2.2.1) ((tn9).2.2.2.2.2.1) ((tn9).2.2.2.2.2.2.1) ((tn9).2.2.2.2.2.2.2.1) ((tn9).2.2.2.2.2.2.2.2.1) ((tn9).2.2.2.2.2.2.2.2.2.1) ((tn9).2.2.2.2.2.2.2.2.2.2.1) ((tn9).2.2.2.2.2.2.2.2.2.2.2) ((resShard_F at2 (o0c 0)).1) at2 m3) ∧ (
        if rn14.2.2 = 0 then
          ((o0trace.length + 1) * 56 ≤ 140737488355328) ∧ (
          (kset_P o0c ((kalive_F o0c o0clients o0time o0last o0txns o0trace id1).2) o0time o0last o0txns (o0trace ++ [(updI (updRI (updI (updI (fun _ => 0) 0 2) 2 rn14.1.1) 3 2 at2) 5 m3)]) rn14.1.1 rn14.1.2.1 rn14.1.2.2.1 rn14.1.2.2.2.1 rn14.1.2.2.2.2.1 rn14.1.2.2.2.2.2.1 rn14.1.2.2.2.2.2.2.1 rn14.1.2.2.2.2.2.2.2.1 rn14.1.2.2.2.2.2.2.2.2.1 rn14.1.2.2.2.2.2.2.2.2.2.1 rn14.1.2.2.2.2.2.2.2.2.2.2.1 rn14.1.2.2.2.2.2.2.2.2.2.2.2) ∧ (
          r = ((rn14.2.1, 0, (kset_F o0c ((kalive_F o0c o0clients o0time o0last o0txns o0trace id1).2) o0time o0last o0txns (o0trace ++ [(updI (updRI (updI (updI (fun _ => 0) 0 2) 2 rn14.1.1) 3 2 at2) 5 m3)]) rn14.1.1 rn14.1.2.1 rn14.1.2.2.1 rn14.1.2.2.2.1 rn14.1.2.2.2.2.1 rn14.1.2.2.2.2.2.1 rn14.1.2.2.2.2.2.2.1 rn14.1.2.2.2.2.2.2.2.1 rn14.1.2.2.2.2.2.2.2.2.1 rn14.1.2.2.2.2.2.2.2.2.2.1 rn14.1.2.2.2.2.2.2.2.2.2.2.1 rn14.1.2.2.2.2.2.2.2.2.2.2.2).1, (kset_F o0c ((kalive_F o0c o0clients o0time o0last o0txns o0trace id1).2) o0time o0last o0txns (o0trace ++ [(updI (updRI (updI (updI (fun _ => 0) 0 2) 2 rn14.1.1) 3 2 at2) 5 m3)]) rn14.1.1 rn14.1.2.1 rn14.1.2.2.1 rn14.1.2.2.2.1 rn14.1.2.2.2.2.1 rn14.1.2.2.2.2.2.1 rn14.1.2.2.2.2.2.2.1 rn14.1.2.2.2.2.2.2.2.1 rn14.1.2.2.2.2.2.2.2.2.1 rn14.1.2.2.2.2.2.2.2.2.2.1 rn14.1.2.2.2.2.2.2.2.2.2.2.1 rn14.1.2.2.2.2.2.2.2.2.2.2.2).2.1, (kset_F o0c ((kalive_F o0c o0clients o0time o0last o0txns o0trace id1).2) o0time o0last o0txns (o0trace ++ [(updI (updRI (updI (updI (fun _ => 0) 0 2) 2 rn14.1.1) 3 2 at2) 5 m3)]) rn14.1.1 rn14.1.2.1 rn14.1.2.2.1 rn14.1.2.2.2.1 rn14.1.2.2.2.2.1 rn14.1.2.2.2.2.2.1 rn14.1.2.2.2.2.2.2.1 rn14.1.2.2.2.2.2.2.2.1 rn14.1.2.2.2.2.2.2.2.2.1 rn14.1.2.2.2.2.2.2.2.2.2.1 rn14.1.2.2.2.2.2.2.2.2.2.2.1 rn14.1.2.2.2.2.2.2.2.2.2.2.2).2.2))))
        else
          r = (([], rn14.2.2, o0txns, o0trace, (kalive_F o0c o0clients o0time o0last o0txns o0trace id1).2))))
      else
        r = (([], 1, o0txns, o0trace, (kalive_F o0c o0clients o0time o0last o0txns o0trace id1).2))))
    else
      r = (([], (cnow_F ((kalive_F o0c o0clients o0time o0last o0txns o0trace id1).2) id1).2, o0txns, o0trace, (kalive_F o0c o0clients o0time o0last o0txns o0trace id1).2)))
  else
    r = (([], (kalive_F o0c o0clients o0time o0last o0txns o0trace id1).1, o0txns, o0trace, (kalive_F o0c o0clients o0time o0last o0txns o0trace id1).2)))

def klock_F (o0c : (Nat → Int)) (o0clients : (Nat → Int)) (o0time : Int) (o0last : Int) (o0txns : (List (Int × (Int × Int × Int × Int × Bool × Int × (Nat → Int) × Int × (List Int) × (List Int) × (List Int) × (List (Nat → Int)))))) (o0trace : (List (Nat → Int))) (id1 : Int) (at2 : (Nat → Int)) (m3 : Int) : (List (Nat → Int)) × Int × (List (Int × (Int × Int × Int × Int × Bool × Int × (Nat → Int) × Int × (List Int) × (List Int) × (List Int) × (List (Nat → Int))))) × (List (Nat → Int)) × (Nat → Int) :=
  if (kalive_F o0c o0clients o0time o0last o0txns o0trace id1).1 = 0 then
    if (cnow_F ((kalive_F o0c o0clients o0time o0last o0txns o0trace id1).2) id1).2 = 0 then
      (fun (tn9 : (Int × Int × Int × Int × Bool × Int × (Nat → Int) × Int × (List Int) × (List Int) × (List Int) × (List (Nat → Int)))) =>
        if (resShard_F at2 (o0c 0)).2 = 0 then
          (fun (rn14 : (Int × Int × Int × Int × Bool × Int × (Nat → Int) × Int × (List Int) × (List Int) × (List Int) × (List (Nat → Int))) × (List (Nat → Int)) × Int) =>
            if rn14.2.2 = 0 then
              (rn14.2.1, 0, (kset_F o0c ((kalive_F o0c o0clients o0time o0last o0txns o0trace id1).2) o0time o0last o0txns (o0trace ++ [(updI (updRI (updI (updI (fun _ => 0) 0 2) 2 rn14.1.1) 3 2 at2) 5 m3)]) rn14.1.1 rn14.1.2.1 rn14.1.2.2.1 rn14.1.2.2.2.1 rn14.1.2.2.2.2.1 rn14.1.2.2.2.2.2.1 rn14.1.2.2.2.2.2.2.1 rn14.1.2.2.2.2.2.2.2.1 rn14.1.2.2.2.2.2.2.2.2.1 rn14.1.2.2.2.2.2.2.2.2.2.1 rn14.1.2.2.2.2.2.2.2.2.2.2.1 rn14.1.2.2.2.2.2.2.2.2.2.2.2).1, (kset_F o0c ((kalive_F o0c o0clients o0time o0last o0txns o0trace id1).2) o0time o0last o0txns (o0trace ++ [(updI (updRI (updI (updI (fun _ => 0) 0 2) 2 rn14.1.1) 3 2 at2) 5 m3)]) rn14.1.1 rn14.1.2.1 rn14.1.2.2.1 rn14.1.2.2.2.1 rn14.1.2.2.2.2.1 rn14.1.2.2.2.2.2.1 rn14.1.2.2.2.2.2.2.1 rn14.1.2.2.2.2.2.2.2.1 rn14.1.2.2.2.2.2.2.2.2.1 rn14.1.2.2.2.2.2.2.2.2.2.1 rn14.1.2.2.2.2.2.2.2.2.2.2.1 rn14.1.2.2.2.2.2.2.2.2.2.2.2).2.1, (kset_F o0c ((kalive_F o0c o0clients o0time o0last o0txns o0trace id1).2) o0time o0last o0txns (o0trace ++ [(updI (updRI (updI (updI (fun _ => 0) 0 2) 2 rn14.1.1) 3 2 at2) 5 m3)]) rn14.1.1 rn14.1.2.1 rn14.1.2.2.1 rn14.1.2.2.2.1 rn14.1.2.2.2.2.1 rn14.1.2.2.2.2.2.1 rn14.1.2.2.2.2.2.2.1 rn14.1.2.2.2.2.2.2.2.1 rn14.1.2.2.2.2.2.2.2.2.1 rn14.1.2.2.2.2.2.2.2.2.2.1 rn14.1.2.2.2.2.2.2.2.2.2.2.1 rn14.1.2.2.2.2.2.2.2.2.2.2.2).2.2)
            else
              ([], rn14.2.2, o0txns, o0trace, (kalive_F o0c o0clients o0time o0last o0txns o0trace id1).2)) ((task_F ((tn9).1) ((tn9).2.1) ((tn9).2.2.1) ((tn9).2.2.2.1) ((tn9).2.2.2.2.1) ((tn9).2.2.2.2.2.1) ((tn9).2.2.2.2.2.2.1) ((tn9).2.2.2.2.2.2.2.1) ((tn9).2.2.2.2.2.2.2.2.1) ((tn9).2.2.2.2.2.2.2.2.2.1) ((tn9).2.2.2.2.2.2.2.2.2.2.1) ((tn9).2.2.2.2.2.2.2.2.2.2.2) ((resShard_F at2 (o0c 0)).1) at2 m3))
        else
          ([], 1, o0txns, o0trace, (kalive_F o0c o0clients o0time o0last o0txns o0trace id1).2)) (mget ieq o0txns ((cnow_F ((kalive_F o0c o0clients o0time o0last o0txns o0trace id1).2) id1).1) (0, 0, 0, 0, false, 0, (fun _ => 0), 0, [], [], [], []))
    else
      ([], (cnow_F ((kalive_F o0c o0clients o0time o0last o0txns o0trace id1).2) id1).2, o0txns, o0trace, (kalive_F o0c o0clients o0time o0last o0txns o0trace id1).2)
  else
    ([], (kalive_F o0c o0clients o0time o0last o0txns o0trace id1).1, o0txns, o0trace, (kalive_F o0c o0clients o0time o0last o0txns o0trace id1).2)

def klock_P (o0c : (Nat → Int)) (o0clients : (Nat → Int)) (o0time : Int) (o0last : Int) (o0txns : (List (Int × (Int × Int × Int × Int × Bool × Int × (Nat → Int) × Int × (List Int) × (List Int) × (List Int) × (List (Nat → Int)))))) (o0trace : (List (Nat → Int))) (id1 : Int) (at2 : (Nat → Int)) (m3 : Int) : Prop :=
  (kalive_P o0c o0clients o0time o0last o0txns o0trace id1) ∧ (
  if (kalive_F o0c o0clients o0time o0last o0txns o0trace id1).1 = 0 then
    (cnow_P ((kalive_F o0c o0clients o0time o0last o0txns o0trace id1).2) id1) ∧ (
    if (cnow_F ((kalive_F o0c o0clients o0time o0last o0txns o0trace id1).2) id1).2 = 0 then
      (fun (tn9 : (Int × Int × Int × Int × Bool × Int × (Nat → Int) × Int × (List Int) × (List Int) × (List Int) × (List (Nat → Int)))) =>
        (resShard_P at2 (o0c 0)) ∧ (
        if (resShard_F at2 (o0c 0)).2 = 0 then
          (task_P ((tn9).1) ((tn9).2.1) ((tn9).2.2.1) ((tn9).2.2.2.1) ((tn9).2.2.2.2.1) ((tn9).2.2.2.2.2.1) ((tn9).2.2.2.2.2.2.1) ((tn9).2.2.2.2.2.2.2.1) ((tn9).2.2.2.2.2.2.2.2.1) ((tn9).2.2.2.2.2.2.2.2.2.1) ((tn9).2.2.2.2.2.2.2.2.2.2.1) ((tn9).2.2.2.2.2.2.2.2.2.2.2) ((resShard_F at2 (o0c 0)).1) at2 m3) ∧ (
          (fun (rn14 : (Int × Int × Int × Int × Bool × Int × (Nat → Int) × Int × (List Int) × (List Int) × (List Int) × (List (Nat → Int))) × (List (Nat → Int)) × Int) =>
            if rn14.2.2 = 0 then
              ((o0trace.length + 1) * 56 ≤ 140737488355328) ∧ (
              (kset_P o0c ((kalive_F o0c o0clients o0time o0last o0txns o0trace id1).2) o0time o0last o0txns (o0trace ++ [(updI (updRI (updI (updI (fun _ => 0) 0 2) 2 rn14.1.1) 3 2 at2) 5 m3)]) rn14.1.1 rn14.1.2.1 rn14.1.2.2.1 rn14.1.2.2.2.1 rn14.1.2.2.2.2.1 rn14.1.2.2.2.2.2.1 rn14.1.2.2.2.2.2.2.1 rn14.1.2.2.2.2.2.2.2.1 rn14.1.2.2.2.2.2.2.2.2.1 rn14.1.2.2.2.2.2.2.2.2.2.1 rn14.1.2.2.2.2.2.2.2.2.2.2.1 rn14.1.2.2.2.2.2.2.2.2.2.2.2) ∧ (
              True))
            else
              True) ((task_F ((tn9).1) ((tn9).2.1) ((tn9).2.2.1) ((tn9).2.2.2.1) ((tn9).2.2.2.2.1) ((tn9).2.2.2.2.2.1) ((tn9).2.2.2.2.2.2.1) ((tn9).2.2.2.2.2.2.2.1) ((tn9).2.2.2.2.2.2.2.2.1) ((tn9).2.2.2.2.2.2.2.2.2.1) ((tn9).2.2.2.2.2.2.2.2.2.2.1) ((tn9).2.2.2.2.2.2.2.2.2.2.2) ((resShard_F at2 (o0c 0)).1) at2 m3)))
        else
          True)) (mget ieq o0txns ((cnow_F ((kalive_F o0c o0clients o0time o0last o0txns o0trace id1).2) id1).1) (0, 0, 0, 0, false, 0, (fun _ => 0), 0, [], [], [], []))
    else
      True)
  else
    True)

theorem klock_ok (o0c : (Nat → Int)) (o0clients : (Nat → Int)) (o0time : Int) (o0last : Int) (o0txns : (List (Int × (Int × Int × Int × Int × Bool × Int × (Nat → Int) × Int × (List Int) × (List Int) × (List Int) × (List (Nat → Int)))))) (o0trace : (List (Nat → Int))) (id1 : Int) (at2 : (Nat → Int)) (m3 : Int) (hP : klock_P o0c o0clients o0time o0last o0txns o0trace id1 at2 m3) : klock_S o0c o0clients o0time o0last o0txns o0trace id1 at2 m3 (klock_F o0c o0clients o0time o0last o0txns o0trace id1 at2 m3) := by
  obtain ⟨r, hr⟩ : ∃ r, r = klock_F o0c o0clients o0time o0last o0txns o0trace id1 at2 m3 := ⟨_, rfl⟩
  rw [← hr]
  unfold klock_F at hr
  unfold klock_S
  unfold klock_P at hP
  obtain ⟨hq0, hP⟩ := hP
  refine ⟨hq0, ?_⟩
  by_cases hp76 : (kalive_F o0c o0clients o0time o0last o0txns o0trace id1).1 = 0
  · rw [if_pos hp76] at hr hP ⊢
    obtain ⟨hq0, hP⟩ := hP
    refine ⟨hq0, ?_⟩
    by_cases hp77 : (cnow_F ((kalive_F o0c o0clients o0time o0last o0txns o0trace id1).2) id1).2 = 0
    · rw [if_pos hp77] at hr hP ⊢
      obtain ⟨tn9, htn9⟩ : ∃ x_, x_ = mget ieq o0txns ((cnow_F ((kalive_F o0c o0clients o0time o0last o0txns o0trace id1).2) id1).1) (0, 0, 0, 0, false, 0, (fun _ => 0), 0, [], [], [], []) := ⟨_, rfl⟩
      refine ⟨tn9, htn9, ?_⟩
      try rw [← htn9] at hr
      try dsimp only at hr
      try rw [← htn9] at hP
      try dsimp only at hP
      obtain ⟨hq0, hP⟩ := hP
      refine ⟨hq0, ?_⟩
      by_cases hp78 : (resShard_F at2 (o0c 0)).2 = 0
      · rw [if_pos hp78] at hr hP ⊢
        obtain ⟨hq0, hP⟩ := hP
        refine ⟨hq0, ?_⟩
        obtain ⟨rn14, hrn14⟩ : ∃ x_, x_ = (task_F ((tn9).1) ((tn9).2.1) ((tn9).2.2.1) ((tn9).2.2.2.1) ((tn9).2.2.2.2.1) ((tn9).2.2.2.2.2.1) ((tn9).2.2.2.2.2.2.1) ((tn9).2.2.2.2.2.2.2.1) ((tn9).2.2.2.2.2.2.2.2.1) ((tn9).2.2.2.2.2.2.2.2.2.1) ((tn9).2.2.2.2.2.2.2.2.2.2.1) ((tn9).2.2.2.2.2.2.2.2.2.2.2) ((resShard_F at2 (o0c 0)).1) at2 m3) := ⟨_, rfl⟩
        refine ⟨rn14, hrn14, ?_⟩
        try rw [← hrn14] at hr
        try dsimp only at hr
        try rw [← hrn14] at hP
        try dsimp only at hP
        by_cases hp79 : rn14.2.2 = 0
        · rw [if_pos hp79] at hr hP ⊢
          obtain ⟨hq0, hP⟩ := hP
          refine ⟨hq0, ?_⟩
          obtain ⟨hq0, hP⟩ := hP
          refine ⟨hq0, ?_⟩
          exact hr
        · rw [if_neg hp79] at hr hP ⊢
          exact hr
      · rw [if_neg hp78] at hr hP ⊢
        exact hr
    · rw [if_neg hp77] at hr hP ⊢
      exact hr
  · rw [if_neg hp76] at hr hP ⊢
    exact hr

def kcommit_S (o0c : (Nat → Int)) (o0clients : (Nat → Int)) (o0time : Int) (o0last : Int) (o0txns : (List (Int × (Int × Int × Int × Int × Bool × Int × (Nat → Int) × Int × (List Int) × (List Int) × (List Int) × (List (Nat → Int)))))) (o0trace : (List (Nat → Int))) (id1 : Int) (r : (List (Nat → Int)) × Int × (List (Int × (Int × Int × Int × Int × Bool × Int × (Nat → Int) × Int × (List Int) × (List Int) × (List Int) × (List (Nat → Int))))) × (List (Nat → Int)) × (Nat → Int)) : Prop :=
  (kalive_P o0c o0clients o0time o0last o0txns o0trace id1) ∧ (
  if (kalive_F o0c o0clients o0time o0last o0txns o0trace id1).1 = 0 then
    (cnow_P ((kalive_F o0c o0clients o0time o0last o0txns o0trace id1).2) id1) ∧ (
    if (cnow_F ((kalive_F o0c o0clients o0time o0last o0txns o0trace id1).2) id1).2 = 0 then
      ∃ tn9 : (Int × Int × Int × Int × Bool × Int × (Nat → Int) × Int × (List Int) × (List Int) × (List Int) × (List (Nat → Int))), tn9 = mget ieq o0txns ((cnow_F ((kalive_F o0c o0clients o0time o0last o0txns o0trace id1).2) id1).1) (0, 0, 0, 0, false, 0, (fun _ => 0), 0, [], [], [], []) ∧ (
      (tfinish_P ((tn9).1) ((tn9).2.1) ((tn9).2.2.1) ((tn9).2.2.2.1) ((tn9).2.2.2.2.1) ((tn9).2.2.2.2.2.1) ((tn9).2.2.2.2.2.2.1) ((tn9).2.2.2.2.2.2.2.1) ((tn9).2.2.2.2.2.2.2.2.1) ((tn9).2.2.2.2.2.2.2.2.2.1) ((tn9).2.2.2.2.2.2.2.2.2.2.1) ((tn9).2.2.2.2.2.2.2.2.2.2.2)) ∧ (
      ∃ rn12 : (Int × Int × Int × Int × Bool × Int × (Nat → Int) × Int × (List Int) × (List Int) × (List Int) × (List (Nat → Int))) × (List (Nat → Int)) × Int, rn12 = (tfinish_F ((tn9).1) ((tn9).2.1) ((tn9).2.2.1) ((tn9).2.2.2.1) ((tn9).2.2.2.2.1) ((tn9).2.2.2.2.2.1) ((tn9).2.2.2.2.2.2.1) ((tn9).2.2.2.2.2.2.2.1) ((tn9).2.2.2.2.2.2.2.2.1) ((tn9).2.2.2.2.2.2.2.2.2.1) ((tn9).2.2.2.2.2.2.2.2.2.2.1) ((tn9).2.2.2.2.2.2.2.2.2.2.2)) ∧ (
      if rn12.2.2 = 0 then
        (kset_P o0c ((kalive_F o0c o0clients o0time o0last o0txns o0trace id1).2) o0time o0last o0txns o0trace rn12.1.1 rn12.1.2.1 rn12.1.2.2.1 rn12.1.2.2.2.1 rn12.1.2.2.2.2.1 rn12.1.2.2.2.2.2.1 rn12.1.2.2.2.2.2.2.1 rn12.1.2.2.2.2.2.2.2.1 rn12.1.2.2.2.2.2.2.2.2.1 rn12.1.2.2.2.2.2.2.2.2.2.1 rn12.1.2.2.2.2.2.2.2.2.2.2.1 rn12.1.2.2.2.2.2.2.2.2.2.2.2) ∧ (
        r = ((rn12.2.1, 0, (kset_F o0c ((kalive_F o0c o0clients o0time o0last o0txns o0trace id1).2) o0time o0last o0txns o0trace rn12.1.1 rn12.1.2.1 rn12.1.2.2.1 rn12.1.2.2.2.1 rn12.1.2.2.2.2.1 rn12.1.2.2.2.2.2.1 rn12.1.2.2.2.2.2.2.1 rn12.1.2.2.2.2.2.2.2.1 rn12.1.2.2.2.2.2.2.2.2.1 rn12.1.2.2.2.2.2.2.2.2.2.1 rn12.1.2.2.2.2.2.2.2.2.2.2.1 rn12.1.2.2.2.2.2.2.2.2.2.2.2).1, (kset_F o0c ((kalive_F o0c o0clients o0time o0last o0txns o0trace id1).2) o0time o0last o0txns o0trace rn12.1.1 rn12.1.2.1 rn12.1.2.2.1 rn12.1.2.2.2.1 rn12.1.2.2.2.2.1 rn12.1.2.2.2.2.2.1 rn12.1.2.2.2.2.2.2.1 rn12.1.2.2.2.2.2.2.2.1 rn12.1.2.2.2.2.2.2.2.2.1 rn12.1.2.2.2.2.2.2.2.2.2.1 rn12.1.2.2.2.2.2.2.2.2.2.2.1 rn12.1.2.2.2.2.2.2.2.2.2.2.2).2.1, (kset_F o0c ((kalive_F o0c o0clients o0time o0last o0txns o0trace id1).2) o0time o0last o0txns o0trace rn12.1.1 rn12.1.2.1 rn12.1.2.2.1 rn12.1.2.2.2.1 rn12.1.2.2.2.2.1 rn12.1.2.2.2.2.2.1 rn12.1.2.2.2.2.2.2.1 rn12.1.2.2.2.2.2.2.2.1 rn12.1.2.2.2.2.2.2.2.2.1 rn12.1.2.2.2.2.2.2.2.2.2.1 rn12.1.2.2.2.2.2.2.2.2.2.2.1 rn12.1.2.2.2.2.2.2.2.2.2.2.2).2.2)))
      else
        r = (([], rn12.2.2, o0txns, o0trace, (kalive_F o0c o0clients o0time o0last o0txns o0trace id1).2)))))
    else
      r = (([], (cnow_F ((kalive_F o0c o0clients o0time o0last o0txns o0trace id1).2) id1).2, o0txns, o0trace, (kalive_F o0c o0clients o0time o0last o0txns o0trace id1).2)))
  else
    r = (([], (kalive_F o0c o0clients o0time o0last o0txns o0trace id1).1, o0txns, o0trace, (kalive_F o0c o0clients o0time o0last o0txns o0trace id1).2)))

def kcommit_F (o0c : (Nat → Int)) (o0clients : (Nat → Int)) (o0time : Int) (o0last : Int) (o0txns : (List (Int × (Int × Int × Int × Int × Bool × Int × (Nat → Int) × Int × (List Int) × (List Int) × (List Int) × (List (Nat → Int)))))) (o0trace : (List (Nat → Int))) (id1 : Int) : (List (Nat → Int)) × Int × (List (Int × (Int × Int × Int × Int × Bool × Int × (Nat → Int) × Int × (List Int) × (List Int) × (List Int) × (List (Nat → Int))))) × (List (Nat → Int)) × (Nat → Int) :=
  if (kalive_F o0c o0clients o0time o0last o0txns o0trace id1).1 = 0 then
    if (cnow_F ((kalive_F o0c o0clients o0time o0last o0txns o0trace id1).2) id1).2 = 0 then
      (fun (tn9 : (Int × Int × Int × Int × Bool × Int × (Nat → Int) × Int × (List Int) × (List Int) × (List Int) × (List (Nat → Int)))) =>
        (fun (rn12 : (Int × Int × Int × Int × Bool × Int × (Nat → Int) × Int × (List Int) × (List Int) × (List Int) × (List (Nat → Int))) × (List (Nat → Int)) × Int) =>
          if rn12.2.2 = 0 then
            (rn12.2.1, 0, (kset_F o0c ((kalive_F o0c o0clients o0time o0last o0txns o0trace id1).2) o0time o0last o0txns o0trace rn12.1.1 rn12.1.2.1 rn12.1.2.2.1 rn12.1.2.2.2.1 rn12.1.2.2.2.2.1 rn12.1.2.2.2.2.2.1 rn12.1.2.2.2.2.2.2.1 rn12.1.2.2.2.2.2.2.2.1 rn12.1.2.2.2.2.2.2.2.2.1 rn12.1.2.2.2.2.2.2.2.2.2.1 rn12.1.2.2.2.2.2.2.2.2.2.2.1 rn12.1.2.2.2.2.2.2.2.2.2.2.2).1, (kset_F o0c ((kalive_F o0c o0clients o0time o0last o0txns o0trace id1).2) o0time o0last o0txns o0trace rn12.1.1 rn12.1.2.1 rn12.1.2.2.1 rn12.1.2.2.2.1 rn12.1.2.2.2.2.1 rn12.1.2.2.2.2.2.1 rn12.1.2.2.2.2.2.2.1 rn12.1.2.2.2.2.2.2.2.1 rn12.1.2.2.2.2.2.2.2.2.1 rn12.1.2.2.2.2.2.2.2.2.2.1 rn12.1.2.2.2.2.2.2.2.2.2.2.1 rn12.1.2.2.2.2.2.2.2.2.2.2.2).2.1, (kset_F o0c ((kalive_F o0c o0clients o0time o0last o0txns o0trace id1).2) o0time o0last o0txns o0trace rn12.1.1 rn12.1.2.1 rn12.1.2.2.1 rn12.1.2.2.2.1 rn12.1.2.2.2.2.1 rn12.1.2.2.2.2.2.1 rn12.1.2.2.2.2.2.2.1 rn12.1.2.2.2.2.2.2.2.1 rn12.1.2.2.2.2.2.2.2.2.1 rn12.1.2.2.2.2.2.2.2.2.2.1 rn12.1.2.2.2.2.2.2.2.2.2.2.1 rn12.1.2.2.2.2.2.2.2.2.2.2.2).2.2)
          else
            ([], rn12.2.2, o0txns, o0trace, (kalive_F o0c o0clients o0time o0last o0txns o0trace id1).2)) ((tfinish_F ((tn9).1) ((tn9).2.1) ((tn9).2.2.1) ((tn9).2.2.2.1) ((tn9).2.2.2.2.1) ((tn9).2.2.2.2.2.1) ((tn9).2.2.2.2.2.2.1) ((tn9).2.2.2.2.2.2.2.1) ((tn9).2.2.2.2.2.2.2.2.1) ((tn9).2.2.2.2.2.2.2.2.2.1) ((tn9).2.2.2.2.2.2.2.2.2.2.1) ((tn9).2.2.2.2.2.2.2.2.2.2.2)))) (mget ieq o0txns ((cnow_F ((kalive_F o0c o0clients o0time o0last o0txns o0trace id1).2) id1).1) (0, 0, 0, 0, false, 0, (fun _ => 0), 0, [], [], [], []))
    else
      ([], (cnow_F ((kalive_F o0c o0clients o0time o0last o0txns o0trace id1).2) id1).2, o0txns, o0trace, (kalive_F o0c o0clients o0time o0last o0txns o0trace id1).2)
  else
    ([], (kalive_F o0c o0clients o0time o0last o0txns o0trace id1).1, o0txns, o0trace, (kalive_F o0c o0clients o0time o0last o0txns o0trace id1).2)

def kcommit_P (o0c : (Nat → Int)) (o0clients : (Nat → Int)) (o0time : Int) (o0last : Int) (o0txns : (List (Int × (Int × Int × Int × Int × Bool × Int × (Nat → Int) × Int × (List Int) × (List Int) × (List Int) × (List (Nat → Int)))))) (o0trace : (List (Nat → Int))) (id1 : Int) : Prop :=
  (kalive_P o0c o0clients o0time o0last o0txns o0trace id1) ∧ (
  if (kalive_F o0c o0clients o0time o0last o0txns o0trace id1).1 = 0 then
    (cnow_P ((kalive_F o0c o0clients o0time o0last o0txns o0trace id1).2) id1) ∧ (
    if (cnow_F ((kalive_F o0c o0clients o0time o0last o0txns o0trace id1).2) id1).2 = 0 then
      (fun (tn9 : (Int × Int × Int × Int × Bool × Int × (Nat → Int) × Int × (List Int) × (List Int) × (List Int) × (List (Nat → Int)))) =>
        (tfinish_P ((tn9).1) ((tn9).2.1) ((tn9).2.2.1) ((tn9).2.2.2.1) ((tn9).2.2.2.2.1) ((tn9).2.2.2.2.2.1) ((tn9).2.2.2.2.2.2.1) ((tn9).2.2.2.2.2.2.2.1) ((tn9).2.2.2.2.2.2.2.2.1) ((tn9).2.2.2.2.2.2.2.2.2.1) ((tn9).2.2.2.2.2.2.2.2.2.2.1) ((tn9).2.2.2.2.2.2.2.2.2.2.2)) ∧ (
        (fun (rn12 : (Int × Int × Int × Int × Bool × Int × (Nat → Int) × Int × (List Int) × (List Int) × (List Int) × (List (Nat → Int))) × (List (Nat → Int)) × Int) =>
          if rn12.2.2 = 0 then
            (kset_P o0c ((kalive_F o0c o0clients o0time o0last o0txns o0trace id1).2) o0time o0last o0txns o0trace rn12.1.1 rn12.1.2.1 rn12.1.2.2.1 rn12.1.2.2.2.1 rn12.1.2.2.2.2.1 rn12.1.2.2.2.2.2.1 rn12.1.2.2.2.2.2.2.1 rn12.1.2.2.2.2.2.2.2.1 rn12.1.2.2.2.2.2.2.2.2.1 rn12.1.2.2.2.2.2.2.2.2.2.1 rn12.1.2.2.2.2.2.2.2.2.2.2.1 rn12.1.2.2.2.2.2.2.2.2.2.2.2) ∧ (
            True)
          else
            True) ((tfinish_F ((tn9).1) ((tn9).2.1) ((tn9).2.2.1) ((tn9).2.2.2.1) ((tn9).2.2.2.2.1) ((tn9).2.2.2.2.2.1) ((tn9).2.2.2.2.2.2.1) ((tn9).2.2.2.2.2.2.2.1) ((tn9).2.2.2.2.2.2.2.2.1) ((tn9).2.2.2.2.2.2.2.2.2.1) ((tn9).2.2.2.2.2.2.2.2.2.2.1) ((tn9).2.2.2.2.2.2.2.2.2.2.2))))) (mget ieq o0txns ((cnow_F ((kalive_F o0c o0clients o0time o0last o0txns o0trace id1).2) id1).1) (0, 0, 0, 0, false, 0, (fun _ => 0), 0, [], [], [], []))
    else
      True)
  else
    True)

theorem kcommit_ok (o0c : (Nat → Int)) (o0clients : (Nat → Int)) (o0time : Int) (o0last : Int) (o0txns : (List (Int × (Int × Int × Int × Int × Bool × Int × (Nat → Int) × Int × (List Int) × (List Int) × (List Int) × (List (Nat → Int)))))) (o0trace : (List (Nat → Int))) (id1 : Int) (hP : kcommit_P o0c o0clients o0time o0last o0txns o0trace id1) : kcommit_S o0c o0clients o0time o0last o0txns o0trace id1 (kcommit_F o0c o0clients o0time o0last o0txns o0trace id1) := by
  obtain ⟨r, hr⟩ : ∃ r, r = kcommit_F o0c o0clients o0time o0last o0txns o0trace id1 := ⟨_, rfl⟩
  rw [← hr]
  unfold kcommit_F at hr
  unfold kcommit_S
  unfold kcommit_P at hP
  obtain ⟨hq0, hP⟩ := hP
  refine ⟨hq0, ?_⟩
  by_cases hp80 : (kalive_F o0c o0clients o0time o0last o0txns o0trace id1).1 = 0
  · rw [if_pos hp80] at hr hP ⊢
    obtain ⟨hq0, hP⟩ := hP
    refine ⟨hq0, ?_⟩
    by_cases hp81 : (cnow_F ((kalive_F o0c o0clients o0time o0last o0txns o0trace id1).2) id1).2 = 0
    · rw [if_pos hp81] at hr hP ⊢
      obtain ⟨tn9, htn9⟩ : ∃ x_, x_ = mget ieq o0txns ((cnow_F ((kalive_F o0c o0clients o0time o0last o0txns o0trace id1).2) id1).1) (0, 0, 0, 0, false, 0, (fun _ => 0), 0, [], [], [], []) := ⟨_, rfl⟩
      refine ⟨tn9, htn9, ?_⟩
      try rw [← htn9] at hr
      try dsimp only at hr
      try rw [← htn9] at hP
      try dsimp only at hP
      obtain ⟨hq0, hP⟩ := hP
      refine ⟨hq0, ?_⟩
      obtain ⟨rn12, hrn12⟩ : ∃ x_, x_ = (tfinish_F ((tn9).1) ((tn9).2.1) ((tn9).2.2.1) ((tn9).2.2.2.1) ((tn9).2.2.2.2.1) ((tn9).2.2.2.2.2.1) ((tn9).2.2.2.2.2.2.1) ((tn9).2.2.2.2.2.2.2.1) ((tn9).2.2.2.2.2.2.2.2.1) ((tn9).2.2.2.2.2.2.2.2.2.1) ((tn9).2.2.2.2.2.2.2.2.2.2.1) ((tn9).2.2.2.2.2.2.2.2.2.2.2)) := ⟨_, rfl⟩
      refine ⟨rn12, hrn12, ?_⟩
      try rw [← hrn12] at hr
      try dsimp only at hr
      try rw [← hrn12] at hP
      try dsimp only at hP
      by_cases hp82 : rn12.2.2 = 0
      · rw [if_pos hp82] at hr hP ⊢
        obtain ⟨hq0, hP⟩ := hP
        refine ⟨hq0, ?_⟩
        exact hr
      · rw [if_neg hp82] at hr hP ⊢
        exact hr
    · rw [if_neg hp81] at hr hP ⊢
      exact hr
  · rw [if_neg hp80] at hr hP ⊢
    exact hr

end Go.E
