/- Part 3 of the proof. -/
import Derived.Test.YtmfbefghdaiicaaJ2
import Derived.Sort.OwnSortedInts
import Derived.Laws.IdiomCopy
import Derived.Shelf.Spec.SlicesInsert
import Derived.Shelf.Spec.SlicesInsertGrow
set_option maxHeartbeats 1000000
set_option maxRecDepth 100000
set_option linter.unusedVariables false
set_option linter.unusedSimpArgs false
set_option linter.unusedSectionVars false
set_option linter.unnecessarySimpa false
/- Rising lists of numbers, in plain words; folds. -/
namespace Go.E
open Go
theorem foldl_take {α σ : Type} [Inhabited α] (f : σ → α → σ) (z : σ) (l : List α) (k : Nat) (hk : k < l.length) : (l.take (k + 1)).foldl f z = f ((l.take k).foldl f z) (l[k]!) := by
  rw [List.take_add_one, List.getElem?_eq_getElem hk, List.foldl_append, getElem!_pos l k hk]
  rfl
/-! ### Rising lists -/
def insI (x : Int) : List Int → List Int
  | [] => [x]
  | y :: r => if y < x then y :: insI x r else if y = x then y :: r else x :: y :: r
def rising_F (l : List Int) : List Int := l.foldl (fun out x => insI x out) []
def rising_P (l : List Int) : Prop := l.length ≤ 1000000000
theorem mem_insI {x y : Int} {l : List Int} : y ∈ insI x l ↔ y = x ∨ y ∈ l := by
  induction l with
  | nil => simp [insI]
  | cons z l ih =>
    unfold insI
    split
    · simp only [List.mem_cons, ih]
      constructor
      · rintro (h | h | h)
        · exact .inr (.inl h)
        · exact .inl h
        · exact .inr (.inr h)
      · rintro (h | h | h)
        · exact .inr (.inl h)
        · exact .inl h
        · exact .inr (.inr h)
    · split
      · rename_i h1 h2
        simp only [List.mem_cons]
        constructor
        · exact .inr
        · rintro (h | h)
          · exact .inl (by omega)
          · exact h
      · simp only [List.mem_cons]
theorem rising_insI {x : Int} {l : List Int} (h : l.Pairwise fun a b => a < b) : (insI x l).Pairwise fun a b => a < b := by
  induction l with
  | nil => simp [insI]
  | cons z l ih =>
    have hz := List.pairwise_cons.1 h
    unfold insI
    split
    · rename_i h1
      refine List.pairwise_cons.2 ⟨fun y hy => ?_, ih hz.2⟩
      rcases mem_insI.1 hy with rfl | hy
      · exact h1
      · exact hz.1 y hy
    · split
      · exact h
      · rename_i h1 h2
        refine List.pairwise_cons.2 ⟨fun y hy => ?_, h⟩
        rcases List.mem_cons.1 hy with rfl | hy
        · omega
        · have := hz.1 y hy; omega
theorem len_insI (x : Int) (l : List Int) : (insI x l).length ≤ l.length + 1 := by
  induction l with
  | nil => simp [insI]
  | cons z l ih =>
    unfold insI
    split
    · simp only [List.length_cons]; omega
    · split <;> simp
theorem mem_rising {x : Int} {l : List Int} : x ∈ rising_F l ↔ x ∈ l := by
  have key : ∀ (l out : List Int), x ∈ l.foldl (fun out x => insI x out) out ↔ x ∈ out ∨ x ∈ l := by
    intro l
    induction l with
    | nil => intro out; simp
    | cons y l ih =>
      intro out
      rw [List.foldl_cons, ih, mem_insI, List.mem_cons]
      constructor
      · rintro ((h | h) | h)
        · exact .inr (.inl h)
        · exact .inl h
        · exact .inr (.inr h)
      · rintro (h | h | h)
        · exact .inl (.inr h)
        · exact .inl (.inl h)
        · exact .inr h
  unfold rising_F
  rw [key]
  simp
theorem len_rising (l : List Int) : (rising_F l).length ≤ l.length := by
  have key : ∀ (l out : List Int), (l.foldl (fun out x => insI x out) out).length ≤ out.length + l.length := by
    intro l
    induction l with
    | nil => intro out; simp
    | cons y l ih =>
      intro out
      rw [List.foldl_cons, List.length_cons]
      have := ih (insI y out)
      have := len_insI y out
      omega
  have := key l []
  simpa [rising_F] using this
/-- Where a number goes. -/
def spot (x : Int) : List Int → Nat
  | [] => 0
  | y :: r => if y < x then spot x r + 1 else 0
theorem spot_le (x : Int) (l : List Int) : spot x l ≤ l.length := by
  induction l with
  | nil => simp [spot]
  | cons y r ih => unfold spot; split <;> simp; omega
theorem spot_lt {x : Int} {l : List Int} {k : Nat} (h : k < spot x l) : l[k]! < x := by
  induction l generalizing k with
  | nil => simp [spot] at h
  | cons y r ih =>
    unfold spot at h
    split at h
    · cases k with
      | zero => simpa
      | succ k => simpa using ih (by omega)
    · omega
theorem spot_at {x : Int} {l : List Int} (h : spot x l < l.length) : ¬ l[spot x l]! < x := by
  induction l with
  | nil => simp at h
  | cons y r ih =>
    unfold spot at h ⊢
    split
    · rename_i hy
      rw [if_pos hy] at h
      simp only [List.length_cons] at h
      simpa using ih (by omega)
    · rename_i hy
      simpa using hy
theorem insI_spot (x : Int) (l : List Int) : insI x l = if spot x l < l.length ∧ l[spot x l]! = x then l else l.take (spot x l) ++ [x] ++ l.drop (spot x l) := by
  induction l with
  | nil => simp [insI, spot]
  | cons y r ih =>
    unfold insI spot
    by_cases h : y < x
    · rw [if_pos h, if_pos h, ih]
      simp only [List.length_cons, Nat.add_lt_add_iff_right, List.take_succ_cons, List.drop_succ_cons]
      have : (y :: r)[spot x r + 1]! = r[spot x r]! := by simp
      rw [this]
      split <;> simp
    · rw [if_neg h, if_neg h]
      by_cases h2 : y = x
      · rw [if_pos h2, if_pos ⟨by simp, by simpa using h2⟩]
      · rw [if_neg h2, if_neg (fun h => h2 (by simpa using h.2))]
        simp
/-! ### The same numbers; numbers in a list -/
def ints_F (a b : List Int) : Bool := decide (a = b)
def ints_P (a _ : List Int) : Prop := a.length < 9000000000000000000
theorem ints_self (a : List Int) : ints_F a a = true := by simp [ints_F]
theorem all_eq {a b : List Int} (hl : a.length = b.length) : (List.range a.length).all (fun k => decide (a[k]! = b[k]!)) = decide (a = b) := by
  rw [Bool.eq_iff_iff, List.all_eq_true, decide_eq_true_eq]
  constructor
  · intro h
    refine List.ext_getElem hl fun i h1 h2 => ?_
    have := h i (List.mem_range.2 h1)
    rwa [decide_eq_true_eq, getElem!_pos a i h1, getElem!_pos b i h2] at this
  · rintro rfl
    exact fun i _ => by simp
def hasI_F (s : List Int) (v : Int) : Bool := decide (v ∈ s)
def hasI_P (s : List Int) (_ : Int) : Prop := s.length ≤ 1000000000
theorem any_has (s : List Int) (v : Int) : s.any (fun x => decide (v = x)) = hasI_F s v := by
  unfold hasI_F
  rw [Bool.eq_iff_iff, List.any_eq_true, decide_eq_true_eq]
  constructor
  · rintro ⟨x, hx, h⟩
    rw [decide_eq_true_eq] at h
    rw [h]; exact hx
  · exact fun h => ⟨v, h, by simp⟩
def ends2 (l : List (Nat → Int)) : List Int := l.flatMap fun e => [e 0, e 2]
end Go.E
/- What functions of the program say, as relations. -/
namespace Go.E
open Go
def ints_l1 (a0 : (List Int)) (b1 : (List Int)) (i5 : Int) (o : (Int) ⊕ ((Unit) ⊕ (Unit))) : Prop :=
  if i5 < (a0.length : Int) then
    (0 ≤ i5 ∧ i5 < a0.length) ∧ (
    (0 ≤ i5 ∧ i5 < b1.length) ∧ (
    if a0[i5.toNat]! = b1[i5.toNat]! then
      (inI64 (i5 + 1)) ∧ (
      o = (.inl (i5 + 1)))
    else
      o = (.inr (.inr ()))))
  else
    o = (.inr (.inl ()))
def ints_k1a (r : Bool) : Prop :=
  r = (true)
def ints_k1b (r : Bool) : Prop :=
  r = (false)
def ints_S (a0 : (List Int)) (b1 : (List Int)) (r : Bool) : Prop :=
  if (a0.length : Int) = (b1.length : Int) then
    ∃ x : (Unit) ⊕ (Unit), Wh (fun (s : Int) (o : (Int) ⊕ ((Unit) ⊕ (Unit))) => ints_l1 a0 b1 s o) (0 : Int) x ∧ (match x with | .inl _ => ints_k1a r | .inr _ => ints_k1b r)
  else
    r = (false)
def grants_l1 (a0 : (List (Nat → Int))) (b1 : (List (Nat → Int))) (i5 : Int) (o : (Int) ⊕ ((Unit) ⊕ (Unit))) : Prop :=
  if i5 < (a0.length : Int) then
    (0 ≤ i5 ∧ i5 < a0.length) ∧ (
    (0 ≤ i5 ∧ i5 < b1.length) ∧ (
    if ((eqN 5 (a0[i5.toNat]!) (b1[i5.toNat]!))) = true then
      (inI64 (i5 + 1)) ∧ (
      o = (.inl (i5 + 1)))
    else
      o = (.inr (.inr ()))))
  else
    o = (.inr (.inl ()))
def grants_k1a (r : Bool) : Prop :=
  r = (true)
def grants_k1b (r : Bool) : Prop :=
  r = (false)
def grants_S (a0 : (List (Nat → Int))) (b1 : (List (Nat → Int))) (r : Bool) : Prop :=
  if (a0.length : Int) = (b1.length : Int) then
    ∃ x : (Unit) ⊕ (Unit), Wh (fun (s : Int) (o : (Int) ⊕ ((Unit) ⊕ (Unit))) => grants_l1 a0 b1 s o) (0 : Int) x ∧ (match x with | .inl _ => grants_k1a r | .inr _ => grants_k1b r)
  else
    r = (false)
def cloneI_S (s0 : (List Int)) (r : (List Int)) : Prop :=
  (s0 = [] → (
    r = ([]))) ∧ (
    ((0 + s0.length) * 8 ≤ 140737488355328) ∧ (
    r = (([] ++ s0))))
def cloneG_S (s0 : (List (Nat → Int))) (r : (List (Nat → Int))) : Prop :=
  (s0 = [] → (
    r = ([]))) ∧ (
    ((0 + s0.length) * 40 ≤ 140737488355328) ∧ (
    r = (([] ++ s0))))
def tfree_S (t0Tx : Int) (t0State : Int) (t0Reason : Int) (t0Seq : Int) (t0Open : Bool) (t0Shard : Int) (t0At : (Nat → Int)) (t0Mode : Int) (t0Touched : (List Int)) (t0Votes : (List Int)) (t0Acks : (List Int)) (t0Got : (List (Nat → Int))) (r : Int) : Prop :=
  if t0State = 1 then
    if (t0Open) = true then
      r = (8)
    else
      r = (0)
  else
    r = (11)
def tfree_F (t0Tx : Int) (t0State : Int) (t0Reason : Int) (t0Seq : Int) (t0Open : Bool) (t0Shard : Int) (t0At : (Nat → Int)) (t0Mode : Int) (t0Touched : (List Int)) (t0Votes : (List Int)) (t0Acks : (List Int)) (t0Got : (List (Nat → Int))) : Int :=
  if t0State = 1 then
    if (t0Open) = true then
      8
    else
      0
  else
    11
theorem tfree_ok (t0Tx : Int) (t0State : Int) (t0Reason : Int) (t0Seq : Int) (t0Open : Bool) (t0Shard : Int) (t0At : (Nat → Int)) (t0Mode : Int) (t0Touched : (List Int)) (t0Votes : (List Int)) (t0Acks : (List Int)) (t0Got : (List (Nat → Int))) : tfree_S t0Tx t0State t0Reason t0Seq t0Open t0Shard t0At t0Mode t0Touched t0Votes t0Acks t0Got (tfree_F t0Tx t0State t0Reason t0Seq t0Open t0Shard t0At t0Mode t0Touched t0Votes t0Acks t0Got) := by
  obtain ⟨r, hr⟩ : ∃ r, r = tfree_F t0Tx t0State t0Reason t0Seq t0Open t0Shard t0At t0Mode t0Touched t0Votes t0Acks t0Got := ⟨_, rfl⟩
  rw [← hr]
  unfold tfree_F at hr
  unfold tfree_S
  by_cases hp13 : t0State = 1
  · rw [if_pos hp13] at hr ⊢
    by_cases hp14 : (t0Open) = true
    · rw [if_pos hp14] at hr ⊢
      exact hr
    · rw [if_neg hp14] at hr ⊢
      exact hr
  · rw [if_neg hp13] at hr ⊢
    exact hr
def tlock_S (t0Tx : Int) (t0State : Int) (t0Reason : Int) (t0Seq : Int) (t0Open : Bool) (t0Shard : Int) (t0At : (Nat → Int)) (t0Mode : Int) (t0Touched : (List Int)) (t0Votes : (List Int)) (t0Acks : (List Int)) (t0Got : (List (Nat → Int))) (r : (Nat → Int)) : Prop :=
  r = ((updI (updRI (updI (updI (updI (updI (fun _ => 0) 0 1) 2 t0Shard) 3 t0Tx) 4 t0Seq) 5 2 t0At) 7 t0Mode))
def tlock_F (t0Tx : Int) (t0State : Int) (t0Reason : Int) (t0Seq : Int) (t0Open : Bool) (t0Shard : Int) (t0At : (Nat → Int)) (t0Mode : Int) (t0Touched : (List Int)) (t0Votes : (List Int)) (t0Acks : (List Int)) (t0Got : (List (Nat → Int))) : (Nat → Int) :=
  (updI (updRI (updI (updI (updI (updI (fun _ => 0) 0 1) 2 t0Shard) 3 t0Tx) 4 t0Seq) 5 2 t0At) 7 t0Mode)
theorem tlock_ok (t0Tx : Int) (t0State : Int) (t0Reason : Int) (t0Seq : Int) (t0Open : Bool) (t0Shard : Int) (t0At : (Nat → Int)) (t0Mode : Int) (t0Touched : (List Int)) (t0Votes : (List Int)) (t0Acks : (List Int)) (t0Got : (List (Nat → Int))) : tlock_S t0Tx t0State t0Reason t0Seq t0Open t0Shard t0At t0Mode t0Touched t0Votes t0Acks t0Got (tlock_F t0Tx t0State t0Reason t0Seq t0Open t0Shard t0At t0Mode t0Touched t0Votes t0Acks t0Got) := by
  obtain ⟨r, hr⟩ : ∃ r, r = tlock_F t0Tx t0State t0Reason t0Seq t0Open t0Shard t0At t0Mode t0Touched t0Votes t0Acks t0Got := ⟨_, rfl⟩
  rw [← hr]
  unfold tlock_F at hr
  unfold tlock_S
  exact hr
def tto_l1 (t0Tx : Int) (kind1 : Int) (code2 : Int) (shards3 : (List Int)) (out9 : (List (Nat → Int))) (x14 : Int) (o : ((List (Nat → Int)) × Int) ⊕ ((List (Nat → Int)))) : Prop :=
  if x14 < (shards3.length : Int) then
    (0 ≤ x14 ∧ x14 < shards3.length) ∧ (
    ((out9.length + 1) * 224 ≤ 140737488355328) ∧ (
    (inI64 (x14 + 1)) ∧ (
    o = (.inl ((out9 ++ [(updI (updI (updI (updI (fun _ => 0) 0 kind1) 2 (shards3[x14.toNat]!)) 3 t0Tx) 8 code2)]), x14 + 1)))))
  else
    o = (.inr out9)
def tto_k1a (out9 : (List (Nat → Int))) (r : (List (Nat → Int))) : Prop :=
  r = (out9)
def tto_S (t0Tx : Int) (t0State : Int) (t0Reason : Int) (t0Seq : Int) (t0Open : Bool) (t0Shard : Int) (t0At : (Nat → Int)) (t0Mode : Int) (t0Touched : (List Int)) (t0Votes : (List Int)) (t0Acks : (List Int)) (t0Got : (List (Nat → Int))) (kind1 : Int) (code2 : Int) (shards3 : (List Int)) (r : (List (Nat → Int))) : Prop :=
  ∃ x : (List (Nat → Int)), Wh (fun (s : (List (Nat → Int)) × Int) (o : ((List (Nat → Int)) × Int) ⊕ ((List (Nat → Int)))) => tto_l1 t0Tx kind1 code2 shards3 s.1 s.2 o) (([], 0) : (List (Nat → Int)) × Int) x ∧ tto_k1a x r
def hasI_l1 (s0 : (List Int)) (v1 : Int) (x8 : Int) (o : (Int) ⊕ ((Unit) ⊕ (Int))) : Prop :=
  if x8 < (s0.length : Int) then
    (0 ≤ x8 ∧ x8 < s0.length) ∧ (
    if v1 = s0[x8.toNat]! then
      o = (.inr (.inr x8))
    else
      (inI64 (x8 + 1)) ∧ (
      o = (.inl (x8 + 1))))
  else
    o = (.inr (.inl ()))
def hasI_k1a (r : Bool) : Prop :=
  r = (false)
def hasI_k1b (x4 : Int) (r : Bool) : Prop :=
  r = (decide (0 ≤ x4))
def hasI_S (s0 : (List Int)) (v1 : Int) (r : Bool) : Prop :=
  ∃ x : (Unit) ⊕ (Int), Wh (fun (s : Int) (o : (Int) ⊕ ((Unit) ⊕ (Int))) => hasI_l1 s0 v1 s o) (0 : Int) x ∧ (match x with | .inl _ => hasI_k1a r | .inr x4 => hasI_k1b x4 r)
def hasR_l1 (l0 : (List Int)) (n1 : Int) (i5 : Int) (o : (Int) ⊕ ((Unit) ⊕ (Unit))) : Prop :=
  if i5 < (l0.length : Int) then
    (0 ≤ i5 ∧ i5 < l0.length) ∧ (
    if l0[i5.toNat]! = n1 then
      o = (.inr (.inr ()))
    else
      (inI64 (i5 + 1)) ∧ (
      o = (.inl (i5 + 1))))
  else
    o = (.inr (.inl ()))
def hasR_k1a (r : Bool) : Prop :=
  r = (false)
def hasR_k1b (r : Bool) : Prop :=
  r = (true)
def hasR_S (l0 : (List Int)) (n1 : Int) (r : Bool) : Prop :=
  ∃ x : (Unit) ⊕ (Unit), Wh (fun (s : Int) (o : (Int) ⊕ ((Unit) ⊕ (Unit))) => hasR_l1 l0 n1 s o) (0 : Int) x ∧ (match x with | .inl _ => hasR_k1a r | .inr _ => hasR_k1b r)
def risingR_l2 (l0 : (List Int)) (out3 : (List Int)) (i4 : Int) (at5 : Int) (o : (Int) ⊕ (Int)) : Prop :=
  (((decide (at5 < (out3.length : Int))) = true) → 0 ≤ at5 ∧ at5 < out3.length) ∧ (((decide (at5 < (out3.length : Int))) = true) → 0 ≤ i4 ∧ i4 < l0.length) ∧ (
  if ((decide (at5 < (out3.length : Int))) && (decide (out3[at5.toNat]! < l0[i4.toNat]!))) = true then
    (inI64 (at5 + 1)) ∧ (
    o = (.inl (at5 + 1)))
  else
    o = (.inr at5))
def risingR_k2a (l0 : (List Int)) (out3 : (List Int)) (i4 : Int) (at5 : Int) (o : ((List Int) × Int) ⊕ ((List Int))) : Prop :=
  (((decide (at5 < (out3.length : Int))) = true) → 0 ≤ at5 ∧ at5 < out3.length) ∧ (((decide (at5 < (out3.length : Int))) = true) → 0 ≤ i4 ∧ i4 < l0.length) ∧ (
  if ((decide (at5 < (out3.length : Int))) && (decide (out3[at5.toNat]! = l0[i4.toNat]!))) = true then
    (inI64 (i4 + 1)) ∧ (
    o = (.inl (out3, i4 + 1)))
  else
    (
      (0 ≤ at5 ∧ at5 ≤ out3.length) ∧ (
      (0 ≤ i4 ∧ i4 < l0.length) ∧ (
      (0 ≤ at5 ∧ at5 ≤ out3.length) ∧ (
      ((0 + ((out3.take at5.toNat).drop 0).length) * 8 ≤ 140737488355328) ∧ (
      ((([] ++ (out3.take at5.toNat).drop 0).length + 1) * 8 ≤ 140737488355328) ∧ (
      (((([] ++ (out3.take at5.toNat).drop 0) ++ [l0[i4.toNat]!]).length + ((out3.take out3.length).drop at5.toNat).length) * 8 ≤ 140737488355328) ∧ (
      True))))))) ∧ (
    (inI64 (i4 + 1)) ∧ (
    o = (.inl (((([] ++ (out3.take at5.toNat).drop 0) ++ [l0[i4.toNat]!]) ++ (out3.take out3.length).drop at5.toNat), i4 + 1)))))
def risingR_l1 (l0 : (List Int)) (out3 : (List Int)) (i4 : Int) (o : ((List Int) × Int) ⊕ ((List Int))) : Prop :=
  if i4 < (l0.length : Int) then
    ∃ x : Int, Wh (fun (s : Int) (o : (Int) ⊕ (Int)) => risingR_l2 l0 out3 i4 s o) (0 : Int) x ∧ risingR_k2a l0 out3 i4 x o
  else
    o = (.inr out3)
def risingR_k1a (out3 : (List Int)) (r : (List Int)) : Prop :=
  r = (out3)
def risingR_S (l0 : (List Int)) (r : (List Int)) : Prop :=
  ∃ x : (List Int), Wh (fun (s : (List Int) × Int) (o : ((List Int) × Int) ⊕ ((List Int))) => risingR_l1 l0 s.1 s.2 o) (([], 0) : (List Int) × Int) x ∧ risingR_k1a x r
def sNaN_S (x0 : Int) (r : Bool) : Prop :=
  r = (!(decide (x0 = x0)))
def sNaN_F (x0 : Int) : Bool :=
  !(decide (x0 = x0))
theorem sNaN_ok (x0 : Int) : sNaN_S x0 (sNaN_F x0) := by
  obtain ⟨r, hr⟩ : ∃ r, r = sNaN_F x0 := ⟨_, rfl⟩
  rw [← hr]
  unfold sNaN_F at hr
  unfold sNaN_S
  exact hr
def cNaN_S (x0 : Int) (r : Bool) : Prop :=
  r = (!(decide (x0 = x0)))
def cNaN_F (x0 : Int) : Bool :=
  !(decide (x0 = x0))
theorem cNaN_ok (x0 : Int) : cNaN_S x0 (cNaN_F x0) := by
  obtain ⟨r, hr⟩ : ∃ r, r = cNaN_F x0 := ⟨_, rfl⟩
  rw [← hr]
  unfold cNaN_F at hr
  unfold cNaN_S
  exact hr
def less_S (x0 : Int) (y1 : Int) (r : Bool) : Prop :=
  r = ((((cNaN_F x0)) && (!((cNaN_F y1)))) || (decide (x0 < y1)))
def less_F (x0 : Int) (y1 : Int) : Bool :=
  (((cNaN_F x0)) && (!((cNaN_F y1)))) || (decide (x0 < y1))
theorem less_ok (x0 : Int) (y1 : Int) : less_S x0 y1 (less_F x0 y1) := by
  obtain ⟨r, hr⟩ : ∃ r, r = less_F x0 y1 := ⟨_, rfl⟩
  rw [← hr]
  unfold less_F at hr
  unfold less_S
  exact hr
def search_l1 (x0 : (List Int)) (target1 : Int) (i7 : Int) (j8 : Int) (o : (Int × Int) ⊕ (Int)) : Prop :=
  if i7 < j8 then
    (inI64 (i7 + j8)) ∧ (
    (0 ≤ IntKind.i64.wrap ((IntKind.u64.wrap (i7 + j8)) / 2) ∧ IntKind.i64.wrap ((IntKind.u64.wrap (i7 + j8)) / 2) < x0.length) ∧ (
    (
      if ((less_F (x0[(IntKind.i64.wrap ((IntKind.u64.wrap (i7 + j8)) / 2)).toNat]!) target1)) = true then
        (inI64 ((IntKind.i64.wrap ((IntKind.u64.wrap (i7 + j8)) / 2)) + 1)) ∧ (
        True)
      else
        True) ∧ (
    o = (.inl ((if ((less_F (x0[(IntKind.i64.wrap ((IntKind.u64.wrap (i7 + j8)) / 2)).toNat]!) target1)) = true then (IntKind.i64.wrap ((IntKind.u64.wrap (i7 + j8)) / 2)) + 1 else i7), (if ((less_F (x0[(IntKind.i64.wrap ((IntKind.u64.wrap (i7 + j8)) / 2)).toNat]!) target1)) = true then j8 else IntKind.i64.wrap ((IntKind.u64.wrap (i7 + j8)) / 2)))))))
  else
    o = (.inr i7)
def search_k1a (x0 : (List Int)) (target1 : Int) (i7 : Int) (r : Int × Bool) : Prop :=
  (((decide (i7 < (x0.length : Int))) = true) → 0 ≤ i7 ∧ i7 < x0.length) ∧ (((decide (i7 < (x0.length : Int))) = true) → ((decide (x0[i7.toNat]! = target1)) = false) → 0 ≤ i7 ∧ i7 < x0.length) ∧ (
  r = ((i7, (decide (i7 < (x0.length : Int))) && ((decide (x0[i7.toNat]! = target1)) || (((sNaN_F (x0[i7.toNat]!))) && ((sNaN_F target1)))))))
def search_S (x0 : (List Int)) (target1 : Int) (r : Int × Bool) : Prop :=
  ∃ x : Int, Wh (fun (s : Int × Int) (o : (Int × Int) ⊕ (Int)) => search_l1 x0 target1 s.1 s.2 o) ((0, (x0.length : Int)) : Int × Int) x ∧ search_k1a x0 target1 x r
end Go.E
/- The engine, part 21: slices.Sort of ints, in place. -/
namespace Go.E
open Go Go.Proofs Go.Shelf Go.RowKit Go.Sort
section
variable {P : Program} {ρm : Ren}
def sortP (l : List Int) : Prop := l.length ≤ 1000000000000
end
end Go.E
/- The engine, part 23: cells of a block, set in a row (for slices.Insert). -/
namespace Go.E
open Go
/-- What stands in a block after a row of cells has been set. -/
def row (F : Nat → Value) (o : Nat) (vs : List Value) : Nat → Value := fun k => if o ≤ k ∧ k < o + vs.length then vs.getD (k - o) undef else F k
structure Same (b : Nat) (w w' : World) : Prop where
  os : w'.os = w.os
  tape : w'.tape = w.tape
  output : w'.output = w.output
  size : w'.heap.size = w.heap.size
  other : ∀ k, k ≠ b → w'.heap[k]? = w.heap[k]?
theorem Same.refl (b : Nat) (w : World) : Same b w w := ⟨rfl, rfl, rfl, rfl, fun _ _ => rfl⟩
theorem Same.trans {b : Nat} {u v w : World} (h : Same b u v) (k : Same b v w) : Same b u w :=
  ⟨k.os.trans h.os, k.tape.trans h.tape, k.output.trans h.output, k.size.trans h.size, fun i hi => (k.other i hi).trans (h.other i hi)⟩
theorem same_setCell (w : World) (b o : Nat) (v : Value) : Same b w (w.setCell ⟨b, o, none⟩ v) := by
  refine ⟨rfl, rfl, rfl, by simp [World.setCell], fun k hk => ?_⟩
  have : b ≠ k := fun e => hk e.symm
  simp [World.setCell, Array.getElem?_modify, this]
theorem setCell_BK {w : World} {b o N : Nat} {F : Nat → Value} {T : TypeId} {v : Value} (h : w.heap[b]? = some (BK N F T)) (ho : o < N) : (w.setCell ⟨b, o, none⟩ v).heap[b]? = some (BK N (upd F o v) T) := by
  have e : (CV N F).setIfInBounds o v = CV N (upd F o v) := by
    refine CV_eq (by simp) fun i hi => ?_
    rw [Array.getElem?_setIfInBounds]
    by_cases hio : o = i
    · subst hio
      simp [ho, upd]
    · rw [if_neg hio, CV_get hi]
      simp only [upd]
      rw [if_neg (fun e => hio e.symm)]
  simp only [World.setCell, Array.getElem?_modify, h, BK]
  simp [e]
theorem setCells_BK : ∀ (vs : List Value) {w : World} {b o N : Nat} {F : Nat → Value} {T : TypeId}, w.heap[b]? = some (BK N F T) → o + vs.length ≤ N → (w.setCells b o vs).heap[b]? = some (BK N (row F o vs) T) ∧ Same b w (w.setCells b o vs)
  | [], w, b, o, N, F, T, h, _ => ⟨by
      rw [show World.setCells w b o [] = w from rfl, h]
      refine congrArg some (BK_ext fun i hi => ?_)
      unfold row
      rw [if_neg (by simp)], Same.refl b w⟩
  | v :: vs, w, b, o, N, F, T, h, ho => by
    simp only [List.length_cons] at ho
    obtain ⟨h1, h2⟩ := setCells_BK vs (setCell_BK (v := v) (o := o) h (by omega)) (o := o + 1) (by omega)
    refine ⟨?_, (same_setCell w b o v).trans h2⟩
    show ((w.setCell ⟨b, o, none⟩ v).setCells b (o + 1) vs).heap[b]? = _
    rw [h1]
    refine congrArg some (BK_ext fun i hi => ?_)
    unfold row
    simp only [List.length_cons]
    by_cases h3 : o + 1 ≤ i ∧ i < o + 1 + vs.length
    · rw [if_pos h3, if_pos (by omega), show i - o = (i - (o + 1)) + 1 by omega]
      simp
    · rw [if_neg h3]
      by_cases h4 : i = o
      · subst h4
        rw [if_pos (by omega)]
        simp [upd]
      · rw [if_neg (by omega)]
        simp only [upd]
        rw [if_neg h4]
end Go.E
namespace Go.E
open Go Go.Proofs Go.Shelf Go.RowKit
section
variable {P : Program} {ρ : Ren}
def insL1 (l : List Int) (i : Nat) (x : Int) : List Int := l.take i ++ [x] ++ l.drop i
theorem insL1_len {l : List Int} {i : Nat} {x : Int} (hi : i ≤ l.length) : (insL1 l i x).length = l.length + 1 := by
  unfold insL1; simp; omega
theorem eG_insL1 {l : List Int} {i : Nat} {x : Int} (hi : i ≤ l.length) {k : Nat} (hk : k < l.length + 1) :
    eG 1 ic (insL1 l i x) k = if k < i then .int .i64 (l.getD k 0) else if k = i then .int .i64 x else .int .i64 (l.getD (k - 1) 0) := by
  have hlen := insL1_len (x := x) hi
  rw [eG_one (show k < (insL1 l i x).length by omega)]
  show Value.int .i64 ((insL1 l i x)[k]'(by omega)) = _
  have e : (insL1 l i x)[k]'(by omega) = if k < i then l.getD k 0 else if k = i then x else l.getD (k - 1) 0 := by
    unfold insL1
    by_cases h1 : k < i
    · rw [if_pos h1, List.getElem_append_left (by simp; omega), List.getElem_append_left (by simp; omega), List.getElem_take, List.getD_eq_getElem?_getD, List.getElem?_eq_getElem (by omega)]
      rfl
    · rw [if_neg h1]
      by_cases h2 : k = i
      · subst h2
        rw [if_pos rfl, List.getElem_append_left (by simp; omega), List.getElem_append_right (by simp; omega)]
        simp
      · rw [if_neg h2, List.getElem_append_right (by simp; omega), List.getElem_drop, List.getD_eq_getElem?_getD, List.getElem?_eq_getElem (by omega)]
        simp only [Option.getD_some]
        congr 1
        simp
        omega
  rw [e]
  split
  · rfl
  · split <;> rfl
/-- A call that hands back a new row. -/
theorem new_row {w w' : World} {B : GH} {T : TypeId} {l' : List Int} {C : Array Value} {n : Nat} (hB : Has w B) (os : w'.os = w.os) (tape : w'.tape = w.tape) (out : w'.output = w.output) (hs : w.heap.size ≤ w'.heap.size)
    (hn : w'.heap[w.heap.size]? = some (.cells C T (0, 0))) (ho : ∀ k, k < w.heap.size → w'.heap[k]? = w.heap[k]?) (hc : C.size = n) (hl : l'.length ≤ n) (hm : n ≤ maxLen) (hg : ∀ k, k < l'.length → C[k]? = some (eG 1 ic l' k)) :
    ∃ F, St w F w' ∧ OJ T 1 ic F (.slice (some ⟨w.heap.size, 0, none⟩) l'.length n) l' ∧ Cov w B F := by
  have hlt : ∀ k, k ∈ keys B → k < w.heap.size := fun k hk => by
    obtain ⟨⟨b, o⟩, hm, rfl⟩ := List.mem_map.1 hk
    exact (Array.getElem?_eq_some_iff.1 (hB.1 b o hm)).1
  have hBK : w'.heap[w.heap.size]? = some (BK n (fun k => C.getD k undef) T) := by
    rw [hn]
    unfold BK
    have := CV_of C
    rw [hc] at this
    rw [← this]
  refine ⟨(w.heap.size, BK n (fun k => C.getD k undef) T) :: B, ⟨os, tape, out, hs, fun b o hm => ?_, ?_, fun k hk _ => ho k hk⟩, ?_, ?_⟩
  · rcases List.mem_cons.1 hm with e | hm
    · cases e; exact hBK
    · have hx := hB.1 b o hm
      rw [ho b (Array.getElem?_eq_some_iff.1 hx).1]; exact hx
  · rw [keys_cons]
    exact List.nodup_cons.2 ⟨fun hh => Nat.lt_irrefl _ (hlt _ hh), hB.2⟩
  · refine .inr ⟨w.heap.size, 0, n, n, _, List.mem_cons_self, rfl, hl, by omega, hm, fun k hk => ?_⟩
    rw [Nat.zero_add, Array.getD_eq_getD_getElem?, hg k (by omega)]
    rfl
  · refine ⟨fun k hk => ?_, fun k hk => ?_⟩
    · rw [keys_cons] at hk
      rcases List.mem_cons.1 hk with rfl | hk
      · exact .inr (Nat.le_refl _)
      · exact .inl hk
    · rw [keys_cons]; exact List.mem_cons_of_mem _ hk
/-- A call that changes a row of ours in place. -/
theorem same_row {w w' : World} {B : GH} {T : TypeId} {l' : List Int} {b o cap N : Nat} {F F' : Nat → Value} (hB : Has w B) (hm : (b, BK N F T) ∈ B) (os : w'.os = w.os) (tape : w'.tape = w.tape) (out : w'.output = w.output) (hs : w'.heap.size = w.heap.size)
    (hn : w'.heap[b]? = some (BK N F' T)) (ho : ∀ k, k ≠ b → w'.heap[k]? = w.heap[k]?) (hl : l'.length ≤ cap) (hN : o + cap * 1 ≤ N) (hc : cap ≤ maxLen) (hg : ∀ k, k < l'.length → F' (o + k) = eG 1 ic l' k) :
    ∃ B', St w B' w' ∧ OJ T 1 ic B' (.slice (some ⟨b, o, none⟩) l'.length cap) l' ∧ Cov w B B' := by
  obtain ⟨B', hB'⟩ := Upd.ex (BK N F' T) hm
  have hst : St w B w := ⟨rfl, rfl, rfl, Nat.le_refl _, hB.1, hB.2, fun _ _ _ => rfl⟩
  exact ⟨B', hst.upd hB' hn ho os tape out hs, .inr ⟨b, o, cap, N, F', hB'.isin, rfl, hl, hN, hc, fun k hk => hg k (by omega)⟩, Cov.upd hB'⟩
theorem zero_size (n : Nat) : (Builtin.zeroCells (Value.int .i64 0).cells n).size = n := by
  simp [Builtin.zeroCells, Value.cells]
theorem heap_dalloc (w : World) (o : Obj) : (w.drew.alloc o).heap = w.heap.push o := rfl
theorem con_insert (L : Lays2.n21 P ρ) {w : World} {v : Value} {B : GH} {l : List Int} {i : Nat} {x : Int} {vb : Nat} {T' : TypeId} (hJ : OJ (ρ.t 3) 1 ic B v l) (hB : Has w B) (hvb : w.heap[vb]? = some (BK 1 (fun _ => .int .i64 x) T')) (hne : vb ∉ keys B) (hi : i ≤ l.length) (hl : l.length ≤ 1000000000000) :
    Con P (ρ.f 21) #[v, .int .i64 i, .slice (some ⟨vb, 0, none⟩) 1 1] w (fun u F => OJ (ρ.t 3) 1 ic F u (insL1 l i x) ∧ Cov w B F) := by
  have hlen := insL1_len (x := x) hi
  have hvs : ∀ j u, [Value.int .i64 x][j]? = some u → w.cell? ⟨vb, 0 + j, none⟩ = some u := by
    intro j u hj
    cases j with
    | zero =>
      simp only [List.getElem?_cons_zero, Option.some.injEq] at hj
      rw [← hj]
      exact cell_BK hvb (by omega)
    | succ j => simp at hj
  have h1v : ∀ u ∈ [Value.int .i64 x], u.oneCell' = true := fun u hu => by rw [List.mem_singleton.1 hu]; rfl
  have hmax : l.length + 1 ≤ maxLen := by simp [maxLen]; omega
  have endNew : ∀ {base : Option Addr} {c : Nat}, i = l.length → l.length ≤ c → c < l.length + 1 → (base = none → l.length = 0) → (∀ a, base = some a → ∀ j u, (l.map (Value.int .i64))[j]? = some u → w.cell? (a.add j) = some u) →
      Con P (ρ.f 21) #[.slice base l.length c, .int .i64 i, .slice (some ⟨vb, 0, none⟩) 1 1] w (fun u F => OJ (ρ.t 3) 1 ic F u (insL1 l i x) ∧ Cov w B F) := by
    intro base c he hc1 hc2 hnil hcs
    subst he
    refine Calls.mono (Any2.slices_Insert_int_end_grow L base l.length c vb 0 1 1 (l.map (Value.int .i64)) [Value.int .i64 x] w (by omega) hc1 hc2 (by omega) (by simp) rfl hnil hcs hvs h1v) ?_
    rintro e w' ⟨rfl, rfl⟩
    have hge := grownCap_ge w (l.length + 1) c (ρ.t 3)
    have hle := grownCap_le_maxLen w (l.length + 1) c (ρ.t 3) hmax
    generalize grownCap w (l.length + 1) c (ρ.t 3) = cap at hge hle ⊢
    obtain ⟨F, h1, h2, h3⟩ := new_row (w := w) (w' := w.drew.alloc (.cells ((l.map (Value.int .i64) ++ [Value.int .i64 x]).toArray ++ Builtin.zeroCells (Value.int .i64 0).cells (cap - (l.length + 1))) (ρ.t 3))) (T := ρ.t 3) (l' := insL1 l l.length x) (n := cap) hB rfl rfl rfl (by rw [heap_dalloc, Array.size_push]; omega) (by rw [heap_dalloc, Array.getElem?_push, if_pos rfl]) (fun k hk => by rw [heap_dalloc, Array.getElem?_push, if_neg (by omega)]) (by rw [Array.size_append, zero_size]; simp; omega) (by omega) hle (fun k hk => by
      rw [hlen] at hk
      rw [eG_insL1 hi hk, Array.getElem?_append_left (by simp; omega)]
      by_cases h1 : k < l.length
      · rw [if_pos h1]
        simp [List.getElem?_append_left, h1]
      · rw [if_neg h1, if_pos (by omega), show k = l.length by omega]
        simp)
    rw [hlen] at h2
    exact ⟨_, F, rfl, h1, h2, h3⟩
  rcases hJ with ⟨rfl, rfl⟩ | ⟨b, o, cap, N, F, hm, rfl, h1, h2, h3, h4⟩
  · exact endNew (by simpa using hi) (Nat.le_refl _) (by simp) (fun _ => rfl) (fun a ha => by cases ha)
  · have hb := hB.1 _ _ hm
    have hbs : b < w.heap.size := (Array.getElem?_eq_some_iff.1 hb).1
    have hcs : ∀ j u, (l.map (Value.int .i64))[j]? = some u → w.cell? ⟨b, o + j, none⟩ = some u := by
      intro j u hj
      rw [List.getElem?_map] at hj
      obtain ⟨z, hz, rfl⟩ := Option.map_eq_some_iff.1 hj
      obtain ⟨hjl, rfl⟩ := List.getElem?_eq_some_iff.1 hz
      rw [cell_BK hb (by omega), h4 j (by omega), eG_one hjl]
      rfl
    by_cases hroom : l.length + 1 ≤ cap
    · by_cases hie : i = l.length
      · subst hie
        refine Calls.mono (Any2.slices_Insert_int_end_room L b o l.length cap vb 0 1 1 [Value.int .i64 x] w (by omega) hroom (by simp [maxLen] at h3; omega) rfl (fun j hj => by rw [cell_BK hb (by omega)]; rfl) (fun j hj => by simp [World.frozen?, hb, BK]) hvs h1v) ?_
        rintro e w' ⟨rfl, rfl⟩
        obtain ⟨g1, g2⟩ := setCells_BK [Value.int .i64 x] (o := o + l.length) hb (by simp; omega)
        obtain ⟨B', s1, s2, s3⟩ := same_row (l' := insL1 l l.length x) (o := o) (cap := cap) hB hm g2.os g2.tape g2.output g2.size g1 g2.other (by omega) h2 h3 (fun k hk => by
          rw [hlen] at hk
          rw [eG_insL1 hi hk]
          unfold row
          simp only [List.length_singleton]
          by_cases hk2 : k < l.length
          · rw [if_neg (by omega), if_pos hk2, h4 k (by omega), eG_one hk2, List.getD_eq_getElem?_getD, List.getElem?_eq_getElem hk2]
            rfl
          · rw [if_pos (by omega), if_neg hk2, if_pos (by omega), show o + k - (o + l.length) = 0 by omega]
            rfl)
        rw [hlen] at s2
        exact ⟨_, B', rfl, s1, s2, s3⟩
      · have hil : i < l.length := by omega
        have hbk : b ∈ keys B := List.mem_map.2 ⟨_, hm, rfl⟩
        refine Calls.mono (Any2.slices_Insert_int_shift L b o l.length cap i vb 0 1 1 (l.map (Value.int .i64)) [Value.int .i64 x] w hil (by omega) hroom (by simp [maxLen] at h3; omega) (fun e => hne (e ▸ hbk)) (by simp) rfl hcs (fun j hj => by rw [cell_BK hb (by omega)]; rfl) (fun j hj => by simp [World.frozen?, hb, BK]) hvs
          (fun u hu => by obtain ⟨z, _, rfl⟩ := List.mem_map.1 hu; rfl) h1v T' (ρ.t 3) 1 N (by simp [World.shape?, hvb, BK]) (by simp [World.shape?, hb, BK]) (by omega) (by simp [World.frozen?, hvb, BK]) (by simp [World.frozen?, hvb, BK])) ?_
        rintro e w' ⟨rfl, rfl⟩
        obtain ⟨g1, g2⟩ := setCells_BK ((l.map (Value.int .i64)).drop i) (w := w.drew) (o := o + (i + 1)) (show w.drew.heap[b]? = _ from hb) (by simp; omega)
        obtain ⟨k1, k2⟩ := setCells_BK [Value.int .i64 x] (o := o + i) g1 (by simp; omega)
        have g := g2.trans k2
        obtain ⟨B', s1, s2, s3⟩ := same_row (l' := insL1 l i x) (o := o) (cap := cap) hB hm g.os g.tape g.output g.size k1 g.other (by omega) h2 h3 (fun k hk => by
          rw [hlen] at hk
          rw [eG_insL1 hi hk]
          unfold row
          simp only [List.length_singleton, List.length_drop, List.length_map]
          by_cases hk2 : k < i
          · rw [if_neg (by omega), if_neg (by omega), if_pos hk2, h4 k (by omega), eG_one (by omega), List.getD_eq_getElem?_getD, List.getElem?_eq_getElem (show k < l.length by omega)]
            rfl
          · by_cases hk3 : k = i
            · subst hk3
              rw [if_pos (by omega), if_neg hk2, if_pos rfl, Nat.sub_self]
              rfl
            · rw [if_neg (by omega), if_pos (by omega), if_neg hk2, if_neg hk3, show o + k - (o + (i + 1)) = k - (i + 1) by omega, List.getD_eq_getElem?_getD, List.getElem?_drop, show i + (k - (i + 1)) = k - 1 by omega, List.getElem?_map, List.getD_eq_getElem?_getD, List.getElem?_eq_getElem (show k - 1 < l.length by omega)]
              rfl)
        rw [hlen] at s2
        exact ⟨_, B', rfl, s1, s2, s3⟩
    · by_cases hie : i = l.length
      · exact endNew hie h1 (by omega) (fun h => by cases h) (fun a ha j u hj => by
          cases ha
          rw [Addr.add_lit]
          exact hcs j u hj)
      · have hil : i < l.length := by omega
        refine Calls.mono (Any2.slices_Insert_int_grow L b o l.length cap i vb 0 1 1 (l.map (Value.int .i64)) [Value.int .i64 x] w hil (by omega) h1 (by omega) (by omega) (by simp) rfl hcs hvs (fun u hu => by obtain ⟨z, _, rfl⟩ := List.mem_map.1 hu; rfl) h1v) ?_
        rintro e w' ⟨rfl, rfl⟩
        have hge := grownCap_ge w (l.length + 1) cap (ρ.t 3)
        have hle := grownCap_le_maxLen w (l.length + 1) cap (ρ.t 3) hmax
        generalize grownCap w (l.length + 1) cap (ρ.t 3) = cp at hge hle ⊢
        generalize hA : (((l.map (Value.int .i64)).take i).toArray ++ Builtin.zeroCells (Value.int .i64 0).cells (l.length + 1 - i) ++ Builtin.zeroCells (Value.int .i64 0).cells (cp - (l.length + 1))) = A
        have hAs : A.size = cp := by
          rw [← hA, Array.size_append, Array.size_append, zero_size, zero_size]
          simp
          omega
        have g0 : (w.alloc (.cells A (ρ.t 3))).drew.heap[w.heap.size]? = some (BK cp (fun k => A.getD k undef) (ρ.t 3)) := by
          show (w.heap.push _)[w.heap.size]? = _
          rw [Array.getElem?_push, if_pos rfl]
          have := CV_of A
          rw [hAs] at this
          unfold BK
          rw [← this]
        obtain ⟨g1, g2⟩ := setCells_BK [Value.int .i64 x] (o := i) g0 (by simp; omega)
        obtain ⟨k1, k2⟩ := setCells_BK ((l.map (Value.int .i64)).drop i) (w := ((w.alloc (.cells A (ρ.t 3))).drew.setCells w.heap.size i [Value.int .i64 x]).drew) (o := i + 1) (show ((w.alloc (.cells A (ρ.t 3))).drew.setCells w.heap.size i [Value.int .i64 x]).drew.heap[w.heap.size]? = _ from g1) (by simp; omega)
        obtain ⟨F2, s1, s2, s3⟩ := new_row (l' := insL1 l i x) (T := ρ.t 3) (n := cp) hB (k2.os.trans g2.os) (k2.tape.trans g2.tape) (k2.output.trans g2.output)
          (by
            have e1 := k2.size.trans g2.size
            rw [e1]
            show w.heap.size ≤ (w.heap.push _).size
            rw [Array.size_push]; omega) k1 (fun k hk => by
            rw [k2.other k (by omega)]
            show ((w.alloc (.cells A (ρ.t 3))).drew.setCells w.heap.size i [Value.int .i64 x]).heap[k]? = _
            rw [g2.other k (by omega)]
            show (w.heap.push _)[k]? = _
            rw [Array.getElem?_push, if_neg (by omega)]) (by simp) (by omega) hle (fun k hk => by
            rw [hlen] at hk
            rw [eG_insL1 hi hk, CV_get (by omega)]
            unfold row
            simp only [List.length_singleton, List.length_drop, List.length_map]
            by_cases hk2 : k < i
            · rw [if_neg (by omega), if_neg (by omega), if_pos hk2, ← hA, Array.getD_eq_getD_getElem?, Array.getElem?_append_left (by simp; omega), Array.getElem?_append_left (by simp; omega)]
              simp [List.getElem?_take, hk2, List.getElem?_eq_getElem (show k < l.length by omega)]
            · by_cases hk3 : k = i
              · subst hk3
                rw [if_neg (by omega), if_pos (by omega), if_neg hk2, if_pos rfl, Nat.sub_self]
                rfl
              · rw [if_pos (by omega), if_neg hk2, if_neg hk3, List.getD_eq_getElem?_getD, List.getElem?_drop, show i + (k - (i + 1)) = k - 1 by omega, List.getElem?_map, List.getD_eq_getElem?_getD, List.getElem?_eq_getElem (show k - 1 < l.length by omega)]
                rfl)
        rw [hlen] at s2
        exact ⟨_, F2, rfl, s1, s2, s3⟩
/-- The same, as a call that is given its segment. -/
theorem con_insertG (L : Lays2.n21 P ρ) {w : World} {v : Value} {B : GH} {l : List Int} {i x : Int} {vb : Nat} {T' : TypeId} (hJ : OJ (ρ.t 3) 1 ic B v l) (hB : Has w (cat [B])) (hvb : w.heap[vb]? = some (BK 1 (fun _ => .int .i64 x) T')) (hne : vb ∉ keys B) (h0 : 0 ≤ i ∧ i ≤ l.length) (hl : sortP l) :
    Con P (ρ.f 21) #[v, .int .i64 i, .slice (some ⟨vb, 0, none⟩) 1 1] w (CatG fun u Ls => Cov w (cat [B]) (cat Ls) ∧ ∃ C, Ls = [C] ∧ OJ (ρ.t 3) 1 ic C u (insL1 l i.toNat x) ∧ Cov w B C) := by
  have e : cat [B] = B := by simp [cat]
  rw [e] at hB ⊢
  have := con_insert L (i := i.toNat) (x := x) hJ hB hvb hne (by omega) hl
  rw [show ((i.toNat : Nat) : Int) = i by omega] at this
  refine this.mono fun u F ⟨h1, h2⟩ => ⟨[F], by simp [cat], ?_, F, rfl, h1, h2⟩
  show Cov w B (cat [F])
  simpa [cat] using h2
/-- The same, where the number lies in a block beside. -/
theorem con_insertR (L : Lays2.n21 P ρ) {w0 w : World} {v : Value} {B : GH} {Rs : List GH} {l : List Int} {i x : Int} {vb : Nat} {T' : TypeId} {G : Nat → Value} (hJ : OJ (ρ.t 3) 1 ic B v l) (hw : St w0 (cat ([B] ++ Rs)) w) (hm : (vb, BK 1 G T') ∈ cat Rs) (hG : G 0 = .int .i64 x) (h0 : 0 ≤ i ∧ i ≤ l.length) (hl : sortP l) :
    Con P (ρ.f 21) #[v, .int .i64 i, .slice (some ⟨vb, 0, none⟩) 1 1] w (CatG fun u Ls => Cov w (cat [B]) (cat Ls) ∧ ∃ C, Ls = [C] ∧ OJ (ρ.t 3) 1 ic C u (insL1 l i.toNat x) ∧ Cov w B C) := by
  have e : cat ([B] ++ Rs) = B ++ cat Rs := by simp [cat]
  have hw' := hw
  rw [e] at hw'
  have h1 := hw'.own _ _ (List.mem_append_right B hm)
  rw [BK_ext (g := fun _ => .int .i64 x) (fun k hk => by rw [show k = 0 by omega]; exact hG)] at h1
  refine con_insertG L hJ hw.hasC h1 ?_ h0 hl
  have := hw'.nd
  rw [keys_append] at this
  intro hh
  exact (List.nodup_append.1 this).2.2 _ hh _ (List.mem_map.2 ⟨_, hm, rfl⟩) rfl
end
end Go.E
/- Transactions: clones, messages for shards, the same grants. -/
namespace Go.E
open Go
theorem ints_ok (a b : List Int) (h : ints_P a b) : ints_S a b (ints_F a b) := by
  unfold ints_P at h
  unfold ints_S ints_F
  by_cases hl : a.length = b.length
  · rw [if_pos (by omega)]
    have := Wh.all (f := fun (s : Int) (o : Int ⊕ (Unit ⊕ Unit)) => ints_l1 a b s o) a.length (fun k => decide (a[k]! = b[k]!)) (.inl ()) (.inr ()) (fun k hk hp => by
        unfold ints_l1
        rw [if_pos (by omega)]
        refine ⟨⟨by omega, by omega⟩, ⟨by omega, by omega⟩, ?_⟩
        rw [Int.toNat_natCast, if_pos (by simpa using hp)]
        exact ⟨step1 (by omega), rfl⟩) (fun k hk hp => by
        unfold ints_l1
        rw [if_pos (by omega)]
        refine ⟨⟨by omega, by omega⟩, ⟨by omega, by omega⟩, ?_⟩
        rw [Int.toNat_natCast, if_neg (by simpa using hp)]) (by
        unfold ints_l1
        rw [if_neg (by omega)])
    refine ⟨_, this, ?_⟩
    rw [all_eq hl]
    by_cases hab : a = b
    · rw [decide_eq_true hab, if_pos rfl]; rfl
    · rw [decide_eq_false hab, if_neg (by decide)]; rfl
  · rw [if_neg (by omega), decide_eq_false (fun e => hl (by rw [e]))]
def cloneI_F (s : List Int) : List Int := s
def cloneI_P (s : List Int) : Prop := s.length ≤ 1000000000
theorem cloneI_ok (s : List Int) (h : cloneI_P s) : cloneI_S s (cloneI_F s) := by
  unfold cloneI_P at h
  exact ⟨fun e => e, by omega, rfl⟩
def cloneG_F (s : List (Nat → Int)) : List (Nat → Int) := s
def cloneG_P (s : List (Nat → Int)) : Prop := s.length ≤ 1000000000
theorem cloneG_ok (s : List (Nat → Int)) (h : cloneG_P s) : cloneG_S s (cloneG_F s) := by
  unfold cloneG_P at h
  exact ⟨fun e => e, by omega, rfl⟩
/-- A message for a shard. -/
def toMsg (tx kind code s : Int) : Nat → Int := updI (updI (updI (updI (fun _ => 0) 0 kind) 2 s) 3 tx) 8 code
def tto_F (tx _st _re _sq : Int) (_op : Bool) (_sh : Int) (_at : Nat → Int) (_mo : Int) (_to _vo _ac : List Int) (_go : List (Nat → Int)) (kind code : Int) (shards : List Int) : List (Nat → Int) := shards.map (toMsg tx kind code)
def tto_P (_tx _st _re _sq : Int) (_op : Bool) (_sh : Int) (_at : Nat → Int) (_mo : Int) (_to _vo _ac : List Int) (_go : List (Nat → Int)) (_kind _code : Int) (shards : List Int) : Prop := shards.length ≤ 1000000
theorem tto_ok (tx st re sq : Int) (op : Bool) (sh : Int) (at_ : Nat → Int) (mo : Int) (to_ vo ac : List Int) (go : List (Nat → Int)) (kind code : Int) (shards : List Int) (h : tto_P tx st re sq op sh at_ mo to_ vo ac go kind code shards) :
    tto_S tx st re sq op sh at_ mo to_ vo ac go kind code shards (tto_F tx st re sq op sh at_ mo to_ vo ac go kind code shards) := by
  unfold tto_P at h
  unfold tto_S
  refine ⟨shards.map (toMsg tx kind code), ?_, rfl⟩
  have := Wh.upto (f := fun (s : (List (Nat → Int)) × Int) (o : ((List (Nat → Int)) × Int) ⊕ ((List (Nat → Int)))) => tto_l1 tx kind code shards s.1 s.2 o) (fun k : Nat => ((shards.take k).map (toMsg tx kind code), (k : Int))) shards.length (r := shards.map (toMsg tx kind code)) (fun k hk => by
      dsimp only
      unfold tto_l1
      rw [if_pos (by omega), Int.toNat_natCast, map_take _ _ _ hk]
      exact ⟨⟨by omega, by omega⟩, by simp; omega, ⟨by omega, by omega⟩, rfl⟩) (by
      dsimp only
      unfold tto_l1
      rw [if_neg (by omega), take_len])
  simpa using this
/-! ### The same grants -/
def grants_F (a b : List (Nat → Int)) : Bool := decide (a.length = b.length) && (List.range a.length).all fun k => eqN 5 (a[k]!) (b[k]!)
def grants_P (a _ : List (Nat → Int)) : Prop := a.length < 9000000000000000000
theorem grants_ok (a b : List (Nat → Int)) (h : grants_P a b) : grants_S a b (grants_F a b) := by
  unfold grants_P at h
  unfold grants_S grants_F
  by_cases hl : a.length = b.length
  · rw [if_pos (by omega), decide_eq_true hl, Bool.true_and]
    have := Wh.all (f := fun (s : Int) (o : Int ⊕ (Unit ⊕ Unit)) => grants_l1 a b s o) a.length (fun k => eqN 5 (a[k]!) (b[k]!)) (.inl ()) (.inr ()) (fun k hk hp => by
        unfold grants_l1
        rw [if_pos (by omega)]
        refine ⟨⟨by omega, by omega⟩, ⟨by omega, by omega⟩, ?_⟩
        rw [Int.toNat_natCast, if_pos hp]
        exact ⟨step1 (by omega), rfl⟩) (fun k hk hp => by
        unfold grants_l1
        rw [if_pos (by omega)]
        refine ⟨⟨by omega, by omega⟩, ⟨by omega, by omega⟩, ?_⟩
        rw [Int.toNat_natCast, if_neg (by simpa using hp)]) (by
        unfold grants_l1
        rw [if_neg (by omega)])
    refine ⟨_, this, ?_⟩
    cases hh : (List.range a.length).all fun k => eqN 5 (a[k]!) (b[k]!)
    · rw [if_neg (by decide)]; rfl
    · rw [if_pos rfl]; rfl
  · rw [if_neg (by omega), decide_eq_false hl]; rfl
theorem grants_self (a : List (Nat → Int)) : grants_F a a = true := by
  unfold grants_F
  rw [decide_eq_true rfl, Bool.true_and, List.all_eq_true]
  exact fun k _ => eqN_iff.2 fun _ _ => rfl
theorem hasI_ok (s : List Int) (v : Int) (h : hasI_P s v) : hasI_S s v (hasI_F s v) := by
  unfold hasI_P at h
  unfold hasI_S
  obtain ⟨r, hr, h2⟩ := Wh.find (f := fun (t : Int) (o : (Int) ⊕ ((Unit) ⊕ (Int))) => hasI_l1 s v t o) s.length (fun k => decide (v = s[k]!)) (.inl ()) (fun k => .inr (k : Int)) (fun k hk hp => by
      unfold hasI_l1
      rw [if_pos (by omega), Int.toNat_natCast, if_neg (by simpa using hp)]
      exact ⟨⟨by omega, by omega⟩, step1 (by omega), rfl⟩) (fun k hk hp => by
      unfold hasI_l1
      rw [if_pos (by omega), Int.toNat_natCast, if_pos (by simpa using hp)]
      exact ⟨⟨by omega, by omega⟩, rfl⟩) (by
      unfold hasI_l1
      rw [if_neg (by omega)])
  refine ⟨r, hr, ?_⟩
  rw [any_range s fun x => decide (v = x), any_has] at h2
  rcases h2 with ⟨rfl, h2⟩ | ⟨k, hk, rfl, h2⟩
  · rw [h2]; rfl
  · rw [h2]
    show hasI_k1b (k : Int) true
    unfold hasI_k1b
    rw [decide_eq_true (by omega)]
def hasR_F (s : List Int) (v : Int) : Bool := decide (v ∈ s)
def hasR_P (s : List Int) (_ : Int) : Prop := s.length ≤ 1000000000
theorem hasR_ok (s : List Int) (v : Int) (h : hasR_P s v) : hasR_S s v (hasR_F s v) := by
  unfold hasR_P at h
  unfold hasR_S
  obtain ⟨r, hr, h2⟩ := Wh.find (f := fun (t : Int) (o : (Int) ⊕ ((Unit) ⊕ (Unit))) => hasR_l1 s v t o) s.length (fun k => decide (v = s[k]!)) (.inl ()) (fun k => .inr ()) (fun k hk hp => by
      unfold hasR_l1
      rw [if_pos (by omega), Int.toNat_natCast, if_neg (by simpa [eq_comm] using hp)]
      exact ⟨⟨by omega, by omega⟩, step1 (by omega), rfl⟩) (fun k hk hp => by
      unfold hasR_l1
      rw [if_pos (by omega), Int.toNat_natCast, if_pos (by simpa [eq_comm] using hp)]
      exact ⟨⟨by omega, by omega⟩, rfl⟩) (by
      unfold hasR_l1
      rw [if_neg (by omega)])
  refine ⟨r, hr, ?_⟩
  rw [any_range s fun x => decide (v = x), any_has] at h2
  rcases h2 with ⟨rfl, h2⟩ | ⟨k, hk, rfl, h2⟩
  · have : hasR_F s v = false := h2
    rw [this]; rfl
  · have : hasR_F s v = true := h2
    rw [this]; rfl
theorem risingR_ok (l : List Int) (h : rising_P l) : risingR_S l (rising_F l) := by
  unfold rising_P at h
  unfold risingR_S
  refine ⟨rising_F l, ?_, rfl⟩
  have := Wh.upto (f := fun (s : (List Int) × Int) (o : ((List Int) × Int) ⊕ ((List Int))) => risingR_l1 l s.1 s.2 o) (fun k : Nat => (rising_F (l.take k), (k : Int))) l.length (r := rising_F l) (fun k hk => by
      have hs : rising_F (l.take (k + 1)) = insI (l[k]!) (rising_F (l.take k)) := by unfold rising_F; exact foldl_take _ _ _ _ hk
      have hl : (rising_F (l.take k)).length ≤ 1000000000 := Nat.le_trans (len_rising _) (by simp; omega)
      dsimp only
      rw [hs]
      unfold risingR_l1
      rw [if_pos (by omega)]
      generalize rising_F (l.take k) = out at hl
      have hsl := spot_le (l[k]!) out
      have hk' : 0 ≤ (k : Int) ∧ (k : Int) < l.length := ⟨by omega, by omega⟩
      refine ⟨(spot (l[k]!) out : Int), ?_, ?_⟩
      · have := Wh.upto (f := fun (s : Int) (o : (Int) ⊕ (Int)) => risingR_l2 l out (k : Int) s o) (fun j : Nat => (j : Int)) (spot (l[k]!) out) (r := (spot (l[k]!) out : Int)) (fun j hj => by
          have := spot_lt hj
          unfold risingR_l2
          rw [Int.toNat_natCast, Int.toNat_natCast, if_pos (by simp only [Bool.and_eq_true, decide_eq_true_eq]; exact ⟨by omega, this⟩)]
          exact ⟨fun _ => ⟨by omega, by omega⟩, fun _ => hk', ⟨by omega, by omega⟩, rfl⟩) (by
          unfold risingR_l2
          rw [Int.toNat_natCast, Int.toNat_natCast, if_neg (by
            simp only [Bool.and_eq_true, decide_eq_true_eq, not_and]
            exact fun h => spot_at (by omega))]
          exact ⟨fun h => ⟨by omega, by simpa using h⟩, fun _ => hk', rfl⟩)
        simpa using this
      · unfold risingR_k2a
        rw [Int.toNat_natCast, Int.toNat_natCast, insI_spot]
        refine ⟨fun h => ⟨by omega, by simpa using h⟩, fun _ => hk', ?_⟩
        by_cases hc : spot (l[k]!) out < out.length ∧ out[spot (l[k]!) out]! = l[k]!
        · rw [if_pos (by simp only [Bool.and_eq_true, decide_eq_true_eq]; exact ⟨by omega, hc.2⟩), if_pos hc]
          exact ⟨⟨by omega, by omega⟩, rfl⟩
        · rw [if_neg (by simp only [Bool.and_eq_true, decide_eq_true_eq]; exact fun h => hc ⟨by omega, h.2⟩), if_neg hc]
          simp only [List.nil_append, List.drop_zero, take_len]
          refine ⟨⟨⟨by omega, by omega⟩, hk', ⟨by omega, by omega⟩, ?_, ?_, ?_, trivial⟩, ⟨by omega, by omega⟩, rfl⟩
          · simp only [List.length_take]; omega
          · simp only [List.length_take]; omega
          · simp only [List.length_append, List.length_take, List.length_drop, List.length_singleton]; omega) (by
      dsimp only
      unfold risingR_l1
      rw [if_neg (by omega), take_len])
  simpa [rising_F] using this
/-! ### The place of a number in a rising list -/
theorem less_eq (a b : Int) : less_F a b = decide (a < b) := by simp [less_F, cNaN_F]
theorem getk {l : List Int} {k : Nat} (h : k < l.length) : l[k]! = l[k] := by simp [h]
theorem spot_iff {x : Int} {l : List Int} (hs : l.Pairwise fun a b => a < b) {k : Nat} (hk : k < l.length) : l[k]! < x ↔ k < spot x l := by
  refine ⟨fun h => ?_, spot_lt⟩
  by_cases hc : k < spot x l
  · exact hc
  · exfalso
    have h1 := spot_at (x := x) (l := l) (by omega)
    rcases Nat.eq_or_lt_of_le (Nat.le_of_not_lt hc) with e | e
    · rw [e] at h1; exact h1 h
    · have h2 := List.pairwise_iff_getElem.1 hs _ _ (by omega) hk e
      rw [getk hk] at h
      rw [getk (by omega)] at h1
      omega
def search_F (l : List Int) (x : Int) : Int × Bool := ((spot x l : Int), decide (spot x l < l.length) && decide (l[spot x l]! = x))
def search_P (l : List Int) (_ : Int) : Prop := l.Pairwise (fun a b => a < b) ∧ l.length ≤ 1000000000
theorem half_wrap {i j : Int} (h0 : 0 ≤ i) (h1 : i ≤ j) (h2 : j ≤ 1000000000) : IntKind.i64.wrap (IntKind.u64.wrap (i + j) / 2) = (i + j) / 2 := by
  have e : IntKind.u64.wrap (i + j) = i + j := by
    simp only [IntKind.wrap, IntKind.bits]
    have : (i + j) % 2 ^ 64 = i + j := Int.emod_eq_of_lt (by omega) (by omega)
    simp [IntKind.signed]
    omega
  rw [e]
  exact wrap_id ⟨by omega, by omega⟩
theorem search_ok (l : List Int) (x : Int) (h : search_P l x) : search_S l x (search_F l x) := by
  obtain ⟨hs, hn⟩ := h
  unfold search_S
  have hle := spot_le x l
  obtain ⟨r, hr, rfl⟩ := Wh.by (f := fun (s : Int × Int) (o : (Int × Int) ⊕ (Int)) => search_l1 l x s.1 s.2 o) (fun s => 0 ≤ s.1 ∧ s.1 ≤ (spot x l : Int) ∧ (spot x l : Int) ≤ s.2 ∧ s.2 ≤ l.length) (fun s => (s.2 - s.1).toNat) (fun r => r = (spot x l : Int)) (s := ((0, (l.length : Int)) : Int × Int)) ⟨by simp, by simp, by simp; omega, by simp⟩ (by
    rintro ⟨i, j⟩ ⟨h0, h1, h2, h3⟩
    dsimp only at h0 h1 h2 h3
    by_cases hij : i < j
    · left
      dsimp only
      have hw := half_wrap h0 (Int.le_of_lt hij) (by omega)
      have hm : i ≤ (i + j) / 2 ∧ (i + j) / 2 < j := by omega
      have hb : ((i + j) / 2).toNat < l.length := by omega
      have hi := spot_iff (x := x) hs hb
      by_cases hc : l[((i + j) / 2).toNat]! < x
      · have hc' := hi.1 hc
        refine ⟨((i + j) / 2 + 1, j), ?_, ⟨by dsimp only; omega, by dsimp only; omega, h2, h3⟩, by dsimp only; omega⟩
        unfold search_l1
        rw [if_pos hij, hw, less_eq, decide_eq_true hc, if_pos rfl, if_pos rfl, if_pos rfl]
        exact ⟨⟨by omega, by omega⟩, ⟨by omega, by omega⟩, ⟨⟨by omega, by omega⟩, trivial⟩, rfl⟩
      · have hc' : ¬ ((i + j) / 2).toNat < spot x l := fun hh => hc (hi.2 hh)
        refine ⟨(i, (i + j) / 2), ?_, ⟨h0, h1, by dsimp only; omega, by dsimp only; omega⟩, by dsimp only; omega⟩
        unfold search_l1
        rw [if_pos hij, hw, less_eq, decide_eq_false hc, if_neg (by decide), if_neg (by decide), if_neg (by decide)]
        exact ⟨⟨by omega, by omega⟩, ⟨by omega, by omega⟩, trivial, rfl⟩
    · right
      dsimp only
      refine ⟨i, ?_, by omega⟩
      unfold search_l1
      rw [if_neg hij])
  refine ⟨_, hr, ?_⟩
  unfold search_k1a search_F
  rw [Int.toNat_natCast]
  refine ⟨fun h => ⟨by omega, by simpa using h⟩, fun h _ => ⟨by omega, by simpa using h⟩, ?_⟩
  rw [show decide ((spot x l : Int) < (l.length : Int)) = decide (spot x l < l.length) from decide_eq_decide.2 (by omega)]
  simp [sNaN_F]
theorem search_le (l : List Int) (x : Int) : 0 ≤ (search_F l x).1 ∧ (search_F l x).1 ≤ (l.length : Int) := by
  have := spot_le x l
  exact ⟨by simp [search_F], by simp [search_F]; omega⟩
/-- A number put into a rising list, once. -/
theorem with_eq (l : List Int) (x : Int) : (if (search_F l x).2 = true then l else insL1 (cloneI_F l) ((search_F l x).1).toNat x) = insI x l := by
  rw [insI_spot]
  unfold search_F insL1 cloneI_F
  rw [Int.toNat_natCast]
  by_cases h : spot x l < l.length ∧ l[spot x l]! = x
  · rw [if_pos h, if_pos (by rw [decide_eq_true h.1, decide_eq_true h.2]; rfl)]
  · rw [if_neg h, if_neg (by rw [Bool.and_eq_true, decide_eq_true_eq, decide_eq_true_eq]; exact h)]
end Go.E
/- What functions of the program say, as relations. -/
namespace Go.E
open Go
def own_S (t0Tx : Int) (t0State : Int) (t0Reason : Int) (t0Seq : Int) (t0Open : Bool) (t0Shard : Int) (t0At : (Nat → Int)) (t0Mode : Int) (t0Touched : (List Int)) (t0Votes : (List Int)) (t0Acks : (List Int)) (t0Got : (List (Nat → Int))) (r : (Int × Int × Int × Int × Bool × Int × (Nat → Int) × Int × (List Int) × (List Int) × (List Int) × (List (Nat → Int)))) : Prop :=
  (cloneI_P t0Touched) ∧ (
  (cloneI_P t0Votes) ∧ (
  (cloneI_P t0Acks) ∧ (
  (cloneG_P t0Got) ∧ (
  r = ((t0Tx, t0State, t0Reason, t0Seq, t0Open, t0Shard, t0At, t0Mode, (cloneI_F t0Touched), (cloneI_F t0Votes), (cloneI_F t0Acks), (cloneG_F t0Got)))))))
def own_F (t0Tx : Int) (t0State : Int) (t0Reason : Int) (t0Seq : Int) (t0Open : Bool) (t0Shard : Int) (t0At : (Nat → Int)) (t0Mode : Int) (t0Touched : (List Int)) (t0Votes : (List Int)) (t0Acks : (List Int)) (t0Got : (List (Nat → Int))) : (Int × Int × Int × Int × Bool × Int × (Nat → Int) × Int × (List Int) × (List Int) × (List Int) × (List (Nat → Int))) :=
  (t0Tx, t0State, t0Reason, t0Seq, t0Open, t0Shard, t0At, t0Mode, (cloneI_F t0Touched), (cloneI_F t0Votes), (cloneI_F t0Acks), (cloneG_F t0Got))
def own_P (t0Tx : Int) (t0State : Int) (t0Reason : Int) (t0Seq : Int) (t0Open : Bool) (t0Shard : Int) (t0At : (Nat → Int)) (t0Mode : Int) (t0Touched : (List Int)) (t0Votes : (List Int)) (t0Acks : (List Int)) (t0Got : (List (Nat → Int))) : Prop :=
  (cloneI_P t0Touched) ∧ (
  (cloneI_P t0Votes) ∧ (
  (cloneI_P t0Acks) ∧ (
  (cloneG_P t0Got) ∧ (
  True))))
theorem own_ok (t0Tx : Int) (t0State : Int) (t0Reason : Int) (t0Seq : Int) (t0Open : Bool) (t0Shard : Int) (t0At : (Nat → Int)) (t0Mode : Int) (t0Touched : (List Int)) (t0Votes : (List Int)) (t0Acks : (List Int)) (t0Got : (List (Nat → Int))) (hP : own_P t0Tx t0State t0Reason t0Seq t0Open t0Shard t0At t0Mode t0Touched t0Votes t0Acks t0Got) : own_S t0Tx t0State t0Reason t0Seq t0Open t0Shard t0At t0Mode t0Touched t0Votes t0Acks t0Got (own_F t0Tx t0State t0Reason t0Seq t0Open t0Shard t0At t0Mode t0Touched t0Votes t0Acks t0Got) := by
  obtain ⟨r, hr⟩ : ∃ r, r = own_F t0Tx t0State t0Reason t0Seq t0Open t0Shard t0At t0Mode t0Touched t0Votes t0Acks t0Got := ⟨_, rfl⟩
  rw [← hr]
  unfold own_F at hr
  unfold own_S
  unfold own_P at hP
  obtain ⟨hq0, hP⟩ := hP
  refine ⟨hq0, ?_⟩
  obtain ⟨hq0, hP⟩ := hP
  refine ⟨hq0, ?_⟩
  obtain ⟨hq0, hP⟩ := hP
  refine ⟨hq0, ?_⟩
  obtain ⟨hq0, hP⟩ := hP
  refine ⟨hq0, ?_⟩
  exact hr
def tform_S (t0Tx : Int) (t0State : Int) (t0Reason : Int) (t0Seq : Int) (t0Open : Bool) (t0Shard : Int) (t0At : (Nat → Int)) (t0Mode : Int) (t0Touched : (List Int)) (t0Votes : (List Int)) (t0Acks : (List Int)) (t0Got : (List (Nat → Int))) (m1 : (Nat → Int)) (kinds2 : (List Int)) (r : Int) : Prop :=
  (hasI_P kinds2 (m1 0)) ∧ (
  if (((!((hasI_F kinds2 (m1 0)))) || (!(decide ((msgOk_F m1) = 0)))) || (!(decide (m1 3 = t0Tx)))) = true then
    r = (5)
  else
    r = (0))
def tform_F (t0Tx : Int) (t0State : Int) (t0Reason : Int) (t0Seq : Int) (t0Open : Bool) (t0Shard : Int) (t0At : (Nat → Int)) (t0Mode : Int) (t0Touched : (List Int)) (t0Votes : (List Int)) (t0Acks : (List Int)) (t0Got : (List (Nat → Int))) (m1 : (Nat → Int)) (kinds2 : (List Int)) : Int :=
  if (((!((hasI_F kinds2 (m1 0)))) || (!(decide ((msgOk_F m1) = 0)))) || (!(decide (m1 3 = t0Tx)))) = true then
    5
  else
    0
def tform_P (t0Tx : Int) (t0State : Int) (t0Reason : Int) (t0Seq : Int) (t0Open : Bool) (t0Shard : Int) (t0At : (Nat → Int)) (t0Mode : Int) (t0Touched : (List Int)) (t0Votes : (List Int)) (t0Acks : (List Int)) (t0Got : (List (Nat → Int))) (m1 : (Nat → Int)) (kinds2 : (List Int)) : Prop :=
  (hasI_P kinds2 (m1 0)) ∧ (
  if (((!((hasI_F kinds2 (m1 0)))) || (!(decide ((msgOk_F m1) = 0)))) || (!(decide (m1 3 = t0Tx)))) = true then
    True
  else
    True)
theorem tform_ok (t0Tx : Int) (t0State : Int) (t0Reason : Int) (t0Seq : Int) (t0Open : Bool) (t0Shard : Int) (t0At : (Nat → Int)) (t0Mode : Int) (t0Touched : (List Int)) (t0Votes : (List Int)) (t0Acks : (List Int)) (t0Got : (List (Nat → Int))) (m1 : (Nat → Int)) (kinds2 : (List Int)) (hP : tform_P t0Tx t0State t0Reason t0Seq t0Open t0Shard t0At t0Mode t0Touched t0Votes t0Acks t0Got m1 kinds2) : tform_S t0Tx t0State t0Reason t0Seq t0Open t0Shard t0At t0Mode t0Touched t0Votes t0Acks t0Got m1 kinds2 (tform_F t0Tx t0State t0Reason t0Seq t0Open t0Shard t0At t0Mode t0Touched t0Votes t0Acks t0Got m1 kinds2) := by
  obtain ⟨r, hr⟩ : ∃ r, r = tform_F t0Tx t0State t0Reason t0Seq t0Open t0Shard t0At t0Mode t0Touched t0Votes t0Acks t0Got m1 kinds2 := ⟨_, rfl⟩
  rw [← hr]
  unfold tform_F at hr
  unfold tform_S
  unfold tform_P at hP
  obtain ⟨hq0, hP⟩ := hP
  refine ⟨hq0, ?_⟩
  by_cases hp15 : (((!((hasI_F kinds2 (m1 0)))) || (!(decide ((msgOk_F m1) = 0)))) || (!(decide (m1 3 = t0Tx)))) = true
  · rw [if_pos hp15] at hr hP ⊢
    exact hr
  · rw [if_neg hp15] at hr hP ⊢
    exact hr
def tfrom_S (t0Tx : Int) (t0State : Int) (t0Reason : Int) (t0Seq : Int) (t0Open : Bool) (t0Shard : Int) (t0At : (Nat → Int)) (t0Mode : Int) (t0Touched : (List Int)) (t0Votes : (List Int)) (t0Acks : (List Int)) (t0Got : (List (Nat → Int))) (m1 : (Nat → Int)) (kind2 : Int) (ready3 : Bool) (r : Int) : Prop :=
  (tform_P t0Tx t0State t0Reason t0Seq t0Open t0Shard t0At t0Mode t0Touched t0Votes t0Acks t0Got m1 ([kind2])) ∧ (
  if (tform_F t0Tx t0State t0Reason t0Seq t0Open t0Shard t0At t0Mode t0Touched t0Votes t0Acks t0Got m1 ([kind2])) = 0 then
    if (ready3) = true then
      (hasI_P t0Touched (m1 1)) ∧ (
      if ((hasI_F t0Touched (m1 1))) = true then
        r = (0)
      else
        r = (10))
    else
      r = (11)
  else
    r = ((tform_F t0Tx t0State t0Reason t0Seq t0Open t0Shard t0At t0Mode t0Touched t0Votes t0Acks t0Got m1 ([kind2]))))
def tfrom_F (t0Tx : Int) (t0State : Int) (t0Reason : Int) (t0Seq : Int) (t0Open : Bool) (t0Shard : Int) (t0At : (Nat → Int)) (t0Mode : Int) (t0Touched : (List Int)) (t0Votes : (List Int)) (t0Acks : (List Int)) (t0Got : (List (Nat → Int))) (m1 : (Nat → Int)) (kind2 : Int) (ready3 : Bool) : Int :=
  if (tform_F t0Tx t0State t0Reason t0Seq t0Open t0Shard t0At t0Mode t0Touched t0Votes t0Acks t0Got m1 ([kind2])) = 0 then
    if (ready3) = true then
      if ((hasI_F t0Touched (m1 1))) = true then
        0
      else
        10
    else
      11
  else
    (tform_F t0Tx t0State t0Reason t0Seq t0Open t0Shard t0At t0Mode t0Touched t0Votes t0Acks t0Got m1 ([kind2]))
def tfrom_P (t0Tx : Int) (t0State : Int) (t0Reason : Int) (t0Seq : Int) (t0Open : Bool) (t0Shard : Int) (t0At : (Nat → Int)) (t0Mode : Int) (t0Touched : (List Int)) (t0Votes : (List Int)) (t0Acks : (List Int)) (t0Got : (List (Nat → Int))) (m1 : (Nat → Int)) (kind2 : Int) (ready3 : Bool) : Prop :=
  (tform_P t0Tx t0State t0Reason t0Seq t0Open t0Shard t0At t0Mode t0Touched t0Votes t0Acks t0Got m1 ([kind2])) ∧ (
  if (tform_F t0Tx t0State t0Reason t0Seq t0Open t0Shard t0At t0Mode t0Touched t0Votes t0Acks t0Got m1 ([kind2])) = 0 then
    if (ready3) = true then
      (hasI_P t0Touched (m1 1)) ∧ (
      if ((hasI_F t0Touched (m1 1))) = true then
        True
      else
        True)
    else
      True
  else
    True)
theorem tfrom_ok (t0Tx : Int) (t0State : Int) (t0Reason : Int) (t0Seq : Int) (t0Open : Bool) (t0Shard : Int) (t0At : (Nat → Int)) (t0Mode : Int) (t0Touched : (List Int)) (t0Votes : (List Int)) (t0Acks : (List Int)) (t0Got : (List (Nat → Int))) (m1 : (Nat → Int)) (kind2 : Int) (ready3 : Bool) (hP : tfrom_P t0Tx t0State t0Reason t0Seq t0Open t0Shard t0At t0Mode t0Touched t0Votes t0Acks t0Got m1 kind2 ready3) : tfrom_S t0Tx t0State t0Reason t0Seq t0Open t0Shard t0At t0Mode t0Touched t0Votes t0Acks t0Got m1 kind2 ready3 (tfrom_F t0Tx t0State t0Reason t0Seq t0Open t0Shard t0At t0Mode t0Touched t0Votes t0Acks t0Got m1 kind2 ready3) := by
  obtain ⟨r, hr⟩ : ∃ r, r = tfrom_F t0Tx t0State t0Reason t0Seq t0Open t0Shard t0At t0Mode t0Touched t0Votes t0Acks t0Got m1 kind2 ready3 := ⟨_, rfl⟩
  rw [← hr]
  unfold tfrom_F at hr
  unfold tfrom_S
  unfold tfrom_P at hP
  obtain ⟨hq0, hP⟩ := hP
  refine ⟨hq0, ?_⟩
  by_cases hp16 : (tform_F t0Tx t0State t0Reason t0Seq t0Open t0Shard t0At t0Mode t0Touched t0Votes t0Acks t0Got m1 ([kind2])) = 0
  · rw [if_pos hp16] at hr hP ⊢
    by_cases hp17 : (ready3) = true
    · rw [if_pos hp17] at hr hP ⊢
      obtain ⟨hq0, hP⟩ := hP
      refine ⟨hq0, ?_⟩
      by_cases hp18 : ((hasI_F t0Touched (m1 1))) = true
      · rw [if_pos hp18] at hr hP ⊢
        exact hr
      · rw [if_neg hp18] at hr hP ⊢
        exact hr
    · rw [if_neg hp17] at hr hP ⊢
      exact hr
  · rw [if_neg hp16] at hr hP ⊢
    exact hr
def tdecision_S (t0Tx : Int) (t0State : Int) (t0Reason : Int) (t0Seq : Int) (t0Open : Bool) (t0Shard : Int) (t0At : (Nat → Int)) (t0Mode : Int) (t0Touched : (List Int)) (t0Votes : (List Int)) (t0Acks : (List Int)) (t0Got : (List (Nat → Int))) (shards1 : (List Int)) (r : (List (Nat → Int))) : Prop :=
  (tto_P t0Tx t0State t0Reason t0Seq t0Open t0Shard t0At t0Mode t0Touched t0Votes t0Acks t0Got 6 (if t0State = 3 then 1 else 0) shards1) ∧ (
  r = ((tto_F t0Tx t0State t0Reason t0Seq t0Open t0Shard t0At t0Mode t0Touched t0Votes t0Acks t0Got 6 (if t0State = 3 then 1 else 0) shards1)))
def tdecision_F (t0Tx : Int) (t0State : Int) (t0Reason : Int) (t0Seq : Int) (t0Open : Bool) (t0Shard : Int) (t0At : (Nat → Int)) (t0Mode : Int) (t0Touched : (List Int)) (t0Votes : (List Int)) (t0Acks : (List Int)) (t0Got : (List (Nat → Int))) (shards1 : (List Int)) : (List (Nat → Int)) :=
  (tto_F t0Tx t0State t0Reason t0Seq t0Open t0Shard t0At t0Mode t0Touched t0Votes t0Acks t0Got 6 (if t0State = 3 then 1 else 0) shards1)
def tdecision_P (t0Tx : Int) (t0State : Int) (t0Reason : Int) (t0Seq : Int) (t0Open : Bool) (t0Shard : Int) (t0At : (Nat → Int)) (t0Mode : Int) (t0Touched : (List Int)) (t0Votes : (List Int)) (t0Acks : (List Int)) (t0Got : (List (Nat → Int))) (shards1 : (List Int)) : Prop :=
  (tto_P t0Tx t0State t0Reason t0Seq t0Open t0Shard t0At t0Mode t0Touched t0Votes t0Acks t0Got 6 (if t0State = 3 then 1 else 0) shards1) ∧ (
  True)
theorem tdecision_ok (t0Tx : Int) (t0State : Int) (t0Reason : Int) (t0Seq : Int) (t0Open : Bool) (t0Shard : Int) (t0At : (Nat → Int)) (t0Mode : Int) (t0Touched : (List Int)) (t0Votes : (List Int)) (t0Acks : (List Int)) (t0Got : (List (Nat → Int))) (shards1 : (List Int)) (hP : tdecision_P t0Tx t0State t0Reason t0Seq t0Open t0Shard t0At t0Mode t0Touched t0Votes t0Acks t0Got shards1) : tdecision_S t0Tx t0State t0Reason t0Seq t0Open t0Shard t0At t0Mode t0Touched t0Votes t0Acks t0Got shards1 (tdecision_F t0Tx t0State t0Reason t0Seq t0Open t0Shard t0At t0Mode t0Touched t0Votes t0Acks t0Got shards1) := by
  obtain ⟨r, hr⟩ : ∃ r, r = tdecision_F t0Tx t0State t0Reason t0Seq t0Open t0Shard t0At t0Mode t0Touched t0Votes t0Acks t0Got shards1 := ⟨_, rfl⟩
  rw [← hr]
  unfold tdecision_F at hr
  unfold tdecision_S
  unfold tdecision_P at hP
  obtain ⟨hq0, hP⟩ := hP
  refine ⟨hq0, ?_⟩
  exact hr
def tleft_l1 (t0Touched : (List Int)) (but1 : (List Int)) (x8 : Int) (o : (Int) ⊕ ((Unit) ⊕ (Int))) : Prop :=
  if x8 < ((cloneI_F t0Touched).length : Int) then
    (0 ≤ x8 ∧ x8 < (cloneI_F t0Touched).length) ∧ (
    (hasI_P but1 ((cloneI_F t0Touched)[x8.toNat]!)) ∧ (
    if ((hasI_F but1 ((cloneI_F t0Touched)[x8.toNat]!))) = true then
      o = (.inr (.inr x8))
    else
      (inI64 (x8 + 1)) ∧ (
      o = (.inl (x8 + 1)))))
  else
    o = (.inr (.inl ()))
def tleft_k1a (t0Touched : (List Int)) (r : (List Int)) : Prop :=
  r = ((cloneI_F t0Touched))
def tleft_l2 (but1 : (List Int)) (s0 : (List Int)) (i5 : Int) (j6 : Int) (o : ((List Int) × Int × Int) ⊕ ((List Int) × Int)) : Prop :=
  if j6 < (s0.length : Int) then
    (0 ≤ j6 ∧ j6 < s0.length) ∧ (
    (hasI_P but1 (s0[j6.toNat]!)) ∧ (
    if ((hasI_F but1 (s0[j6.toNat]!))) = true then
      (inI64 (j6 + 1)) ∧ (
      o = (.inl (s0, i5, j6 + 1)))
    else
      (0 ≤ i5 ∧ i5 < s0.length) ∧ (
      (inI64 (i5 + 1)) ∧ (
      (inI64 (j6 + 1)) ∧ (
      o = (.inl (s0.set (i5.toNat) (s0[j6.toNat]!), i5 + 1, j6 + 1)))))))
  else
    o = (.inr (s0, i5))
def tleft_k2a (s0 : (List Int)) (i5 : Int) (r : (List Int)) : Prop :=
  (0 ≤ i5 ∧ i5 ≤ s0.length) ∧ (
  (0 ≤ i5 ∧ i5 ≤ (s0.take i5.toNat ++ List.replicate (s0.length - i5.toNat) 0).length) ∧ (
  r = (((s0.take i5.toNat ++ List.replicate (s0.length - i5.toNat) 0).take i5.toNat).drop 0)))
def tleft_k1b (t0Touched : (List Int)) (but1 : (List Int)) (x4 : Int) (r : (List Int)) : Prop :=
  if x4 = (-1) then
    r = ((cloneI_F t0Touched))
  else
    (inI64 (x4 + 1)) ∧ (
    ∃ x : (List Int) × Int, Wh (fun (s : (List Int) × Int × Int) (o : ((List Int) × Int × Int) ⊕ ((List Int) × Int)) => tleft_l2 but1 s.1 s.2.1 s.2.2 o) (((cloneI_F t0Touched), x4, x4 + 1) : (List Int) × Int × Int) x ∧ tleft_k2a x.1 x.2 r)
def tleft_S (t0Tx : Int) (t0State : Int) (t0Reason : Int) (t0Seq : Int) (t0Open : Bool) (t0Shard : Int) (t0At : (Nat → Int)) (t0Mode : Int) (t0Touched : (List Int)) (t0Votes : (List Int)) (t0Acks : (List Int)) (t0Got : (List (Nat → Int))) (but1 : (List Int)) (r : (List Int)) : Prop :=
  (cloneI_P t0Touched) ∧ (
  ∃ x : (Unit) ⊕ (Int), Wh (fun (s : Int) (o : (Int) ⊕ ((Unit) ⊕ (Int))) => tleft_l1 t0Touched but1 s o) (0 : Int) x ∧ (match x with | .inl _ => tleft_k1a t0Touched r | .inr x4 => tleft_k1b t0Touched but1 x4 r))
def tdecided_S (t0Tx : Int) (t0State : Int) (t0Reason : Int) (t0Seq : Int) (t0Open : Bool) (t0Shard : Int) (t0At : (Nat → Int)) (t0Mode : Int) (t0Touched : (List Int)) (t0Votes : (List Int)) (t0Acks : (List Int)) (t0Got : (List (Nat → Int))) (r : Bool) : Prop :=
  if t0State = 3 then
    r = (true)
  else
    if t0State = 4 then
      r = (true)
    else
      r = (false)
def tdecided_F (t0Tx : Int) (t0State : Int) (t0Reason : Int) (t0Seq : Int) (t0Open : Bool) (t0Shard : Int) (t0At : (Nat → Int)) (t0Mode : Int) (t0Touched : (List Int)) (t0Votes : (List Int)) (t0Acks : (List Int)) (t0Got : (List (Nat → Int))) : Bool :=
  if t0State = 3 then
    true
  else
    if t0State = 4 then
      true
    else
      false
theorem tdecided_ok (t0Tx : Int) (t0State : Int) (t0Reason : Int) (t0Seq : Int) (t0Open : Bool) (t0Shard : Int) (t0At : (Nat → Int)) (t0Mode : Int) (t0Touched : (List Int)) (t0Votes : (List Int)) (t0Acks : (List Int)) (t0Got : (List (Nat → Int))) : tdecided_S t0Tx t0State t0Reason t0Seq t0Open t0Shard t0At t0Mode t0Touched t0Votes t0Acks t0Got (tdecided_F t0Tx t0State t0Reason t0Seq t0Open t0Shard t0At t0Mode t0Touched t0Votes t0Acks t0Got) := by
  obtain ⟨r, hr⟩ : ∃ r, r = tdecided_F t0Tx t0State t0Reason t0Seq t0Open t0Shard t0At t0Mode t0Touched t0Votes t0Acks t0Got := ⟨_, rfl⟩
  rw [← hr]
  unfold tdecided_F at hr
  unfold tdecided_S
  by_cases hp19 : t0State = 3
  · rw [if_pos hp19] at hr ⊢
    exact hr
  · rw [if_neg hp19] at hr ⊢
    by_cases hp20 : t0State = 4
    · rw [if_pos hp20] at hr ⊢
      exact hr
    · rw [if_neg hp20] at hr ⊢
      exact hr
def tnew_S (tx0 : Int) (r : (Int × Int × Int × Int × Bool × Int × (Nat → Int) × Int × (List Int) × (List Int) × (List Int) × (List (Nat → Int))) × Int) : Prop :=
  if ((decide (tx0 < 1)) || (decide (1048576 < tx0))) = true then
    r = (((0, 0, 0, 0, false, 0, (fun _ => 0), 0, [], [], [], []), 1))
  else
    r = (((tx0, 1, 0, 0, false, 0, (fun _ => 0), 0, [], [], [], []), 0))
def tnew_F (tx0 : Int) : (Int × Int × Int × Int × Bool × Int × (Nat → Int) × Int × (List Int) × (List Int) × (List Int) × (List (Nat → Int))) × Int :=
  if ((decide (tx0 < 1)) || (decide (1048576 < tx0))) = true then
    ((0, 0, 0, 0, false, 0, (fun _ => 0), 0, [], [], [], []), 1)
  else
    ((tx0, 1, 0, 0, false, 0, (fun _ => 0), 0, [], [], [], []), 0)
theorem tnew_ok (tx0 : Int) : tnew_S tx0 (tnew_F tx0) := by
  obtain ⟨r, hr⟩ : ∃ r, r = tnew_F tx0 := ⟨_, rfl⟩
  rw [← hr]
  unfold tnew_F at hr
  unfold tnew_S
  by_cases hp21 : ((decide (tx0 < 1)) || (decide (1048576 < tx0))) = true
  · rw [if_pos hp21] at hr ⊢
    exact hr
  · rw [if_neg hp21] at hr ⊢
    exact hr
end Go.E
/- Transactions: which shards are left. -/
namespace Go.E
open Go
/-- What stands in but is dropped. -/
def leftL (l but : List Int) : List Int := l.filter fun x => !hasI_F but x
def tleft_F (_tx _st _re _sq : Int) (_op : Bool) (_sh : Int) (_at : Nat → Int) (_mo : Int) (to_ _vo _ac : List Int) (_go : List (Nat → Int)) (but : List Int) : List Int := leftL to_ but
def tleft_P (_tx _st _re _sq : Int) (_op : Bool) (_sh : Int) (_at : Nat → Int) (_mo : Int) (to_ _vo _ac : List Int) (_go : List (Nat → Int)) (but : List Int) : Prop := to_.length ≤ 1000000000 ∧ but.length ≤ 1000000000
theorem take_succ! (l : List Int) {k : Nat} (h : k < l.length) : l.take (k + 1) = l.take k ++ [l[k]!] := by
  rw [List.take_add_one, List.getElem?_eq_getElem h, getk h]; rfl
theorem leftL_take (l but : List Int) {k : Nat} (h : k < l.length) : leftL (l.take (k + 1)) but = leftL (l.take k) but ++ if hasI_F but (l[k]!) = true then [] else [l[k]!] := by
  unfold leftL
  rw [take_succ! l h, List.filter_append]
  generalize l[k]! = x
  congr 1
  by_cases hc : hasI_F but x = true
  · rw [if_pos hc, List.filter_cons_of_neg (by rw [hc]; decide)]; rfl
  · rw [if_neg hc, List.filter_cons_of_pos (by simpa using hc)]; rfl
theorem tleft_ok (tx st re sq : Int) (op : Bool) (sh : Int) (at_ : Nat → Int) (mo : Int) (to_ vo ac : List Int) (go : List (Nat → Int)) (but : List Int) (h : tleft_P tx st re sq op sh at_ mo to_ vo ac go but) :
    tleft_S tx st re sq op sh at_ mo to_ vo ac go but (tleft_F tx st re sq op sh at_ mo to_ vo ac go but) := by
  obtain ⟨hl, hb⟩ := h
  unfold tleft_S tleft_F
  refine ⟨hl, ?_⟩
  have hcl : cloneI_F to_ = to_ := rfl
  obtain ⟨r, hr, h2⟩ := Wh.by (f := fun (s : Int) (o : (Int) ⊕ ((Unit) ⊕ (Int))) => tleft_l1 to_ but s o) (fun s => ∃ k : Nat, s = (k : Int) ∧ k ≤ to_.length ∧ leftL (to_.take k) but = to_.take k) (fun s => to_.length - s.toNat)
      (fun r => (r = .inl () ∧ leftL to_ but = to_) ∨ ∃ k : Nat, r = .inr (k : Int) ∧ k < to_.length ∧ leftL (to_.take k) but = to_.take k ∧ hasI_F but (to_[k]!) = true) (s := (0 : Int)) ⟨0, rfl, by simp, by simp [leftL]⟩ (by
    rintro s ⟨k, rfl, hk, hL⟩
    by_cases hlt : k < to_.length
    · by_cases hc : hasI_F but (to_[k]!) = true
      · right
        refine ⟨.inr (k : Int), ?_, .inr ⟨k, rfl, hlt, hL, hc⟩⟩
        unfold tleft_l1
        rw [hcl, Int.toNat_natCast, if_pos (by omega), if_pos hc]
        exact ⟨⟨by omega, by omega⟩, hb, rfl⟩
      · left
        refine ⟨((k : Int) + 1), ?_, ⟨k + 1, by simp, hlt, by rw [leftL_take _ _ hlt, hL, if_neg hc, take_succ! _ hlt]⟩, by omega⟩
        unfold tleft_l1
        rw [hcl, Int.toNat_natCast, if_pos (by omega), if_neg hc]
        exact ⟨⟨by omega, by omega⟩, hb, step1 (by omega), rfl⟩
    · right
      refine ⟨.inl (), ?_, .inl ⟨rfl, by rw [List.take_of_length_le (by omega)] at hL; exact hL⟩⟩
      unfold tleft_l1
      rw [hcl, if_neg (by omega)])
  refine ⟨r, hr, ?_⟩
  rcases h2 with ⟨rfl, h2⟩ | ⟨k, rfl, hk, hL, hc⟩
  · show tleft_k1a to_ (leftL to_ but)
    unfold tleft_k1a
    rw [h2, hcl]
  · show tleft_k1b to_ but (k : Int) (leftL to_ but)
    unfold tleft_k1b
    rw [if_neg (by omega), hcl]
    refine ⟨step1 (by omega), ?_⟩
    obtain ⟨x, hx, h3⟩ := Wh.by (f := fun (s : (List Int) × Int × Int) (o : ((List Int) × Int × Int) ⊕ ((List Int) × Int)) => tleft_l2 but s.1 s.2.1 s.2.2 o) (fun s => ∃ i j : Nat, s.2.1 = (i : Int) ∧ s.2.2 = (j : Int) ∧ i < j ∧ j ≤ to_.length ∧ s.1.length = to_.length ∧ s.1.take i = leftL (to_.take j) but ∧ ∀ q, j ≤ q → q < to_.length → s.1[q]! = to_[q]!) (fun s => to_.length - s.2.2.toNat)
        (fun x => ∃ i : Nat, x.2 = (i : Int) ∧ i ≤ x.1.length ∧ x.1.take i = leftL to_ but) (s := ((to_, (k : Int), (k : Int) + 1) : (List Int) × Int × Int)) ⟨k, k + 1, rfl, by simp, by omega, hk, rfl, by rw [leftL_take _ _ hk, hL, if_pos hc]; simp, fun _ _ _ => rfl⟩ (by
      rintro ⟨s, i', j'⟩ ⟨i, j, h1, h2, hij, hj, hsl, ht, hq⟩
      dsimp only at h1 h2 hsl ht hq
      subst h1
      subst h2
      by_cases hlt : j < to_.length
      · left
        have e := hq j (Nat.le_refl _) hlt
        by_cases hcj : hasI_F but (to_[j]!) = true
        · refine ⟨(s, (i : Int), (j : Int) + 1), ?_, ⟨i, j + 1, rfl, by simp, by omega, hlt, hsl, by rw [leftL_take _ _ hlt, if_pos hcj, List.append_nil]; exact ht, fun q h1 h2 => hq q (by omega) h2⟩, by dsimp only; omega⟩
          dsimp only
          unfold tleft_l2
          rw [Int.toNat_natCast, Int.toNat_natCast, if_pos (by omega), e, if_pos hcj]
          exact ⟨⟨by omega, by omega⟩, hb, step1 (by omega), rfl⟩
        · refine ⟨(s.set i (to_[j]!), (i : Int) + 1, (j : Int) + 1), ?_, ⟨i + 1, j + 1, by simp, by simp, by omega, hlt, by simpa using hsl, ?_, fun q h1 h2 => ?_⟩, by dsimp only; omega⟩
          · dsimp only
            unfold tleft_l2
            rw [Int.toNat_natCast, Int.toNat_natCast, if_pos (by omega), e, if_neg hcj]
            exact ⟨⟨by omega, by omega⟩, hb, ⟨by omega, by omega⟩, step1 (by omega), step1 (by omega), rfl⟩
          · dsimp only
            rw [leftL_take _ _ hlt, if_neg hcj, ← ht, take_succ! _ (by simp; omega), List.take_set_of_le (Nat.le_refl _), getk (by simp; omega), List.getElem_set_self]
          · dsimp only
            rw [getk (by simp; omega), List.getElem_set_ne (by omega), ← getk (by omega), hq q (by omega) h2]
      · right
        refine ⟨(s, (i : Int)), ?_, i, rfl, by dsimp only; omega, ?_⟩
        · dsimp only
          unfold tleft_l2
          rw [if_neg (by omega)]
        · dsimp only
          rw [ht, List.take_of_length_le (by omega)])
    refine ⟨x, hx, ?_⟩
    obtain ⟨s, i'⟩ := x
    obtain ⟨i, h1, h2, h3⟩ := h3
    dsimp only at h1 h2 h3
    subst h1
    dsimp only
    unfold tleft_k2a
    rw [Int.toNat_natCast]
    refine ⟨⟨by omega, by omega⟩, ⟨by omega, by simp; omega⟩, ?_⟩
    rw [← h3, List.drop_zero, List.take_append_of_le_length (by simp; omega), List.take_take, Nat.min_self]
end Go.E
/- What functions of the program say, as relations. -/
namespace Go.E
open Go
def task_S (t0Tx : Int) (t0State : Int) (t0Reason : Int) (t0Seq : Int) (t0Open : Bool) (t0Shard : Int) (t0At : (Nat → Int)) (t0Mode : Int) (t0Touched : (List Int)) (t0Votes : (List Int)) (t0Acks : (List Int)) (t0Got : (List (Nat → Int))) (shard1 : Int) (at2 : (Nat → Int)) (m3 : Int) (r : (Int × Int × Int × Int × Bool × Int × (Nat → Int) × Int × (List Int) × (List Int) × (List Int) × (List (Nat → Int))) × (List (Nat → Int)) × Int) : Prop :=
  if (((((decide (shard1 < 1)) || (decide (64 < shard1))) || (!((resOk_F at2)))) || (decide (m3 < 1))) || (decide (4 < m3))) = true then
    (own_P t0Tx t0State t0Reason t0Seq t0Open t0Shard t0At t0Mode t0Touched t0Votes t0Acks t0Got) ∧ (
    r = (((t0Tx, t0State, t0Reason, t0Seq, t0Open, t0Shard, t0At, t0Mode, t0Touched, t0Votes, t0Acks, t0Got), [], 1)))
  else
    if (tfree_F t0Tx t0State t0Reason t0Seq t0Open t0Shard t0At t0Mode t0Touched t0Votes t0Acks t0Got) = 0 then
      if t0Seq = 1048576 then
        (own_P t0Tx t0State t0Reason t0Seq t0Open t0Shard t0At t0Mode t0Touched t0Votes t0Acks t0Got) ∧ (
        r = (((t0Tx, t0State, t0Reason, t0Seq, t0Open, t0Shard, t0At, t0Mode, t0Touched, t0Votes, t0Acks, t0Got), [], 6)))
      else
        (own_P t0Tx t0State t0Reason t0Seq t0Open t0Shard t0At t0Mode t0Touched t0Votes t0Acks t0Got) ∧ (
        (inI64 (t0Seq + 1)) ∧ (
        (search_P t0Touched shard1) ∧ (
        if ((search_F t0Touched shard1).2) = true then
          r = (((t0Tx, t0State, t0Reason, t0Seq + 1, true, shard1, at2, m3, t0Touched, t0Votes, t0Acks, t0Got), [(tlock_F t0Tx t0State t0Reason (t0Seq + 1) true shard1 at2 m3 t0Touched t0Votes t0Acks t0Got)], 0))
        else
          (cloneI_P t0Touched) ∧ (
          (0 ≤ (search_F t0Touched shard1).1 ∧ (search_F t0Touched shard1).1 ≤ ((cloneI_F t0Touched).length : Int)) ∧ (
          (sortP (cloneI_F t0Touched)) ∧ (
          r = (((t0Tx, t0State, t0Reason, t0Seq + 1, true, shard1, at2, m3, (insL1 (cloneI_F t0Touched) ((search_F t0Touched shard1).1).toNat shard1), t0Votes, t0Acks, t0Got), [(tlock_F t0Tx t0State t0Reason (t0Seq + 1) true shard1 at2 m3 (insL1 (cloneI_F t0Touched) ((search_F t0Touched shard1).1).toNat shard1) t0Votes t0Acks t0Got)], 0))))))))
    else
      (own_P t0Tx t0State t0Reason t0Seq t0Open t0Shard t0At t0Mode t0Touched t0Votes t0Acks t0Got) ∧ (
      r = (((t0Tx, t0State, t0Reason, t0Seq, t0Open, t0Shard, t0At, t0Mode, t0Touched, t0Votes, t0Acks, t0Got), [], (tfree_F t0Tx t0State t0Reason t0Seq t0Open t0Shard t0At t0Mode t0Touched t0Votes t0Acks t0Got))))
def task_F (t0Tx : Int) (t0State : Int) (t0Reason : Int) (t0Seq : Int) (t0Open : Bool) (t0Shard : Int) (t0At : (Nat → Int)) (t0Mode : Int) (t0Touched : (List Int)) (t0Votes : (List Int)) (t0Acks : (List Int)) (t0Got : (List (Nat → Int))) (shard1 : Int) (at2 : (Nat → Int)) (m3 : Int) : (Int × Int × Int × Int × Bool × Int × (Nat → Int) × Int × (List Int) × (List Int) × (List Int) × (List (Nat → Int))) × (List (Nat → Int)) × Int :=
  if (((((decide (shard1 < 1)) || (decide (64 < shard1))) || (!((resOk_F at2)))) || (decide (m3 < 1))) || (decide (4 < m3))) = true then
    ((t0Tx, t0State, t0Reason, t0Seq, t0Open, t0Shard, t0At, t0Mode, t0Touched, t0Votes, t0Acks, t0Got), [], 1)
  else
    if (tfree_F t0Tx t0State t0Reason t0Seq t0Open t0Shard t0At t0Mode t0Touched t0Votes t0Acks t0Got) = 0 then
      if t0Seq = 1048576 then
        ((t0Tx, t0State, t0Reason, t0Seq, t0Open, t0Shard, t0At, t0Mode, t0Touched, t0Votes, t0Acks, t0Got), [], 6)
      else
        if ((search_F t0Touched shard1).2) = true then
          ((t0Tx, t0State, t0Reason, t0Seq + 1, true, shard1, at2, m3, t0Touched, t0Votes, t0Acks, t0Got), [(tlock_F t0Tx t0State t0Reason (t0Seq + 1) true shard1 at2 m3 t0Touched t0Votes t0Acks t0Got)], 0)
        else
          ((t0Tx, t0State, t0Reason, t0Seq + 1, true, shard1, at2, m3, (insL1 (cloneI_F t0Touched) ((search_F t0Touched shard1).1).toNat shard1), t0Votes, t0Acks, t0Got), [(tlock_F t0Tx t0State t0Reason (t0Seq + 1) true shard1 at2 m3 (insL1 (cloneI_F t0Touched) ((search_F t0Touched shard1).1).toNat shard1) t0Votes t0Acks t0Got)], 0)
    else
      ((t0Tx, t0State, t0Reason, t0Seq, t0Open, t0Shard, t0At, t0Mode, t0Touched, t0Votes, t0Acks, t0Got), [], (tfree_F t0Tx t0State t0Reason t0Seq t0Open t0Shard t0At t0Mode t0Touched t0Votes t0Acks t0Got))
def task_P (t0Tx : Int) (t0State : Int) (t0Reason : Int) (t0Seq : Int) (t0Open : Bool) (t0Shard : Int) (t0At : (Nat → Int)) (t0Mode : Int) (t0Touched : (List Int)) (t0Votes : (List Int)) (t0Acks : (List Int)) (t0Got : (List (Nat → Int))) (shard1 : Int) (at2 : (Nat → Int)) (m3 : Int) : Prop :=
  if (((((decide (shard1 < 1)) || (decide (64 < shard1))) || (!((resOk_F at2)))) || (decide (m3 < 1))) || (decide (4 < m3))) = true then
    (own_P t0Tx t0State t0Reason t0Seq t0Open t0Shard t0At t0Mode t0Touched t0Votes t0Acks t0Got) ∧ (
    True)
  else
    if (tfree_F t0Tx t0State t0Reason t0Seq t0Open t0Shard t0At t0Mode t0Touched t0Votes t0Acks t0Got) = 0 then
      if t0Seq = 1048576 then
        (own_P t0Tx t0State t0Reason t0Seq t0Open t0Shard t0At t0Mode t0Touched t0Votes t0Acks t0Got) ∧ (
        True)
      else
        (own_P t0Tx t0State t0Reason t0Seq t0Open t0Shard t0At t0Mode t0Touched t0Votes t0Acks t0Got) ∧ (
        (inI64 (t0Seq + 1)) ∧ (
        (search_P t0Touched shard1) ∧ (
        if ((search_F t0Touched shard1).2) = true then
          True
        else
          (cloneI_P t0Touched) ∧ (
          (0 ≤ (search_F t0Touched shard1).1 ∧ (search_F t0Touched shard1).1 ≤ ((cloneI_F t0Touched).length : Int)) ∧ (
          (sortP (cloneI_F t0Touched)) ∧ (
          True))))))
    else
      (own_P t0Tx t0State t0Reason t0Seq t0Open t0Shard t0At t0Mode t0Touched t0Votes t0Acks t0Got) ∧ (
      True)
theorem task_ok (t0Tx : Int) (t0State : Int) (t0Reason : Int) (t0Seq : Int) (t0Open : Bool) (t0Shard : Int) (t0At : (Nat → Int)) (t0Mode : Int) (t0Touched : (List Int)) (t0Votes : (List Int)) (t0Acks : (List Int)) (t0Got : (List (Nat → Int))) (shard1 : Int) (at2 : (Nat → Int)) (m3 : Int) (hP : task_P t0Tx t0State t0Reason t0Seq t0Open t0Shard t0At t0Mode t0Touched t0Votes t0Acks t0Got shard1 at2 m3) : task_S t0Tx t0State t0Reason t0Seq t0Open t0Shard t0At t0Mode t0Touched t0Votes t0Acks t0Got shard1 at2 m3 (task_F t0Tx t0State t0Reason t0Seq t0Open t0Shard t0At t0Mode t0Touched t0Votes t0Acks t0Got shard1 at2 m3) := by
  obtain ⟨r, hr⟩ : ∃ r, r = task_F t0Tx t0State t0Reason t0Seq t0Open t0Shard t0At t0Mode t0Touched t0Votes t0Acks t0Got shard1 at2 m3 := ⟨_, rfl⟩
  rw [← hr]
  unfold task_F at hr
  unfold task_S
  unfold task_P at hP
  by_cases hp22 : (((((decide (shard1 < 1)) || (decide (64 < shard1))) || (!((resOk_F at2)))) || (decide (m3 < 1))) || (decide (4 < m3))) = true
  · rw [if_pos hp22] at hr hP ⊢
    obtain ⟨hq0, hP⟩ := hP
    refine ⟨hq0, ?_⟩
    exact hr
  · rw [if_neg hp22] at hr hP ⊢
    by_cases hp23 : (tfree_F t0Tx t0State t0Reason t0Seq t0Open t0Shard t0At t0Mode t0Touched t0Votes t0Acks t0Got) = 0
    · rw [if_pos hp23] at hr hP ⊢
      by_cases hp24 : t0Seq = 1048576
      · rw [if_pos hp24] at hr hP ⊢
        obtain ⟨hq0, hP⟩ := hP
        refine ⟨hq0, ?_⟩
        exact hr
      · rw [if_neg hp24] at hr hP ⊢
        obtain ⟨hq0, hP⟩ := hP
        refine ⟨hq0, ?_⟩
        obtain ⟨hq0, hP⟩ := hP
        refine ⟨hq0, ?_⟩
        obtain ⟨hq0, hP⟩ := hP
        refine ⟨hq0, ?_⟩
        by_cases hp25 : ((search_F t0Touched shard1).2) = true
        · rw [if_pos hp25] at hr hP ⊢
          exact hr
        · rw [if_neg hp25] at hr hP ⊢
          obtain ⟨hq0, hP⟩ := hP
          refine ⟨hq0, ?_⟩
          obtain ⟨hq0, hP⟩ := hP
          refine ⟨hq0, ?_⟩
          obtain ⟨hq0, hP⟩ := hP
          refine ⟨hq0, ?_⟩
          exact hr
    · rw [if_neg hp23] at hr hP ⊢
      obtain ⟨hq0, hP⟩ := hP
      refine ⟨hq0, ?_⟩
      exact hr
def tanswered_S (t0Tx : Int) (t0State : Int) (t0Reason : Int) (t0Seq : Int) (t0Open : Bool) (t0Shard : Int) (t0At : (Nat → Int)) (t0Mode : Int) (t0Touched : (List Int)) (t0Votes : (List Int)) (t0Acks : (List Int)) (t0Got : (List (Nat → Int))) (m1 : (Nat → Int)) (r : (Int × Int × Int × Int × Bool × Int × (Nat → Int) × Int × (List Int) × (List Int) × (List Int) × (List (Nat → Int))) × Int) : Prop :=
  (own_P t0Tx t0State t0Reason t0Seq t0Open t0Shard t0At t0Mode t0Touched t0Votes t0Acks t0Got) ∧ (
  (tform_P t0Tx t0State t0Reason t0Seq t0Open t0Shard t0At t0Mode t0Touched t0Votes t0Acks t0Got m1 ([2, 3])) ∧ (
  if (tform_F t0Tx t0State t0Reason t0Seq t0Open t0Shard t0At t0Mode t0Touched t0Votes t0Acks t0Got m1 ([2, 3])) = 0 then
    if t0State = 1 then
      if ((((!(t0Open)) || (!(decide (m1 4 = t0Seq)))) || (!(decide (m1 1 = t0Shard)))) || ((decide (m1 0 = 2)) && (!((eqN 2 (fun i => m1 (5 + i)) t0At))))) = true then
        r = (((t0Tx, t0State, t0Reason, t0Seq, t0Open, t0Shard, t0At, t0Mode, t0Touched, t0Votes, t0Acks, t0Got), 14))
      else
        if m1 0 = 2 then
          ((t0Got.length + 1) * 40 ≤ 140737488355328) ∧ (
          r = (((t0Tx, t0State, t0Reason, t0Seq, false, t0Shard, t0At, t0Mode, t0Touched, t0Votes, t0Acks, (t0Got ++ [(updI (updRI (updI (updI (fun _ => 0) 0 (m1 3)) 1 (m1 4)) 2 2 (fun i => m1 (5 + i))) 4 (m1 7))])), 0)))
        else
          r = (((t0Tx, t0State, t0Reason, t0Seq, false, t0Shard, t0At, t0Mode, t0Touched, t0Votes, t0Acks, t0Got), 0))
    else
      r = (((t0Tx, t0State, t0Reason, t0Seq, t0Open, t0Shard, t0At, t0Mode, t0Touched, t0Votes, t0Acks, t0Got), 11))
  else
    r = (((t0Tx, t0State, t0Reason, t0Seq, t0Open, t0Shard, t0At, t0Mode, t0Touched, t0Votes, t0Acks, t0Got), (tform_F t0Tx t0State t0Reason t0Seq t0Open t0Shard t0At t0Mode t0Touched t0Votes t0Acks t0Got m1 ([2, 3]))))))
def tanswered_F (t0Tx : Int) (t0State : Int) (t0Reason : Int) (t0Seq : Int) (t0Open : Bool) (t0Shard : Int) (t0At : (Nat → Int)) (t0Mode : Int) (t0Touched : (List Int)) (t0Votes : (List Int)) (t0Acks : (List Int)) (t0Got : (List (Nat → Int))) (m1 : (Nat → Int)) : (Int × Int × Int × Int × Bool × Int × (Nat → Int) × Int × (List Int) × (List Int) × (List Int) × (List (Nat → Int))) × Int :=
  if (tform_F t0Tx t0State t0Reason t0Seq t0Open t0Shard t0At t0Mode t0Touched t0Votes t0Acks t0Got m1 ([2, 3])) = 0 then
    if t0State = 1 then
      if ((((!(t0Open)) || (!(decide (m1 4 = t0Seq)))) || (!(decide (m1 1 = t0Shard)))) || ((decide (m1 0 = 2)) && (!((eqN 2 (fun i => m1 (5 + i)) t0At))))) = true then
        ((t0Tx, t0State, t0Reason, t0Seq, t0Open, t0Shard, t0At, t0Mode, t0Touched, t0Votes, t0Acks, t0Got), 14)
      else
        if m1 0 = 2 then
          ((t0Tx, t0State, t0Reason, t0Seq, false, t0Shard, t0At, t0Mode, t0Touched, t0Votes, t0Acks, (t0Got ++ [(updI (updRI (updI (updI (fun _ => 0) 0 (m1 3)) 1 (m1 4)) 2 2 (fun i => m1 (5 + i))) 4 (m1 7))])), 0)
        else
          ((t0Tx, t0State, t0Reason, t0Seq, false, t0Shard, t0At, t0Mode, t0Touched, t0Votes, t0Acks, t0Got), 0)
    else
      ((t0Tx, t0State, t0Reason, t0Seq, t0Open, t0Shard, t0At, t0Mode, t0Touched, t0Votes, t0Acks, t0Got), 11)
  else
    ((t0Tx, t0State, t0Reason, t0Seq, t0Open, t0Shard, t0At, t0Mode, t0Touched, t0Votes, t0Acks, t0Got), (tform_F t0Tx t0State t0Reason t0Seq t0Open t0Shard t0At t0Mode t0Touched t0Votes t0Acks t0Got m1 ([2, 3])))
def tanswered_P (t0Tx : Int) (t0State : Int) (t0Reason : Int) (t0Seq : Int) (t0Open : Bool) (t0Shard : Int) (t0At : (Nat → Int)) (t0Mode : Int) (t0Touched : (List Int)) (t0Votes : (List Int)) (t0Acks : (List Int)) (t0Got : (List (Nat → Int))) (m1 : (Nat → Int)) : Prop :=
  (own_P t0Tx t0State t0Reason t0Seq t0Open t0Shard t0At t0Mode t0Touched t0Votes t0Acks t0Got) ∧ (
  (tform_P t0Tx t0State t0Reason t0Seq t0Open t0Shard t0At t0Mode t0Touched t0Votes t0Acks t0Got m1 ([2, 3])) ∧ (
  if (tform_F t0Tx t0State t0Reason t0Seq t0Open t0Shard t0At t0Mode t0Touched t0Votes t0Acks t0Got m1 ([2, 3])) = 0 then
    if t0State = 1 then
      if ((((!(t0Open)) || (!(decide (m1 4 = t0Seq)))) || (!(decide (m1 1 = t0Shard)))) || ((decide (m1 0 = 2)) && (!((eqN 2 (fun i => m1 (5 + i)) t0At))))) = true then
        True
      else
        if m1 0 = 2 then
          ((t0Got.length + 1) * 40 ≤ 140737488355328) ∧ (
          True)
        else
          True
    else
      True
  else
    True))
theorem tanswered_ok (t0Tx : Int) (t0State : Int) (t0Reason : Int) (t0Seq : Int) (t0Open : Bool) (t0Shard : Int) (t0At : (Nat → Int)) (t0Mode : Int) (t0Touched : (List Int)) (t0Votes : (List Int)) (t0Acks : (List Int)) (t0Got : (List (Nat → Int))) (m1 : (Nat → Int)) (hP : tanswered_P t0Tx t0State t0Reason t0Seq t0Open t0Shard t0At t0Mode t0Touched t0Votes t0Acks t0Got m1) : tanswered_S t0Tx t0State t0Reason t0Seq t0Open t0Shard t0At t0Mode t0Touched t0Votes t0Acks t0Got m1 (tanswered_F t0Tx t0State t0Reason t0Seq t0Open t0Shard t0At t0Mode t0Touched t0Votes t0Acks t0Got m1) := by
  obtain ⟨r, hr⟩ : ∃ r, r = tanswered_F t0Tx t0State t0Reason t0Seq t0Open t0Shard t0At t0Mode t0Touched t0Votes t0Acks t0Got m1 := ⟨_, rfl⟩
  rw [← hr]
  unfold tanswered_F at hr
  unfold tanswered_S
  unfold tanswered_P at hP
  obtain ⟨hq0, hP⟩ := hP
  refine ⟨hq0, ?_⟩
  obtain ⟨hq0, hP⟩ := hP
  refine ⟨hq0, ?_⟩
  by_cases hp26 : (tform_F t0Tx t0State t0Reason t0Seq t0Open t0Shard t0At t0Mode t0Touched t0Votes t0Acks t0Got m1 ([2, 3])) = 0
  · rw [if_pos hp26] at hr hP ⊢
    by_cases hp27 : t0State = 1
    · rw [if_pos hp27] at hr hP ⊢
      by_cases hp28 : ((((!(t0Open)) || (!(decide (m1 4 = t0Seq)))) || (!(decide (m1 1 = t0Shard)))) || ((decide (m1 0 = 2)) && (!((eqN 2 (fun i => m1 (5 + i)) t0At))))) = true
      · rw [if_pos hp28] at hr hP ⊢
        exact hr
      · rw [if_neg hp28] at hr hP ⊢
        by_cases hp29 : m1 0 = 2
        · rw [if_pos hp29] at hr hP ⊢
          obtain ⟨hq0, hP⟩ := hP
          refine ⟨hq0, ?_⟩
          exact hr
        · rw [if_neg hp29] at hr hP ⊢
          exact hr
    · rw [if_neg hp27] at hr hP ⊢
      exact hr
  · rw [if_neg hp26] at hr hP ⊢
    exact hr
end Go.E
/- What functions of the program say, as relations. -/
namespace Go.E
open Go
def tfinish_S (t0Tx : Int) (t0State : Int) (t0Reason : Int) (t0Seq : Int) (t0Open : Bool) (t0Shard : Int) (t0At : (Nat → Int)) (t0Mode : Int) (t0Touched : (List Int)) (t0Votes : (List Int)) (t0Acks : (List Int)) (t0Got : (List (Nat → Int))) (r : (Int × Int × Int × Int × Bool × Int × (Nat → Int) × Int × (List Int) × (List Int) × (List Int) × (List (Nat → Int))) × (List (Nat → Int)) × Int) : Prop :=
  (own_P t0Tx t0State t0Reason t0Seq t0Open t0Shard t0At t0Mode t0Touched t0Votes t0Acks t0Got) ∧ (
  if (tfree_F t0Tx t0State t0Reason t0Seq t0Open t0Shard t0At t0Mode t0Touched t0Votes t0Acks t0Got) = 0 then
    if (t0Touched.length : Int) = 0 then
      (tdecision_P t0Tx 3 0 t0Seq false t0Shard t0At t0Mode t0Touched t0Votes t0Acks t0Got t0Touched) ∧ (
      r = (((t0Tx, 3, 0, t0Seq, false, t0Shard, t0At, t0Mode, t0Touched, t0Votes, t0Acks, t0Got), (tdecision_F t0Tx 3 0 t0Seq false t0Shard t0At t0Mode t0Touched t0Votes t0Acks t0Got t0Touched), 0)))
    else
      (tto_P t0Tx 2 t0Reason t0Seq t0Open t0Shard t0At t0Mode t0Touched t0Votes t0Acks t0Got 4 0 t0Touched) ∧ (
      r = (((t0Tx, 2, t0Reason, t0Seq, t0Open, t0Shard, t0At, t0Mode, t0Touched, t0Votes, t0Acks, t0Got), (tto_F t0Tx 2 t0Reason t0Seq t0Open t0Shard t0At t0Mode t0Touched t0Votes t0Acks t0Got 4 0 t0Touched), 0)))
  else
    r = (((t0Tx, t0State, t0Reason, t0Seq, t0Open, t0Shard, t0At, t0Mode, t0Touched, t0Votes, t0Acks, t0Got), [], (tfree_F t0Tx t0State t0Reason t0Seq t0Open t0Shard t0At t0Mode t0Touched t0Votes t0Acks t0Got))))
def tfinish_F (t0Tx : Int) (t0State : Int) (t0Reason : Int) (t0Seq : Int) (t0Open : Bool) (t0Shard : Int) (t0At : (Nat → Int)) (t0Mode : Int) (t0Touched : (List Int)) (t0Votes : (List Int)) (t0Acks : (List Int)) (t0Got : (List (Nat → Int))) : (Int × Int × Int × Int × Bool × Int × (Nat → Int) × Int × (List Int) × (List Int) × (List Int) × (List (Nat → Int))) × (List (Nat → Int)) × Int :=
  if (tfree_F t0Tx t0State t0Reason t0Seq t0Open t0Shard t0At t0Mode t0Touched t0Votes t0Acks t0Got) = 0 then
    if (t0Touched.length : Int) = 0 then
      ((t0Tx, 3, 0, t0Seq, false, t0Shard, t0At, t0Mode, t0Touched, t0Votes, t0Acks, t0Got), (tdecision_F t0Tx 3 0 t0Seq false t0Shard t0At t0Mode t0Touched t0Votes t0Acks t0Got t0Touched), 0)
    else
      ((t0Tx, 2, t0Reason, t0Seq, t0Open, t0Shard, t0At, t0Mode, t0Touched, t0Votes, t0Acks, t0Got), (tto_F t0Tx 2 t0Reason t0Seq t0Open t0Shard t0At t0Mode t0Touched t0Votes t0Acks t0Got 4 0 t0Touched), 0)
  else
    ((t0Tx, t0State, t0Reason, t0Seq, t0Open, t0Shard, t0At, t0Mode, t0Touched, t0Votes, t0Acks, t0Got), [], (tfree_F t0Tx t0State t0Reason t0Seq t0Open t0Shard t0At t0Mode t0Touched t0Votes t0Acks t0Got))
def tfinish_P (t0Tx : Int) (t0State : Int) (t0Reason : Int) (t0Seq : Int) (t0Open : Bool) (t0Shard : Int) (t0At : (Nat → Int)) (t0Mode : Int) (t0Touched : (List Int)) (t0Votes : (List Int)) (t0Acks : (List Int)) (t0Got : (List (Nat → Int))) : Prop :=
  (own_P t0Tx t0State t0Reason t0Seq t0Open t0Shard t0At t0Mode t0Touched t0Votes t0Acks t0Got) ∧ (
  if (tfree_F t0Tx t0State t0Reason t0Seq t0Open t0Shard t0At t0Mode t0Touched t0Votes t0Acks t0Got) = 0 then
    if (t0Touched.length : Int) = 0 then
      (tdecision_P t0Tx 3 0 t0Seq false t0Shard t0At t0Mode t0Touched t0Votes t0Acks t0Got t0Touched) ∧ (
      True)
    else
      (tto_P t0Tx 2 t0Reason t0Seq t0Open t0Shard t0At t0Mode t0Touched t0Votes t0Acks t0Got 4 0 t0Touched) ∧ (
      True)
  else
    True)
theorem tfinish_ok (t0Tx : Int) (t0State : Int) (t0Reason : Int) (t0Seq : Int) (t0Open : Bool) (t0Shard : Int) (t0At : (Nat → Int)) (t0Mode : Int) (t0Touched : (List Int)) (t0Votes : (List Int)) (t0Acks : (List Int)) (t0Got : (List (Nat → Int))) (hP : tfinish_P t0Tx t0State t0Reason t0Seq t0Open t0Shard t0At t0Mode t0Touched t0Votes t0Acks t0Got) : tfinish_S t0Tx t0State t0Reason t0Seq t0Open t0Shard t0At t0Mode t0Touched t0Votes t0Acks t0Got (tfinish_F t0Tx t0State t0Reason t0Seq t0Open t0Shard t0At t0Mode t0Touched t0Votes t0Acks t0Got) := by
  obtain ⟨r, hr⟩ : ∃ r, r = tfinish_F t0Tx t0State t0Reason t0Seq t0Open t0Shard t0At t0Mode t0Touched t0Votes t0Acks t0Got := ⟨_, rfl⟩
  rw [← hr]
  unfold tfinish_F at hr
  unfold tfinish_S
  unfold tfinish_P at hP
  obtain ⟨hq0, hP⟩ := hP
  refine ⟨hq0, ?_⟩
  by_cases hp30 : (tfree_F t0Tx t0State t0Reason t0Seq t0Open t0Shard t0At t0Mode t0Touched t0Votes t0Acks t0Got) = 0
  · rw [if_pos hp30] at hr hP ⊢
    by_cases hp31 : (t0Touched.length : Int) = 0
    · rw [if_pos hp31] at hr hP ⊢
      obtain ⟨hq0, hP⟩ := hP
      refine ⟨hq0, ?_⟩
      exact hr
    · rw [if_neg hp31] at hr hP ⊢
      obtain ⟨hq0, hP⟩ := hP
      refine ⟨hq0, ?_⟩
      exact hr
  · rw [if_neg hp30] at hr hP ⊢
    exact hr
def tvote_S (t0Tx : Int) (t0State : Int) (t0Reason : Int) (t0Seq : Int) (t0Open : Bool) (t0Shard : Int) (t0At : (Nat → Int)) (t0Mode : Int) (t0Touched : (List Int)) (t0Votes : (List Int)) (t0Acks : (List Int)) (t0Got : (List (Nat → Int))) (m1 : (Nat → Int)) (r : (Int × Int × Int × Int × Bool × Int × (Nat → Int) × Int × (List Int) × (List Int) × (List Int) × (List (Nat → Int))) × (List (Nat → Int)) × Int) : Prop :=
  (own_P t0Tx t0State t0Reason t0Seq t0Open t0Shard t0At t0Mode t0Touched t0Votes t0Acks t0Got) ∧ (
  (tfrom_P t0Tx t0State t0Reason t0Seq t0Open t0Shard t0At t0Mode t0Touched t0Votes t0Acks t0Got m1 5 (decide (t0State = 2))) ∧ (
  if (tfrom_F t0Tx t0State t0Reason t0Seq t0Open t0Shard t0At t0Mode t0Touched t0Votes t0Acks t0Got m1 5 (decide (t0State = 2))) = 0 then
    if m1 8 = 0 then
      (tdecision_P t0Tx 4 2 t0Seq false t0Shard t0At t0Mode t0Touched t0Votes t0Acks t0Got t0Touched) ∧ (
      r = (((t0Tx, 4, 2, t0Seq, false, t0Shard, t0At, t0Mode, t0Touched, t0Votes, t0Acks, t0Got), (tdecision_F t0Tx 4 2 t0Seq false t0Shard t0At t0Mode t0Touched t0Votes t0Acks t0Got t0Touched), 0)))
    else
      (search_P t0Votes (m1 1)) ∧ (
      if ((search_F t0Votes (m1 1)).2) = true then
        if (t0Votes.length : Int) < (t0Touched.length : Int) then
          r = (((t0Tx, t0State, t0Reason, t0Seq, t0Open, t0Shard, t0At, t0Mode, t0Touched, t0Votes, t0Acks, t0Got), [], 0))
        else
          (tdecision_P t0Tx 3 0 t0Seq false t0Shard t0At t0Mode t0Touched t0Votes t0Acks t0Got t0Touched) ∧ (
          r = (((t0Tx, 3, 0, t0Seq, false, t0Shard, t0At, t0Mode, t0Touched, t0Votes, t0Acks, t0Got), (tdecision_F t0Tx 3 0 t0Seq false t0Shard t0At t0Mode t0Touched t0Votes t0Acks t0Got t0Touched), 0)))
      else
        (cloneI_P t0Votes) ∧ (
        (0 ≤ (search_F t0Votes (m1 1)).1 ∧ (search_F t0Votes (m1 1)).1 ≤ ((cloneI_F t0Votes).length : Int)) ∧ (
        (sortP (cloneI_F t0Votes)) ∧ (
        if ((insL1 (cloneI_F t0Votes) ((search_F t0Votes (m1 1)).1).toNat (m1 1)).length : Int) < (t0Touched.length : Int) then
          r = (((t0Tx, t0State, t0Reason, t0Seq, t0Open, t0Shard, t0At, t0Mode, t0Touched, (insL1 (cloneI_F t0Votes) ((search_F t0Votes (m1 1)).1).toNat (m1 1)), t0Acks, t0Got), [], 0))
        else
          (tdecision_P t0Tx 3 0 t0Seq false t0Shard t0At t0Mode t0Touched (insL1 (cloneI_F t0Votes) ((search_F t0Votes (m1 1)).1).toNat (m1 1)) t0Acks t0Got t0Touched) ∧ (
          r = (((t0Tx, 3, 0, t0Seq, false, t0Shard, t0At, t0Mode, t0Touched, (insL1 (cloneI_F t0Votes) ((search_F t0Votes (m1 1)).1).toNat (m1 1)), t0Acks, t0Got), (tdecision_F t0Tx 3 0 t0Seq false t0Shard t0At t0Mode t0Touched (insL1 (cloneI_F t0Votes) ((search_F t0Votes (m1 1)).1).toNat (m1 1)) t0Acks t0Got t0Touched), 0)))))))
  else
    r = (((t0Tx, t0State, t0Reason, t0Seq, t0Open, t0Shard, t0At, t0Mode, t0Touched, t0Votes, t0Acks, t0Got), [], (tfrom_F t0Tx t0State t0Reason t0Seq t0Open t0Shard t0At t0Mode t0Touched t0Votes t0Acks t0Got m1 5 (decide (t0State = 2)))))))
def tvote_F (t0Tx : Int) (t0State : Int) (t0Reason : Int) (t0Seq : Int) (t0Open : Bool) (t0Shard : Int) (t0At : (Nat → Int)) (t0Mode : Int) (t0Touched : (List Int)) (t0Votes : (List Int)) (t0Acks : (List Int)) (t0Got : (List (Nat → Int))) (m1 : (Nat → Int)) : (Int × Int × Int × Int × Bool × Int × (Nat → Int) × Int × (List Int) × (List Int) × (List Int) × (List (Nat → Int))) × (List (Nat → Int)) × Int :=
  if (tfrom_F t0Tx t0State t0Reason t0Seq t0Open t0Shard t0At t0Mode t0Touched t0Votes t0Acks t0Got m1 5 (decide (t0State = 2))) = 0 then
    if m1 8 = 0 then
      ((t0Tx, 4, 2, t0Seq, false, t0Shard, t0At, t0Mode, t0Touched, t0Votes, t0Acks, t0Got), (tdecision_F t0Tx 4 2 t0Seq false t0Shard t0At t0Mode t0Touched t0Votes t0Acks t0Got t0Touched), 0)
    else
      if ((search_F t0Votes (m1 1)).2) = true then
        if (t0Votes.length : Int) < (t0Touched.length : Int) then
          ((t0Tx, t0State, t0Reason, t0Seq, t0Open, t0Shard, t0At, t0Mode, t0Touched, t0Votes, t0Acks, t0Got), [], 0)
        else
          ((t0Tx, 3, 0, t0Seq, false, t0Shard, t0At, t0Mode, t0Touched, t0Votes, t0Acks, t0Got), (tdecision_F t0Tx 3 0 t0Seq false t0Shard t0At t0Mode t0Touched t0Votes t0Acks t0Got t0Touched), 0)
      else
        if ((insL1 (cloneI_F t0Votes) ((search_F t0Votes (m1 1)).1).toNat (m1 1)).length : Int) < (t0Touched.length : Int) then
          ((t0Tx, t0State, t0Reason, t0Seq, t0Open, t0Shard, t0At, t0Mode, t0Touched, (insL1 (cloneI_F t0Votes) ((search_F t0Votes (m1 1)).1).toNat (m1 1)), t0Acks, t0Got), [], 0)
        else
          ((t0Tx, 3, 0, t0Seq, false, t0Shard, t0At, t0Mode, t0Touched, (insL1 (cloneI_F t0Votes) ((search_F t0Votes (m1 1)).1).toNat (m1 1)), t0Acks, t0Got), (tdecision_F t0Tx 3 0 t0Seq false t0Shard t0At t0Mode t0Touched (insL1 (cloneI_F t0Votes) ((search_F t0Votes (m1 1)).1).toNat (m1 1)) t0Acks t0Got t0Touched), 0)
  else
    ((t0Tx, t0State, t0Reason, t0Seq, t0Open, t0Shard, t0At, t0Mode, t0Touched, t0Votes, t0Acks, t0Got), [], (tfrom_F t0Tx t0State t0Reason t0Seq t0Open t0Shard t0At t0Mode t0Touched t0Votes t0Acks t0Got m1 5 (decide (t0State = 2))))
def tvote_P (t0Tx : Int) (t0State : Int) (t0Reason : Int) (t0Seq : Int) (t0Open : Bool) (t0Shard : Int) (t0At : (Nat → Int)) (t0Mode : Int) (t0Touched : (List Int)) (t0Votes : (List Int)) (t0Acks : (List Int)) (t0Got : (List (Nat → Int))) (m1 : (Nat → Int)) : Prop :=
  (own_P t0Tx t0State t0Reason t0Seq t0Open t0Shard t0At t0Mode t0Touched t0Votes t0Acks t0Got) ∧ (
  (tfrom_P t0Tx t0State t0Reason t0Seq t0Open t0Shard t0At t0Mode t0Touched t0Votes t0Acks t0Got m1 5 (decide (t0State = 2))) ∧ (
  if (tfrom_F t0Tx t0State t0Reason t0Seq t0Open t0Shard t0At t0Mode t0Touched t0Votes t0Acks t0Got m1 5 (decide (t0State = 2))) = 0 then
    if m1 8 = 0 then
      (tdecision_P t0Tx 4 2 t0Seq false t0Shard t0At t0Mode t0Touched t0Votes t0Acks t0Got t0Touched) ∧ (
      True)
    else
      (search_P t0Votes (m1 1)) ∧ (
      if ((search_F t0Votes (m1 1)).2) = true then
        if (t0Votes.length : Int) < (t0Touched.length : Int) then
          True
        else
          (tdecision_P t0Tx 3 0 t0Seq false t0Shard t0At t0Mode t0Touched t0Votes t0Acks t0Got t0Touched) ∧ (
          True)
      else
        (cloneI_P t0Votes) ∧ (
        (0 ≤ (search_F t0Votes (m1 1)).1 ∧ (search_F t0Votes (m1 1)).1 ≤ ((cloneI_F t0Votes).length : Int)) ∧ (
        (sortP (cloneI_F t0Votes)) ∧ (
        if ((insL1 (cloneI_F t0Votes) ((search_F t0Votes (m1 1)).1).toNat (m1 1)).length : Int) < (t0Touched.length : Int) then
          True
        else
          (tdecision_P t0Tx 3 0 t0Seq false t0Shard t0At t0Mode t0Touched (insL1 (cloneI_F t0Votes) ((search_F t0Votes (m1 1)).1).toNat (m1 1)) t0Acks t0Got t0Touched) ∧ (
          True)))))
  else
    True))
theorem tvote_ok (t0Tx : Int) (t0State : Int) (t0Reason : Int) (t0Seq : Int) (t0Open : Bool) (t0Shard : Int) (t0At : (Nat → Int)) (t0Mode : Int) (t0Touched : (List Int)) (t0Votes : (List Int)) (t0Acks : (List Int)) (t0Got : (List (Nat → Int))) (m1 : (Nat → Int)) (hP : tvote_P t0Tx t0State t0Reason t0Seq t0Open t0Shard t0At t0Mode t0Touched t0Votes t0Acks t0Got m1) : tvote_S t0Tx t0State t0Reason t0Seq t0Open t0Shard t0At t0Mode t0Touched t0Votes t0Acks t0Got m1 (tvote_F t0Tx t0State t0Reason t0Seq t0Open t0Shard t0At t0Mode t0Touched t0Votes t0Acks t0Got m1) := by
  obtain ⟨r, hr⟩ : ∃ r, r = tvote_F t0Tx t0State t0Reason t0Seq t0Open t0Shard t0At t0Mode t0Touched t0Votes t0Acks t0Got m1 := ⟨_, rfl⟩
  rw [← hr]
  unfold tvote_F at hr
  unfold tvote_S
  unfold tvote_P at hP
  obtain ⟨hq0, hP⟩ := hP
  refine ⟨hq0, ?_⟩
  obtain ⟨hq0, hP⟩ := hP
  refine ⟨hq0, ?_⟩
  by_cases hp32 : (tfrom_F t0Tx t0State t0Reason t0Seq t0Open t0Shard t0At t0Mode t0Touched t0Votes t0Acks t0Got m1 5 (decide (t0State = 2))) = 0
  · rw [if_pos hp32] at hr hP ⊢
    by_cases hp33 : m1 8 = 0
    · rw [if_pos hp33] at hr hP ⊢
      obtain ⟨hq0, hP⟩ := hP
      refine ⟨hq0, ?_⟩
      exact hr
    · rw [if_neg hp33] at hr hP ⊢
      obtain ⟨hq0, hP⟩ := hP
      refine ⟨hq0, ?_⟩
      by_cases hp34 : ((search_F t0Votes (m1 1)).2) = true
      · rw [if_pos hp34] at hr hP ⊢
        by_cases hp35 : (t0Votes.length : Int) < (t0Touched.length : Int)
        · rw [if_pos hp35] at hr hP ⊢
          exact hr
        · rw [if_neg hp35] at hr hP ⊢
          obtain ⟨hq0, hP⟩ := hP
          refine ⟨hq0, ?_⟩
          exact hr
      · rw [if_neg hp34] at hr hP ⊢
        obtain ⟨hq0, hP⟩ := hP
        refine ⟨hq0, ?_⟩
        obtain ⟨hq0, hP⟩ := hP
        refine ⟨hq0, ?_⟩
        obtain ⟨hq0, hP⟩ := hP
        refine ⟨hq0, ?_⟩
        by_cases hp36 : ((insL1 (cloneI_F t0Votes) ((search_F t0Votes (m1 1)).1).toNat (m1 1)).length : Int) < (t0Touched.length : Int)
        · rw [if_pos hp36] at hr hP ⊢
          exact hr
        · rw [if_neg hp36] at hr hP ⊢
          obtain ⟨hq0, hP⟩ := hP
          refine ⟨hq0, ?_⟩
          exact hr
  · rw [if_neg hp32] at hr hP ⊢
    exact hr
def tabort_S (t0Tx : Int) (t0State : Int) (t0Reason : Int) (t0Seq : Int) (t0Open : Bool) (t0Shard : Int) (t0At : (Nat → Int)) (t0Mode : Int) (t0Touched : (List Int)) (t0Votes : (List Int)) (t0Acks : (List Int)) (t0Got : (List (Nat → Int))) (reason1 : Int) (r : (Int × Int × Int × Int × Bool × Int × (Nat → Int) × Int × (List Int) × (List Int) × (List Int) × (List (Nat → Int))) × (List (Nat → Int)) × Int) : Prop :=
  (own_P t0Tx t0State t0Reason t0Seq t0Open t0Shard t0At t0Mode t0Touched t0Votes t0Acks t0Got) ∧ (
  if ((decide (reason1 < 1)) || (decide (5 < reason1))) = true then
    r = (((t0Tx, t0State, t0Reason, t0Seq, t0Open, t0Shard, t0At, t0Mode, t0Touched, t0Votes, t0Acks, t0Got), [], 1))
  else
    if ((tdecided_F t0Tx t0State t0Reason t0Seq t0Open t0Shard t0At t0Mode t0Touched t0Votes t0Acks t0Got)) = true then
      r = (((t0Tx, t0State, t0Reason, t0Seq, t0Open, t0Shard, t0At, t0Mode, t0Touched, t0Votes, t0Acks, t0Got), [], 15))
    else
      (tdecision_P t0Tx 4 reason1 t0Seq false t0Shard t0At t0Mode t0Touched t0Votes t0Acks t0Got t0Touched) ∧ (
      r = (((t0Tx, 4, reason1, t0Seq, false, t0Shard, t0At, t0Mode, t0Touched, t0Votes, t0Acks, t0Got), (tdecision_F t0Tx 4 reason1 t0Seq false t0Shard t0At t0Mode t0Touched t0Votes t0Acks t0Got t0Touched), 0))))
def tabort_F (t0Tx : Int) (t0State : Int) (t0Reason : Int) (t0Seq : Int) (t0Open : Bool) (t0Shard : Int) (t0At : (Nat → Int)) (t0Mode : Int) (t0Touched : (List Int)) (t0Votes : (List Int)) (t0Acks : (List Int)) (t0Got : (List (Nat → Int))) (reason1 : Int) : (Int × Int × Int × Int × Bool × Int × (Nat → Int) × Int × (List Int) × (List Int) × (List Int) × (List (Nat → Int))) × (List (Nat → Int)) × Int :=
  if ((decide (reason1 < 1)) || (decide (5 < reason1))) = true then
    ((t0Tx, t0State, t0Reason, t0Seq, t0Open, t0Shard, t0At, t0Mode, t0Touched, t0Votes, t0Acks, t0Got), [], 1)
  else
    if ((tdecided_F t0Tx t0State t0Reason t0Seq t0Open t0Shard t0At t0Mode t0Touched t0Votes t0Acks t0Got)) = true then
      ((t0Tx, t0State, t0Reason, t0Seq, t0Open, t0Shard, t0At, t0Mode, t0Touched, t0Votes, t0Acks, t0Got), [], 15)
    else
      ((t0Tx, 4, reason1, t0Seq, false, t0Shard, t0At, t0Mode, t0Touched, t0Votes, t0Acks, t0Got), (tdecision_F t0Tx 4 reason1 t0Seq false t0Shard t0At t0Mode t0Touched t0Votes t0Acks t0Got t0Touched), 0)
def tabort_P (t0Tx : Int) (t0State : Int) (t0Reason : Int) (t0Seq : Int) (t0Open : Bool) (t0Shard : Int) (t0At : (Nat → Int)) (t0Mode : Int) (t0Touched : (List Int)) (t0Votes : (List Int)) (t0Acks : (List Int)) (t0Got : (List (Nat → Int))) (reason1 : Int) : Prop :=
  (own_P t0Tx t0State t0Reason t0Seq t0Open t0Shard t0At t0Mode t0Touched t0Votes t0Acks t0Got) ∧ (
  if ((decide (reason1 < 1)) || (decide (5 < reason1))) = true then
    True
  else
    if ((tdecided_F t0Tx t0State t0Reason t0Seq t0Open t0Shard t0At t0Mode t0Touched t0Votes t0Acks t0Got)) = true then
      True
    else
      (tdecision_P t0Tx 4 reason1 t0Seq false t0Shard t0At t0Mode t0Touched t0Votes t0Acks t0Got t0Touched) ∧ (
      True))
theorem tabort_ok (t0Tx : Int) (t0State : Int) (t0Reason : Int) (t0Seq : Int) (t0Open : Bool) (t0Shard : Int) (t0At : (Nat → Int)) (t0Mode : Int) (t0Touched : (List Int)) (t0Votes : (List Int)) (t0Acks : (List Int)) (t0Got : (List (Nat → Int))) (reason1 : Int) (hP : tabort_P t0Tx t0State t0Reason t0Seq t0Open t0Shard t0At t0Mode t0Touched t0Votes t0Acks t0Got reason1) : tabort_S t0Tx t0State t0Reason t0Seq t0Open t0Shard t0At t0Mode t0Touched t0Votes t0Acks t0Got reason1 (tabort_F t0Tx t0State t0Reason t0Seq t0Open t0Shard t0At t0Mode t0Touched t0Votes t0Acks t0Got reason1) := by
  obtain ⟨r, hr⟩ : ∃ r, r = tabort_F t0Tx t0State t0Reason t0Seq t0Open t0Shard t0At t0Mode t0Touched t0Votes t0Acks t0Got reason1 := ⟨_, rfl⟩
  rw [← hr]
  unfold tabort_F at hr
  unfold tabort_S
  unfold tabort_P at hP
  obtain ⟨hq0, hP⟩ := hP
  refine ⟨hq0, ?_⟩
  by_cases hp37 : ((decide (reason1 < 1)) || (decide (5 < reason1))) = true
  · rw [if_pos hp37] at hr hP ⊢
    exact hr
  · rw [if_neg hp37] at hr hP ⊢
    by_cases hp38 : ((tdecided_F t0Tx t0State t0Reason t0Seq t0Open t0Shard t0At t0Mode t0Touched t0Votes t0Acks t0Got)) = true
    · rw [if_pos hp38] at hr hP ⊢
      exact hr
    · rw [if_neg hp38] at hr hP ⊢
      obtain ⟨hq0, hP⟩ := hP
      refine ⟨hq0, ?_⟩
      exact hr
def tack_S (t0Tx : Int) (t0State : Int) (t0Reason : Int) (t0Seq : Int) (t0Open : Bool) (t0Shard : Int) (t0At : (Nat → Int)) (t0Mode : Int) (t0Touched : (List Int)) (t0Votes : (List Int)) (t0Acks : (List Int)) (t0Got : (List (Nat → Int))) (m1 : (Nat → Int)) (r : (Int × Int × Int × Int × Bool × Int × (Nat → Int) × Int × (List Int) × (List Int) × (List Int) × (List (Nat → Int))) × Int) : Prop :=
  (own_P t0Tx t0State t0Reason t0Seq t0Open t0Shard t0At t0Mode t0Touched t0Votes t0Acks t0Got) ∧ (
  (tfrom_P t0Tx t0State t0Reason t0Seq t0Open t0Shard t0At t0Mode t0Touched t0Votes t0Acks t0Got m1 7 (tdecided_F t0Tx t0State t0Reason t0Seq t0Open t0Shard t0At t0Mode t0Touched t0Votes t0Acks t0Got)) ∧ (
  if (tfrom_F t0Tx t0State t0Reason t0Seq t0Open t0Shard t0At t0Mode t0Touched t0Votes t0Acks t0Got m1 7 (tdecided_F t0Tx t0State t0Reason t0Seq t0Open t0Shard t0At t0Mode t0Touched t0Votes t0Acks t0Got)) = 0 then
    (search_P t0Acks (m1 1)) ∧ (
    if ((search_F t0Acks (m1 1)).2) = true then
      r = (((t0Tx, t0State, t0Reason, t0Seq, t0Open, t0Shard, t0At, t0Mode, t0Touched, t0Votes, t0Acks, t0Got), 0))
    else
      (cloneI_P t0Acks) ∧ (
      (0 ≤ (search_F t0Acks (m1 1)).1 ∧ (search_F t0Acks (m1 1)).1 ≤ ((cloneI_F t0Acks).length : Int)) ∧ (
      (sortP (cloneI_F t0Acks)) ∧ (
      r = (((t0Tx, t0State, t0Reason, t0Seq, t0Open, t0Shard, t0At, t0Mode, t0Touched, t0Votes, (insL1 (cloneI_F t0Acks) ((search_F t0Acks (m1 1)).1).toNat (m1 1)), t0Got), 0))))))
  else
    r = (((t0Tx, t0State, t0Reason, t0Seq, t0Open, t0Shard, t0At, t0Mode, t0Touched, t0Votes, t0Acks, t0Got), (tfrom_F t0Tx t0State t0Reason t0Seq t0Open t0Shard t0At t0Mode t0Touched t0Votes t0Acks t0Got m1 7 (tdecided_F t0Tx t0State t0Reason t0Seq t0Open t0Shard t0At t0Mode t0Touched t0Votes t0Acks t0Got))))))
def tack_F (t0Tx : Int) (t0State : Int) (t0Reason : Int) (t0Seq : Int) (t0Open : Bool) (t0Shard : Int) (t0At : (Nat → Int)) (t0Mode : Int) (t0Touched : (List Int)) (t0Votes : (List Int)) (t0Acks : (List Int)) (t0Got : (List (Nat → Int))) (m1 : (Nat → Int)) : (Int × Int × Int × Int × Bool × Int × (Nat → Int) × Int × (List Int) × (List Int) × (List Int) × (List (Nat → Int))) × Int :=
  if (tfrom_F t0Tx t0State t0Reason t0Seq t0Open t0Shard t0At t0Mode t0Touched t0Votes t0Acks t0Got m1 7 (tdecided_F t0Tx t0State t0Reason t0Seq t0Open t0Shard t0At t0Mode t0Touched t0Votes t0Acks t0Got)) = 0 then
    if ((search_F t0Acks (m1 1)).2) = true then
      ((t0Tx, t0State, t0Reason, t0Seq, t0Open, t0Shard, t0At, t0Mode, t0Touched, t0Votes, t0Acks, t0Got), 0)
    else
      ((t0Tx, t0State, t0Reason, t0Seq, t0Open, t0Shard, t0At, t0Mode, t0Touched, t0Votes, (insL1 (cloneI_F t0Acks) ((search_F t0Acks (m1 1)).1).toNat (m1 1)), t0Got), 0)
  else
    ((t0Tx, t0State, t0Reason, t0Seq, t0Open, t0Shard, t0At, t0Mode, t0Touched, t0Votes, t0Acks, t0Got), (tfrom_F t0Tx t0State t0Reason t0Seq t0Open t0Shard t0At t0Mode t0Touched t0Votes t0Acks t0Got m1 7 (tdecided_F t0Tx t0State t0Reason t0Seq t0Open t0Shard t0At t0Mode t0Touched t0Votes t0Acks t0Got)))
def tack_P (t0Tx : Int) (t0State : Int) (t0Reason : Int) (t0Seq : Int) (t0Open : Bool) (t0Shard : Int) (t0At : (Nat → Int)) (t0Mode : Int) (t0Touched : (List Int)) (t0Votes : (List Int)) (t0Acks : (List Int)) (t0Got : (List (Nat → Int))) (m1 : (Nat → Int)) : Prop :=
  (own_P t0Tx t0State t0Reason t0Seq t0Open t0Shard t0At t0Mode t0Touched t0Votes t0Acks t0Got) ∧ (
  (tfrom_P t0Tx t0State t0Reason t0Seq t0Open t0Shard t0At t0Mode t0Touched t0Votes t0Acks t0Got m1 7 (tdecided_F t0Tx t0State t0Reason t0Seq t0Open t0Shard t0At t0Mode t0Touched t0Votes t0Acks t0Got)) ∧ (
  if (tfrom_F t0Tx t0State t0Reason t0Seq t0Open t0Shard t0At t0Mode t0Touched t0Votes t0Acks t0Got m1 7 (tdecided_F t0Tx t0State t0Reason t0Seq t0Open t0Shard t0At t0Mode t0Touched t0Votes t0Acks t0Got)) = 0 then
    (search_P t0Acks (m1 1)) ∧ (
    if ((search_F t0Acks (m1 1)).2) = true then
      True
    else
      (cloneI_P t0Acks) ∧ (
      (0 ≤ (search_F t0Acks (m1 1)).1 ∧ (search_F t0Acks (m1 1)).1 ≤ ((cloneI_F t0Acks).length : Int)) ∧ (
      (sortP (cloneI_F t0Acks)) ∧ (
      True))))
  else
    True))
theorem tack_ok (t0Tx : Int) (t0State : Int) (t0Reason : Int) (t0Seq : Int) (t0Open : Bool) (t0Shard : Int) (t0At : (Nat → Int)) (t0Mode : Int) (t0Touched : (List Int)) (t0Votes : (List Int)) (t0Acks : (List Int)) (t0Got : (List (Nat → Int))) (m1 : (Nat → Int)) (hP : tack_P t0Tx t0State t0Reason t0Seq t0Open t0Shard t0At t0Mode t0Touched t0Votes t0Acks t0Got m1) : tack_S t0Tx t0State t0Reason t0Seq t0Open t0Shard t0At t0Mode t0Touched t0Votes t0Acks t0Got m1 (tack_F t0Tx t0State t0Reason t0Seq t0Open t0Shard t0At t0Mode t0Touched t0Votes t0Acks t0Got m1) := by
  obtain ⟨r, hr⟩ : ∃ r, r = tack_F t0Tx t0State t0Reason t0Seq t0Open t0Shard t0At t0Mode t0Touched t0Votes t0Acks t0Got m1 := ⟨_, rfl⟩
  rw [← hr]
  unfold tack_F at hr
  unfold tack_S
  unfold tack_P at hP
  obtain ⟨hq0, hP⟩ := hP
  refine ⟨hq0, ?_⟩
  obtain ⟨hq0, hP⟩ := hP
  refine ⟨hq0, ?_⟩
  by_cases hp39 : (tfrom_F t0Tx t0State t0Reason t0Seq t0Open t0Shard t0At t0Mode t0Touched t0Votes t0Acks t0Got m1 7 (tdecided_F t0Tx t0State t0Reason t0Seq t0Open t0Shard t0At t0Mode t0Touched t0Votes t0Acks t0Got)) = 0
  · rw [if_pos hp39] at hr hP ⊢
    obtain ⟨hq0, hP⟩ := hP
    refine ⟨hq0, ?_⟩
    by_cases hp40 : ((search_F t0Acks (m1 1)).2) = true
    · rw [if_pos hp40] at hr hP ⊢
      exact hr
    · rw [if_neg hp40] at hr hP ⊢
      obtain ⟨hq0, hP⟩ := hP
      refine ⟨hq0, ?_⟩
      obtain ⟨hq0, hP⟩ := hP
      refine ⟨hq0, ?_⟩
      obtain ⟨hq0, hP⟩ := hP
      refine ⟨hq0, ?_⟩
      exact hr
  · rw [if_neg hp39] at hr hP ⊢
    exact hr
end Go.E
/- What functions of the program say, as relations. -/
namespace Go.E
open Go
def tagain_S (t0Tx : Int) (t0State : Int) (t0Reason : Int) (t0Seq : Int) (t0Open : Bool) (t0Shard : Int) (t0At : (Nat → Int)) (t0Mode : Int) (t0Touched : (List Int)) (t0Votes : (List Int)) (t0Acks : (List Int)) (t0Got : (List (Nat → Int))) (alive1 : Bool) (r : (List (Nat → Int))) : Prop :=
  if t0State = 1 then
    if (t0Open) = true then
      ((0 + 1) * 224 ≤ 140737488355328) ∧ (
      if (alive1) = true then
        (tto_P t0Tx t0State t0Reason t0Seq t0Open t0Shard t0At t0Mode t0Touched t0Votes t0Acks t0Got 8 0 t0Touched) ∧ (
        ((([] ++ [(tlock_F t0Tx t0State t0Reason t0Seq t0Open t0Shard t0At t0Mode t0Touched t0Votes t0Acks t0Got)]).length + (tto_F t0Tx t0State t0Reason t0Seq t0Open t0Shard t0At t0Mode t0Touched t0Votes t0Acks t0Got 8 0 t0Touched).length) * 224 ≤ 140737488355328) ∧ (
        r = ((([] ++ [(tlock_F t0Tx t0State t0Reason t0Seq t0Open t0Shard t0At t0Mode t0Touched t0Votes t0Acks t0Got)]) ++ (tto_F t0Tx t0State t0Reason t0Seq t0Open t0Shard t0At t0Mode t0Touched t0Votes t0Acks t0Got 8 0 t0Touched)))))
      else
        r = (([] ++ [(tlock_F t0Tx t0State t0Reason t0Seq t0Open t0Shard t0At t0Mode t0Touched t0Votes t0Acks t0Got)])))
    else
      if (alive1) = true then
        (tto_P t0Tx t0State t0Reason t0Seq t0Open t0Shard t0At t0Mode t0Touched t0Votes t0Acks t0Got 8 0 t0Touched) ∧ (
        ((0 + (tto_F t0Tx t0State t0Reason t0Seq t0Open t0Shard t0At t0Mode t0Touched t0Votes t0Acks t0Got 8 0 t0Touched).length) * 224 ≤ 140737488355328) ∧ (
        r = (([] ++ (tto_F t0Tx t0State t0Reason t0Seq t0Open t0Shard t0At t0Mode t0Touched t0Votes t0Acks t0Got 8 0 t0Touched)))))
      else
        r = ([])
  else
    if t0State = 2 then
      (tleft_P t0Tx t0State t0Reason t0Seq t0Open t0Shard t0At t0Mode t0Touched t0Votes t0Acks t0Got t0Votes) ∧ (
      (tto_P t0Tx t0State t0Reason t0Seq t0Open t0Shard t0At t0Mode t0Touched t0Votes t0Acks t0Got 4 0 (tleft_F t0Tx t0State t0Reason t0Seq t0Open t0Shard t0At t0Mode t0Touched t0Votes t0Acks t0Got t0Votes)) ∧ (
      r = ((tto_F t0Tx t0State t0Reason t0Seq t0Open t0Shard t0At t0Mode t0Touched t0Votes t0Acks t0Got 4 0 (tleft_F t0Tx t0State t0Reason t0Seq t0Open t0Shard t0At t0Mode t0Touched t0Votes t0Acks t0Got t0Votes)))))
    else
      if t0State = 3 then
        (tleft_P t0Tx t0State t0Reason t0Seq t0Open t0Shard t0At t0Mode t0Touched t0Votes t0Acks t0Got t0Acks) ∧ (
        (tdecision_P t0Tx t0State t0Reason t0Seq t0Open t0Shard t0At t0Mode t0Touched t0Votes t0Acks t0Got (tleft_F t0Tx t0State t0Reason t0Seq t0Open t0Shard t0At t0Mode t0Touched t0Votes t0Acks t0Got t0Acks)) ∧ (
        r = ((tdecision_F t0Tx t0State t0Reason t0Seq t0Open t0Shard t0At t0Mode t0Touched t0Votes t0Acks t0Got (tleft_F t0Tx t0State t0Reason t0Seq t0Open t0Shard t0At t0Mode t0Touched t0Votes t0Acks t0Got t0Acks)))))
      else
        if t0State = 4 then
          (tleft_P t0Tx t0State t0Reason t0Seq t0Open t0Shard t0At t0Mode t0Touched t0Votes t0Acks t0Got t0Acks) ∧ (
          (tdecision_P t0Tx t0State t0Reason t0Seq t0Open t0Shard t0At t0Mode t0Touched t0Votes t0Acks t0Got (tleft_F t0Tx t0State t0Reason t0Seq t0Open t0Shard t0At t0Mode t0Touched t0Votes t0Acks t0Got t0Acks)) ∧ (
          r = ((tdecision_F t0Tx t0State t0Reason t0Seq t0Open t0Shard t0At t0Mode t0Touched t0Votes t0Acks t0Got (tleft_F t0Tx t0State t0Reason t0Seq t0Open t0Shard t0At t0Mode t0Touched t0Votes t0Acks t0Got t0Acks)))))
        else
          r = ([])
def tagain_F (t0Tx : Int) (t0State : Int) (t0Reason : Int) (t0Seq : Int) (t0Open : Bool) (t0Shard : Int) (t0At : (Nat → Int)) (t0Mode : Int) (t0Touched : (List Int)) (t0Votes : (List Int)) (t0Acks : (List Int)) (t0Got : (List (Nat → Int))) (alive1 : Bool) : (List (Nat → Int)) :=
  if t0State = 1 then
    if (t0Open) = true then
      if (alive1) = true then
        (([] ++ [(tlock_F t0Tx t0State t0Reason t0Seq t0Open t0Shard t0At t0Mode t0Touched t0Votes t0Acks t0Got)]) ++ (tto_F t0Tx t0State t0Reason t0Seq t0Open t0Shard t0At t0Mode t0Touched t0Votes t0Acks t0Got 8 0 t0Touched))
      else
        ([] ++ [(tlock_F t0Tx t0State t0Reason t0Seq t0Open t0Shard t0At t0Mode t0Touched t0Votes t0Acks t0Got)])
    else
      if (alive1) = true then
        ([] ++ (tto_F t0Tx t0State t0Reason t0Seq t0Open t0Shard t0At t0Mode t0Touched t0Votes t0Acks t0Got 8 0 t0Touched))
      else
        []
  else
    if t0State = 2 then
      (tto_F t0Tx t0State t0Reason t0Seq t0Open t0Shard t0At t0Mode t0Touched t0Votes t0Acks t0Got 4 0 (tleft_F t0Tx t0State t0Reason t0Seq t0Open t0Shard t0At t0Mode t0Touched t0Votes t0Acks t0Got t0Votes))
    else
      if t0State = 3 then
        (tdecision_F t0Tx t0State t0Reason t0Seq t0Open t0Shard t0At t0Mode t0Touched t0Votes t0Acks t0Got (tleft_F t0Tx t0State t0Reason t0Seq t0Open t0Shard t0At t0Mode t0Touched t0Votes t0Acks t0Got t0Acks))
      else
        if t0State = 4 then
          (tdecision_F t0Tx t0State t0Reason t0Seq t0Open t0Shard t0At t0Mode t0Touched t0Votes t0Acks t0Got (tleft_F t0Tx t0State t0Reason t0Seq t0Open t0Shard t0At t0Mode t0Touched t0Votes t0Acks t0Got t0Acks))
        else
          []
def tagain_P (t0Tx : Int) (t0State : Int) (t0Reason : Int) (t0Seq : Int) (t0Open : Bool) (t0Shard : Int) (t0At : (Nat → Int)) (t0Mode : Int) (t0Touched : (List Int)) (t0Votes : (List Int)) (t0Acks : (List Int)) (t0Got : (List (Nat → Int))) (alive1 : Bool) : Prop :=
  if t0State = 1 then
    if (t0Open) = true then
      ((0 + 1) * 224 ≤ 140737488355328) ∧ (
      if (alive1) = true then
        (tto_P t0Tx t0State t0Reason t0Seq t0Open t0Shard t0At t0Mode t0Touched t0Votes t0Acks t0Got 8 0 t0Touched) ∧ (
        ((([] ++ [(tlock_F t0Tx t0State t0Reason t0Seq t0Open t0Shard t0At t0Mode t0Touched t0Votes t0Acks t0Got)]).length + (tto_F t0Tx t0State t0Reason t0Seq t0Open t0Shard t0At t0Mode t0Touched t0Votes t0Acks t0Got 8 0 t0Touched).length) * 224 ≤ 140737488355328) ∧ (
        True))
      else
        True)
    else
      if (alive1) = true then
        (tto_P t0Tx t0State t0Reason t0Seq t0Open t0Shard t0At t0Mode t0Touched t0Votes t0Acks t0Got 8 0 t0Touched) ∧ (
        ((0 + (tto_F t0Tx t0State t0Reason t0Seq t0Open t0Shard t0At t0Mode t0Touched t0Votes t0Acks t0Got 8 0 t0Touched).length) * 224 ≤ 140737488355328) ∧ (
        True))
      else
        True
  else
    if t0State = 2 then
      (tleft_P t0Tx t0State t0Reason t0Seq t0Open t0Shard t0At t0Mode t0Touched t0Votes t0Acks t0Got t0Votes) ∧ (
      (tto_P t0Tx t0State t0Reason t0Seq t0Open t0Shard t0At t0Mode t0Touched t0Votes t0Acks t0Got 4 0 (tleft_F t0Tx t0State t0Reason t0Seq t0Open t0Shard t0At t0Mode t0Touched t0Votes t0Acks t0Got t0Votes)) ∧ (
      True))
    else
      if t0State = 3 then
        (tleft_P t0Tx t0State t0Reason t0Seq t0Open t0Shard t0At t0Mode t0Touched t0Votes t0Acks t0Got t0Acks) ∧ (
        (tdecision_P t0Tx t0State t0Reason t0Seq t0Open t0Shard t0At t0Mode t0Touched t0Votes t0Acks t0Got (tleft_F t0Tx t0State t0Reason t0Seq t0Open t0Shard t0At t0Mode t0Touched t0Votes t0Acks t0Got t0Acks)) ∧ (
        True))
      else
        if t0State = 4 then
          (tleft_P t0Tx t0State t0Reason t0Seq t0Open t0Shard t0At t0Mode t0Touched t0Votes t0Acks t0Got t0Acks) ∧ (
          (tdecision_P t0Tx t0State t0Reason t0Seq t0Open t0Shard t0At t0Mode t0Touched t0Votes t0Acks t0Got (tleft_F t0Tx t0State t0Reason t0Seq t0Open t0Shard t0At t0Mode t0Touched t0Votes t0Acks t0Got t0Acks)) ∧ (
          True))
        else
          True
theorem tagain_ok (t0Tx : Int) (t0State : Int) (t0Reason : Int) (t0Seq : Int) (t0Open : Bool) (t0Shard : Int) (t0At : (Nat → Int)) (t0Mode : Int) (t0Touched : (List Int)) (t0Votes : (List Int)) (t0Acks : (List Int)) (t0Got : (List (Nat → Int))) (alive1 : Bool) (hP : tagain_P t0Tx t0State t0Reason t0Seq t0Open t0Shard t0At t0Mode t0Touched t0Votes t0Acks t0Got alive1) : tagain_S t0Tx t0State t0Reason t0Seq t0Open t0Shard t0At t0Mode t0Touched t0Votes t0Acks t0Got alive1 (tagain_F t0Tx t0State t0Reason t0Seq t0Open t0Shard t0At t0Mode t0Touched t0Votes t0Acks t0Got alive1) := by
  obtain ⟨r, hr⟩ : ∃ r, r = tagain_F t0Tx t0State t0Reason t0Seq t0Open t0Shard t0At t0Mode t0Touched t0Votes t0Acks t0Got alive1 := ⟨_, rfl⟩
  rw [← hr]
  unfold tagain_F at hr
  unfold tagain_S
  unfold tagain_P at hP
  by_cases hp41 : t0State = 1
  · rw [if_pos hp41] at hr hP ⊢
    by_cases hp42 : (t0Open) = true
    · rw [if_pos hp42] at hr hP ⊢
      obtain ⟨hq0, hP⟩ := hP
      refine ⟨hq0, ?_⟩
      by_cases hp43 : (alive1) = true
      · rw [if_pos hp43] at hr hP ⊢
        obtain ⟨hq0, hP⟩ := hP
        refine ⟨hq0, ?_⟩
        obtain ⟨hq0, hP⟩ := hP
        refine ⟨hq0, ?_⟩
        exact hr
      · rw [if_neg hp43] at hr hP ⊢
        exact hr
    · rw [if_neg hp42] at hr hP ⊢
      by_cases hp44 : (alive1) = true
      · rw [if_pos hp44] at hr hP ⊢
        obtain ⟨hq0, hP⟩ := hP
        refine ⟨hq0, ?_⟩
        obtain ⟨hq0, hP⟩ := hP
        refine ⟨hq0, ?_⟩
        exact hr
      · rw [if_neg hp44] at hr hP ⊢
        exact hr
  · rw [if_neg hp41] at hr hP ⊢
    by_cases hp45 : t0State = 2
    · rw [if_pos hp45] at hr hP ⊢
      obtain ⟨hq0, hP⟩ := hP
      refine ⟨hq0, ?_⟩
      obtain ⟨hq0, hP⟩ := hP
      refine ⟨hq0, ?_⟩
      exact hr
    · rw [if_neg hp45] at hr hP ⊢
      by_cases hp46 : t0State = 3
      · rw [if_pos hp46] at hr hP ⊢
        obtain ⟨hq0, hP⟩ := hP
        refine ⟨hq0, ?_⟩
        obtain ⟨hq0, hP⟩ := hP
        refine ⟨hq0, ?_⟩
        exact hr
      · rw [if_neg hp46] at hr hP ⊢
        by_cases hp47 : t0State = 4
        · rw [if_pos hp47] at hr hP ⊢
          obtain ⟨hq0, hP⟩ := hP
          refine ⟨hq0, ?_⟩
          obtain ⟨hq0, hP⟩ := hP
          refine ⟨hq0, ?_⟩
          exact hr
        · rw [if_neg hp47] at hr hP ⊢
          exact hr
def tover_S (t0Tx : Int) (t0State : Int) (t0Reason : Int) (t0Seq : Int) (t0Open : Bool) (t0Shard : Int) (t0At : (Nat → Int)) (t0Mode : Int) (t0Touched : (List Int)) (t0Votes : (List Int)) (t0Acks : (List Int)) (t0Got : (List (Nat → Int))) (r : Bool) : Prop :=
  if ((tdecided_F t0Tx t0State t0Reason t0Seq t0Open t0Shard t0At t0Mode t0Touched t0Votes t0Acks t0Got)) = true then
    (tleft_P t0Tx t0State t0Reason t0Seq t0Open t0Shard t0At t0Mode t0Touched t0Votes t0Acks t0Got t0Acks) ∧ (
    r = (decide (((tleft_F t0Tx t0State t0Reason t0Seq t0Open t0Shard t0At t0Mode t0Touched t0Votes t0Acks t0Got t0Acks).length : Int) = 0)))
  else
    r = (false)
def tover_F (t0Tx : Int) (t0State : Int) (t0Reason : Int) (t0Seq : Int) (t0Open : Bool) (t0Shard : Int) (t0At : (Nat → Int)) (t0Mode : Int) (t0Touched : (List Int)) (t0Votes : (List Int)) (t0Acks : (List Int)) (t0Got : (List (Nat → Int))) : Bool :=
  if ((tdecided_F t0Tx t0State t0Reason t0Seq t0Open t0Shard t0At t0Mode t0Touched t0Votes t0Acks t0Got)) = true then
    decide (((tleft_F t0Tx t0State t0Reason t0Seq t0Open t0Shard t0At t0Mode t0Touched t0Votes t0Acks t0Got t0Acks).length : Int) = 0)
  else
    false
def tover_P (t0Tx : Int) (t0State : Int) (t0Reason : Int) (t0Seq : Int) (t0Open : Bool) (t0Shard : Int) (t0At : (Nat → Int)) (t0Mode : Int) (t0Touched : (List Int)) (t0Votes : (List Int)) (t0Acks : (List Int)) (t0Got : (List (Nat → Int))) : Prop :=
  if ((tdecided_F t0Tx t0State t0Reason t0Seq t0Open t0Shard t0At t0Mode t0Touched t0Votes t0Acks t0Got)) = true then
    (tleft_P t0Tx t0State t0Reason t0Seq t0Open t0Shard t0At t0Mode t0Touched t0Votes t0Acks t0Got t0Acks) ∧ (
    True)
  else
    True
theorem tover_ok (t0Tx : Int) (t0State : Int) (t0Reason : Int) (t0Seq : Int) (t0Open : Bool) (t0Shard : Int) (t0At : (Nat → Int)) (t0Mode : Int) (t0Touched : (List Int)) (t0Votes : (List Int)) (t0Acks : (List Int)) (t0Got : (List (Nat → Int))) (hP : tover_P t0Tx t0State t0Reason t0Seq t0Open t0Shard t0At t0Mode t0Touched t0Votes t0Acks t0Got) : tover_S t0Tx t0State t0Reason t0Seq t0Open t0Shard t0At t0Mode t0Touched t0Votes t0Acks t0Got (tover_F t0Tx t0State t0Reason t0Seq t0Open t0Shard t0At t0Mode t0Touched t0Votes t0Acks t0Got) := by
  obtain ⟨r, hr⟩ : ∃ r, r = tover_F t0Tx t0State t0Reason t0Seq t0Open t0Shard t0At t0Mode t0Touched t0Votes t0Acks t0Got := ⟨_, rfl⟩
  rw [← hr]
  unfold tover_F at hr
  unfold tover_S
  unfold tover_P at hP
  by_cases hp48 : ((tdecided_F t0Tx t0State t0Reason t0Seq t0Open t0Shard t0At t0Mode t0Touched t0Votes t0Acks t0Got)) = true
  · rw [if_pos hp48] at hr hP ⊢
    obtain ⟨hq0, hP⟩ := hP
    refine ⟨hq0, ?_⟩
    exact hr
  · rw [if_neg hp48] at hr hP ⊢
    exact hr
end Go.E
/- Edges and what is reached by them, in plain words. -/
namespace Go.E
open Go
/-- An edge goes. -/
def Adj (l : List (Nat → Int)) (a b : Int) : Prop := ∃ e ∈ l, e 0 = a ∧ e 2 = b
/-- One is reached. -/
inductive Rt (l : List (Nat → Int)) : Int → Int → Prop
  | one {a b : Int} : Adj l a b → Rt l a b
  | more {a b c : Int} : Rt l a b → Adj l b c → Rt l a c
theorem Rt.trans {l : List (Nat → Int)} {a b c : Int} (h : Rt l a b) (k : Rt l b c) : Rt l a c := by
  induction k with
  | one e => exact .more h e
  | more _ e ih => exact .more ih e
theorem Rt.first {l : List (Nat → Int)} {a b : Int} (h : Rt l a b) : ∃ c, Adj l a c ∧ (c = b ∨ Rt l c b) := by
  induction h with
  | one e => exact ⟨_, e, .inl rfl⟩
  | more h e ih =>
    obtain ⟨c, h1, h2⟩ := ih
    refine ⟨c, h1, .inr ?_⟩
    rcases h2 with rfl | h2
    · exact .one e
    · exact .more h2 e
theorem Rt.mono {l m : List (Nat → Int)} (hs : ∀ e ∈ l, e ∈ m) {a b : Int} (h : Rt l a b) : Rt m a b := by
  induction h with
  | one e => obtain ⟨e, h1, h2⟩ := e; exact .one ⟨e, hs e h1, h2⟩
  | more _ e ih => obtain ⟨e, h1, h2⟩ := e; exact .more ih ⟨e, hs e h1, h2⟩
def nodesL (l : List (Nat → Int)) : List Int := rising_F (ends2 l)
theorem mem_nodesL {l : List (Nat → Int)} {x : Int} : x ∈ nodesL l ↔ ∃ e ∈ l, x = e 0 ∨ x = e 2 := by
  unfold nodesL ends2
  rw [mem_rising, List.mem_flatMap]
  simp
theorem Adj.left {l : List (Nat → Int)} {a b : Int} (h : Adj l a b) : a ∈ nodesL l := by
  obtain ⟨e, h1, h2, _⟩ := h
  exact mem_nodesL.2 ⟨e, h1, .inl h2.symm⟩
theorem Adj.right {l : List (Nat → Int)} {a b : Int} (h : Adj l a b) : b ∈ nodesL l := by
  obtain ⟨e, h1, _, h2⟩ := h
  exact mem_nodesL.2 ⟨e, h1, .inr h2.symm⟩
theorem Rt.right {l : List (Nat → Int)} {a b : Int} (h : Rt l a b) : b ∈ nodesL l := by
  cases h with
  | one e => exact e.right
  | more _ e => exact e.right
theorem Rt.left {l : List (Nat → Int)} {a b : Int} (h : Rt l a b) : a ∈ nodesL l := by
  obtain ⟨c, h1, _⟩ := h.first
  exact h1.left
theorem nodup_len : ∀ {l m : List Int}, l.Nodup → (∀ x ∈ l, x ∈ m) → l.length ≤ m.length
  | [], m, _, _ => Nat.zero_le _
  | x :: r, m, h, hs => by
    rw [List.nodup_cons] at h
    have hx := hs x List.mem_cons_self
    have : r.length ≤ (m.erase x).length := nodup_len h.2 fun y hy => by
      have hne : y ≠ x := fun e => h.1 (e ▸ hy)
      exact (List.mem_erase_of_ne hne).2 (hs y (List.mem_cons_of_mem _ hy))
    rw [List.length_erase_of_mem hx] at this
    have := List.length_pos_of_mem hx
    simp only [List.length_cons]
    omega
theorem rising_nodup {l : List Int} (h : l.Pairwise fun a b => a < b) : l.Nodup := h.imp fun h => by omega
end Go.E
/- Transactions: what holds of one, whatever happens to it. -/
namespace Go.E
open Go
abbrev T17 := Int × Int × Int × Int × Bool × Int × (Nat → Int) × Int × (List Int) × (List Int) × (List Int) × (List (Nat → Int))
abbrev Rise (l : List Int) : Prop := l.Pairwise fun a b => a < b
/-- What is known of a transaction to which at most n things happened. -/
structure TI (n : Nat) (tx st re sq : Int) (op : Bool) (sh : Int) (at_ : Nat → Int) (mo : Int) (to_ vo ac : List Int) (go : List (Nat → Int)) : Prop where
  htx : 1 ≤ tx ∧ tx ≤ 1048576
  hst : 1 ≤ st ∧ st ≤ 4
  hre : 0 ≤ re ∧ re ≤ 5
  hre4 : st = 4 ↔ 0 < re
  hsq : 0 ≤ sq ∧ sq ≤ 1048576
  to1 : Rise to_
  to2 : ∀ s ∈ to_, 1 ≤ s ∧ s ≤ 64
  vo1 : Rise vo
  vo2 : ∀ s ∈ vo, s ∈ to_
  ac1 : Rise ac
  ac2 : ∀ s ∈ ac, s ∈ to_
  hgo : go.length ≤ n
  hop : op = true → st = 1 ∧ 1 ≤ sq ∧ (1 ≤ sh ∧ sh ≤ 64) ∧ sh ∈ to_ ∧ resOk_F at_ = true ∧ (1 ≤ mo ∧ mo ≤ 4)
  vo3 : st = 3 → vo.length = to_.length
  vo4 : st = 2 → vo.length < to_.length
  vo5 : st = 1 → vo = []
  ac3 : st = 1 ∨ st = 2 → ac = []
def TIT (n : Nat) (t : T17) : Prop := TI n t.1 t.2.1 t.2.2.1 t.2.2.2.1 t.2.2.2.2.1 t.2.2.2.2.2.1 t.2.2.2.2.2.2.1 t.2.2.2.2.2.2.2.1 t.2.2.2.2.2.2.2.2.1 t.2.2.2.2.2.2.2.2.2.1 t.2.2.2.2.2.2.2.2.2.2.1 t.2.2.2.2.2.2.2.2.2.2.2
theorem len64 {l : List Int} (h : Rise l) (h2 : ∀ s ∈ l, 1 ≤ s ∧ s ≤ 64) : l.length ≤ 64 := by
  have := nodup_len (rising_nodup h) (m := (List.range 64).map fun k : Nat => (k : Int) + 1) (fun x hx => by
    obtain ⟨h1, h3⟩ := h2 x hx
    exact List.mem_map.2 ⟨(x - 1).toNat, by simp; omega, by omega⟩)
  simpa using this
section
variable {n : Nat} {tx st re sq : Int} {op : Bool} {sh : Int} {at_ : Nat → Int} {mo : Int} {to_ vo ac : List Int} {go : List (Nat → Int)}
theorem TI.mono {m : Nat} (h : TI n tx st re sq op sh at_ mo to_ vo ac go) (hm : n ≤ m) : TI m tx st re sq op sh at_ mo to_ vo ac go := { h with hgo := Nat.le_trans h.hgo hm }
theorem TI.lto (h : TI n tx st re sq op sh at_ mo to_ vo ac go) : to_.length ≤ 64 := len64 h.to1 h.to2
theorem TI.lvo (h : TI n tx st re sq op sh at_ mo to_ vo ac go) : vo.length ≤ 64 := len64 h.vo1 fun s hs => h.to2 s (h.vo2 s hs)
theorem TI.lac (h : TI n tx st re sq op sh at_ mo to_ vo ac go) : ac.length ≤ 64 := len64 h.ac1 fun s hs => h.to2 s (h.ac2 s hs)
theorem TI.own (h : TI n tx st re sq op sh at_ mo to_ vo ac go) (hn : n ≤ 1000000) : own_P tx st re sq op sh at_ mo to_ vo ac go := by
  have h1 := h.lto
  have h2 := h.lvo
  have h3 := h.lac
  have h4 := h.hgo
  unfold own_P cloneI_P cloneG_P
  exact ⟨by omega, by omega, by omega, by omega, trivial⟩
theorem sub_len {l m : List Int} (h : Rise l) (hs : ∀ s ∈ l, s ∈ m) : l.length ≤ m.length := nodup_len (rising_nodup h) hs
theorem tto_P_of {a b : Int} {l : List Int} (h : l.length ≤ 64) : tto_P tx st re sq op sh at_ mo to_ vo ac go a b l := by unfold tto_P; omega
theorem tdec_P_of {l : List Int} (h : l.length ≤ 64) : tdecision_P tx st re sq op sh at_ mo to_ vo ac go l := by
  unfold tdecision_P
  exact ⟨tto_P_of h, trivial⟩
theorem with_in {l : List Int} {x : Int} (h : (search_F l x).2 = true) : insI x l = l := by rw [← with_eq, if_pos h]
theorem with_out {l : List Int} {x : Int} (h : ¬ (search_F l x).2 = true) : insL1 (cloneI_F l) ((search_F l x).1).toNat x = insI x l := by rw [← with_eq, if_neg h]
theorem search_P_of {l : List Int} (x : Int) (h : Rise l) (hl : l.length ≤ 64) : search_P l x := ⟨h, by omega⟩
theorem clone_P_of {l : List Int} (hl : l.length ≤ 64) : cloneI_P l := by unfold cloneI_P; omega
theorem sort_P_of {l : List Int} (hl : l.length ≤ 64) : sortP (cloneI_F l) := by unfold sortP cloneI_F; omega
theorem tdec_iff : tdecided_F tx st re sq op sh at_ mo to_ vo ac go = true ↔ st = 3 ∨ st = 4 := by
  unfold tdecided_F
  by_cases h3 : st = 3
  · simp [h3]
  · by_cases h4 : st = 4
    · simp [h4]
    · simp [h3, h4]
/-! ### A message that may be sent -/
/-! ### What changes -/
theorem TI.ask (h : TI n tx 1 re sq false sh at_ mo to_ vo ac go) (hq : sq ≠ 1048576) {s m : Int} {a : Nat → Int} (hs : 1 ≤ s ∧ s ≤ 64) (ha : resOk_F a = true) (hm : 1 ≤ m ∧ m ≤ 4) : TI n tx 1 re (sq + 1) true s a m (insI s to_) vo ac go := by
  have h1 := h.hsq
  exact { h with
    hsq := by omega
    to1 := rising_insI h.to1
    to2 := fun x hx => (mem_insI.1 hx).elim (fun e => e ▸ hs) (h.to2 x)
    vo2 := fun x hx => by rw [h.vo5 rfl] at hx; simp at hx
    ac2 := fun x hx => by rw [h.ac3 (.inl rfl)] at hx; simp at hx
    hop := fun _ => ⟨rfl, by omega, hs, mem_insI.2 (.inl rfl), ha, hm⟩
    vo3 := fun e => by omega
    vo4 := fun e => by omega }
theorem TI.shut (h : TI n tx st re sq op sh at_ mo to_ vo ac go) : TI n tx st re sq false sh at_ mo to_ vo ac go := { h with hop := fun e => by cases e }
theorem TI.got (h : TI n tx st re sq op sh at_ mo to_ vo ac go) (x : Nat → Int) : TI (n + 1) tx st re sq op sh at_ mo to_ vo ac (go ++ [x]) := { h with hgo := by have := h.hgo; simp; omega }
theorem TI.prep (h : TI n tx 1 re sq false sh at_ mo to_ vo ac go) (ht : ¬ (to_.length : Int) = 0) : TI n tx 2 re sq false sh at_ mo to_ vo ac go := by
  have h1 := h.hre4
  exact { h with
    hst := by omega
    hre4 := by omega
    hop := fun e => by cases e
    vo3 := fun e => by omega
    vo4 := fun _ => by rw [h.vo5 rfl]; simp; omega
    vo5 := fun e => by omega
    ac3 := fun _ => h.ac3 (.inl rfl) }
theorem TI.commit (h : TI n tx st re sq op sh at_ mo to_ vo ac go) (hv : vo.length = to_.length) : TI n tx 3 0 sq false sh at_ mo to_ vo ac go :=
  { h with
    hst := by omega
    hre := by omega
    hre4 := by omega
    hop := fun e => by cases e
    vo3 := fun _ => hv
    vo4 := fun e => by omega
    vo5 := fun e => by omega
    ac3 := fun e => by omega }
theorem TI.abort (h : TI n tx st re sq op sh at_ mo to_ vo ac go) {r : Int} (hr : 1 ≤ r ∧ r ≤ 5) : TI n tx 4 r sq false sh at_ mo to_ vo ac go :=
  { h with
    hst := by omega
    hre := by omega
    hre4 := by omega
    hop := fun e => by cases e
    vo3 := fun e => by omega
    vo4 := fun e => by omega
    vo5 := fun e => by omega
    ac3 := fun e => by omega }
theorem rise_sub {s : Int} (h1 : Rise vo) (h2 : ∀ x ∈ vo, x ∈ to_) (hs : s ∈ to_) : (insI s vo).length ≤ to_.length := sub_len (rising_insI h1) fun x hx => (mem_insI.1 hx).elim (fun e => e ▸ hs) (h2 x)
theorem TI.vote (h : TI n tx 2 re sq op sh at_ mo to_ vo ac go) {s : Int} (hs : s ∈ to_) (hl : (insI s vo).length < to_.length) : TI n tx 2 re sq op sh at_ mo to_ (insI s vo) ac go :=
  { h with
    vo1 := rising_insI h.vo1
    vo2 := fun x hx => (mem_insI.1 hx).elim (fun e => e ▸ hs) (h.vo2 x)
    vo3 := fun e => by omega
    vo4 := fun _ => hl
    vo5 := fun e => by omega }
theorem TI.votes (h : TI n tx 2 re sq op sh at_ mo to_ vo ac go) {s : Int} (hs : s ∈ to_) (hl : ¬ (insI s vo).length < to_.length) : TI n tx 3 0 sq false sh at_ mo to_ (insI s vo) ac go := by
  have := rise_sub h.vo1 h.vo2 hs
  exact { h with
    hst := by omega
    hre := by omega
    hre4 := by omega
    hop := fun e => by cases e
    vo1 := rising_insI h.vo1
    vo2 := fun x hx => (mem_insI.1 hx).elim (fun e => e ▸ hs) (h.vo2 x)
    vo3 := fun _ => by omega
    vo4 := fun e => by omega
    vo5 := fun e => by omega
    ac3 := fun e => by omega }
theorem TI.ack (h : TI n tx st re sq op sh at_ mo to_ vo ac go) (hd : st = 3 ∨ st = 4) {s : Int} (hs : s ∈ to_) : TI n tx st re sq op sh at_ mo to_ vo (insI s ac) go :=
  { h with
    ac1 := rising_insI h.ac1
    ac2 := fun x hx => (mem_insI.1 hx).elim (fun e => e ▸ hs) (h.ac2 x)
    ac3 := fun e => by omega }
end
end Go.E
/- Transactions: what happens to one, in plain words. -/
namespace Go.E
open Go
section
variable (tx st re sq : Int) (op : Bool) (sh : Int) (at_ : Nat → Int) (mo : Int) (to_ vo ac : List Int) (go : List (Nat → Int))
def lockM (tx sq sh : Int) (at_ : Nat → Int) (mo : Int) : Nat → Int := updI (updRI (updI (updI (updI (updI (fun _ => 0) 0 1) 2 sh) 3 tx) 4 sq) 5 2 at_) 7 mo
def grantM (m : Nat → Int) : Nat → Int := updI (updRI (updI (updI (fun _ => 0) 0 (m 3)) 1 (m 4)) 2 2 (fun i => m (5 + i))) 4 (m 7)
/-- A message of a kind, that may be, of the transaction. -/
def Form (tx k : Int) (m : Nat → Int) : Prop := m 0 = k ∧ okB m = true ∧ m 3 = tx
instance (tx k : Int) (m : Nat → Int) : Decidable (Form tx k m) := by unfold Form; exact inferInstance
def askC (s : Int) (a : Nat → Int) (m : Int) : T17 × List (Nat → Int) × Int :=
  if (1 ≤ s ∧ s ≤ 64) ∧ resOk_F a = true ∧ (1 ≤ m ∧ m ≤ 4) then
    if st = 1 then
      if op = true then ((tx, st, re, sq, op, sh, at_, mo, to_, vo, ac, go), [], 8)
      else if sq = 1048576 then ((tx, st, re, sq, op, sh, at_, mo, to_, vo, ac, go), [], 6)
      else ((tx, st, re, sq + 1, true, s, a, m, insI s to_, vo, ac, go), [lockM tx (sq + 1) s a m], 0)
    else ((tx, st, re, sq, op, sh, at_, mo, to_, vo, ac, go), [], 11)
  else ((tx, st, re, sq, op, sh, at_, mo, to_, vo, ac, go), [], 1)
def ansC (m : Nat → Int) : T17 × Int :=
  if Form tx 2 m ∨ Form tx 3 m then
    if st = 1 then
      if op = true ∧ m 4 = sq ∧ m 1 = sh ∧ (m 0 = 2 → eqN 2 (fun i => m (5 + i)) at_ = true) then ((tx, st, re, sq, false, sh, at_, mo, to_, vo, ac, if m 0 = 2 then go ++ [grantM m] else go), 0)
      else ((tx, st, re, sq, op, sh, at_, mo, to_, vo, ac, go), 14)
    else ((tx, st, re, sq, op, sh, at_, mo, to_, vo, ac, go), 11)
  else ((tx, st, re, sq, op, sh, at_, mo, to_, vo, ac, go), 5)
def finC : T17 × List (Nat → Int) × Int :=
  if st = 1 then
    if op = true then ((tx, st, re, sq, op, sh, at_, mo, to_, vo, ac, go), [], 8)
    else if to_ = [] then ((tx, 3, 0, sq, false, sh, at_, mo, to_, vo, ac, go), to_.map (toMsg tx 6 1), 0)
    else ((tx, 2, re, sq, op, sh, at_, mo, to_, vo, ac, go), to_.map (toMsg tx 4 0), 0)
  else ((tx, st, re, sq, op, sh, at_, mo, to_, vo, ac, go), [], 11)
def voteC (m : Nat → Int) : T17 × List (Nat → Int) × Int :=
  if Form tx 5 m then
    if st = 2 then
      if m 1 ∈ to_ then
        if m 8 = 0 then ((tx, 4, 2, sq, false, sh, at_, mo, to_, vo, ac, go), to_.map (toMsg tx 6 0), 0)
        else if (insI (m 1) vo).length < to_.length then ((tx, st, re, sq, op, sh, at_, mo, to_, insI (m 1) vo, ac, go), [], 0)
        else ((tx, 3, 0, sq, false, sh, at_, mo, to_, insI (m 1) vo, ac, go), to_.map (toMsg tx 6 1), 0)
      else ((tx, st, re, sq, op, sh, at_, mo, to_, vo, ac, go), [], 10)
    else ((tx, st, re, sq, op, sh, at_, mo, to_, vo, ac, go), [], 11)
  else ((tx, st, re, sq, op, sh, at_, mo, to_, vo, ac, go), [], 5)
def abortC (r : Int) : T17 × List (Nat → Int) × Int :=
  if 1 ≤ r ∧ r ≤ 5 then
    if st = 3 ∨ st = 4 then ((tx, st, re, sq, op, sh, at_, mo, to_, vo, ac, go), [], 15)
    else ((tx, 4, r, sq, false, sh, at_, mo, to_, vo, ac, go), to_.map (toMsg tx 6 0), 0)
  else ((tx, st, re, sq, op, sh, at_, mo, to_, vo, ac, go), [], 1)
def ackC (m : Nat → Int) : T17 × Int :=
  if Form tx 7 m then
    if st = 3 ∨ st = 4 then
      if m 1 ∈ to_ then ((tx, st, re, sq, op, sh, at_, mo, to_, vo, insI (m 1) ac, go), 0)
      else ((tx, st, re, sq, op, sh, at_, mo, to_, vo, ac, go), 10)
    else ((tx, st, re, sq, op, sh, at_, mo, to_, vo, ac, go), 11)
  else ((tx, st, re, sq, op, sh, at_, mo, to_, vo, ac, go), 5)
def againC (tx st sq : Int) (op : Bool) (sh : Int) (at_ : Nat → Int) (mo : Int) (to_ vo ac : List Int) (alive : Bool) : List (Nat → Int) :=
  if st = 1 then (if op = true then [lockM tx sq sh at_ mo] else []) ++ (if alive = true then to_.map (toMsg tx 8 0) else [])
  else if st = 2 then (leftL to_ vo).map (toMsg tx 4 0)
  else if st = 3 then (leftL to_ ac).map (toMsg tx 6 1)
  else if st = 4 then (leftL to_ ac).map (toMsg tx 6 0)
  else []
def overC (st : Int) (to_ ac : List Int) : Bool := decide (st = 3 ∨ st = 4) && decide (leftL to_ ac = [])
end
section
variable {n : Nat} {tx st re sq : Int} {op : Bool} {sh : Int} {at_ : Nat → Int} {mo : Int} {to_ vo ac : List Int} {go : List (Nat → Int)}
/-! ### The program does so -/
theorem task_is (h : TI n tx st re sq op sh at_ mo to_ vo ac go) (hn : n ≤ 1000000) (s : Int) (a : Nat → Int) (m : Int) :
    task_P tx st re sq op sh at_ mo to_ vo ac go s a m ∧ task_F tx st re sq op sh at_ mo to_ vo ac go s a m = askC tx st re sq op sh at_ mo to_ vo ac go s a m := by
  have ho := h.own hn
  have hq := h.hsq
  unfold task_P task_F askC
  by_cases hb : (1 ≤ s ∧ s ≤ 64) ∧ resOk_F a = true ∧ (1 ≤ m ∧ m ≤ 4)
  · have hb' : ¬ (((((decide (s < 1)) || (decide (64 < s))) || (!((resOk_F a)))) || (decide (m < 1))) || (decide (4 < m))) = true := by
      simp only [Bool.or_eq_true, decide_eq_true_eq, Bool.not_eq_true']
      rintro ((((h | h) | h) | h) | h)
      · omega
      · omega
      · rw [hb.2.1] at h; cases h
      · omega
      · omega
    rw [if_neg hb', if_neg hb', if_pos hb]
    by_cases hs : st = 1
    · rw [if_pos hs]
      cases op with
      | true =>
        have hf : tfree_F tx st re sq true sh at_ mo to_ vo ac go = 8 := by simp [tfree_F, hs]
        rw [hf, if_neg (by decide), if_neg (by decide), if_pos rfl]
        exact ⟨⟨ho, trivial⟩, rfl⟩
      | false =>
        have hf : tfree_F tx st re sq false sh at_ mo to_ vo ac go = 0 := by simp [tfree_F, hs]
        rw [hf, if_pos rfl, if_pos rfl, if_neg Bool.false_ne_true]
        by_cases h6 : sq = 1048576
        · rw [if_pos h6, if_pos h6, if_pos h6]
          exact ⟨⟨ho, trivial⟩, rfl⟩
        · rw [if_neg h6, if_neg h6, if_neg h6]
          by_cases hc : (search_F to_ s).2 = true
          · rw [if_pos hc, if_pos hc, with_in hc]
            exact ⟨⟨ho, ⟨by omega, by omega⟩, search_P_of s h.to1 h.lto, trivial⟩, rfl⟩
          · rw [if_neg hc, if_neg hc, with_out hc]
            exact ⟨⟨ho, ⟨by omega, by omega⟩, search_P_of s h.to1 h.lto, clone_P_of h.lto, search_le _ _, sort_P_of h.lto, trivial⟩, rfl⟩
    · have hf : tfree_F tx st re sq op sh at_ mo to_ vo ac go = 11 := by simp [tfree_F, hs]
      rw [hf, if_neg (by decide), if_neg (by decide), if_neg hs]
      exact ⟨⟨ho, trivial⟩, rfl⟩
  · have hb' : (((((decide (s < 1)) || (decide (64 < s))) || (!((resOk_F a)))) || (decide (m < 1))) || (decide (4 < m))) = true := by
      simp only [Bool.or_eq_true, decide_eq_true_eq, Bool.not_eq_true']
      cases hr : resOk_F a
      · simp
      · simp only [hr, true_and] at hb
        simp
        omega
    rw [if_pos hb', if_pos hb', if_neg hb]
    exact ⟨⟨ho, trivial⟩, rfl⟩
theorem form_P_of {m : Nat → Int} {l : List Int} (hl : l.length ≤ 64) : tform_P tx st re sq op sh at_ mo to_ vo ac go m l := by
  unfold tform_P hasI_P
  refine ⟨by omega, ?_⟩
  exact ite_intro (fun _ => trivial) (fun _ => trivial)
theorem form1 {k : Int} {m : Nat → Int} : tform_F tx st re sq op sh at_ mo to_ vo ac go m [k] = if Form tx k m then 0 else 5 := by
  unfold tform_F hasI_F
  simp only [List.mem_singleton, msgOk_0]
  by_cases h : Form tx k m
  · obtain ⟨h1, h2, h3⟩ := id h
    rw [if_pos h, if_neg]
    simp [h1, h2, h3]
  · rw [if_neg h, if_pos]
    simp only [Bool.or_eq_true, Bool.not_eq_true', decide_eq_false_iff_not]
    by_cases h1 : m 0 = k
    · by_cases h2 : okB m = true
      · exact .inr fun h3 => h (And.intro h1 (And.intro h2 h3))
      · exact .inl (.inr h2)
    · exact .inl (.inl h1)
theorem form2 {m : Nat → Int} : tform_F tx st re sq op sh at_ mo to_ vo ac go m [2, 3] = if Form tx 2 m ∨ Form tx 3 m then 0 else 5 := by
  unfold tform_F hasI_F
  simp only [List.mem_cons, List.not_mem_nil, or_false, msgOk_0]
  by_cases h : Form tx 2 m ∨ Form tx 3 m
  · rw [if_pos h, if_neg]
    rcases h with ⟨h1, h2, h3⟩ | ⟨h1, h2, h3⟩ <;> simp [h1, h2, h3]
  · rw [if_neg h, if_pos]
    simp only [Bool.or_eq_true, Bool.not_eq_true', decide_eq_false_iff_not]
    by_cases h1 : m 0 = 2 ∨ m 0 = 3
    · by_cases h2 : okB m = true
      · exact .inr fun h3 => h (h1.imp (fun e => And.intro e (And.intro h2 h3)) fun e => And.intro e (And.intro h2 h3))
      · exact .inl (.inr h2)
    · exact .inl (.inl h1)
theorem tanswered_is (h : TI n tx st re sq op sh at_ mo to_ vo ac go) (hn : n ≤ 1000000) (m : Nat → Int) :
    tanswered_P tx st re sq op sh at_ mo to_ vo ac go m ∧ tanswered_F tx st re sq op sh at_ mo to_ vo ac go m = ansC tx st re sq op sh at_ mo to_ vo ac go m := by
  have ho := h.own hn
  have hg := h.hgo
  unfold tanswered_P tanswered_F ansC
  refine ⟨⟨ho, form_P_of (by simp), ?_⟩, ?_⟩
  · refine ite_intro (fun _ => ite_intro (fun _ => ite_intro (fun _ => trivial) (fun _ => ite_intro (fun _ => ?_) (fun _ => trivial))) (fun _ => trivial)) (fun _ => trivial)
    exact ⟨by omega, trivial⟩
  · rw [form2]
    by_cases hf : Form tx 2 m ∨ Form tx 3 m
    · rw [if_pos hf, if_pos rfl, if_pos hf]
      by_cases hs : st = 1
      · rw [if_pos hs, if_pos hs]
        by_cases hc : op = true ∧ m 4 = sq ∧ m 1 = sh ∧ (m 0 = 2 → eqN 2 (fun i => m (5 + i)) at_ = true)
        · obtain ⟨h1, h2, h3, h4⟩ := id hc
          have hc' : ¬ ((((!(op)) || (!(decide (m 4 = sq)))) || (!(decide (m 1 = sh)))) || ((decide (m 0 = 2)) && (!((eqN 2 (fun i => m (5 + i)) at_))))) = true := by
            by_cases h5 : m 0 = 2
            · simp [h1, h2, h3, h4 h5]
            · simp [h1, h2, h3, h5]
          rw [if_neg hc', if_pos hc]
          by_cases h5 : m 0 = 2
          · rw [if_pos h5, if_pos h5]; rfl
          · rw [if_neg h5, if_neg h5]
        · have hc' : ((((!(op)) || (!(decide (m 4 = sq)))) || (!(decide (m 1 = sh)))) || ((decide (m 0 = 2)) && (!((eqN 2 (fun i => m (5 + i)) at_))))) = true := by
            simp only [Bool.or_eq_true, Bool.not_eq_true', decide_eq_false_iff_not, Bool.and_eq_true, decide_eq_true_eq]
            by_cases h1 : op = true
            · by_cases h2 : m 4 = sq
              · by_cases h3 : m 1 = sh
                · right
                  by_cases h4 : m 0 = 2 ∧ eqN 2 (fun i => m (5 + i)) at_ = false
                  · exact h4
                  · exfalso
                    refine hc ⟨h1, h2, h3, fun e => ?_⟩
                    cases hq : eqN 2 (fun i => m (5 + i)) at_
                    · exact absurd ⟨e, hq⟩ h4
                    · rfl
                · exact .inl (.inr h3)
              · exact .inl (.inl (.inr h2))
            · simp only [Bool.not_eq_true] at h1; exact .inl (.inl (.inl h1))
          rw [if_pos hc', if_neg hc]
      · rw [if_neg hs, if_neg hs]
    · rw [if_neg hf, if_neg (by decide), if_neg hf]
theorem len0 {l : List Int} : (l.length : Int) = 0 ↔ l = [] := by
  rw [← List.length_eq_zero_iff]; omega
theorem tfinish_is (h : TI n tx st re sq op sh at_ mo to_ vo ac go) (hn : n ≤ 1000000) :
    tfinish_P tx st re sq op sh at_ mo to_ vo ac go ∧ tfinish_F tx st re sq op sh at_ mo to_ vo ac go = finC tx st re sq op sh at_ mo to_ vo ac go := by
  have ho := h.own hn
  unfold tfinish_P tfinish_F finC
  refine ⟨⟨ho, ite_intro (fun _ => ite_intro (fun _ => ⟨tdec_P_of h.lto, trivial⟩) (fun _ => ⟨tto_P_of h.lto, trivial⟩)) (fun _ => trivial)⟩, ?_⟩
  by_cases hs : st = 1
  · rw [if_pos hs]
    cases op with
    | true =>
      have hf : tfree_F tx st re sq true sh at_ mo to_ vo ac go = 8 := by simp [tfree_F, hs]
      rw [hf, if_neg (by decide), if_pos rfl]
    | false =>
      have hf : tfree_F tx st re sq false sh at_ mo to_ vo ac go = 0 := by simp [tfree_F, hs]
      rw [hf, if_pos rfl, if_neg Bool.false_ne_true]
      by_cases ht : to_ = []
      · rw [if_pos (len0.2 ht), if_pos ht]; rfl
      · rw [if_neg (fun e => ht (len0.1 e)), if_neg ht]; rfl
  · have hf : tfree_F tx st re sq op sh at_ mo to_ vo ac go = 11 := by simp [tfree_F, hs]
    rw [hf, if_neg (by decide), if_neg hs]
theorem from_P_of (h : TI n tx st re sq op sh at_ mo to_ vo ac go) {m : Nat → Int} {k : Int} {b : Bool} : tfrom_P tx st re sq op sh at_ mo to_ vo ac go m k b := by
  have := h.lto
  unfold tfrom_P
  refine ⟨form_P_of (by simp), ite_intro (fun _ => ite_intro (fun _ => ⟨by unfold hasI_P; omega, ite_intro (fun _ => trivial) (fun _ => trivial)⟩) (fun _ => trivial)) (fun _ => trivial)⟩
theorem from_is {m : Nat → Int} {k : Int} {b : Bool} : tfrom_F tx st re sq op sh at_ mo to_ vo ac go m k b = if Form tx k m then if b = true then if m 1 ∈ to_ then 0 else 10 else 11 else 5 := by
  unfold tfrom_F
  rw [form1]
  by_cases hf : Form tx k m
  · rw [if_pos hf, if_pos rfl, if_pos hf]
    simp only [hasI_F, decide_eq_true_eq]
  · rw [if_neg hf, if_neg (by decide), if_neg hf]
theorem tvote_is (h : TI n tx st re sq op sh at_ mo to_ vo ac go) (hn : n ≤ 1000000) (m : Nat → Int) :
    tvote_P tx st re sq op sh at_ mo to_ vo ac go m ∧ tvote_F tx st re sq op sh at_ mo to_ vo ac go m = voteC tx st re sq op sh at_ mo to_ vo ac go m := by
  have ho := h.own hn
  unfold tvote_P tvote_F voteC
  refine ⟨⟨ho, from_P_of h, ?_⟩, ?_⟩
  · refine ite_intro (fun _ => ite_intro (fun _ => ⟨tdec_P_of h.lto, trivial⟩) (fun _ => ⟨search_P_of _ h.vo1 h.lvo, ite_intro (fun _ => ite_intro (fun _ => trivial) (fun _ => ⟨tdec_P_of h.lto, trivial⟩)) (fun _ => ⟨clone_P_of h.lvo, search_le _ _, sort_P_of h.lvo, ite_intro (fun _ => trivial) (fun _ => ⟨tdec_P_of h.lto, trivial⟩)⟩)⟩)) (fun _ => trivial)
  · rw [from_is]
    by_cases hf : Form tx 5 m
    · rw [if_pos hf, if_pos hf]
      by_cases hs : st = 2
      · rw [if_pos (decide_eq_true hs), if_pos hs]
        by_cases hm : m 1 ∈ to_
        · rw [if_pos hm, if_pos rfl, if_pos hm]
          by_cases h8 : m 8 = 0
          · rw [if_pos h8, if_pos h8]; rfl
          · rw [if_neg h8, if_neg h8]
            by_cases hc : (search_F vo (m 1)).2 = true
            · rw [if_pos hc, with_in hc]
              by_cases hl : vo.length < to_.length
              · rw [if_pos (by omega), if_pos hl]
              · rw [if_neg (by omega), if_neg hl]; rfl
            · rw [if_neg hc, with_out hc]
              by_cases hl : (insI (m 1) vo).length < to_.length
              · rw [if_pos (by omega), if_pos hl]
              · rw [if_neg (by omega), if_neg hl]; rfl
        · rw [if_neg hm, if_neg (by decide), if_neg hm]
      · rw [if_neg (show ¬ decide (st = 2) = true by simpa using hs), if_neg (show ¬ (11 : Int) = 0 by decide), if_neg hs]
    · rw [if_neg hf, if_neg (by decide), if_neg hf]
theorem tabort_is (h : TI n tx st re sq op sh at_ mo to_ vo ac go) (hn : n ≤ 1000000) (r : Int) :
    tabort_P tx st re sq op sh at_ mo to_ vo ac go r ∧ tabort_F tx st re sq op sh at_ mo to_ vo ac go r = abortC tx st re sq op sh at_ mo to_ vo ac go r := by
  have ho := h.own hn
  unfold tabort_P tabort_F abortC
  refine ⟨⟨ho, ite_intro (fun _ => trivial) (fun _ => ite_intro (fun _ => trivial) (fun _ => ⟨tdec_P_of h.lto, trivial⟩))⟩, ?_⟩
  by_cases hr : 1 ≤ r ∧ r ≤ 5
  · rw [if_neg (by simp; omega), if_pos hr]
    by_cases hd : st = 3 ∨ st = 4
    · rw [if_pos (tdec_iff.2 hd), if_pos hd]
    · rw [if_neg (fun e => hd (tdec_iff.1 e)), if_neg hd]; rfl
  · rw [if_pos (by simp; omega), if_neg hr]
theorem tack_is (h : TI n tx st re sq op sh at_ mo to_ vo ac go) (hn : n ≤ 1000000) (m : Nat → Int) :
    tack_P tx st re sq op sh at_ mo to_ vo ac go m ∧ tack_F tx st re sq op sh at_ mo to_ vo ac go m = ackC tx st re sq op sh at_ mo to_ vo ac go m := by
  have ho := h.own hn
  unfold tack_P tack_F ackC
  refine ⟨⟨ho, from_P_of h, ?_⟩, ?_⟩
  · refine ite_intro (fun _ => ⟨search_P_of _ h.ac1 h.lac, ite_intro (fun _ => trivial) (fun _ => ⟨clone_P_of h.lac, search_le _ _, sort_P_of h.lac, trivial⟩)⟩) (fun _ => trivial)
  · rw [from_is]
    by_cases hf : Form tx 7 m
    · rw [if_pos hf, if_pos hf]
      by_cases hs : st = 3 ∨ st = 4
      · rw [if_pos (tdec_iff.2 hs), if_pos hs]
        by_cases hm : m 1 ∈ to_
        · rw [if_pos hm, if_pos rfl, if_pos hm]
          by_cases hc : (search_F ac (m 1)).2 = true
          · rw [if_pos hc, with_in hc]
          · rw [if_neg hc, with_out hc]
        · rw [if_neg hm, if_neg (by decide), if_neg hm]
      · rw [if_neg (fun e => hs (tdec_iff.1 e)), if_neg (by decide), if_neg hs]
    · rw [if_neg hf, if_neg (by decide), if_neg hf]
theorem leftL_len (l but : List Int) : (leftL l but).length ≤ l.length := List.length_filter_le _ _
theorem tagain_is (h : TI n tx st re sq op sh at_ mo to_ vo ac go) (b : Bool) :
    tagain_P tx st re sq op sh at_ mo to_ vo ac go b ∧ tagain_F tx st re sq op sh at_ mo to_ vo ac go b = againC tx st sq op sh at_ mo to_ vo ac b := by
  have h1 := h.lto
  have h2 := h.lvo
  have h3 := h.lac
  have hl := fun but => leftL_len to_ but
  unfold tagain_P tagain_F againC
  have hv := hl vo
  have ha := hl ac
  refine ⟨?_, ?_⟩
  · refine ite_intro (fun _ => ite_intro (fun _ => ⟨by omega, ite_intro (fun _ => ⟨tto_P_of h1, ?_, trivial⟩) (fun _ => trivial)⟩) (fun _ => ite_intro (fun _ => ⟨tto_P_of h1, ?_, trivial⟩) (fun _ => trivial))) (fun _ => ite_intro (fun _ => ⟨⟨by omega, by omega⟩, tto_P_of (Nat.le_trans hv h1), trivial⟩) (fun _ => ite_intro (fun _ => ⟨⟨by omega, by omega⟩, tdec_P_of (Nat.le_trans ha h1), trivial⟩) (fun _ => ite_intro (fun _ => ⟨⟨by omega, by omega⟩, tdec_P_of (Nat.le_trans ha h1), trivial⟩) (fun _ => trivial))))
    · simp [tto_F]; omega
    · simp [tto_F]; omega
  · by_cases s1 : st = 1
    · rw [if_pos s1, if_pos s1]
      cases op <;> cases b <;> simp [tto_F, tlock_F, lockM]
    · rw [if_neg s1, if_neg s1]
      by_cases s2 : st = 2
      · rw [if_pos s2, if_pos s2]; rfl
      · rw [if_neg s2, if_neg s2]
        by_cases s3 : st = 3
        · rw [if_pos s3, if_pos s3]
          simp [tdecision_F, tto_F, tleft_F, s3]
        · rw [if_neg s3, if_neg s3]
          by_cases s4 : st = 4
          · rw [if_pos s4, if_pos s4]
            simp [tdecision_F, tto_F, tleft_F, s3]
          · rw [if_neg s4, if_neg s4]
theorem tover_is (h : TI n tx st re sq op sh at_ mo to_ vo ac go) :
    tover_P tx st re sq op sh at_ mo to_ vo ac go ∧ tover_F tx st re sq op sh at_ mo to_ vo ac go = overC st to_ ac := by
  have h1 := h.lto
  have h3 := h.lac
  unfold tover_P tover_F overC
  refine ⟨ite_intro (fun _ => ⟨⟨by omega, by omega⟩, trivial⟩) (fun _ => trivial), ?_⟩
  by_cases hd : st = 3 ∨ st = 4
  · rw [if_pos (tdec_iff.2 hd), decide_eq_true hd, Bool.true_and]
    exact decide_eq_decide.2 len0
  · rw [if_neg (fun e => hd (tdec_iff.1 e)), decide_eq_false hd, Bool.false_and]
end
end Go.E
/- Transactions: each step keeps what is known of one. -/
namespace Go.E
open Go
section
variable {n : Nat} {tx st re sq : Int} {op : Bool} {sh : Int} {at_ : Nat → Int} {mo : Int} {to_ vo ac : List Int} {go : List (Nat → Int)}
theorem askC_TI (h : TI n tx st re sq op sh at_ mo to_ vo ac go) (s : Int) (a : Nat → Int) (m : Int) : TIT (n + 1) (askC tx st re sq op sh at_ mo to_ vo ac go s a m).1 := by
  have h' := h.mono (Nat.le_succ n)
  unfold askC
  by_cases hb : (1 ≤ s ∧ s ≤ 64) ∧ resOk_F a = true ∧ (1 ≤ m ∧ m ≤ 4)
  · rw [if_pos hb]
    by_cases hs : st = 1
    · rw [if_pos hs]
      cases op with
      | true => rw [if_pos rfl]; exact h'
      | false =>
        rw [if_neg Bool.false_ne_true]
        by_cases h6 : sq = 1048576
        · rw [if_pos h6]; exact h'
        · rw [if_neg h6]
          subst hs
          exact h'.ask h6 hb.1 hb.2.1 hb.2.2
    · rw [if_neg hs]; exact h'
  · rw [if_neg hb]; exact h'
theorem ansC_TI (h : TI n tx st re sq op sh at_ mo to_ vo ac go) (m : Nat → Int) : TIT (n + 1) (ansC tx st re sq op sh at_ mo to_ vo ac go m).1 := by
  have h' := h.mono (Nat.le_succ n)
  unfold ansC
  by_cases hf : Form tx 2 m ∨ Form tx 3 m
  · rw [if_pos hf]
    by_cases hs : st = 1
    · rw [if_pos hs]
      by_cases hc : op = true ∧ m 4 = sq ∧ m 1 = sh ∧ (m 0 = 2 → eqN 2 (fun i => m (5 + i)) at_ = true)
      · rw [if_pos hc]
        by_cases h2 : m 0 = 2
        · rw [if_pos h2]; exact (h.got _).shut
        · rw [if_neg h2]; exact h'.shut
      · rw [if_neg hc]; exact h'
    · rw [if_neg hs]; exact h'
  · rw [if_neg hf]; exact h'
theorem finC_TI (h : TI n tx st re sq op sh at_ mo to_ vo ac go) : TIT (n + 1) (finC tx st re sq op sh at_ mo to_ vo ac go).1 := by
  have h' := h.mono (Nat.le_succ n)
  unfold finC
  by_cases hs : st = 1
  · rw [if_pos hs]
    cases op with
    | true => rw [if_pos rfl]; exact h'
    | false =>
      rw [if_neg Bool.false_ne_true]
      by_cases ht : to_ = []
      · rw [if_pos ht]
        exact h'.commit (by rw [h.vo5 hs, ht])
      · rw [if_neg ht]
        subst hs
        exact h'.prep (fun e => ht (len0.1 e))
  · rw [if_neg hs]; exact h'
theorem voteC_TI (h : TI n tx st re sq op sh at_ mo to_ vo ac go) (m : Nat → Int) : TIT (n + 1) (voteC tx st re sq op sh at_ mo to_ vo ac go m).1 := by
  have h' := h.mono (Nat.le_succ n)
  unfold voteC
  by_cases hf : Form tx 5 m
  · rw [if_pos hf]
    by_cases hs : st = 2
    · rw [if_pos hs]
      by_cases hm : m 1 ∈ to_
      · rw [if_pos hm]
        by_cases h8 : m 8 = 0
        · rw [if_pos h8]; exact h'.abort (r := 2) (by omega)
        · rw [if_neg h8]
          subst hs
          by_cases hl : (insI (m 1) vo).length < to_.length
          · rw [if_pos hl]; exact h'.vote hm hl
          · rw [if_neg hl]; exact h'.votes hm hl
      · rw [if_neg hm]; exact h'
    · rw [if_neg hs]; exact h'
  · rw [if_neg hf]; exact h'
theorem abortC_TI (h : TI n tx st re sq op sh at_ mo to_ vo ac go) (r : Int) : TIT (n + 1) (abortC tx st re sq op sh at_ mo to_ vo ac go r).1 := by
  have h' := h.mono (Nat.le_succ n)
  unfold abortC
  by_cases hr : 1 ≤ r ∧ r ≤ 5
  · rw [if_pos hr]
    by_cases hd : st = 3 ∨ st = 4
    · rw [if_pos hd]; exact h'
    · rw [if_neg hd]; exact h'.abort hr
  · rw [if_neg hr]; exact h'
theorem ackC_TI (h : TI n tx st re sq op sh at_ mo to_ vo ac go) (m : Nat → Int) : TIT (n + 1) (ackC tx st re sq op sh at_ mo to_ vo ac go m).1 := by
  have h' := h.mono (Nat.le_succ n)
  unfold ackC
  by_cases hf : Form tx 7 m
  · rw [if_pos hf]
    by_cases hd : st = 3 ∨ st = 4
    · rw [if_pos hd]
      by_cases hm : m 1 ∈ to_
      · rw [if_pos hm]; exact h'.ack hd hm
      · rw [if_neg hm]; exact h'
    · rw [if_neg hd]; exact h'
  · rw [if_neg hf]; exact h'
theorem new_TI {t : Int} (h : 1 ≤ t ∧ t ≤ 1048576) : TI 0 t 1 0 0 false 0 (fun _ => 0) 0 [] [] [] [] where
  htx := h
  hst := by omega
  hre := by omega
  hre4 := by omega
  hsq := by omega
  to1 := .nil
  to2 := fun s hs => by simp at hs
  vo1 := .nil
  vo2 := fun s hs => by simp at hs
  ac1 := .nil
  ac2 := fun s hs => by simp at hs
  hgo := Nat.le_refl 0
  hop := fun e => by cases e
  vo3 := fun e => by omega
  vo4 := fun e => by omega
  vo5 := fun _ => rfl
  ac3 := fun _ => rfl
theorem tnew_is {t : Int} : tnew_F t = if 1 ≤ t ∧ t ≤ 1048576 then ((t, 1, 0, 0, false, 0, (fun _ => 0), 0, [], [], [], []), 0) else ((0, 0, 0, 0, false, 0, (fun _ => 0), 0, [], [], [], []), 1) := by
  unfold tnew_F
  by_cases h : 1 ≤ t ∧ t ≤ 1048576
  · rw [if_neg (by simp; omega), if_pos h]
  · rw [if_pos (by simp; omega), if_neg h]
end
end Go.E
/- What functions of the program say, as relations. -/
namespace Go.E
open Go
def act17_S (t0Tx : Int) (t0State : Int) (t0Reason : Int) (t0Seq : Int) (t0Open : Bool) (t0Shard : Int) (t0At : (Nat → Int)) (t0Mode : Int) (t0Touched : (List Int)) (t0Votes : (List Int)) (t0Acks : (List Int)) (t0Got : (List (Nat → Int))) (a1 : (Nat → Int)) (r : (Int × Int × Int × Int × Bool × Int × (Nat → Int) × Int × (List Int) × (List Int) × (List Int) × (List (Nat → Int))) × (List (Nat → Int)) × Int) : Prop :=
  if a1 0 = 0 then
    (task_P t0Tx t0State t0Reason t0Seq t0Open t0Shard t0At t0Mode t0Touched t0Votes t0Acks t0Got (a1 1) (fun i => a1 (2 + i)) (a1 4)) ∧ (
    r = (((((task_F t0Tx t0State t0Reason t0Seq t0Open t0Shard t0At t0Mode t0Touched t0Votes t0Acks t0Got (a1 1) (fun i => a1 (2 + i)) (a1 4)).1).1, ((task_F t0Tx t0State t0Reason t0Seq t0Open t0Shard t0At t0Mode t0Touched t0Votes t0Acks t0Got (a1 1) (fun i => a1 (2 + i)) (a1 4)).1).2.1, ((task_F t0Tx t0State t0Reason t0Seq t0Open t0Shard t0At t0Mode t0Touched t0Votes t0Acks t0Got (a1 1) (fun i => a1 (2 + i)) (a1 4)).1).2.2.1, ((task_F t0Tx t0State t0Reason t0Seq t0Open t0Shard t0At t0Mode t0Touched t0Votes t0Acks t0Got (a1 1) (fun i => a1 (2 + i)) (a1 4)).1).2.2.2.1, ((task_F t0Tx t0State t0Reason t0Seq t0Open t0Shard t0At t0Mode t0Touched t0Votes t0Acks t0Got (a1 1) (fun i => a1 (2 + i)) (a1 4)).1).2.2.2.2.1, ((task_F t0Tx t0State t0Reason t0Seq t0Open t0Shard t0At t0Mode t0Touched t0Votes t0Acks t0Got (a1 1) (fun i => a1 (2 + i)) (a1 4)).1).2.2.2.2.2.1, ((task_F t0Tx t0State t0Reason t0Seq t0Open t0Shard t0At t0Mode t0Touched t0Votes t0Acks t0Got (a1 1) (fun i => a1 (2 + i)) (a1 4)).1).2.2.2.2.2.2.1, ((task_F t0Tx t0State t0Reason t0Seq t0Open t0Shard t0At t0Mode t0Touched t0Votes t0Acks t0Got (a1 1) (fun i => a1 (2 + i)) (a1 4)).1).2.2.2.2.2.2.2.1, ((task_F t0Tx t0State t0Reason t0Seq t0Open t0Shard t0At t0Mode t0Touched t0Votes t0Acks t0Got (a1 1) (fun i => a1 (2 + i)) (a1 4)).1).2.2.2.2.2.2.2.2.1, ((task_F t0Tx t0State t0Reason t0Seq t0Open t0Shard t0At t0Mode t0Touched t0Votes t0Acks t0Got (a1 1) (fun i => a1 (2 + i)) (a1 4)).1).2.2.2.2.2.2.2.2.2.1, ((task_F t0Tx t0State t0Reason t0Seq t0Open t0Shard t0At t0Mode t0Touched t0Votes t0Acks t0Got (a1 1) (fun i => a1 (2 + i)) (a1 4)).1).2.2.2.2.2.2.2.2.2.2.1, ((task_F t0Tx t0State t0Reason t0Seq t0Open t0Shard t0At t0Mode t0Touched t0Votes t0Acks t0Got (a1 1) (fun i => a1 (2 + i)) (a1 4)).1).2.2.2.2.2.2.2.2.2.2.2), (task_F t0Tx t0State t0Reason t0Seq t0Open t0Shard t0At t0Mode t0Touched t0Votes t0Acks t0Got (a1 1) (fun i => a1 (2 + i)) (a1 4)).2.1, (code_F ((task_F t0Tx t0State t0Reason t0Seq t0Open t0Shard t0At t0Mode t0Touched t0Votes t0Acks t0Got (a1 1) (fun i => a1 (2 + i)) (a1 4)).2.2)))))
  else
    if a1 0 = 1 then
      (tanswered_P t0Tx t0State t0Reason t0Seq t0Open t0Shard t0At t0Mode t0Touched t0Votes t0Acks t0Got (fun i => a1 (5 + i))) ∧ (
      r = (((((tanswered_F t0Tx t0State t0Reason t0Seq t0Open t0Shard t0At t0Mode t0Touched t0Votes t0Acks t0Got (fun i => a1 (5 + i))).1).1, ((tanswered_F t0Tx t0State t0Reason t0Seq t0Open t0Shard t0At t0Mode t0Touched t0Votes t0Acks t0Got (fun i => a1 (5 + i))).1).2.1, ((tanswered_F t0Tx t0State t0Reason t0Seq t0Open t0Shard t0At t0Mode t0Touched t0Votes t0Acks t0Got (fun i => a1 (5 + i))).1).2.2.1, ((tanswered_F t0Tx t0State t0Reason t0Seq t0Open t0Shard t0At t0Mode t0Touched t0Votes t0Acks t0Got (fun i => a1 (5 + i))).1).2.2.2.1, ((tanswered_F t0Tx t0State t0Reason t0Seq t0Open t0Shard t0At t0Mode t0Touched t0Votes t0Acks t0Got (fun i => a1 (5 + i))).1).2.2.2.2.1, ((tanswered_F t0Tx t0State t0Reason t0Seq t0Open t0Shard t0At t0Mode t0Touched t0Votes t0Acks t0Got (fun i => a1 (5 + i))).1).2.2.2.2.2.1, ((tanswered_F t0Tx t0State t0Reason t0Seq t0Open t0Shard t0At t0Mode t0Touched t0Votes t0Acks t0Got (fun i => a1 (5 + i))).1).2.2.2.2.2.2.1, ((tanswered_F t0Tx t0State t0Reason t0Seq t0Open t0Shard t0At t0Mode t0Touched t0Votes t0Acks t0Got (fun i => a1 (5 + i))).1).2.2.2.2.2.2.2.1, ((tanswered_F t0Tx t0State t0Reason t0Seq t0Open t0Shard t0At t0Mode t0Touched t0Votes t0Acks t0Got (fun i => a1 (5 + i))).1).2.2.2.2.2.2.2.2.1, ((tanswered_F t0Tx t0State t0Reason t0Seq t0Open t0Shard t0At t0Mode t0Touched t0Votes t0Acks t0Got (fun i => a1 (5 + i))).1).2.2.2.2.2.2.2.2.2.1, ((tanswered_F t0Tx t0State t0Reason t0Seq t0Open t0Shard t0At t0Mode t0Touched t0Votes t0Acks t0Got (fun i => a1 (5 + i))).1).2.2.2.2.2.2.2.2.2.2.1, ((tanswered_F t0Tx t0State t0Reason t0Seq t0Open t0Shard t0At t0Mode t0Touched t0Votes t0Acks t0Got (fun i => a1 (5 + i))).1).2.2.2.2.2.2.2.2.2.2.2), [], (code_F ((tanswered_F t0Tx t0State t0Reason t0Seq t0Open t0Shard t0At t0Mode t0Touched t0Votes t0Acks t0Got (fun i => a1 (5 + i))).2)))))
    else
      if a1 0 = 2 then
        (tfinish_P t0Tx t0State t0Reason t0Seq t0Open t0Shard t0At t0Mode t0Touched t0Votes t0Acks t0Got) ∧ (
        r = (((((tfinish_F t0Tx t0State t0Reason t0Seq t0Open t0Shard t0At t0Mode t0Touched t0Votes t0Acks t0Got).1).1, ((tfinish_F t0Tx t0State t0Reason t0Seq t0Open t0Shard t0At t0Mode t0Touched t0Votes t0Acks t0Got).1).2.1, ((tfinish_F t0Tx t0State t0Reason t0Seq t0Open t0Shard t0At t0Mode t0Touched t0Votes t0Acks t0Got).1).2.2.1, ((tfinish_F t0Tx t0State t0Reason t0Seq t0Open t0Shard t0At t0Mode t0Touched t0Votes t0Acks t0Got).1).2.2.2.1, ((tfinish_F t0Tx t0State t0Reason t0Seq t0Open t0Shard t0At t0Mode t0Touched t0Votes t0Acks t0Got).1).2.2.2.2.1, ((tfinish_F t0Tx t0State t0Reason t0Seq t0Open t0Shard t0At t0Mode t0Touched t0Votes t0Acks t0Got).1).2.2.2.2.2.1, ((tfinish_F t0Tx t0State t0Reason t0Seq t0Open t0Shard t0At t0Mode t0Touched t0Votes t0Acks t0Got).1).2.2.2.2.2.2.1, ((tfinish_F t0Tx t0State t0Reason t0Seq t0Open t0Shard t0At t0Mode t0Touched t0Votes t0Acks t0Got).1).2.2.2.2.2.2.2.1, ((tfinish_F t0Tx t0State t0Reason t0Seq t0Open t0Shard t0At t0Mode t0Touched t0Votes t0Acks t0Got).1).2.2.2.2.2.2.2.2.1, ((tfinish_F t0Tx t0State t0Reason t0Seq t0Open t0Shard t0At t0Mode t0Touched t0Votes t0Acks t0Got).1).2.2.2.2.2.2.2.2.2.1, ((tfinish_F t0Tx t0State t0Reason t0Seq t0Open t0Shard t0At t0Mode t0Touched t0Votes t0Acks t0Got).1).2.2.2.2.2.2.2.2.2.2.1, ((tfinish_F t0Tx t0State t0Reason t0Seq t0Open t0Shard t0At t0Mode t0Touched t0Votes t0Acks t0Got).1).2.2.2.2.2.2.2.2.2.2.2), (tfinish_F t0Tx t0State t0Reason t0Seq t0Open t0Shard t0At t0Mode t0Touched t0Votes t0Acks t0Got).2.1, (code_F ((tfinish_F t0Tx t0State t0Reason t0Seq t0Open t0Shard t0At t0Mode t0Touched t0Votes t0Acks t0Got).2.2)))))
      else
        if a1 0 = 3 then
          (tvote_P t0Tx t0State t0Reason t0Seq t0Open t0Shard t0At t0Mode t0Touched t0Votes t0Acks t0Got (fun i => a1 (5 + i))) ∧ (
          r = (((((tvote_F t0Tx t0State t0Reason t0Seq t0Open t0Shard t0At t0Mode t0Touched t0Votes t0Acks t0Got (fun i => a1 (5 + i))).1).1, ((tvote_F t0Tx t0State t0Reason t0Seq t0Open t0Shard t0At t0Mode t0Touched t0Votes t0Acks t0Got (fun i => a1 (5 + i))).1).2.1, ((tvote_F t0Tx t0State t0Reason t0Seq t0Open t0Shard t0At t0Mode t0Touched t0Votes t0Acks t0Got (fun i => a1 (5 + i))).1).2.2.1, ((tvote_F t0Tx t0State t0Reason t0Seq t0Open t0Shard t0At t0Mode t0Touched t0Votes t0Acks t0Got (fun i => a1 (5 + i))).1).2.2.2.1, ((tvote_F t0Tx t0State t0Reason t0Seq t0Open t0Shard t0At t0Mode t0Touched t0Votes t0Acks t0Got (fun i => a1 (5 + i))).1).2.2.2.2.1, ((tvote_F t0Tx t0State t0Reason t0Seq t0Open t0Shard t0At t0Mode t0Touched t0Votes t0Acks t0Got (fun i => a1 (5 + i))).1).2.2.2.2.2.1, ((tvote_F t0Tx t0State t0Reason t0Seq t0Open t0Shard t0At t0Mode t0Touched t0Votes t0Acks t0Got (fun i => a1 (5 + i))).1).2.2.2.2.2.2.1, ((tvote_F t0Tx t0State t0Reason t0Seq t0Open t0Shard t0At t0Mode t0Touched t0Votes t0Acks t0Got (fun i => a1 (5 + i))).1).2.2.2.2.2.2.2.1, ((tvote_F t0Tx t0State t0Reason t0Seq t0Open t0Shard t0At t0Mode t0Touched t0Votes t0Acks t0Got (fun i => a1 (5 + i))).1).2.2.2.2.2.2.2.2.1, ((tvote_F t0Tx t0State t0Reason t0Seq t0Open t0Shard t0At t0Mode t0Touched t0Votes t0Acks t0Got (fun i => a1 (5 + i))).1).2.2.2.2.2.2.2.2.2.1, ((tvote_F t0Tx t0State t0Reason t0Seq t0Open t0Shard t0At t0Mode t0Touched t0Votes t0Acks t0Got (fun i => a1 (5 + i))).1).2.2.2.2.2.2.2.2.2.2.1, ((tvote_F t0Tx t0State t0Reason t0Seq t0Open t0Shard t0At t0Mode t0Touched t0Votes t0Acks t0Got (fun i => a1 (5 + i))).1).2.2.2.2.2.2.2.2.2.2.2), (tvote_F t0Tx t0State t0Reason t0Seq t0Open t0Shard t0At t0Mode t0Touched t0Votes t0Acks t0Got (fun i => a1 (5 + i))).2.1, (code_F ((tvote_F t0Tx t0State t0Reason t0Seq t0Open t0Shard t0At t0Mode t0Touched t0Votes t0Acks t0Got (fun i => a1 (5 + i))).2.2)))))
        else
          if a1 0 = 4 then
            (tabort_P t0Tx t0State t0Reason t0Seq t0Open t0Shard t0At t0Mode t0Touched t0Votes t0Acks t0Got (a1 1)) ∧ (
            r = (((((tabort_F t0Tx t0State t0Reason t0Seq t0Open t0Shard t0At t0Mode t0Touched t0Votes t0Acks t0Got (a1 1)).1).1, ((tabort_F t0Tx t0State t0Reason t0Seq t0Open t0Shard t0At t0Mode t0Touched t0Votes t0Acks t0Got (a1 1)).1).2.1, ((tabort_F t0Tx t0State t0Reason t0Seq t0Open t0Shard t0At t0Mode t0Touched t0Votes t0Acks t0Got (a1 1)).1).2.2.1, ((tabort_F t0Tx t0State t0Reason t0Seq t0Open t0Shard t0At t0Mode t0Touched t0Votes t0Acks t0Got (a1 1)).1).2.2.2.1, ((tabort_F t0Tx t0State t0Reason t0Seq t0Open t0Shard t0At t0Mode t0Touched t0Votes t0Acks t0Got (a1 1)).1).2.2.2.2.1, ((tabort_F t0Tx t0State t0Reason t0Seq t0Open t0Shard t0At t0Mode t0Touched t0Votes t0Acks t0Got (a1 1)).1).2.2.2.2.2.1, ((tabort_F t0Tx t0State t0Reason t0Seq t0Open t0Shard t0At t0Mode t0Touched t0Votes t0Acks t0Got (a1 1)).1).2.2.2.2.2.2.1, ((tabort_F t0Tx t0State t0Reason t0Seq t0Open t0Shard t0At t0Mode t0Touched t0Votes t0Acks t0Got (a1 1)).1).2.2.2.2.2.2.2.1, ((tabort_F t0Tx t0State t0Reason t0Seq t0Open t0Shard t0At t0Mode t0Touched t0Votes t0Acks t0Got (a1 1)).1).2.2.2.2.2.2.2.2.1, ((tabort_F t0Tx t0State t0Reason t0Seq t0Open t0Shard t0At t0Mode t0Touched t0Votes t0Acks t0Got (a1 1)).1).2.2.2.2.2.2.2.2.2.1, ((tabort_F t0Tx t0State t0Reason t0Seq t0Open t0Shard t0At t0Mode t0Touched t0Votes t0Acks t0Got (a1 1)).1).2.2.2.2.2.2.2.2.2.2.1, ((tabort_F t0Tx t0State t0Reason t0Seq t0Open t0Shard t0At t0Mode t0Touched t0Votes t0Acks t0Got (a1 1)).1).2.2.2.2.2.2.2.2.2.2.2), (tabort_F t0Tx t0State t0Reason t0Seq t0Open t0Shard t0At t0Mode t0Touched t0Votes t0Acks t0Got (a1 1)).2.1, (code_F ((tabort_F t0Tx t0State t0Reason t0Seq t0Open t0Shard t0At t0Mode t0Touched t0Votes t0Acks t0Got (a1 1)).2.2)))))
          else
            if a1 0 = 5 then
              (tack_P t0Tx t0State t0Reason t0Seq t0Open t0Shard t0At t0Mode t0Touched t0Votes t0Acks t0Got (fun i => a1 (5 + i))) ∧ (
              r = (((((tack_F t0Tx t0State t0Reason t0Seq t0Open t0Shard t0At t0Mode t0Touched t0Votes t0Acks t0Got (fun i => a1 (5 + i))).1).1, ((tack_F t0Tx t0State t0Reason t0Seq t0Open t0Shard t0At t0Mode t0Touched t0Votes t0Acks t0Got (fun i => a1 (5 + i))).1).2.1, ((tack_F t0Tx t0State t0Reason t0Seq t0Open t0Shard t0At t0Mode t0Touched t0Votes t0Acks t0Got (fun i => a1 (5 + i))).1).2.2.1, ((tack_F t0Tx t0State t0Reason t0Seq t0Open t0Shard t0At t0Mode t0Touched t0Votes t0Acks t0Got (fun i => a1 (5 + i))).1).2.2.2.1, ((tack_F t0Tx t0State t0Reason t0Seq t0Open t0Shard t0At t0Mode t0Touched t0Votes t0Acks t0Got (fun i => a1 (5 + i))).1).2.2.2.2.1, ((tack_F t0Tx t0State t0Reason t0Seq t0Open t0Shard t0At t0Mode t0Touched t0Votes t0Acks t0Got (fun i => a1 (5 + i))).1).2.2.2.2.2.1, ((tack_F t0Tx t0State t0Reason t0Seq t0Open t0Shard t0At t0Mode t0Touched t0Votes t0Acks t0Got (fun i => a1 (5 + i))).1).2.2.2.2.2.2.1, ((tack_F t0Tx t0State t0Reason t0Seq t0Open t0Shard t0At t0Mode t0Touched t0Votes t0Acks t0Got (fun i => a1 (5 + i))).1).2.2.2.2.2.2.2.1, ((tack_F t0Tx t0State t0Reason t0Seq t0Open t0Shard t0At t0Mode t0Touched t0Votes t0Acks t0Got (fun i => a1 (5 + i))).1).2.2.2.2.2.2.2.2.1, ((tack_F t0Tx t0State t0Reason t0Seq t0Open t0Shard t0At t0Mode t0Touched t0Votes t0Acks t0Got (fun i => a1 (5 + i))).1).2.2.2.2.2.2.2.2.2.1, ((tack_F t0Tx t0State t0Reason t0Seq t0Open t0Shard t0At t0Mode t0Touched t0Votes t0Acks t0Got (fun i => a1 (5 + i))).1).2.2.2.2.2.2.2.2.2.2.1, ((tack_F t0Tx t0State t0Reason t0Seq t0Open t0Shard t0At t0Mode t0Touched t0Votes t0Acks t0Got (fun i => a1 (5 + i))).1).2.2.2.2.2.2.2.2.2.2.2), [], (code_F ((tack_F t0Tx t0State t0Reason t0Seq t0Open t0Shard t0At t0Mode t0Touched t0Votes t0Acks t0Got (fun i => a1 (5 + i))).2)))))
            else
              False
def act17_F (t0Tx : Int) (t0State : Int) (t0Reason : Int) (t0Seq : Int) (t0Open : Bool) (t0Shard : Int) (t0At : (Nat → Int)) (t0Mode : Int) (t0Touched : (List Int)) (t0Votes : (List Int)) (t0Acks : (List Int)) (t0Got : (List (Nat → Int))) (a1 : (Nat → Int)) : (Int × Int × Int × Int × Bool × Int × (Nat → Int) × Int × (List Int) × (List Int) × (List Int) × (List (Nat → Int))) × (List (Nat → Int)) × Int :=
  if a1 0 = 0 then
    ((((task_F t0Tx t0State t0Reason t0Seq t0Open t0Shard t0At t0Mode t0Touched t0Votes t0Acks t0Got (a1 1) (fun i => a1 (2 + i)) (a1 4)).1).1, ((task_F t0Tx t0State t0Reason t0Seq t0Open t0Shard t0At t0Mode t0Touched t0Votes t0Acks t0Got (a1 1) (fun i => a1 (2 + i)) (a1 4)).1).2.1, ((task_F t0Tx t0State t0Reason t0Seq t0Open t0Shard t0At t0Mode t0Touched t0Votes t0Acks t0Got (a1 1) (fun i => a1 (2 + i)) (a1 4)).1).2.2.1, ((task_F t0Tx t0State t0Reason t0Seq t0Open t0Shard t0At t0Mode t0Touched t0Votes t0Acks t0Got (a1 1) (fun i => a1 (2 + i)) (a1 4)).1).2.2.2.1, ((task_F t0Tx t0State t0Reason t0Seq t0Open t0Shard t0At t0Mode t0Touched t0Votes t0Acks t0Got (a1 1) (fun i => a1 (2 + i)) (a1 4)).1).2.2.2.2.1, ((task_F t0Tx t0State t0Reason t0Seq t0Open t0Shard t0At t0Mode t0Touched t0Votes t0Acks t0Got (a1 1) (fun i => a1 (2 + i)) (a1 4)).1).2.2.2.2.2.1, ((task_F t0Tx t0State t0Reason t0Seq t0Open t0Shard t0At t0Mode t0Touched t0Votes t0Acks t0Got (a1 1) (fun i => a1 (2 + i)) (a1 4)).1).2.2.2.2.2.2.1, ((task_F t0Tx t0State t0Reason t0Seq t0Open t0Shard t0At t0Mode t0Touched t0Votes t0Acks t0Got (a1 1) (fun i => a1 (2 + i)) (a1 4)).1).2.2.2.2.2.2.2.1, ((task_F t0Tx t0State t0Reason t0Seq t0Open t0Shard t0At t0Mode t0Touched t0Votes t0Acks t0Got (a1 1) (fun i => a1 (2 + i)) (a1 4)).1).2.2.2.2.2.2.2.2.1, ((task_F t0Tx t0State t0Reason t0Seq t0Open t0Shard t0At t0Mode t0Touched t0Votes t0Acks t0Got (a1 1) (fun i => a1 (2 + i)) (a1 4)).1).2.2.2.2.2.2.2.2.2.1, ((task_F t0Tx t0State t0Reason t0Seq t0Open t0Shard t0At t0Mode t0Touched t0Votes t0Acks t0Got (a1 1) (fun i => a1 (2 + i)) (a1 4)).1).2.2.2.2.2.2.2.2.2.2.1, ((task_F t0Tx t0State t0Reason t0Seq t0Open t0Shard t0At t0Mode t0Touched t0Votes t0Acks t0Got (a1 1) (fun i => a1 (2 + i)) (a1 4)).1).2.2.2.2.2.2.2.2.2.2.2), (task_F t0Tx t0State t0Reason t0Seq t0Open t0Shard t0At t0Mode t0Touched t0Votes t0Acks t0Got (a1 1) (fun i => a1 (2 + i)) (a1 4)).2.1, (code_F ((task_F t0Tx t0State t0Reason t0Seq t0Open t0Shard t0At t0Mode t0Touched t0Votes t0Acks t0Got (a1 1) (fun i => a1 (2 + i)) (a1 4)).2.2)))
  else
    if a1 0 = 1 then
      ((((tanswered_F t0Tx t0State t0Reason t0Seq t0Open t0Shard t0At t0Mode t0Touched t0Votes t0Acks t0Got (fun i => a1 (5 + i))).1).1, ((tanswered_F t0Tx t0State t0Reason t0Seq t0Open t0Shard t0At t0Mode t0Touched t0Votes t0Acks t0Got (fun i => a1 (5 + i))).1).2.1, ((tanswered_F t0Tx t0State t0Reason t0Seq t0Open t0Shard t0At t0Mode t0Touched t0Votes t0Acks t0Got (fun i => a1 (5 + i))).1).2.2.1, ((tanswered_F t0Tx t0State t0Reason t0Seq t0Open t0Shard t0At t0Mode t0Touched t0Votes t0Acks t0Got (fun i => a1 (5 + i))).1).2.2.2.1, ((tanswered_F t0Tx t0State t0Reason t0Seq t0Open t0Shard t0At t0Mode t0Touched t0Votes t0Acks t0Got (fun i => a1 (5 + i))).1).2.2.2.2.1, ((tanswered_F t0Tx t0State t0Reason t0Seq t0Open t0Shard t0At t0Mode t0Touched t0Votes t0Acks t0Got (fun i => a1 (5 + i))).1).2.2.2.2.2.1, ((tanswered_F t0Tx t0State t0Reason t0Seq t0Open t0Shard t0At t0Mode t0Touched t0Votes t0Acks t0Got (fun i => a1 (5 + i))).1).2.2.2.2.2.2.1, ((tanswered_F t0Tx t0State t0Reason t0Seq t0Open t0Shard t0At t0Mode t0Touched t0Votes t0Acks t0Got (fun i => a1 (5 + i))).1).2.2.2.2.2.2.2.1, ((tanswered_F t0Tx t0State t0Reason t0Seq t0Open t0Shard t0At t0Mode t0Touched t0Votes t0Acks t0Got (fun i => a1 (5 + i))).1).2.2.2.2.2.2.2.2.1, ((tanswered_F t0Tx t0State t0Reason t0Seq t0Open t0Shard t0At t0Mode t0Touched t0Votes t0Acks t0Got (fun i => a1 (5 + i))).1).2.2.2.2.2.2.2.2.2.1, ((tanswered_F t0Tx t0State t0Reason t0Seq t0Open t0Shard t0At t0Mode t0Touched t0Votes t0Acks t0Got (fun i => a1 (5 + i))).1).2.2.2.2.2.2.2.2.2.2.1, ((tanswered_F t0Tx t0State t0Reason t0Seq t0Open t0Shard t0At t0Mode t0Touched t0Votes t0Acks t0Got (fun i => a1 (5 + i))).1).2.2.2.2.2.2.2.2.2.2.2), [], (code_F ((tanswered_F t0Tx t0State t0Reason t0Seq t0Open t0Shard t0At t0Mode t0Touched t0Votes t0Acks t0Got (fun i => a1 (5 + i))).2)))
    else
      if a1 0 = 2 then
        ((((tfinish_F t0Tx t0State t0Reason t0Seq t0Open t0Shard t0At t0Mode t0Touched t0Votes t0Acks t0Got).1).1, ((tfinish_F t0Tx t0State t0Reason t0Seq t0Open t0Shard t0At t0Mode t0Touched t0Votes t0Acks t0Got).1).2.1, ((tfinish_F t0Tx t0State t0Reason t0Seq t0Open t0Shard t0At t0Mode t0Touched t0Votes t0Acks t0Got).1).2.2.1, ((tfinish_F t0Tx t0State t0Reason t0Seq t0Open t0Shard t0At t0Mode t0Touched t0Votes t0Acks t0Got).1).2.2.2.1, ((tfinish_F t0Tx t0State t0Reason t0Seq t0Open t0Shard t0At t0Mode t0Touched t0Votes t0Acks t0Got).1).2.2.2.2.1, ((tfinish_F t0Tx t0State t0Reason t0Seq t0Open t0Shard t0At t0Mode t0Touched t0Votes t0Acks t0Got).1).2.2.2.2.2.1, ((tfinish_F t0Tx t0State t0Reason t0Seq t0Open t0Shard t0At t0Mode t0Touched t0Votes t0Acks t0Got).1).2.2.2.2.2.2.1, ((tfinish_F t0Tx t0State t0Reason t0Seq t0Open t0Shard t0At t0Mode t0Touched t0Votes t0Acks t0Got).1).2.2.2.2.2.2.2.1, ((tfinish_F t0Tx t0State t0Reason t0Seq t0Open t0Shard t0At t0Mode t0Touched t0Votes t0Acks t0Got).1).2.2.2.2.2.2.2.2.1, ((tfinish_F t0Tx t0State t0Reason t0Seq t0Open t0Shard t0At t0Mode t0Touched t0Votes t0Acks t0Got).1).2.2.2.2.2.2.2.2.2.1, ((tfinish_F t0Tx t0State t0Reason t0Seq t0Open t0Shard t0At t0Mode t0Touched t0Votes t0Acks t0Got).1).2.2.2.2.2.2.2.2.2.2.1, ((tfinish_F t0Tx t0State t0Reason t0Seq t0Open t0Shard t0At t0Mode t0Touched t0Votes t0Acks t0Got).1).2.2.2.2.2.2.2.2.2.2.2), (tfinish_F t0Tx t0State t0Reason t0Seq t0Open t0Shard t0At t0Mode t0Touched t0Votes t0Acks t0Got).2.1, (code_F ((tfinish_F t0Tx t0State t0Reason t0Seq t0Open t0Shard t0At t0Mode t0Touched t0Votes t0Acks t0Got).2.2)))
      else
        if a1 0 = 3 then
          ((((tvote_F t0Tx t0State t0Reason t0Seq t0Open t0Shard t0At t0Mode t0Touched t0Votes t0Acks t0Got (fun i => a1 (5 + i))).1).1, ((tvote_F t0Tx t0State t0Reason t0Seq t0Open t0Shard t0At t0Mode t0Touched t0Votes t0Acks t0Got (fun i => a1 (5 + i))).1).2.1, ((tvote_F t0Tx t0State t0Reason t0Seq t0Open t0Shard t0At t0Mode t0Touched t0Votes t0Acks t0Got (fun i => a1 (5 + i))).1).2.2.1, ((tvote_F t0Tx t0State t0Reason t0Seq t0Open t0Shard t0At t0Mode t0Touched t0Votes t0Acks t0Got (fun i => a1 (5 + i))).1).2.2.2.1, ((tvote_F t0Tx t0State t0Reason t0Seq t0Open t0Shard t0At t0Mode t0Touched t0Votes t0Acks t0Got (fun i => a1 (5 + i))).1).2.2.2.2.1, ((tvote_F t0Tx t0State t0Reason t0Seq t0Open t0Shard t0At t0Mode t0Touched t0Votes t0Acks t0Got (fun i => a1 (5 + i))).1).2.2.2.2.2.1, ((tvote_F t0Tx t0State t0Reason t0Seq t0Open t0Shard t0At t0Mode t0Touched t0Votes t0Acks t0Got (fun i => a1 (5 + i))).1).2.2.2.2.2.2.1, ((tvote_F t0Tx t0State t0Reason t0Seq t0Open t0Shard t0At t0Mode t0Touched t0Votes t0Acks t0Got (fun i => a1 (5 + i))).1).2.2.2.2.2.2.2.1, ((tvote_F t0Tx t0State t0Reason t0Seq t0Open t0Shard t0At t0Mode t0Touched t0Votes t0Acks t0Got (fun i => a1 (5 + i))).1).2.2.2.2.2.2.2.2.1, ((tvote_F t0Tx t0State t0Reason t0Seq t0Open t0Shard t0At t0Mode t0Touched t0Votes t0Acks t0Got (fun i => a1 (5 + i))).1).2.2.2.2.2.2.2.2.2.1, ((tvote_F t0Tx t0State t0Reason t0Seq t0Open t0Shard t0At t0Mode t0Touched t0Votes t0Acks t0Got (fun i => a1 (5 + i))).1).2.2.2.2.2.2.2.2.2.2.1, ((tvote_F t0Tx t0State t0Reason t0Seq t0Open t0Shard t0At t0Mode t0Touched t0Votes t0Acks t0Got (fun i => a1 (5 + i))).1).2.2.2.2.2.2.2.2.2.2.2), (tvote_F t0Tx t0State t0Reason t0Seq t0Open t0Shard t0At t0Mode t0Touched t0Votes t0Acks t0Got (fun i => a1 (5 + i))).2.1, (code_F ((tvote_F t0Tx t0State t0Reason t0Seq t0Open t0Shard t0At t0Mode t0Touched t0Votes t0Acks t0Got (fun i => a1 (5 + i))).2.2)))
        else
          if a1 0 = 4 then
            ((((tabort_F t0Tx t0State t0Reason t0Seq t0Open t0Shard t0At t0Mode t0Touched t0Votes t0Acks t0Got (a1 1)).1).1, ((tabort_F t0Tx t0State t0Reason t0Seq t0Open t0Shard t0At t0Mode t0Touched t0Votes t0Acks t0Got (a1 1)).1).2.1, ((tabort_F t0Tx t0State t0Reason t0Seq t0Open t0Shard t0At t0Mode t0Touched t0Votes t0Acks t0Got (a1 1)).1).2.2.1, ((tabort_F t0Tx t0State t0Reason t0Seq t0Open t0Shard t0At t0Mode t0Touched t0Votes t0Acks t0Got (a1 1)).1).2.2.2.1, ((tabort_F t0Tx t0State t0Reason t0Seq t0Open t0Shard t0At t0Mode t0Touched t0Votes t0Acks t0Got (a1 1)).1).2.2.2.2.1, ((tabort_F t0Tx t0State t0Reason t0Seq t0Open t0Shard t0At t0Mode t0Touched t0Votes t0Acks t0Got (a1 1)).1).2.2.2.2.2.1, ((tabort_F t0Tx t0State t0Reason t0Seq t0Open t0Shard t0At t0Mode t0Touched t0Votes t0Acks t0Got (a1 1)).1).2.2.2.2.2.2.1, ((tabort_F t0Tx t0State t0Reason t0Seq t0Open t0Shard t0At t0Mode t0Touched t0Votes t0Acks t0Got (a1 1)).1).2.2.2.2.2.2.2.1, ((tabort_F t0Tx t0State t0Reason t0Seq t0Open t0Shard t0At t0Mode t0Touched t0Votes t0Acks t0Got (a1 1)).1).2.2.2.2.2.2.2.2.1, ((tabort_F t0Tx t0State t0Reason t0Seq t0Open t0Shard t0At t0Mode t0Touched t0Votes t0Acks t0Got (a1 1)).1).2.2.2.2.2.2.2.2.2.1, ((tabort_F t0Tx t0State t0Reason t0Seq t0Open t0Shard t0At t0Mode t0Touched t0Votes t0Acks t0Got (a1 1)).1).2.2.2.2.2.2.2.2.2.2.1, ((tabort_F t0Tx t0State t0Reason t0Seq t0Open t0Shard t0At t0Mode t0Touched t0Votes t0Acks t0Got (a1 1)).1).2.2.2.2.2.2.2.2.2.2.2), (tabort_F t0Tx t0State t0Reason t0Seq t0Open t0Shard t0At t0Mode t0Touched t0Votes t0Acks t0Got (a1 1)).2.1, (code_F ((tabort_F t0Tx t0State t0Reason t0Seq t0Open t0Shard t0At t0Mode t0Touched t0Votes t0Acks t0Got (a1 1)).2.2)))
          else
            if a1 0 = 5 then
              ((((tack_F t0Tx t0State t0Reason t0Seq t0Open t0Shard t0At t0Mode t0Touched t0Votes t0Acks t0Got (fun i => a1 (5 + i))).1).1, ((tack_F t0Tx t0State t0Reason t0Seq t0Open t0Shard t0At t0Mode t0Touched t0Votes t0Acks t0Got (fun i => a1 (5 + i))).1).2.1, ((tack_F t0Tx t0State t0Reason t0Seq t0Open t0Shard t0At t0Mode t0Touched t0Votes t0Acks t0Got (fun i => a1 (5 + i))).1).2.2.1, ((tack_F t0Tx t0State t0Reason t0Seq t0Open t0Shard t0At t0Mode t0Touched t0Votes t0Acks t0Got (fun i => a1 (5 + i))).1).2.2.2.1, ((tack_F t0Tx t0State t0Reason t0Seq t0Open t0Shard t0At t0Mode t0Touched t0Votes t0Acks t0Got (fun i => a1 (5 + i))).1).2.2.2.2.1, ((tack_F t0Tx t0State t0Reason t0Seq t0Open t0Shard t0At t0Mode t0Touched t0Votes t0Acks t0Got (fun i => a1 (5 + i))).1).2.2.2.2.2.1, ((tack_F t0Tx t0State t0Reason t0Seq t0Open t0Shard t0At t0Mode t0Touched t0Votes t0Acks t0Got (fun i => a1 (5 + i))).1).2.2.2.2.2.2.1, ((tack_F t0Tx t0State t0Reason t0Seq t0Open t0Shard t0At t0Mode t0Touched t0Votes t0Acks t0Got (fun i => a1 (5 + i))).1).2.2.2.2.2.2.2.1, ((tack_F t0Tx t0State t0Reason t0Seq t0Open t0Shard t0At t0Mode t0Touched t0Votes t0Acks t0Got (fun i => a1 (5 + i))).1).2.2.2.2.2.2.2.2.1, ((tack_F t0Tx t0State t0Reason t0Seq t0Open t0Shard t0At t0Mode t0Touched t0Votes t0Acks t0Got (fun i => a1 (5 + i))).1).2.2.2.2.2.2.2.2.2.1, ((tack_F t0Tx t0State t0Reason t0Seq t0Open t0Shard t0At t0Mode t0Touched t0Votes t0Acks t0Got (fun i => a1 (5 + i))).1).2.2.2.2.2.2.2.2.2.2.1, ((tack_F t0Tx t0State t0Reason t0Seq t0Open t0Shard t0At t0Mode t0Touched t0Votes t0Acks t0Got (fun i => a1 (5 + i))).1).2.2.2.2.2.2.2.2.2.2.2), [], (code_F ((tack_F t0Tx t0State t0Reason t0Seq t0Open t0Shard t0At t0Mode t0Touched t0Votes t0Acks t0Got (fun i => a1 (5 + i))).2)))
            else
              ((t0Tx, t0State, t0Reason, t0Seq, t0Open, t0Shard, t0At, t0Mode, t0Touched, t0Votes, t0Acks, t0Got), [], (code_F 0))
def act17_P (t0Tx : Int) (t0State : Int) (t0Reason : Int) (t0Seq : Int) (t0Open : Bool) (t0Shard : Int) (t0At : (Nat → Int)) (t0Mode : Int) (t0Touched : (List Int)) (t0Votes : (List Int)) (t0Acks : (List Int)) (t0Got : (List (Nat → Int))) (a1 : (Nat → Int)) : Prop :=
  if a1 0 = 0 then
    (task_P t0Tx t0State t0Reason t0Seq t0Open t0Shard t0At t0Mode t0Touched t0Votes t0Acks t0Got (a1 1) (fun i => a1 (2 + i)) (a1 4)) ∧ (
    True)
  else
    if a1 0 = 1 then
      (tanswered_P t0Tx t0State t0Reason t0Seq t0Open t0Shard t0At t0Mode t0Touched t0Votes t0Acks t0Got (fun i => a1 (5 + i))) ∧ (
      True)
    else
      if a1 0 = 2 then
        (tfinish_P t0Tx t0State t0Reason t0Seq t0Open t0Shard t0At t0Mode t0Touched t0Votes t0Acks t0Got) ∧ (
        True)
      else
        if a1 0 = 3 then
          (tvote_P t0Tx t0State t0Reason t0Seq t0Open t0Shard t0At t0Mode t0Touched t0Votes t0Acks t0Got (fun i => a1 (5 + i))) ∧ (
          True)
        else
          if a1 0 = 4 then
            (tabort_P t0Tx t0State t0Reason t0Seq t0Open t0Shard t0At t0Mode t0Touched t0Votes t0Acks t0Got (a1 1)) ∧ (
            True)
          else
            if a1 0 = 5 then
              (tack_P t0Tx t0State t0Reason t0Seq t0Open t0Shard t0At t0Mode t0Touched t0Votes t0Acks t0Got (fun i => a1 (5 + i))) ∧ (
              True)
            else
              False
theorem act17_ok (t0Tx : Int) (t0State : Int) (t0Reason : Int) (t0Seq : Int) (t0Open : Bool) (t0Shard : Int) (t0At : (Nat → Int)) (t0Mode : Int) (t0Touched : (List Int)) (t0Votes : (List Int)) (t0Acks : (List Int)) (t0Got : (List (Nat → Int))) (a1 : (Nat → Int)) (hP : act17_P t0Tx t0State t0Reason t0Seq t0Open t0Shard t0At t0Mode t0Touched t0Votes t0Acks t0Got a1) : act17_S t0Tx t0State t0Reason t0Seq t0Open t0Shard t0At t0Mode t0Touched t0Votes t0Acks t0Got a1 (act17_F t0Tx t0State t0Reason t0Seq t0Open t0Shard t0At t0Mode t0Touched t0Votes t0Acks t0Got a1) := by
  obtain ⟨r, hr⟩ : ∃ r, r = act17_F t0Tx t0State t0Reason t0Seq t0Open t0Shard t0At t0Mode t0Touched t0Votes t0Acks t0Got a1 := ⟨_, rfl⟩
  rw [← hr]
  unfold act17_F at hr
  unfold act17_S
  unfold act17_P at hP
  by_cases hp49 : a1 0 = 0
  · rw [if_pos hp49] at hr hP ⊢
    obtain ⟨hq0, hP⟩ := hP
    refine ⟨hq0, ?_⟩
    exact hr
  · rw [if_neg hp49] at hr hP ⊢
    by_cases hp50 : a1 0 = 1
    · rw [if_pos hp50] at hr hP ⊢
      obtain ⟨hq0, hP⟩ := hP
      refine ⟨hq0, ?_⟩
      exact hr
    · rw [if_neg hp50] at hr hP ⊢
      by_cases hp51 : a1 0 = 2
      · rw [if_pos hp51] at hr hP ⊢
        obtain ⟨hq0, hP⟩ := hP
        refine ⟨hq0, ?_⟩
        exact hr
      · rw [if_neg hp51] at hr hP ⊢
        by_cases hp52 : a1 0 = 3
        · rw [if_pos hp52] at hr hP ⊢
          obtain ⟨hq0, hP⟩ := hP
          refine ⟨hq0, ?_⟩
          exact hr
        · rw [if_neg hp52] at hr hP ⊢
          by_cases hp53 : a1 0 = 4
          · rw [if_pos hp53] at hr hP ⊢
            obtain ⟨hq0, hP⟩ := hP
            refine ⟨hq0, ?_⟩
            exact hr
          · rw [if_neg hp53] at hr hP ⊢
            by_cases hp54 : a1 0 = 5
            · rw [if_pos hp54] at hr hP ⊢
              obtain ⟨hq0, hP⟩ := hP
              refine ⟨hq0, ?_⟩
              exact hr
            · rw [if_neg hp54] at hr hP ⊢
              exact hP
def alive17_S (r : Bool) : Prop :=
  (task_P (((tnew_F 5).1).1) (((tnew_F 5).1).2.1) (((tnew_F 5).1).2.2.1) (((tnew_F 5).1).2.2.2.1) (((tnew_F 5).1).2.2.2.2.1) (((tnew_F 5).1).2.2.2.2.2.1) (((tnew_F 5).1).2.2.2.2.2.2.1) (((tnew_F 5).1).2.2.2.2.2.2.2.1) (((tnew_F 5).1).2.2.2.2.2.2.2.2.1) (((tnew_F 5).1).2.2.2.2.2.2.2.2.2.1) (((tnew_F 5).1).2.2.2.2.2.2.2.2.2.2.1) (((tnew_F 5).1).2.2.2.2.2.2.2.2.2.2.2) 2 (updI (updI (fun _ => 0) 0 3) 1 1) 4) ∧ (
  ∃ rn6 : (Int × Int × Int × Int × Bool × Int × (Nat → Int) × Int × (List Int) × (List Int) × (List Int) × (List (Nat → Int))) × (List (Nat → Int)) × Int, rn6 = (task_F (((tnew_F 5).1).1) (((tnew_F 5).1).2.1) (((tnew_F 5).1).2.2.1) (((tnew_F 5).1).2.2.2.1) (((tnew_F 5).1).2.2.2.2.1) (((tnew_F 5).1).2.2.2.2.2.1) (((tnew_F 5).1).2.2.2.2.2.2.1) (((tnew_F 5).1).2.2.2.2.2.2.2.1) (((tnew_F 5).1).2.2.2.2.2.2.2.2.1) (((tnew_F 5).1).2.2.2.2.2.2.2.2.2.1) (((tnew_F 5).1).2.2.2.2.2.2.2.2.2.2.1) (((tnew_F 5).1).2.2.2.2.2.2.2.2.2.2.2) 2 (updI (updI (fun _ => 0) 0 3) 1 1) 4) ∧ (
  (tanswered_P rn6.1.1 rn6.1.2.1 rn6.1.2.2.1 rn6.1.2.2.2.1 rn6.1.2.2.2.2.1 rn6.1.2.2.2.2.2.1 rn6.1.2.2.2.2.2.2.1 rn6.1.2.2.2.2.2.2.2.1 rn6.1.2.2.2.2.2.2.2.2.1 rn6.1.2.2.2.2.2.2.2.2.2.1 rn6.1.2.2.2.2.2.2.2.2.2.2.1 rn6.1.2.2.2.2.2.2.2.2.2.2.2 (updI (updRI (updI (updI (updI (updI (fun _ => 0) 0 2) 1 2) 3 5) 4 1) 5 2 (updI (updI (fun _ => 0) 0 3) 1 1)) 7 4)) ∧ (
  ∃ rn13 : (Int × Int × Int × Int × Bool × Int × (Nat → Int) × Int × (List Int) × (List Int) × (List Int) × (List (Nat → Int))) × Int, rn13 = (tanswered_F rn6.1.1 rn6.1.2.1 rn6.1.2.2.1 rn6.1.2.2.2.1 rn6.1.2.2.2.2.1 rn6.1.2.2.2.2.2.1 rn6.1.2.2.2.2.2.2.1 rn6.1.2.2.2.2.2.2.2.1 rn6.1.2.2.2.2.2.2.2.2.1 rn6.1.2.2.2.2.2.2.2.2.2.1 rn6.1.2.2.2.2.2.2.2.2.2.2.1 rn6.1.2.2.2.2.2.2.2.2.2.2.2 (updI (updRI (updI (updI (updI (updI (fun _ => 0) 0 2) 1 2) 3 5) 4 1) 5 2 (updI (updI (fun _ => 0) 0 3) 1 1)) 7 4)) ∧ (
  (tfinish_P rn13.1.1 rn13.1.2.1 rn13.1.2.2.1 rn13.1.2.2.2.1 rn13.1.2.2.2.2.1 rn13.1.2.2.2.2.2.1 rn13.1.2.2.2.2.2.2.1 rn13.1.2.2.2.2.2.2.2.1 rn13.1.2.2.2.2.2.2.2.2.1 rn13.1.2.2.2.2.2.2.2.2.2.1 rn13.1.2.2.2.2.2.2.2.2.2.2.1 rn13.1.2.2.2.2.2.2.2.2.2.2.2) ∧ (
  ∃ rn19 : (Int × Int × Int × Int × Bool × Int × (Nat → Int) × Int × (List Int) × (List Int) × (List Int) × (List (Nat → Int))) × (List (Nat → Int)) × Int, rn19 = (tfinish_F rn13.1.1 rn13.1.2.1 rn13.1.2.2.1 rn13.1.2.2.2.1 rn13.1.2.2.2.2.1 rn13.1.2.2.2.2.2.1 rn13.1.2.2.2.2.2.2.1 rn13.1.2.2.2.2.2.2.2.1 rn13.1.2.2.2.2.2.2.2.2.1 rn13.1.2.2.2.2.2.2.2.2.2.1 rn13.1.2.2.2.2.2.2.2.2.2.2.1 rn13.1.2.2.2.2.2.2.2.2.2.2.2) ∧ (
  (tvote_P rn19.1.1 rn19.1.2.1 rn19.1.2.2.1 rn19.1.2.2.2.1 rn19.1.2.2.2.2.1 rn19.1.2.2.2.2.2.1 rn19.1.2.2.2.2.2.2.1 rn19.1.2.2.2.2.2.2.2.1 rn19.1.2.2.2.2.2.2.2.2.1 rn19.1.2.2.2.2.2.2.2.2.2.1 rn19.1.2.2.2.2.2.2.2.2.2.2.1 rn19.1.2.2.2.2.2.2.2.2.2.2.2 (updI (updI (updI (updI (fun _ => 0) 0 5) 1 2) 3 5) 8 1)) ∧ (
  ∃ rn26 : (Int × Int × Int × Int × Bool × Int × (Nat → Int) × Int × (List Int) × (List Int) × (List Int) × (List (Nat → Int))) × (List (Nat → Int)) × Int, rn26 = (tvote_F rn19.1.1 rn19.1.2.1 rn19.1.2.2.1 rn19.1.2.2.2.1 rn19.1.2.2.2.2.1 rn19.1.2.2.2.2.2.1 rn19.1.2.2.2.2.2.2.1 rn19.1.2.2.2.2.2.2.2.1 rn19.1.2.2.2.2.2.2.2.2.1 rn19.1.2.2.2.2.2.2.2.2.2.1 rn19.1.2.2.2.2.2.2.2.2.2.2.1 rn19.1.2.2.2.2.2.2.2.2.2.2.2 (updI (updI (updI (updI (fun _ => 0) 0 5) 1 2) 3 5) 8 1)) ∧ (
  (tack_P rn26.1.1 rn26.1.2.1 rn26.1.2.2.1 rn26.1.2.2.2.1 rn26.1.2.2.2.2.1 rn26.1.2.2.2.2.2.1 rn26.1.2.2.2.2.2.2.1 rn26.1.2.2.2.2.2.2.2.1 rn26.1.2.2.2.2.2.2.2.2.1 rn26.1.2.2.2.2.2.2.2.2.2.1 rn26.1.2.2.2.2.2.2.2.2.2.2.1 rn26.1.2.2.2.2.2.2.2.2.2.2.2 (updI (updI (updI (fun _ => 0) 0 7) 1 2) 3 5)) ∧ (
  ∃ rn33 : (Int × Int × Int × Int × Bool × Int × (Nat → Int) × Int × (List Int) × (List Int) × (List Int) × (List (Nat → Int))) × Int, rn33 = (tack_F rn26.1.1 rn26.1.2.1 rn26.1.2.2.1 rn26.1.2.2.2.1 rn26.1.2.2.2.2.1 rn26.1.2.2.2.2.2.1 rn26.1.2.2.2.2.2.2.1 rn26.1.2.2.2.2.2.2.2.1 rn26.1.2.2.2.2.2.2.2.2.1 rn26.1.2.2.2.2.2.2.2.2.2.1 rn26.1.2.2.2.2.2.2.2.2.2.2.1 rn26.1.2.2.2.2.2.2.2.2.2.2.2 (updI (updI (updI (fun _ => 0) 0 7) 1 2) 3 5)) ∧ (
  ((((((((((decide ((tnew_F 5).2 = 0)) && (decide (rn6.2.2 = 0))) && (decide (rn13.2 = 0))) && (decide (rn19.2.2 = 0))) && (decide (rn26.2.2 = 0))) && (decide (rn33.2 = 0))) && (decide ((rn6.2.1.length : Int) = 1))) && (decide ((rn19.2.1.length : Int) = 1))) = true) → 0 ≤ (0 : Int) ∧ (0 : Int) < rn19.2.1.length) ∧ ((((((((((((decide ((tnew_F 5).2 = 0)) && (decide (rn6.2.2 = 0))) && (decide (rn13.2 = 0))) && (decide (rn19.2.2 = 0))) && (decide (rn26.2.2 = 0))) && (decide (rn33.2 = 0))) && (decide ((rn6.2.1.length : Int) = 1))) && (decide ((rn19.2.1.length : Int) = 1))) && ((eqN 28 (rn19.2.1[0]!) (updI (updI (updI (fun _ => 0) 0 4) 2 2) 3 5)))) && (decide ((rn26.2.1.length : Int) = 1))) = true) → 0 ≤ (0 : Int) ∧ (0 : Int) < rn26.2.1.length) ∧ ((((((((((((((decide ((tnew_F 5).2 = 0)) && (decide (rn6.2.2 = 0))) && (decide (rn13.2 = 0))) && (decide (rn19.2.2 = 0))) && (decide (rn26.2.2 = 0))) && (decide (rn33.2 = 0))) && (decide ((rn6.2.1.length : Int) = 1))) && (decide ((rn19.2.1.length : Int) = 1))) && ((eqN 28 (rn19.2.1[0]!) (updI (updI (updI (fun _ => 0) 0 4) 2 2) 3 5)))) && (decide ((rn26.2.1.length : Int) = 1))) && ((eqN 28 (rn26.2.1[0]!) (updI (updI (updI (updI (fun _ => 0) 0 6) 2 2) 3 5) 8 1)))) && (decide (rn33.1.2.1 = 3))) = true) → tover_P rn33.1.1 rn33.1.2.1 rn33.1.2.2.1 rn33.1.2.2.2.1 rn33.1.2.2.2.2.1 rn33.1.2.2.2.2.2.1 rn33.1.2.2.2.2.2.2.1 rn33.1.2.2.2.2.2.2.2.1 rn33.1.2.2.2.2.2.2.2.2.1 rn33.1.2.2.2.2.2.2.2.2.2.1 rn33.1.2.2.2.2.2.2.2.2.2.2.1 rn33.1.2.2.2.2.2.2.2.2.2.2.2) ∧ (
  r = (((((((((((((decide ((tnew_F 5).2 = 0)) && (decide (rn6.2.2 = 0))) && (decide (rn13.2 = 0))) && (decide (rn19.2.2 = 0))) && (decide (rn26.2.2 = 0))) && (decide (rn33.2 = 0))) && (decide ((rn6.2.1.length : Int) = 1))) && (decide ((rn19.2.1.length : Int) = 1))) && ((eqN 28 (rn19.2.1[0]!) (updI (updI (updI (fun _ => 0) 0 4) 2 2) 3 5)))) && (decide ((rn26.2.1.length : Int) = 1))) && ((eqN 28 (rn26.2.1[0]!) (updI (updI (updI (updI (fun _ => 0) 0 6) 2 2) 3 5) 8 1)))) && (decide (rn33.1.2.1 = 3))) && ((tover_F rn33.1.1 rn33.1.2.1 rn33.1.2.2.1 rn33.1.2.2.2.1 rn33.1.2.2.2.2.1 rn33.1.2.2.2.2.2.1 rn33.1.2.2.2.2.2.2.1 rn33.1.2.2.2.2.2.2.2.1 rn33.1.2.2.2.2.2.2.2.2.1 rn33.1.2.2.2.2.2.2.2.2.2.1 rn33.1.2.2.2.2.2.2.2.2.2.2.1 rn33.1.2.2.2.2.2.2.2.2.2.2.2))))))))))))))
end Go.E
