/- Books: whatever is opened, closed and forgotten, each answer is the document's. -/
import Derived.Test.YtndkjhaiopcpeaaF13S
import Derived.Test.YtndkjhaiopcpeaaP13b
namespace Go.E
open Go
set_option linter.unusedVariables false
set_option maxRecDepth 100000

theorem none13_t (tx seq : Int) (m : Nat → Int) : none13_F tx seq m = true := by
  unfold none13_F
  rw [if_pos alive13_t, if_pos (by decide), if_pos (by decide)]

/-! ### The document's list, with an entry -/
def insE (x : Nat → Int) : List (Nat → Int) → List (Nat → Int)
  | [] => [x]
  | y :: r => if y 0 < x 0 then y :: insE x r else if y 0 = x 0 then x :: r else x :: y :: r
theorem mem_insE {x y : Nat → Int} {v : List (Nat → Int)} (h : y ∈ insE x v) : y = x ∨ y ∈ v := by
  induction v with
  | nil => simp [insE] at h; exact .inl h
  | cons z v ih =>
    unfold insE at h
    split at h
    · rcases List.mem_cons.1 h with h | h
      · exact .inr (by rw [h]; exact List.mem_cons_self)
      · exact (ih h).imp (fun h => h) (List.mem_cons_of_mem _)
    · split at h
      · rcases List.mem_cons.1 h with h | h
        · exact .inl h
        · exact .inr (List.mem_cons_of_mem _ h)
      · exact List.mem_cons.1 h
theorem rising_insE {x : Nat → Int} {v : List (Nat → Int)} (h : v.Pairwise fun a b => a 0 < b 0) : (insE x v).Pairwise fun a b => a 0 < b 0 := by
  induction v with
  | nil => simp [insE]
  | cons z v ih =>
    have hz := List.pairwise_cons.1 h
    unfold insE
    by_cases h1 : z 0 < x 0
    · rw [if_pos h1]
      refine List.pairwise_cons.2 ⟨fun y hy => ?_, ih hz.2⟩
      rcases mem_insE hy with rfl | hy
      · exact h1
      · exact hz.1 y hy
    · rw [if_neg h1]
      by_cases h2 : z 0 = x 0
      · rw [if_pos h2]
        refine List.pairwise_cons.2 ⟨fun y hy => ?_, hz.2⟩
        have := hz.1 y hy; omega
      · rw [if_neg h2]
        refine List.pairwise_cons.2 ⟨fun y hy => ?_, h⟩
        rcases List.mem_cons.1 hy with rfl | hy
        · omega
        · have := hz.1 y hy; omega
theorem mem_insE_iff {x y : Nat → Int} {v : List (Nat → Int)} (h : v.Pairwise fun a b => a 0 < b 0) : y ∈ insE x v ↔ y = x ∨ (y ∈ v ∧ y 0 ≠ x 0) := by
  induction v with
  | nil => simp [insE]
  | cons z v ih =>
    have hz := List.pairwise_cons.1 h
    unfold insE
    by_cases h1 : z 0 < x 0
    · rw [if_pos h1, List.mem_cons, ih hz.2, List.mem_cons]
      constructor
      · rintro (rfl | rfl | ⟨h2, h3⟩)
        · exact .inr ⟨.inl rfl, by omega⟩
        · exact .inl rfl
        · exact .inr ⟨.inr h2, h3⟩
      · rintro (rfl | ⟨rfl | h2, h3⟩)
        · exact .inr (.inl rfl)
        · exact .inl rfl
        · exact .inr (.inr ⟨h2, h3⟩)
    · rw [if_neg h1]
      by_cases h2 : z 0 = x 0
      · rw [if_pos h2, List.mem_cons, List.mem_cons]
        constructor
        · rintro (rfl | h3)
          · exact .inl rfl
          · have := hz.1 y h3
            exact .inr ⟨.inr h3, by omega⟩
        · rintro (rfl | ⟨rfl | h3, h4⟩)
          · exact .inl rfl
          · exact absurd h2 h4
          · exact .inr h3
      · rw [if_neg h2, List.mem_cons, List.mem_cons]
        constructor
        · rintro (rfl | rfl | h3)
          · exact .inl rfl
          · exact .inr ⟨.inl rfl, h2⟩
          · have := hz.1 y h3
            exact .inr ⟨.inr h3, by omega⟩
        · rintro (rfl | ⟨h3, h4⟩)
          · exact .inl rfl
          · exact .inr h3
theorem len_insE (x : Nat → Int) (v : List (Nat → Int)) : (insE x v).length ≤ v.length + 1 := by
  induction v with
  | nil => simp [insE]
  | cons z v ih =>
    unfold insE
    split
    · simp only [List.length_cons]; omega
    · split <;> simp

/-- A round of the document's loop. -/
def put13 (x : Nat → Int) (key : Int) (v out : List (Nat → Int)) (put : Bool) (i : Int) (o : ((List (Nat → Int)) × Bool × Int) ⊕ ((List (Nat → Int)) × Bool)) : Prop :=
  if i < (v.length : Int) then
    (((!(put)) = true) → 0 ≤ i ∧ i < v.length) ∧ (
    if ((!(put)) && (decide (key ≤ v[i.toNat]! 0))) = true then
      ((out.length + 1) * 240 ≤ 140737488355328) ∧ (
      (0 ≤ i ∧ i < v.length) ∧ (
      if v[i.toNat]! 0 = key then
        (inI64 (i + 1)) ∧ (
        o = (.inl ((out ++ [x]), true, i + 1)))
      else
        (0 ≤ i ∧ i < v.length) ∧ (
        (((out ++ [x]).length + 1) * 240 ≤ 140737488355328) ∧ (
        (inI64 (i + 1)) ∧ (
        o = (.inl (((out ++ [x]) ++ [(v[i.toNat]!)]), true, i + 1)))))))
    else
      (0 ≤ i ∧ i < v.length) ∧ (
      if v[i.toNat]! 0 = key then
        (inI64 (i + 1)) ∧ (
        o = (.inl (out, put, i + 1)))
      else
        (0 ≤ i ∧ i < v.length) ∧ (
        ((out.length + 1) * 240 ≤ 140737488355328) ∧ (
        (inI64 (i + 1)) ∧ (
        o = (.inl ((out ++ [(v[i.toNat]!)]), put, i + 1)))))))
  else
    o = (.inr (out, put))

def finE (x : Nat → Int) (v out : List (Nat → Int)) (put : Bool) (i : Nat) : List (Nat → Int) := if put = true then out ++ v.drop i else out ++ insE x (v.drop i)
structure PutE (x : Nat → Int) (v : List (Nat → Int)) (s : List (Nat → Int) × Bool × Int) : Prop where
  i0 : 0 ≤ s.2.2
  i1 : s.2.2 ≤ v.length
  fin : finE x v s.1 s.2.1 s.2.2.toNat = insE x v
  gt : s.2.1 = true → ∀ y ∈ v.drop s.2.2.toNat, x 0 < y 0
  len : s.1.length ≤ 2 * s.2.2.toNat + 2

theorem put13_wh (x : Nat → Int) (key : Int) (hkey : x 0 = key) (v : List (Nat → Int)) (hv : v.length ≤ 1000) (hr : v.Pairwise fun a b => a 0 < b 0) :
    ∃ out put, Wh (fun (s : (List (Nat → Int)) × Bool × Int) (o : ((List (Nat → Int)) × Bool × Int) ⊕ ((List (Nat → Int)) × Bool)) => put13 x key v s.1 s.2.1 s.2.2 o) (([], false, 0) : (List (Nat → Int)) × Bool × Int) (out, put) ∧
      (if put = true then out else out ++ [x]) = insE x v ∧ out.length ≤ 10000 := by
  subst hkey
  suffices h : ∃ r, Wh (fun (s : (List (Nat → Int)) × Bool × Int) (o : ((List (Nat → Int)) × Bool × Int) ⊕ ((List (Nat → Int)) × Bool)) => put13 x (x 0) v s.1 s.2.1 s.2.2 o) (([], false, 0) : (List (Nat → Int)) × Bool × Int) r ∧ PutE x v (r.1, r.2, (v.length : Int)) by
    obtain ⟨⟨out, put⟩, hw, hI⟩ := h
    refine ⟨out, put, hw, ?_, ?_⟩
    · have := hI.fin
      simp only [finE, Int.toNat_natCast, List.drop_length, List.append_nil] at this
      exact this
    · have := hI.len
      simp only [Int.toNat_natCast] at this
      omega
  refine Wh.by (PutE x v) (fun s => ((v.length : Int) - s.2.2).toNat) (fun (r : (List (Nat → Int)) × Bool) => PutE x v (r.1, r.2, (v.length : Int))) ⟨by simp, by simp, by simp [finE], by simp, by simp⟩ ?_
  rintro ⟨out, put, k⟩ ⟨i0, i1, hf, hg, hl⟩
  simp only at i0 i1 hf hg hl
  by_cases hk : k < v.length
  · have hkn : k.toNat < v.length := by omega
    have hd : v.drop k.toNat = v[k.toNat]! :: v.drop (k.toNat + 1) := by
      rw [getElem!_pos v k.toNat hkn, List.drop_eq_getElem_cons hkn]
    generalize hz : v[k.toNat]! = z at hd
    have hin : inI64 (k + 1) := ⟨by omega, by omega⟩
    have hk1 : (k + 1).toNat = k.toNat + 1 := by omega
    have hb : out.length ≤ 10000 := by omega
    have hgt : ∀ y ∈ v.drop (k.toNat + 1), z 0 < y 0 := by
      have := hr.sublist (List.drop_sublist k.toNat v)
      rw [hd] at this
      exact (List.pairwise_cons.1 this).1
    have hstep : ∀ out' put', put13 x (x 0) v out put k (.inl (out', put', k + 1)) → finE x v out' put' (k.toNat + 1) = insE x v → (put' = true → ∀ y ∈ v.drop (k.toNat + 1), x 0 < y 0) → out'.length ≤ out.length + 2 →
        (∃ s', put13 x (x 0) v out put k (.inl s') ∧ PutE x v s' ∧ ((v.length : Int) - s'.2.2).toNat < ((v.length : Int) - k).toNat) := fun out' put' h1 h2 h3 h4 =>
      ⟨_, h1, ⟨by simp only; omega, by simp only; omega, by simp only [hk1]; exact h2, by simp only [hk1]; exact h3, by simp only [hk1]; omega⟩, by simp only; omega⟩
    by_cases c1 : x 0 ≤ z 0 ∧ put = false
    · obtain ⟨c1, rfl⟩ := c1
      by_cases c2 : z 0 = x 0
      · refine .inl (hstep (out ++ [x]) true ?_ ?_ (fun _ y hy => by have := hgt y hy; omega) (by simp))
        · unfold put13
          rw [if_pos hk, hz, if_pos (by simp [c1]), if_pos c2]
          exact ⟨fun _ => ⟨i0, hk⟩, by omega, ⟨i0, hk⟩, hin, rfl⟩
        · rw [← hf]
          unfold finE
          rw [if_pos rfl, if_neg (by decide), hd]
          conv => rhs; unfold insE
          rw [if_neg (c := z 0 < x 0) (by omega), if_pos c2]
          simp
      · refine .inl (hstep (out ++ [x] ++ [z]) true ?_ ?_ (fun _ y hy => by have := hgt y hy; omega) (by simp))
        · unfold put13
          rw [if_pos hk, hz, if_pos (by simp [c1]), if_neg c2]
          exact ⟨fun _ => ⟨i0, hk⟩, by omega, ⟨i0, hk⟩, ⟨i0, hk⟩, by simp only [List.length_append, List.length_singleton]; omega, hin, rfl⟩
        · rw [← hf]
          unfold finE
          rw [if_pos rfl, if_neg (by decide), hd]
          conv => rhs; unfold insE
          rw [if_neg (c := z 0 < x 0) (by omega), if_neg c2]
          simp
    · have hneg : ¬ ((!(put)) && (decide (x 0 ≤ z 0))) = true := by
        intro h
        simp only [Bool.and_eq_true, decide_eq_true_eq, Bool.not_eq_true'] at h
        exact c1 ⟨h.2, h.1⟩
      have hne : z 0 ≠ x 0 := by
        intro e
        cases put with
        | false => exact c1 ⟨by omega, rfl⟩
        | true =>
          have := hg rfl z (by rw [hd]; exact List.mem_cons_self)
          omega
      refine .inl (hstep (out ++ [z]) put ?_ ?_ (fun hp y hy => hg hp y (by rw [hd]; exact List.mem_cons_of_mem _ hy)) (by simp))
      · unfold put13
        rw [if_pos hk, hz, if_neg hneg, if_neg hne]
        exact ⟨fun _ => ⟨i0, hk⟩, ⟨i0, hk⟩, ⟨i0, hk⟩, by omega, hin, rfl⟩
      · rw [← hf]
        unfold finE
        cases put with
        | true => rw [if_pos rfl, if_pos rfl, hd]; simp
        | false =>
          rw [if_neg (by decide), if_neg (by decide), hd]
          conv => rhs; unfold insE
          have : z 0 < x 0 := by
            rcases Int.lt_or_le (z 0) (x 0) with h | h
            · exact h
            · exact absurd ⟨h, rfl⟩ c1
          rw [if_pos this]
          simp
  · obtain rfl : k = v.length := by omega
    refine .inr ⟨(out, put), ?_, i0, i1, hf, hg, hl⟩
    show put13 x (x 0) v out put (v.length : Int) _
    unfold put13
    rw [if_neg (by omega)]

/-! ### The transactions of the document's list -/
def ids13 (v : List (Nat → Int)) (ids : List Int) (k : Int) (o : ((List Int) × Int) ⊕ ((List Int))) : Prop :=
  if k < (v.length : Int) then
    (0 ≤ k ∧ k < v.length) ∧ (
    ((ids.length + 1) * 8 ≤ 140737488355328) ∧ (
    (inI64 (k + 1)) ∧ (
    o = (.inl ((ids ++ [v[k.toNat]! 0]), k + 1)))))
  else
    o = (.inr ids)
theorem ids13_wh (v : List (Nat → Int)) (hv : v.length ≤ 100000) : Wh (fun (s : (List Int) × Int) (o : ((List Int) × Int) ⊕ ((List Int))) => ids13 v s.1 s.2 o) (([], 0) : (List Int) × Int) (v.map fun x => x 0) := by
  have := Wh.upto (f := fun (s : (List Int) × Int) (o : ((List Int) × Int) ⊕ ((List Int))) => ids13 v s.1 s.2 o) (fun k : Nat => ((v.take k).map (fun x => x 0), (k : Int))) v.length (r := v.map fun x => x 0) (fun k hk => by
      dsimp only
      unfold ids13
      rw [if_pos (by omega), Int.toNat_natCast, map_take _ _ _ hk]
      exact ⟨⟨by omega, by omega⟩, by simp; omega, ⟨by omega, by omega⟩, rfl⟩) (by
      dsimp only
      unfold ids13
      rw [if_neg (by omega), take_len])
  simpa using this

/-! ### The same book -/
structure Same13 (n : Nat) (d : Bk) (v : List (Nat → Int)) : Prop where
  r : v.Pairwise fun a b => a 0 < b 0
  f : ∀ x ∈ v, ∃ e, mfind ieq d (x 0) = some e ∧ ∀ i, i < 29 → e i = x (1 + i)
  g : ∀ t, mhas ieq d t = true → ∃ x ∈ v, x 0 = t
  u : Uniq d
  dn : d.length ≤ n
  n : v.length ≤ n
  v : ∀ x ∈ v, (1 ≤ x 0 ∧ x 0 ≤ 1048576) ∧ 1 ≤ x 1 ∧ (x 2 = 0 ∨ 0 < x 2)

theorem Same13.nil : Same13 0 [] [] := ⟨.nil, fun x h => by simp at h, fun t h => by simp [mhas, mfind] at h, by simp [Uniq], by simp, by simp, fun x h => by simp at h⟩
theorem Same13.more {n m : Nat} {d : Bk} {v : List (Nat → Int)} (h : Same13 n d v) (hm : n ≤ m) : Same13 m d v :=
  ⟨h.r, h.f, h.g, h.u, Nat.le_trans h.dn hm, Nat.le_trans h.n hm, h.v⟩
theorem Same13.keys {n : Nat} {d : Bk} {v : List (Nat → Int)} (h : Same13 n d v) : skeys d = v.map fun x => x 0 :=
  skeys_eq h.u (List.pairwise_map.2 h.r) fun t => by
    rw [List.mem_map]
    constructor
    · rintro ⟨x, hx, rfl⟩
      obtain ⟨e, he, _⟩ := h.f x hx
      rw [mhas_mfind, he]; rfl
    · exact h.g t
theorem Same13.P {n : Nat} {d : Bk} {v : List (Nat → Int)} (h : Same13 n d v) (hn : n ≤ 1000) : ball_P d :=
  ⟨⟨fun p hp => by
    obtain ⟨x, hx, e⟩ := h.g p.1 (mhas_mem.2 (List.mem_map.2 ⟨p, hp, rfl⟩))
    have := (h.v x hx).1
    rw [← e]
    exact ⟨by omega, by omega⟩, by have := h.dn; omega⟩, trivial⟩
theorem Same13.last {n : Nat} {d : Bk} {v : List (Nat → Int)} (h : Same13 n d v) (hn : n ≤ 1000) {α : Type} {i : Int} (hi : 0 ≤ i ∧ i < 1000) {A B : (List (Nat → Int)) × Int × Bk ⊕ α} :
    (ball_P d) ∧ ((ints_P (ball_F d) (v.map fun x => x 0)) ∧ (if (ints_F (ball_F d) (v.map fun x => x 0)) = true then (inI64 (i + 1)) ∧ A = A else A = B)) := by
  have hk : ball_F d = v.map fun x => x 0 := h.keys
  refine ⟨h.P hn, ?_, ?_⟩
  · rw [hk]; unfold ints_P; have := h.n; simp; omega
  · rw [hk, if_pos (ints_self _)]
    exact ⟨⟨by omega, by omega⟩, rfl⟩
theorem Same13.miss {n : Nat} {d : Bk} {v : List (Nat → Int)} (h : Same13 n d v) {t : Int} (ht : findR_F v t < 0) : mhas ieq d t = false := by
  cases hm : mhas ieq d t with
  | false => rfl
  | true =>
    obtain ⟨x, hx, e⟩ := h.g t hm
    exact absurd e (find_neg ht x hx)
theorem Same13.hit {n : Nat} {d : Bk} {v : List (Nat → Int)} (h : Same13 n d v) {t : Int} (ht : ¬ findR_F v t < 0) :
    ∃ x e, x = v[(findR_F v t).toNat]! ∧ x ∈ v ∧ x 0 = t ∧ mget ieq d t (fun _ => 0) = e ∧ mhas ieq d t = true ∧ ∀ i, i < 29 → e i = x (1 + i) := by
  obtain ⟨h1, h2⟩ := find_pos ht
  have hx := at_mem' h1
  obtain ⟨e, he, hc⟩ := h.f _ hx
  rw [h2] at he
  exact ⟨_, e, rfl, hx, h2, by rw [mget_mfind, he]; rfl, by rw [mhas_mfind, he]; rfl, hc⟩
theorem Same13.put {n : Nat} {d : Bk} {v : List (Nat → Int)} (h : Same13 n d v) {x e : Nat → Int} (hx : (1 ≤ x 0 ∧ x 0 ≤ 1048576) ∧ 1 ≤ x 1 ∧ (x 2 = 0 ∨ 0 < x 2)) (he : ∀ i, i < 29 → e i = x (1 + i)) :
    Same13 (n + 1) (mset ieq d (x 0) e) (insE x v) := by
  refine ⟨rising_insE h.r, fun y hy => ?_, fun t ht => ?_, uniq_mset h.u _ _, ?_, ?_, fun y hy => ?_⟩
  · rw [mfind_mset']
    rcases (mem_insE_iff h.r).1 hy with rfl | ⟨hy, hne⟩
    · exact ⟨e, by rw [if_pos rfl], he⟩
    · rw [if_neg hne]; exact h.f y hy
  · rw [mhas_mfind, mfind_mset'] at ht
    by_cases hk : t = x 0
    · exact ⟨x, (mem_insE_iff h.r).2 (.inl rfl), hk.symm⟩
    · rw [if_neg hk, ← mhas_mfind] at ht
      obtain ⟨y, hy, rfl⟩ := h.g t ht
      exact ⟨y, (mem_insE_iff h.r).2 (.inr ⟨hy, hk⟩), rfl⟩
  · have := len_mset d (x 0) e; have := h.dn; omega
  · have := len_insE x v; have := h.n; omega
  · rcases mem_insE hy with rfl | hy
    · exact hx
    · exact h.v y hy
theorem Same13.del {n : Nat} {d : Bk} {v : List (Nat → Int)} (h : Same13 n d v) {t : Int} (ht : ¬ findR_F v t < 0) :
    Same13 n (mdel ieq d t) ([] ++ (v.take (findR_F v t).toNat).drop 0 ++ (v.take v.length).drop ((findR_F v t) + 1).toNat) := by
  obtain ⟨h1, h2⟩ := find_pos ht
  generalize hF : findR_F v t = F at h1 h2
  have hk : F.toNat < v.length := by omega
  have e : ([] ++ (v.take F.toNat).drop 0 ++ (v.take v.length).drop (F + 1).toNat) = v.take F.toNat ++ v.drop (F.toNat + 1) := by
    rw [take_len, show (F + 1).toNat = F.toNat + 1 by omega]; simp
  rw [e]
  have hs : v = v.take F.toNat ++ v[F.toNat]! :: v.drop (F.toNat + 1) := by
    rw [getElem!_pos v _ hk, ← List.drop_eq_getElem_cons hk, List.take_append_drop]
  generalize hA : v.take F.toNat = A at hs
  generalize hB : v.drop (F.toNat + 1) = B at hs
  generalize hx : v[F.toNat]! = x at hs h2
  have hr := h.r
  rw [hs] at hr
  obtain ⟨r1, r2, r3⟩ := List.pairwise_append.1 hr
  obtain ⟨r4, r5⟩ := List.pairwise_cons.1 r2
  have hmem : ∀ y, y ∈ A ++ B ↔ y ∈ v ∧ y 0 ≠ t := by
    intro y
    rw [hs, List.mem_append, List.mem_append, List.mem_cons]
    constructor
    · rintro (hy | hy)
      · have := r3 y hy x List.mem_cons_self
        exact ⟨.inl hy, by omega⟩
      · have := r4 y hy
        exact ⟨.inr (.inr hy), by omega⟩
    · rintro ⟨hy | rfl | hy, hne⟩
      · exact .inl hy
      · exact absurd h2 hne
      · exact .inr hy
  have hlen : (A ++ B).length ≤ v.length := by rw [hs]; simp
  refine ⟨List.pairwise_append.2 ⟨r1, r5, fun a ha b hb => r3 a ha b (List.mem_cons_of_mem _ hb)⟩, fun y hy => ?_, fun k hk => ?_, uniq_mdel h.u _, ?_, ?_, fun y hy => ?_⟩
  · obtain ⟨hy, hne⟩ := (hmem y).1 hy
    rw [mfind_mdel', if_neg hne]
    exact h.f y hy
  · rw [mhas_mfind, mfind_mdel'] at hk
    by_cases hkt : k = t
    · rw [if_pos hkt] at hk; cases hk
    · rw [if_neg hkt, ← mhas_mfind] at hk
      obtain ⟨y, hy, rfl⟩ := h.g k hk
      exact ⟨y, (hmem y).2 ⟨hy, hkt⟩, rfl⟩
  · have := len_mdel d t; have := h.dn; omega
  · have := h.n; omega
  · exact h.v y ((hmem y).1 hy).1

theorem answers_iff (m : Nat → Int) : answers_F m = !((((!(decide (m 0 = 2))) && (!(decide (m 0 = 3)))) || (!((okB m))))) := by
  unfold answers_F
  have e : decide (msgOk_F m = 0) = okB m := by
    rw [Bool.eq_iff_iff, decide_eq_true_eq, msgOk_0]
  rw [e]
  by_cases h2 : m 0 = 2
  · rw [if_pos h2]; simp [h2]
  · rw [if_neg h2]
    by_cases h3 : m 0 = 3
    · rw [if_pos h3]; simp [h3]
    · rw [if_neg h3]; simp [h2, h3]

theorem zero28 : (eqN 28 (fun _ => 0) (fun _ => 0)) = true := by decide
theorem eqN28_self (f : Nat → Int) : eqN 28 f f = true := eqN_iff.2 fun _ _ => rfl

theorem acts13_step (acts v : List (Nat → Int)) (i : Int) (d : Bk) (hi : 0 ≤ i ∧ i < acts.length) (hl : acts.length ≤ 100) (h : Same13 i.toNat d v) :
    ∃ v' d', acts13_l1 acts v i d (.inl (v', i + 1, d')) ∧ Same13 (i.toNat + 1) d' v' := by
  have hv := h.n
  have hP : ∀ t, findR_P v t := fun t => by unfold findR_P; omega
  have hi' : 0 ≤ i ∧ i < 1000 := by omega
  have hn1 : i.toNat + 1 ≤ 1000 := by omega
  have ids : ∀ v' : List (Nat → Int), v'.length ≤ i.toNat + 1 → Wh (fun (s : (List Int) × Int) (o : ((List Int) × Int) ⊕ ((List Int))) => ids13 v' s.1 s.2 o) (([], 0) : (List Int) × Int) (v'.map fun x => x 0) := fun v' hv' => ids13_wh v' (by omega)
  have h' := h.more (Nat.le_succ i.toNat)
  unfold acts13_l1
  simp only [if_pos hi.2]
  by_cases k0 : (acts[i.toNat]!) 0 = 0
  · simp only [if_pos k0]
    generalize hb : bopen_F d ((acts[i.toNat]!) 1) ((acts[i.toNat]!) 2) = r
    have hb' := hb
    unfold bopen_F at hb
    by_cases hr : ((((decide ((acts[i.toNat]!) 1 < 1)) || (decide (1048576 < (acts[i.toNat]!) 1))) || (decide ((acts[i.toNat]!) 2 < 1))) || (decide (1048576 < (acts[i.toNat]!) 2))) = true
    · rw [if_pos hr] at hb
      subst hb
      refine ⟨v, d, ⟨hi, ?_⟩, h'⟩
      rw [if_pos hr, if_neg (by first | decide | exact Bool.false_ne_true | rfl)]
      refine ⟨_, ids v (by omega), ?_⟩
      unfold acts13_k2a
      rw [hb']
      exact h'.last hn1 hi'
    rw [if_neg hr] at hb
    simp only [Bool.or_eq_true, decide_eq_true_eq, not_or, Int.not_lt] at hr
    have hput : ∀ d', r = ((fun _ => 0), 0, d') → d' = mset ieq d ((acts[i.toNat]!) 1) (updI (fun _ => 0) 0 ((acts[i.toNat]!) 2)) →
        ∃ v', (∃ x : (List (Nat → Int)) × Bool, Wh (fun (s : (List (Nat → Int)) × Bool × Int) (o : ((List (Nat → Int)) × Bool × Int) ⊕ ((List (Nat → Int)) × Bool)) => acts13_l3 acts v i s.1 s.2.1 s.2.2 o) (([], false, 0) : (List (Nat → Int)) × Bool × Int) x ∧ acts13_k3a acts i d x.1 x.2 (.inl (v', i + 1, d'))) ∧ Same13 (i.toNat + 1) d' v' := by
      rintro d' rfl hd
      have hS := h.put (x := updI (updI (fun _ => 0) 0 ((acts[i.toNat]!) 1)) 1 ((acts[i.toNat]!) 2)) (e := updI (fun _ => 0) 0 ((acts[i.toNat]!) 2)) ⟨⟨hr.1.1.1, hr.1.1.2⟩, hr.1.2, .inl rfl⟩ (fun j hj => by
        by_cases h0 : j = 0
        · subst h0; rfl
        · simp only [updI]
          rw [if_neg h0, if_neg (by omega), if_neg (by omega)])
      rw [show (updI (updI (fun _ => 0) 0 ((acts[i.toNat]!) 1)) 1 ((acts[i.toNat]!) 2)) 0 = (acts[i.toNat]!) 1 from rfl, ← hd] at hS
      obtain ⟨out, put, hw, hfin, hlen⟩ := put13_wh (updI (updI (fun _ => 0) 0 ((acts[i.toNat]!) 1)) 1 ((acts[i.toNat]!) 2)) ((acts[i.toNat]!) 1) rfl v (by omega) h.r
      refine ⟨_, ⟨(out, put), hw, ?_⟩, hS⟩
      have hn' := hS.n
      rw [← hfin] at hS hn' ⊢
      show acts13_k3a acts i d out put _
      unfold acts13_k3a
      rw [hb']
      cases put with
      | true =>
        simp only [if_true] at hS hn' ⊢
        rw [if_neg (by first | decide | exact Bool.false_ne_true | rfl)]
        refine ⟨_, ids out hn', ?_⟩
        unfold acts13_k5a
        rw [hb']
        exact hS.last hn1 hi'
      | false =>
        rw [if_neg (by first | decide | exact Bool.false_ne_true | rfl)] at hS hn' ⊢
        rw [if_neg (c := false = true) (by first | decide | exact Bool.false_ne_true | rfl)]
        refine ⟨by omega, ?_⟩
        rw [if_neg (by first | decide | exact Bool.false_ne_true | rfl)]
        refine ⟨_, ids _ hn', ?_⟩
        unfold acts13_k4a
        rw [hb']
        exact hS.last hn1 hi'
    have hr' : ¬ ((((decide ((acts[i.toNat]!) 1 < 1)) || (decide (1048576 < (acts[i.toNat]!) 1))) || (decide ((acts[i.toNat]!) 2 < 1))) || (decide (1048576 < (acts[i.toNat]!) 2))) = true := by
      simp only [Bool.or_eq_true, decide_eq_true_eq, not_or, Int.not_lt]
      exact hr
    by_cases hf : findR_F v ((acts[i.toNat]!) 1) < 0
    · rw [show mget ieq d ((acts[i.toNat]!) 1) (fun _ => 0) = (fun _ => 0) from mget_none (h.miss hf)] at hb
      rw [if_neg (show ¬ (acts[i.toNat]!) 2 < (0 : Int) by omega), if_pos (show (0 : Int) < (acts[i.toNat]!) 2 by omega)] at hb
      obtain ⟨v', hp, hS⟩ := hput _ hb.symm rfl
      refine ⟨v', _, ⟨hi, ?_⟩, hS⟩
      rw [if_neg hr']
      refine ⟨hP _, fun hc => ?_, ?_⟩
      · rw [decide_eq_true hf] at hc; cases hc
      rw [if_pos (by rw [decide_eq_true hf]; rfl)]
      exact hp
    · obtain ⟨x, e, hx, hxv, hx0, he, hm, hc⟩ := h.hit hf
      rw [he] at hb
      have hfp := (find_pos hf).1
      have e0 : e 0 = x 1 := hc 0 (by omega)
      have e1 : e 1 = x 2 := hc 1 (by omega)
      rw [e0, e1] at hb
      by_cases c1 : x 1 < (acts[i.toNat]!) 2
      · rw [if_neg (by omega), if_pos c1] at hb
        obtain ⟨v', hp, hS⟩ := hput _ hb.symm rfl
        refine ⟨v', _, ⟨hi, ?_⟩, hS⟩
        rw [if_neg hr']
        refine ⟨hP _, fun _ => hfp, ?_⟩
        rw [← hx, if_pos (by rw [decide_eq_true c1, Bool.or_true])]
        exact hp
      · have hcond : ¬ ((decide ((findR_F v ((acts[i.toNat]!) 1)) < 0)) || (decide (x 1 < (acts[i.toNat]!) 2))) = true := by
          rw [decide_eq_false hf, decide_eq_false c1]; decide
        by_cases c2 : (acts[i.toNat]!) 2 < x 1
        · rw [if_pos c2] at hb
          subst hb
          refine ⟨v, d, ⟨hi, ?_⟩, h'⟩
          rw [if_neg hr']
          refine ⟨hP _, fun _ => hfp, ?_⟩
          rw [← hx, if_neg hcond]
          refine ⟨hfp, ?_⟩
          rw [if_pos c2, if_neg (by first | decide | exact Bool.false_ne_true | rfl)]
          refine ⟨_, ids v (by omega), ?_⟩
          unfold acts13_k6a
          rw [hb']
          exact h'.last hn1 hi'
        · rw [if_neg c2, if_neg c1] at hb
          by_cases c3 : 0 < x 2
          · rw [if_neg (by omega)] at hb
            subst hb
            refine ⟨v, d, ⟨hi, ?_⟩, h'⟩
            rw [if_neg hr']
            refine ⟨hP _, fun _ => hfp, ?_⟩
            rw [← hx, if_neg hcond]
            refine ⟨hfp, ?_⟩
            rw [if_neg c2]
            refine ⟨hfp, ?_⟩
            rw [if_pos c3]
            refine ⟨hfp, ?_⟩
            have he28 : eqN 28 (fun j => e (1 + j)) (fun j => x (2 + j)) = true := eqN_iff.2 fun j hj => by
              show e (1 + j) = x (2 + j)
              rw [hc (1 + j) (by omega)]
              congr 1; omega
            rw [if_neg (by simp only [he28]; exact Bool.false_ne_true)]
            refine ⟨_, ids v (by omega), ?_⟩
            unfold acts13_k7a
            rw [hb']
            exact h'.last hn1 hi'
          · have hx2 := (h.v x hxv).2.2
            rw [if_pos (by omega)] at hb
            subst hb
            refine ⟨v, d, ⟨hi, ?_⟩, h'⟩
            rw [if_neg hr']
            refine ⟨hP _, fun _ => hfp, ?_⟩
            rw [← hx, if_neg hcond]
            refine ⟨hfp, ?_⟩
            rw [if_neg c2]
            refine ⟨hfp, ?_⟩
            rw [if_neg c3, if_neg (by first | decide | exact Bool.false_ne_true | rfl)]
            refine ⟨_, ids v (by omega), ?_⟩
            unfold acts13_k8a
            rw [hb']
            exact h'.last hn1 hi'
  · simp only [if_neg k0]
    by_cases k1 : (acts[i.toNat]!) 0 = 1
    · simp only [if_pos k1]
      generalize hb : bclose_F d (fun j => (acts[i.toNat]!) (3 + j)) = r
      have hb' := hb
      unfold bclose_F at hb
      rw [answers_iff] at hb
      simp only [Nat.add_zero] at hb
      by_cases hr : (((!(decide ((acts[i.toNat]!) 3 = 2))) && (!(decide ((acts[i.toNat]!) 3 = 3)))) || (!((okB (fun i_1 => (acts[i.toNat]!) (3 + i_1)))))) = true
      · rw [hr, if_neg (by first | decide | exact Bool.false_ne_true | rfl)] at hb
        subst hb
        refine ⟨v, d, ⟨hi, ?_⟩, h'⟩
        rw [if_pos hr, if_pos (by first | decide | exact Bool.false_ne_true | rfl)]
        refine ⟨_, ids v (by omega), ?_⟩
        unfold acts13_k9a
        rw [hb']
        exact h'.last hn1 hi'
      · have hrf := Bool.eq_false_iff.2 hr
        rw [hrf, if_pos (by first | decide | exact Bool.false_ne_true | rfl)] at hb
        by_cases hf : findR_F v ((acts[i.toNat]!) 6) < 0
        · rw [if_neg (by rw [h.miss hf]; decide)] at hb
          subst hb
          refine ⟨v, d, ⟨hi, ?_⟩, h'⟩
          rw [if_neg hr]
          refine ⟨hP _, ?_⟩
          rw [if_pos hf, if_pos (by first | decide | exact Bool.false_ne_true | rfl)]
          refine ⟨_, ids v (by omega), ?_⟩
          unfold acts13_k10a
          rw [hb']
          exact h'.last hn1 hi'
        · obtain ⟨x, e, hx, hxv, hx0, he, hm, hc⟩ := h.hit hf
          have hfp := (find_pos hf).1
          have e0 : e 0 = x 1 := hc 0 (by omega)
          have e1 : e 1 = x 2 := hc 1 (by omega)
          rw [show (3 + 3 : Nat) = 6 from rfl, show (3 + 4 : Nat) = 7 from rfl, if_pos hm, he, e0, e1] at hb
          by_cases c1 : x 1 = (acts[i.toNat]!) 7
          · rw [if_pos c1] at hb
            by_cases c2 : 0 < x 2
            · rw [if_neg (by omega)] at hb
              subst hb
              refine ⟨v, d, ⟨hi, ?_⟩, h'⟩
              rw [if_neg hr]
              refine ⟨hP _, ?_⟩
              rw [if_neg hf, ← hx]
              refine ⟨hfp, ?_⟩
              rw [if_pos c1]
              refine ⟨hfp, ?_⟩
              rw [if_pos c2, if_pos (by first | decide | exact Bool.false_ne_true | rfl)]
              refine ⟨_, ids v (by omega), ?_⟩
              unfold acts13_k12a
              rw [hb']
              exact h'.last hn1 hi'
            · have hx2 := h.v x hxv
              rw [if_pos (by omega)] at hb
              subst hb
              have hkind : 0 < (acts[i.toNat]!) 3 := by
                simp only [Bool.or_eq_false_iff, Bool.and_eq_false_iff, Bool.not_eq_false', decide_eq_true_eq] at hrf
                omega
              have hS := h.put (x := (updRI (updI (updI (fun _ => 0) 0 ((acts[i.toNat]!) 6)) 1 ((acts[i.toNat]!) 7)) 2 28 (fun j => (acts[i.toNat]!) (3 + j)))) (e := updRI (updI (fun _ => 0) 0 ((acts[i.toNat]!) 7)) 1 28 (fun j => (acts[i.toNat]!) (3 + j))) ⟨by
                show 1 ≤ (acts[i.toNat]!) 6 ∧ (acts[i.toNat]!) 6 ≤ 1048576
                rw [← hx0]; exact hx2.1, by
                show 1 ≤ (acts[i.toNat]!) 7
                rw [← c1]; exact hx2.2.1, .inr hkind⟩ (fun j hj => by
                simp only [updRI, updI]
                by_cases h0 : j = 0
                · subst h0; simp
                · rw [if_pos (show 1 ≤ j ∧ j < 1 + 28 by omega), if_pos (show 2 ≤ 1 + j ∧ 1 + j < 2 + 28 by omega)]
                  rw [show 3 + (1 + j - 2) = 3 + (j - 1) by omega])
              have ex0 : (updRI (updI (updI (fun _ => 0) 0 ((acts[i.toNat]!) 6)) 1 ((acts[i.toNat]!) 7)) 2 28 (fun j => (acts[i.toNat]!) (3 + j))) 0 = (acts[i.toNat]!) 6 := rfl
              rw [ex0] at hS
              obtain ⟨out, put, hw, hfin, hlen⟩ := put13_wh (updRI (updI (updI (fun _ => 0) 0 ((acts[i.toNat]!) 6)) 1 ((acts[i.toNat]!) 7)) 2 28 (fun j => (acts[i.toNat]!) (3 + j))) ((acts[i.toNat]!) 6) ex0 v (by omega) h.r
              refine ⟨_, _, ⟨hi, ?_⟩, hS⟩
              rw [if_neg hr]
              refine ⟨hP _, ?_⟩
              rw [if_neg hf, ← hx]
              refine ⟨hfp, ?_⟩
              rw [if_pos c1]
              refine ⟨hfp, ?_⟩
              rw [if_neg c2]
              refine ⟨(out, put), hw, ?_⟩
              have hn' := hS.n
              rw [← hfin] at hS hn' ⊢
              show acts13_k13a acts i d out put _
              unfold acts13_k13a
              rw [hb']
              cases put with
              | true =>
                simp only [if_true] at hS hn' ⊢
                rw [if_pos (by first | decide | exact Bool.false_ne_true | rfl)]
                refine ⟨_, ids out hn', ?_⟩
                unfold acts13_k15a
                rw [hb']
                exact hS.last hn1 hi'
              | false =>
                rw [if_neg (by first | decide | exact Bool.false_ne_true | rfl)] at hS hn' ⊢
                rw [if_neg (c := false = true) (by first | decide | exact Bool.false_ne_true | rfl)]
                refine ⟨by omega, ?_⟩
                rw [if_pos (by first | decide | exact Bool.false_ne_true | rfl)]
                refine ⟨_, ids _ hn', ?_⟩
                unfold acts13_k14a
                rw [hb']
                exact hS.last hn1 hi'
          · rw [if_neg c1] at hb
            subst hb
            refine ⟨v, d, ⟨hi, ?_⟩, h'⟩
            rw [if_neg hr]
            refine ⟨hP _, ?_⟩
            rw [if_neg hf, ← hx]
            refine ⟨hfp, ?_⟩
            rw [if_neg c1, if_pos (by first | decide | exact Bool.false_ne_true | rfl)]
            refine ⟨_, ids v (by omega), ?_⟩
            unfold acts13_k11a
            rw [hb']
            exact h'.last hn1 hi'
    · simp only [if_neg k1]
      generalize hb : bforget_F d ((acts[i.toNat]!) 1) = r
      have hb' := hb
      unfold bforget_F blast_F at hb
      by_cases hf : findR_F v ((acts[i.toNat]!) 1) < 0
      · rw [h.miss hf, if_neg (c := false = true) (by decide), if_neg (show ¬ (10 : Int) = 0 by decide)] at hb
        subst hb
        refine ⟨v, d, ⟨hi, hP _, ?_⟩, h'⟩
        rw [if_pos hf, if_pos (by first | decide | exact Bool.false_ne_true | rfl)]
        refine ⟨_, ids v (by omega), ?_⟩
        unfold acts13_k16a
        rw [hb']
        exact h'.last hn1 hi'
      · obtain ⟨x, e, hx, hxv, hx0, he, hm, hc⟩ := h.hit hf
        have hfp := (find_pos hf).1
        rw [if_pos hm, if_pos rfl] at hb
        subst hb
        have hS := (h.del hf).more (Nat.le_succ i.toNat)
        refine ⟨_, _, ⟨hi, hP _, ?_⟩, hS⟩
        rw [if_neg hf]
        refine ⟨⟨hfp.1, by omega⟩, ⟨by omega, by omega⟩, ⟨by omega, by omega⟩, ?_, ?_, ?_⟩
        · simp; omega
        · simp; omega
        · rw [if_pos (by first | decide | exact Bool.false_ne_true | rfl)]
          refine ⟨_, ids _ hS.n, ?_⟩
          unfold acts13_k17a
          rw [hb']
          exact hS.last hn1 hi'

theorem acts13_all (acts : List (Nat → Int)) (tx : Int) : acts13_S acts tx true := by
  unfold acts13_S
  rw [if_pos alive13_t]
  refine ite_intro (fun _ => rfl) fun hlen => ?_
  suffices h : ∃ r, Wh (fun (s : (List (Nat → Int)) × Int × (List (Int × (Nat → Int)))) (o : ((List (Nat → Int)) × Int × (List (Int × (Nat → Int)))) ⊕ (((List (Nat → Int)) × (List (Int × (Nat → Int)))) ⊕ ((List (Int × (Nat → Int)))))) => acts13_l1 acts s.1 s.2.1 s.2.2 o) (([], 0, []) : (List (Nat → Int)) × Int × (List (Int × (Nat → Int)))) r ∧ ∃ v d, r = .inl (v, d) ∧ Same13 1000 d v by
    obtain ⟨_, hr, v, d, rfl, hS⟩ := h
    refine ⟨_, hr, ?_⟩
    show acts13_k1a tx v d true
    unfold acts13_k1a
    have hv := hS.n
    refine ⟨by unfold findR_P; omega, ?_⟩
    by_cases hf : findR_F v tx < 0
    · rw [if_pos hf]
      unfold blast_F
      rw [hS.miss hf, if_neg (c := false = true) (by decide)]
      decide
    · rw [if_neg hf]
      obtain ⟨x, e, hx, hxv, hx0, he, hm, hc⟩ := hS.hit hf
      refine ⟨(find_pos hf).1, ?_⟩
      have e0 : e 0 = x 1 := hc 0 (by omega)
      unfold blast_F
      rw [if_pos hm, he, ← hx, e0]
      simp
  refine Wh.by (fun (s : (List (Nat → Int)) × Int × Bk) => 0 ≤ s.2.1 ∧ s.2.1 ≤ acts.length ∧ Same13 s.2.1.toNat s.2.2 s.1) (fun s => ((acts.length : Int) - s.2.1).toNat) (fun (r : ((List (Nat → Int)) × Bk) ⊕ (Bk)) => ∃ v d, r = .inl (v, d) ∧ Same13 1000 d v) ⟨by simp, by simp, Same13.nil⟩ ?_
  rintro ⟨v, i, d⟩ ⟨i0, i1, hS⟩
  simp only at i0 i1 hS
  by_cases he : i = acts.length
  · refine .inr ⟨.inl (v, d), ?_, v, d, rfl, hS.more (by omega)⟩
    show acts13_l1 acts v i d _
    unfold acts13_l1
    rw [if_neg (by omega)]
  · obtain ⟨v', d', h1, h2⟩ := acts13_step acts v i d ⟨i0, by omega⟩ (by omega) hS
    exact .inl ⟨(v', i + 1, d'), h1, ⟨by simp only; omega, by simp only; omega, by simp only; rw [show (i + 1).toNat = i.toNat + 1 by omega]; exact h2⟩, by simp only; omega⟩
end Go.E
