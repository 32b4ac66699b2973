/- Leases: whatever is renewed and ended, all is the document's. -/
import Derived.Test.YtfpilngnhkcgjaaP06c
namespace Go.E
open Go
set_option linter.unusedVariables false
set_option maxRecDepth 100000

def vfind (v : List (Nat → Int)) (id : Int) : Option Int := (v.find? fun x => decide (x 0 = id)).map fun x => x 1
theorem vfind_nil (id : Int) : vfind [] id = none := rfl
theorem vfind_cons (x : Nat → Int) (v : List (Nat → Int)) (id : Int) : vfind (x :: v) id = if x 0 = id then some (x 1) else vfind v id := by
  unfold vfind
  rw [List.find?_cons]
  by_cases h : x 0 = id <;> simp [h]
theorem vfind_none {v : List (Nat → Int)} {id : Int} (h : ∀ x ∈ v, x 0 ≠ id) : vfind v id = none := by
  induction v with
  | nil => rfl
  | cons x v ih => rw [vfind_cons, if_neg (h x List.mem_cons_self), ih fun y hy => h y (List.mem_cons_of_mem _ hy)]
theorem vfind_mem {v : List (Nat → Int)} (hr : v.Pairwise fun a b => a 0 < b 0) {x : Nat → Int} (hx : x ∈ v) : vfind v (x 0) = some (x 1) := by
  induction v with
  | nil => simp at hx
  | cons y v ih =>
    rw [List.pairwise_cons] at hr
    rw [vfind_cons]
    rcases List.mem_cons.1 hx with rfl | hx
    · rw [if_pos rfl]
    · have := hr.1 x hx
      rw [if_neg (by omega), ih hr.2 hx]
theorem vfind_some {v : List (Nat → Int)} {id : Int} : (vfind v id).isSome = true ↔ id ∈ v.map fun x => x 0 := by
  induction v with
  | nil => simp [vfind]
  | cons x v ih =>
    rw [vfind_cons, List.map_cons, List.mem_cons]
    by_cases h : x 0 = id
    · simp [h]
    · rw [if_neg h, ih]
      simp [show ¬ id = x 0 from fun e => h e.symm]

/-! ### A lease is renewed -/
abbrev leaseOf (id now : Int) : Nat → Int := updI (updI (fun _ => 0) 0 id) 1 now
theorem leaseOf0 (id now : Int) : leaseOf id now 0 = id := rfl
theorem leaseOf1 (id now : Int) : leaseOf id now 1 = now := rfl
def insL (id now : Int) : List (Nat → Int) → List (Nat → Int)
  | [] => [leaseOf id now]
  | x :: r => if id < x 0 then leaseOf id now :: x :: r else if x 0 = id then (if now < x 1 then x else leaseOf id now) :: r else x :: insL id now r
theorem mem_insL {id now : Int} {v : List (Nat → Int)} {y : Nat → Int} (h : y ∈ insL id now v) : y = leaseOf id now ∨ y ∈ v := by
  induction v with
  | nil => simp [insL] at h; exact .inl h
  | cons x v ih =>
    unfold insL at h
    split at h
    · rcases List.mem_cons.1 h with h | h
      · exact .inl h
      · exact .inr h
    · split at h
      · rcases List.mem_cons.1 h with h | h
        · split at h
          · exact .inr (by rw [h]; exact List.mem_cons_self)
          · exact .inl h
        · exact .inr (List.mem_cons_of_mem _ h)
      · rcases List.mem_cons.1 h with h | h
        · exact .inr (by rw [h]; exact List.mem_cons_self)
        · exact (ih h).imp (fun h => h) (List.mem_cons_of_mem _)
theorem rising_insL {id now : Int} {v : List (Nat → Int)} (h : v.Pairwise fun a b => a 0 < b 0) : (insL id now v).Pairwise fun a b => a 0 < b 0 := by
  induction v with
  | nil => simp [insL]
  | cons x v ih =>
    have hx := List.pairwise_cons.1 h
    unfold insL
    by_cases h1 : id < x 0
    · rw [if_pos h1]
      refine List.pairwise_cons.2 ⟨fun y hy => ?_, h⟩
      rw [leaseOf0]
      rcases List.mem_cons.1 hy with rfl | hy
      · exact h1
      · have := hx.1 y hy; omega
    · rw [if_neg h1]
      by_cases h2 : x 0 = id
      · rw [if_pos h2]
        refine List.pairwise_cons.2 ⟨fun y hy => ?_, hx.2⟩
        have := hx.1 y hy
        split
        · exact this
        · rw [leaseOf0]; omega
      · rw [if_neg h2]
        refine List.pairwise_cons.2 ⟨fun y hy => ?_, ih hx.2⟩
        rcases mem_insL hy with rfl | hy
        · rw [leaseOf0]; omega
        · exact hx.1 y hy
theorem vfind_insL {id now : Int} {v : List (Nat → Int)} (h : v.Pairwise fun a b => a 0 < b 0) (hn : 0 ≤ now) (k : Int) :
    vfind (insL id now v) k = if k = id then some (if (vfind v id).getD 0 < now then now else (vfind v id).getD 0) else vfind v k := by
  induction v with
  | nil =>
    unfold insL
    rw [vfind_cons, vfind_nil, vfind_nil, leaseOf0, leaseOf1]
    by_cases hk : k = id
    · rw [if_pos hk.symm, if_pos hk]
      simp only [Option.getD_none]
      by_cases h0 : 0 < now
      · rw [if_pos h0]
      · rw [if_neg h0, show now = 0 by omega]
    · rw [if_neg (fun e => hk e.symm), if_neg hk]
  | cons x v ih =>
    have hx := List.pairwise_cons.1 h
    unfold insL
    by_cases h1 : id < x 0
    · rw [if_pos h1, vfind_cons, leaseOf0, leaseOf1]
      have hno : vfind (x :: v) id = none := vfind_none fun y hy => by
        rcases List.mem_cons.1 hy with rfl | hy
        · omega
        · have := hx.1 y hy; omega
      rw [hno]
      by_cases hk : k = id
      · rw [if_pos hk.symm, if_pos hk]
        simp only [Option.getD_none]
        by_cases h0 : 0 < now
        · rw [if_pos h0]
        · rw [if_neg h0, show now = 0 by omega]
      · rw [if_neg (fun e => hk e.symm), if_neg hk]
    · rw [if_neg h1]
      by_cases h2 : x 0 = id
      · rw [if_pos h2, vfind_cons, vfind_cons, vfind_cons, if_pos h2]
        simp only [Option.getD_some]
        have e : (if now < x 1 then x else leaseOf id now) 0 = id := by
          by_cases h3 : now < x 1
          · rw [if_pos h3]; exact h2
          · rw [if_neg h3]; rfl
        have e1 : (if now < x 1 then x else leaseOf id now) 1 = if x 1 < now then now else x 1 := by
          by_cases h3 : now < x 1
          · rw [if_pos h3, if_neg (by omega)]
          · rw [if_neg h3, leaseOf1]
            split <;> omega
        rw [e, e1, h2]
        by_cases hk : k = id
        · rw [if_pos hk.symm, if_pos hk]
        · rw [if_neg (fun e => hk e.symm), if_neg hk, if_neg (fun e => hk e.symm)]
      · rw [if_neg h2, vfind_cons, vfind_cons, vfind_cons, ih hx.2, if_neg h2]
        by_cases hk : x 0 = k
        · rw [if_pos hk, if_neg (by omega), if_pos hk]
        · rw [if_neg hk, if_neg hk]
theorem len_insL (id now : Int) (v : List (Nat → Int)) : (insL id now v).length ≤ v.length + 1 := by
  induction v with
  | nil => simp [insL]
  | cons x v ih =>
    unfold insL
    split
    · simp
    · split
      · simp
      · simp only [List.length_cons]; omega

/-- The document's loop puts the lease in. -/
def finL (id now : Int) (v out : List (Nat → Int)) (put : Bool) (i : Nat) : List (Nat → Int) := if put = true then out ++ v.drop i else out ++ insL id now (v.drop i)
structure PutI (id now : Int) (v : List (Nat → Int)) (s : List (Nat → Int) × Bool × Int) : Prop where
  i0 : 0 ≤ s.2.2
  i1 : s.2.2 ≤ v.length
  fin : finL id now v s.1 s.2.1 s.2.2.toNat = insL id now v
  gt : s.2.1 = true → ∀ x ∈ v.drop s.2.2.toNat, id < x 0
  len : s.1.length ≤ 2 * s.2.2.toNat + 2

theorem acts6_put (acts v : List (Nat → Int)) (i : Int) (hv : v.length ≤ 1000) (hr : v.Pairwise fun a b => a 0 < b 0) :
    ∃ out put, Wh (fun (s : (List (Nat → Int)) × Bool × Int) (o : ((List (Nat → Int)) × Bool × Int) ⊕ ((List (Nat → Int)) × Bool)) => acts6_l3 acts v i s.1 s.2.1 s.2.2 o) (([], false, 0) : (List (Nat → Int)) × Bool × Int) (out, put) ∧
      (if put = true then out else out ++ [leaseOf ((acts[i.toNat]!) 1) ((acts[i.toNat]!) 2)]) = insL ((acts[i.toNat]!) 1) ((acts[i.toNat]!) 2) v ∧ out.length ≤ 10000 := by
  generalize hA : acts[i.toNat]! = a
  suffices h : ∃ r, Wh (fun (s : (List (Nat → Int)) × Bool × Int) (o : ((List (Nat → Int)) × Bool × Int) ⊕ ((List (Nat → Int)) × Bool)) => acts6_l3 acts v i s.1 s.2.1 s.2.2 o) (([], false, 0) : (List (Nat → Int)) × Bool × Int) r ∧ PutI (a 1) (a 2) v (r.1, r.2, (v.length : Int)) by
    obtain ⟨⟨out, put⟩, hw, hI⟩ := h
    refine ⟨out, put, hw, ?_, ?_⟩
    · have := hI.fin
      simp only [finL, Int.toNat_natCast, List.drop_length, List.append_nil] at this
      exact this
    · have := hI.len
      simp only [Int.toNat_natCast] at this
      omega
  refine Wh.by (PutI (a 1) (a 2) v) (fun s => ((v.length : Int) - s.2.2).toNat) (fun (r : (List (Nat → Int)) × Bool) => PutI (a 1) (a 2) v (r.1, r.2, (v.length : Int))) ⟨by simp, by simp, by simp [finL], by simp, by simp⟩ ?_
  rintro ⟨out, put, k⟩ ⟨i0, i1, hf, hg, hl⟩
  simp only at i0 i1 hf hg hl
  by_cases hk : k < v.length
  · have hkn : k.toNat < v.length := by omega
    have hd : v.drop k.toNat = v[k.toNat]! :: v.drop (k.toNat + 1) := by
      rw [getElem!_pos v k.toNat hkn, List.drop_eq_getElem_cons hkn]
    generalize hx : v[k.toNat]! = x at hd
    have hin : inI64 (k + 1) := ⟨by omega, by omega⟩
    have hk1 : (k + 1).toNat = k.toNat + 1 := by omega
    have hgt : ∀ y ∈ v.drop (k.toNat + 1), x 0 < y 0 := by
      have := hr.sublist (List.drop_sublist k.toNat v)
      rw [hd] at this
      exact (List.pairwise_cons.1 this).1
    have hstep : ∀ out' put', acts6_l3 acts v i out put k (.inl (out', put', k + 1)) → finL (a 1) (a 2) v out' put' (k.toNat + 1) = insL (a 1) (a 2) v → (put' = true → ∀ y ∈ v.drop (k.toNat + 1), a 1 < y 0) → out'.length ≤ out.length + 2 →
        (∃ s', acts6_l3 acts v i out put k (.inl s') ∧ PutI (a 1) (a 2) v s' ∧ ((v.length : Int) - s'.2.2).toNat < ((v.length : Int) - k).toNat) := fun out' put' h1 h2 h3 h4 =>
      ⟨_, h1, ⟨by simp only; omega, by simp only; omega, by simp only [hk1]; exact h2, by simp only [hk1]; exact h3, by simp only [hk1]; omega⟩, by simp only; omega⟩
    by_cases c1 : a 1 < x 0 ∧ put = false
    · obtain ⟨c1, rfl⟩ := c1
      refine .inl (hstep (out ++ [leaseOf (a 1) (a 2)] ++ [x]) true ?_ ?_ (fun _ y hy => by have := hgt y hy; omega) (by simp))
      · unfold acts6_l3
        rw [if_pos hk, hx, hA, if_pos (by simp [c1]), if_neg (by omega)]
        have hb : out.length ≤ 10000 := by omega
        exact ⟨⟨i0, hk⟩, by omega, ⟨i0, hk⟩, ⟨i0, hk⟩, by simp only [List.length_append, List.length_singleton]; omega, hin, rfl⟩
      · rw [← hf]
        unfold finL
        rw [if_pos rfl, if_neg (by decide), hd]
        conv => rhs; unfold insL
        rw [if_pos c1]
        simp
    · have hneg : ¬ ((decide (a 1 < x 0)) && (!(put))) = true := by
        intro h
        simp only [Bool.and_eq_true, decide_eq_true_eq, Bool.not_eq_true'] at h
        exact c1 h
      have hb : out.length ≤ 10000 := by omega
      by_cases c2 : x 0 = a 1
      · have hp : put = false := by
          cases put with
          | false => rfl
          | true =>
            have := hg rfl x (by rw [hd]; exact List.mem_cons_self)
            omega
        subst hp
        have key : finL (a 1) (a 2) v (out ++ [if a 2 < x 1 then x else leaseOf (a 1) (a 2)]) true (k.toNat + 1) = insL (a 1) (a 2) v := by
          rw [← hf]
          unfold finL
          rw [if_pos rfl, if_neg (c := false = true) (by decide), hd]
          conv => rhs; unfold insL
          rw [if_neg (c := a 1 < x 0) (by omega), if_pos (c := x 0 = a 1) c2]
          simp
        refine .inl (hstep (out ++ [if a 2 < x 1 then x else leaseOf (a 1) (a 2)]) true ?_ key (fun _ y hy => by have := hgt y hy; omega) (by simp))
        unfold acts6_l3
        rw [if_pos hk, hx, hA, if_neg hneg, if_pos c2]
        refine ⟨⟨i0, hk⟩, ⟨i0, hk⟩, ⟨i0, hk⟩, ?_⟩
        by_cases c3 : a 2 < x 1
        · rw [if_pos c3, if_pos c3]
          exact ⟨⟨i0, hk⟩, by omega, hin, rfl⟩
        · rw [if_neg c3, if_neg c3]
          exact ⟨by omega, hin, rfl⟩
      · have key : finL (a 1) (a 2) v (out ++ [x]) put (k.toNat + 1) = insL (a 1) (a 2) v := by
          rw [← hf]
          unfold finL
          cases put with
          | true => rw [if_pos rfl, if_pos rfl, hd]; simp
          | false =>
            rw [if_neg (by decide), if_neg (by decide), hd]
            conv => rhs; unfold insL
            rw [if_neg (fun h => c1 ⟨h, rfl⟩), if_neg c2]
            simp
        refine .inl (hstep (out ++ [x]) put ?_ key (fun hp y hy => hg hp y (by rw [hd]; exact List.mem_cons_of_mem _ hy)) (by simp))
        unfold acts6_l3
        rw [if_pos hk, hx, hA, if_neg hneg, if_neg c2]
        exact ⟨⟨i0, hk⟩, ⟨i0, hk⟩, ⟨i0, hk⟩, by omega, hin, rfl⟩
  · obtain rfl : k = v.length := by omega
    refine .inr ⟨(out, put), ?_, i0, i1, hf, hg, hl⟩
    show acts6_l3 acts v i out put (v.length : Int) _
    unfold acts6_l3
    rw [if_neg (by omega)]

/-! ### A lease ends -/
def delL (id : Int) (v : List (Nat → Int)) : List (Nat → Int) := v.filter fun x => !decide (x 0 = id)
theorem acts6_del (acts v : List (Nat → Int)) (i : Int) (hv : v.length ≤ 1000) :
    Wh (fun (s : (List (Nat → Int)) × Int) (o : ((List (Nat → Int)) × Int) ⊕ ((List (Nat → Int)))) => acts6_l4 acts v i s.1 s.2 o) (([], 0) : (List (Nat → Int)) × Int) (delL ((acts[i.toNat]!) 1) v) := by
  generalize hA : acts[i.toNat]! = a
  have := Wh.upto (f := fun (s : (List (Nat → Int)) × Int) (o : ((List (Nat → Int)) × Int) ⊕ ((List (Nat → Int)))) => acts6_l4 acts v i s.1 s.2 o) (fun k : Nat => (delL (a 1) (v.take k), (k : Int))) v.length (r := delL (a 1) v) (fun k hk => by
      dsimp only
      unfold acts6_l4
      have hb : (delL (a 1) (v.take k)).length ≤ 1000 := Nat.le_trans (List.length_filter_le _ _) (by simp; omega)
      rw [if_pos (by omega), Int.toNat_natCast, hA]
      unfold delL at hb ⊢
      rw [filter_take _ _ _ hk]
      refine ⟨⟨by omega, by omega⟩, ite_intro (fun h => ?_) fun h => ?_⟩
      · rw [if_neg (c := (!decide (v[k]! 0 = a 1)) = true) (by rw [decide_eq_true h]; decide), List.append_nil]
        exact ⟨⟨by omega, by omega⟩, rfl⟩
      · rw [if_pos (c := (!decide (v[k]! 0 = a 1)) = true) (by rw [decide_eq_false h]; rfl)]
        exact ⟨⟨by omega, by omega⟩, by omega, ⟨by omega, by omega⟩, rfl⟩) (by
      dsimp only
      unfold acts6_l4
      rw [if_neg (by omega), take_len])
  simpa [delL] using this
theorem delL_none {id : Int} {v : List (Nat → Int)} (h : ∀ x ∈ v, x 0 ≠ id) : delL id v = v := List.filter_eq_self.2 fun x hx => by simp [h x hx]
theorem delL_len {id : Int} {v : List (Nat → Int)} {x : Nat → Int} (hx : x ∈ v) (h : x 0 = id) : (delL id v).length < v.length := by
  unfold delL
  refine Nat.lt_of_le_of_ne (List.length_filter_le _ _) fun e => ?_
  have := List.length_filter_eq_length_iff.1 e x hx
  simp [h] at this
theorem vfind_delL (id : Int) (v : List (Nat → Int)) (k : Int) : vfind (delL id v) k = if k = id then none else vfind v k := by
  induction v with
  | nil => simp [delL, vfind]
  | cons x v ih =>
    unfold delL at ih ⊢
    rw [List.filter_cons]
    by_cases h : x 0 = id
    · rw [if_neg (by simp [h]), ih, vfind_cons]
      by_cases hk : k = id
      · rw [if_pos hk, if_pos hk]
      · rw [if_neg hk, if_neg hk, if_neg (by omega)]
    · rw [if_pos (by simp [h]), vfind_cons, ih, vfind_cons]
      by_cases hk : x 0 = k
      · rw [if_pos hk, if_neg (by omega), if_pos hk]
      · rw [if_neg hk, if_neg hk]

/-! ### The same leases -/
structure Same6 (n : Nat) (d : List (Int × Int)) (v : List (Nat → Int)) : Prop where
  r : v.Pairwise fun a b => a 0 < b 0
  f : ∀ id, mfind ieq d id = vfind v id
  k : Kept 1 9223372036854775807 n d
  n : v.length ≤ n
  v : ∀ x ∈ v, 0 ≤ x 1 ∧ x 1 ≤ 1099511627776
theorem Same6.keys {n : Nat} {d : List (Int × Int)} {v : List (Nat → Int)} (h : Same6 n d v) : skeys d = v.map fun x => x 0 :=
  skeys_eq h.k.u (List.pairwise_map.2 h.r) fun x => by rw [mhas_mfind, h.f, vfind_some]
theorem Same6.since {n : Nat} {d : List (Int × Int)} {v : List (Nat → Int)} (h : Same6 n d v) {x : Nat → Int} (hx : x ∈ v) (span : Int) : since_F span d (x 0) = (x 1, 0) := by
  unfold since_F
  rw [mhas_mfind, mget_mfind, h.f, vfind_mem h.r hx, if_pos (show (some (x 1)).isSome = true from rfl)]
  rfl
theorem Same6.due {n : Nat} {d : List (Int × Int)} {v : List (Nat → Int)} (h : Same6 n d v) {span : Int} (hs : 1 ≤ span) (now : Int) : due_F span d now = dueR_F v span now := by
  unfold due_F dueR_F
  rw [h.keys, List.filter_map]
  have e : timeR_F now = ltime_F now := rfl
  rw [e]
  by_cases ht : ltime_F now = true
  · rw [if_pos ht]
    refine congrArg _ (List.filter_congr fun x hx => ?_)
    simp only [Function.comp_apply, isDue, isDueR, ht, Bool.true_and]
    rw [mget_mfind, h.f, vfind_mem h.r hx]
    simp only [Option.getD_some]
    by_cases h1 : span ≤ now - x 1
    · have : x 1 ≤ now := by omega
      simp [h1, this]
    · simp [h1]
  · rw [if_neg ht]
    have : (isDue span d now ∘ fun x : Nat → Int => x 0) = fun _ => false := by
      funext x
      simp only [Function.comp_apply, isDue]
      simp [ht]
    rw [this]
    simp
theorem acts6_ids (span : Int) (n : Nat) (d : List (Int × Int)) (v : List (Nat → Int)) (h : Same6 n d v) (hn : n ≤ 1000) :
    Wh (fun (s : (List Int) × Int) (o : ((List Int) × Int) ⊕ (((List Int)) ⊕ (Unit))) => acts6_l2 span v d s.1 s.2 o) (([], 0) : (List Int) × Int) (.inl (v.map fun x => x 0)) := by
  have hv := h.n
  have := Wh.upto (f := fun (s : (List Int) × Int) (o : ((List Int) × Int) ⊕ (((List Int)) ⊕ (Unit))) => acts6_l2 span v d s.1 s.2 o) (fun k : Nat => ((v.take k).map (fun x => x 0), (k : Int))) v.length (r := .inl (v.map fun x => x 0)) (fun k hk => by
      dsimp only
      unfold acts6_l2
      rw [if_pos (by omega), Int.toNat_natCast, h.since (mem_at hk), map_take _ _ _ hk, if_neg (by simp)]
      exact ⟨⟨by omega, by omega⟩, by simp; omega, ⟨by omega, by omega⟩, ⟨by omega, by omega⟩, ⟨by omega, by omega⟩, rfl⟩) (by
      dsimp only
      unfold acts6_l2
      rw [if_neg (by omega), take_len])
  simpa using this
theorem Same6.renew {n : Nat} {d : List (Int × Int)} {v : List (Nat → Int)} (h : Same6 n d v) {span id now : Int} (h1 : 1 ≤ id ∧ id ≤ 9223372036854775807) (ht : 0 ≤ now ∧ now ≤ 1099511627776) :
    (renew_F span d id now).1 = 0 ∧ Same6 (n + 1) (renew_F span d id now).2 (insL id now v) := by
  obtain ⟨e, hk⟩ := h.k.renew (span := span) h1.1 h1 ht
  rw [e]
  refine ⟨rfl, rising_insL h.r, fun k => ?_, hk, by have := len_insL id now v; have := h.n; omega, fun x hx => ?_⟩
  · simp only
    rw [mfind_mset', vfind_insL h.r ht.1, mget_mfind, h.f, h.f]
  · rcases mem_insL hx with rfl | hx
    · exact ht
    · exact h.v x hx
theorem Same6.more {n m : Nat} {d : List (Int × Int)} {v : List (Nat → Int)} (h : Same6 n d v) (hm : n ≤ m) : Same6 m d v :=
  ⟨h.r, h.f, h.k.more (Int.le_refl _) (Int.le_refl _) hm, by have := h.n; omega, h.v⟩
theorem Same6.end {n : Nat} {d : List (Int × Int)} {v : List (Nat → Int)} (h : Same6 n d v) (span id : Int) :
    lend_F span d id = (if (delL id v).length = v.length then 10 else 0, (lend_F span d id).2) ∧ Same6 n (lend_F span d id).2 (if (delL id v).length = v.length then v else delL id v) := by
  unfold lend_F
  by_cases hm : mhas ieq d id = true
  · rw [if_pos hm]
    have hs : id ∈ v.map fun x => x 0 := by rw [← vfind_some, ← h.f]; exact hm
    obtain ⟨x, hx, hxi⟩ := List.mem_map.1 hs
    have := delL_len hx hxi
    rw [if_neg (by omega), if_neg (by omega)]
    refine ⟨rfl, List.Pairwise.sublist List.filter_sublist h.r, fun k => ?_, h.k.mdel id, by have := h.n; omega, fun y hy => h.v y (List.mem_filter.1 hy).1⟩
    simp only
    rw [mfind_mdel', vfind_delL, h.f]
  · rw [if_neg hm]
    have hs : ∀ x ∈ v, x 0 ≠ id := fun x hx e => hm (by rw [mhas_mfind, h.f, vfind_some]; exact List.mem_map.2 ⟨x, hx, e⟩)
    rw [delL_none hs, if_pos rfl, if_pos rfl]
    exact ⟨rfl, h⟩

theorem acts6_last (span id : Int) {n : Nat} {d : List (Int × Int)} {v : List (Nat → Int)} (h : Same6 n d v) (hn : n ≤ 1000) : acts6_k1a span id v d true := by
  have hv := h.n
  unfold acts6_k1a
  refine Wh.by (f := fun (s : Int) (o : (Int) ⊕ ((Unit) ⊕ (Bool))) => acts6_l5 span id v d s o) (fun s => 0 ≤ s ∧ s ≤ v.length ∧ ∀ j : Nat, (j : Int) < s → v[j]! 0 ≠ id) (fun s => ((v.length : Int) - s).toNat) (fun (x : (Unit) ⊕ (Bool)) => match x with | .inl _ => acts6_k5a span id d true | .inr x8 => acts6_k5b x8 true) ⟨by omega, by omega, fun j hj => by omega⟩ ?_
  rintro k ⟨i0, i1, hno⟩
  by_cases hk : k < v.length
  · by_cases hp : v[k.toNat]! 0 = id
    · refine .inr ⟨.inr ((decide ((since_F span d id).1 = v[k.toNat]! 1)) && (decide ((since_F span d id).2 = 0))), ?_, ?_⟩
      · unfold acts6_l5
        rw [if_pos hk, if_pos hp]
        exact ⟨⟨i0, hk⟩, ⟨i0, hk⟩, rfl⟩
      · show acts6_k5b _ true
        unfold acts6_k5b
        have := h.since (at_mem' ⟨i0, hk⟩) span
        rw [hp] at this
        rw [this]
        simp
    · refine .inl ⟨k + 1, ?_, ⟨by omega, by omega, fun j hj => ?_⟩, by omega⟩
      · unfold acts6_l5
        rw [if_pos hk, if_neg hp]
        exact ⟨⟨i0, hk⟩, ⟨by omega, by omega⟩, rfl⟩
      · by_cases hjk : (j : Int) = k
        · rw [show j = k.toNat by omega]; exact hp
        · exact hno j (by omega)
  · refine .inr ⟨.inl (), ?_, ?_⟩
    · unfold acts6_l5
      rw [if_neg hk]
    · show acts6_k5a span id d true
      unfold acts6_k5a since_F
      have : vfind v id = none := vfind_none fun x hx e => by
        obtain ⟨j, hj, rfl⟩ := List.getElem_of_mem hx
        exact hno j (by omega) (by rw [getElem!_pos v j hj]; exact e)
      rw [mhas_mfind, h.f, this, if_neg (by simp)]
      decide

theorem acts6_all (span : Int) (acts : List (Nat → Int)) (now id : Int) (hw : ∀ m ∈ acts, ∀ i, i < 3 → inI64 (m i)) : acts6_S span acts now id true := by
  unfold acts6_S
  refine ⟨alive06_p, ?_⟩
  rw [if_pos alive06_t]
  refine ite_intro (fun _ => rfl) fun hlen => ?_
  refine ite_intro (fun _ => by decide) fun hs => ?_
  simp only [Bool.or_eq_true, decide_eq_true_eq, not_or, Int.not_lt] at hs
  suffices h : ∃ r, Wh (fun (s : (List (Nat → Int)) × Int × (List (Int × Int))) (o : ((List (Nat → Int)) × Int × (List (Int × Int))) ⊕ (((List (Nat → Int)) × (List (Int × Int))) ⊕ ((List (Int × Int))))) => acts6_l1 span acts now s.1 s.2.1 s.2.2 o) (([], 0, []) : (List (Nat → Int)) × Int × (List (Int × Int))) r ∧ ∃ v d, r = .inl (v, d) ∧ Same6 1000 d v by
    obtain ⟨_, hr, v, d, rfl, hS⟩ := h
    exact ⟨_, hr, acts6_last span id hS (by omega)⟩
  refine Wh.by (fun (s : (List (Nat → Int)) × Int × (List (Int × Int))) => 0 ≤ s.2.1 ∧ s.2.1 ≤ acts.length ∧ Same6 s.2.1.toNat s.2.2 s.1) (fun s => ((acts.length : Int) + 1 - s.2.1).toNat) (fun (r : ((List (Nat → Int)) × (List (Int × Int))) ⊕ ((List (Int × Int)))) => ∃ v d, r = .inl (v, d) ∧ Same6 1000 d v) ⟨by simp, by simp, ⟨List.Pairwise.nil, fun _ => rfl, Kept.nil, by simp, fun x hx => by simp at hx⟩⟩ ?_
  rintro ⟨v, i, d⟩ ⟨i0, i1, hS⟩
  simp only at i0 i1 hS
  have hv := hS.n
  have pd := hS.k.P (by omega) (by omega) (by omega) span now
  have hk2 : ∀ o, (if i = (acts.length : Int) then o = (.inr (.inl (v, d))) else acts6_k2a span acts now v i d (v.map fun x => x 0) o) → acts6_l1 span acts now v i d o := fun o h => by
    unfold acts6_l1
    rw [if_pos i1]
    refine ⟨_, acts6_ids span i.toNat d v hS (by omega), ?_⟩
    by_cases he : i = (acts.length : Int)
    · rw [if_pos he] at h
      show acts6_k2a span acts now v i d (v.map fun x => x 0) o
      unfold acts6_k2a
      rw [show lall_F span d = v.map fun x => x 0 from hS.keys, if_pos (ints_self _), hS.due hs.1, if_pos (ints_self _), if_pos he]
      exact ⟨⟨pd.1, trivial⟩, by unfold ints_P; simp; omega, pd, ⟨by omega, hS.v⟩, by
        unfold ints_P
        rw [← hS.due hs.1]
        have : (due_F span d now).length ≤ d.length := by
          refine Nat.le_trans (List.length_filter_le _ _) ?_
          rw [len_skeys]
          exact Nat.le_refl _
        have := hS.k.n
        omega, h⟩
    · rw [if_neg he] at h
      exact h
  by_cases he : i = acts.length
  · refine .inr ⟨.inl (v, d), hk2 _ (by rw [if_pos he]), v, d, rfl, hS.more (by omega)⟩
  · have hi : 0 ≤ i ∧ i < acts.length := ⟨i0, by omega⟩
    have ha := hw _ (at_mem' hi)
    have hin : inI64 (i + 1) := ⟨by omega, by omega⟩
    have hti : (i + 1).toNat = i.toNat + 1 := by omega
    have hpre : ∀ o, (if (acts[i.toNat]!) 0 = 0 then
          if ((decide ((acts[i.toNat]!) 1 < 1)) || (!((timeR_F ((acts[i.toNat]!) 2))))) = true then
            if (code_F ((renew_F span d ((acts[i.toNat]!) 1) ((acts[i.toNat]!) 2)).1)) = 1 then
              (inI64 (i + 1)) ∧ (
              o = (.inl (v, i + 1, (renew_F span d ((acts[i.toNat]!) 1) ((acts[i.toNat]!) 2)).2)))
            else
              o = (.inr (.inr ((renew_F span d ((acts[i.toNat]!) 1) ((acts[i.toNat]!) 2)).2)))
          else
            ∃ x : (List (Nat → Int)) × Bool, Wh (fun (s : (List (Nat → Int)) × Bool × Int) (o : ((List (Nat → Int)) × Bool × Int) ⊕ ((List (Nat → Int)) × Bool)) => acts6_l3 acts v i s.1 s.2.1 s.2.2 o) (([], false, 0) : (List (Nat → Int)) × Bool × Int) x ∧ acts6_k3a span acts i d x.1 x.2 o
        else
          ∃ x : (List (Nat → Int)), Wh (fun (s : (List (Nat → Int)) × Int) (o : ((List (Nat → Int)) × Int) ⊕ ((List (Nat → Int)))) => acts6_l4 acts v i s.1 s.2 o) (([], 0) : (List (Nat → Int)) × Int) x ∧ acts6_k4a span acts v i d x o) → acts6_l1 span acts now v i d o := fun o h => by
      refine hk2 o ?_
      rw [if_neg he]
      unfold acts6_k2a
      rw [show lall_F span d = v.map fun x => x 0 from hS.keys, if_pos (ints_self _), hS.due hs.1, if_pos (ints_self _), if_neg he]
      exact ⟨⟨pd.1, trivial⟩, by unfold ints_P; simp; omega, pd, ⟨by omega, hS.v⟩, by
        unfold ints_P
        rw [← hS.due hs.1]
        have : (due_F span d now).length ≤ d.length := by
          refine Nat.le_trans (List.length_filter_le _ _) ?_
          rw [len_skeys]
          exact Nat.le_refl _
        have := hS.k.n
        omega, hi, h⟩
    have hnext : ∀ v' d', acts6_l1 span acts now v i d (.inl (v', i + 1, d')) → Same6 (i.toNat + 1) d' v' →
        (∃ s', acts6_l1 span acts now v i d (.inl s') ∧ (0 ≤ s'.2.1 ∧ s'.2.1 ≤ acts.length ∧ Same6 s'.2.1.toNat s'.2.2 s'.1) ∧ ((acts.length : Int) + 1 - s'.2.1).toNat < ((acts.length : Int) + 1 - i).toNat) := fun v' d' h1 h2 =>
      ⟨_, h1, ⟨by simp only; omega, by simp only; omega, by simp only [hti]; exact h2⟩, by simp only; omega⟩
    by_cases c0 : (acts[i.toNat]!) 0 = 0
    · by_cases c1 : ((decide ((acts[i.toNat]!) 1 < 1)) || (!((timeR_F ((acts[i.toNat]!) 2))))) = true
      · have e : renew_F span d ((acts[i.toNat]!) 1) ((acts[i.toNat]!) 2) = (1, d) := by
          unfold renew_F
          exact if_pos c1
        refine .inl (hnext v d (hpre _ ?_) (hS.more (by omega)))
        rw [if_pos c0, if_pos c1, e, if_pos (show code_F 1 = 1 by decide)]
        exact ⟨hin, rfl⟩
      · have c1' := c1
        simp only [Bool.or_eq_true, decide_eq_true_eq, Bool.not_eq_true', not_or, Int.not_lt, Bool.not_eq_false] at c1'
        have ht : 0 ≤ (acts[i.toNat]!) 2 ∧ (acts[i.toNat]!) 2 ≤ 1099511627776 := ltime_iff.1 c1'.2
        have h1 := ha 1 (by omega)
        obtain ⟨e1, e2⟩ := hS.renew (span := span) (id := (acts[i.toNat]!) 1) ⟨c1'.1, h1.2⟩ ht
        obtain ⟨out, put, hw1, hw2, hw3⟩ := acts6_put acts v i (by omega) hS.r
        refine .inl (hnext _ _ (hpre _ ?_) e2)
        rw [if_pos c0, if_neg c1]
        refine ⟨(out, put), hw1, ?_⟩
        show acts6_k3a span acts i d out put _
        unfold acts6_k3a
        rw [← hw2, e1]
        cases put with
        | true => exact ⟨hin, rfl⟩
        | false => exact ⟨by omega, hin, rfl⟩
    · obtain ⟨e1, e2⟩ := hS.end span ((acts[i.toNat]!) 1)
      refine .inl (hnext _ _ (hpre _ ?_) (e2.more (by omega)))
      rw [if_neg c0]
      refine ⟨_, acts6_del acts v i (by omega), ?_⟩
      unfold acts6_k4a
      rw [e1]
      by_cases hd : (delL ((acts[i.toNat]!) 1) v).length = v.length
      · rw [if_pos (by omega), if_pos hd, if_pos hd, if_pos (show code_F 10 = 10 by decide)]
        exact ⟨hin, rfl⟩
      · rw [if_neg (by omega), if_neg hd, if_neg hd, if_pos (show code_F 0 = 0 by decide)]
        exact ⟨hin, rfl⟩
end Go.E
