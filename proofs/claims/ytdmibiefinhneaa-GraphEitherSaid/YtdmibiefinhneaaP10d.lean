/- Circles, the document's order, ways. -/
import Derived.Test.YtdmibiefinhneaaC10S
import Derived.Test.YtdmibiefinhneaaP10c
namespace Go.E
open Go
set_option linter.unusedVariables false
set_option maxRecDepth 100000

/-! ### Who is on a circle -/
noncomputable def gcirc_F (l : List (Nat → Int)) : List Int := (nodesL l).filter fun x => hasI_F (greach_F l x) x
def gcirc_P (l : List (Nat → Int)) : Prop := Edges l
theorem mem_gcirc {l : List (Nat → Int)} {x : Int} : x ∈ gcirc_F l ↔ Rt l x x := by
  unfold gcirc_F hasI_F
  rw [List.mem_filter, decide_eq_true_eq, mem_greach]
  exact ⟨fun h => h.2, fun h => ⟨h.left, h⟩⟩
theorem len_gcirc (l : List (Nat → Int)) : (gcirc_F l).length ≤ 2 * l.length := by
  unfold gcirc_F
  exact Nat.le_trans (List.length_filter_le _ _) (len_nodesL l)
theorem gcirc_ok (l : List (Nat → Int)) (h : gcirc_P l) : gcirc_S l (gcirc_F l) := by
  have hl := h.1
  have hN := len_nodesL l
  unfold gcirc_S
  refine ⟨h, gcirc_F l, ?_, rfl⟩
  have e : gnodes_F l = nodesL l := rfl
  have := Wh.upto (f := fun (s : (List Int) × Int) (o : ((List Int) × Int) ⊕ ((List Int))) => gcirc_l1 l s.1 s.2 o) (fun k : Nat => (((nodesL l).take k).filter (fun x => hasI_F (greach_F l x) x), (k : Int))) (nodesL l).length (r := gcirc_F l) (fun k hk => by
      have hb : (((nodesL l).take k).filter (fun x => hasI_F (greach_F l x) x)).length ≤ 200000 := Nat.le_trans (List.length_filter_le _ _) (by simp only [List.length_take]; omega)
      dsimp only
      unfold gcirc_l1
      rw [e, if_pos (by omega), Int.toNat_natCast, filter_take _ _ _ hk]
      refine ⟨⟨by omega, by omega⟩, h, by unfold hasI_P; have := len_greach l ((nodesL l)[k]!); omega, ite_intro (fun h1 => ?_) fun h1 => ?_⟩
      · rw [if_pos h1]
        exact ⟨by omega, ⟨by omega, by omega⟩, rfl⟩
      · rw [if_neg h1, List.append_nil]
        exact ⟨⟨by omega, by omega⟩, rfl⟩) (by
      dsimp only
      unfold gcirc_l1
      rw [e, if_neg (by omega), take_len]
      rfl)
  simpa using this
noncomputable def circR_F (l : List (Nat → Int)) : List Int := gcirc_F l
def circR_P (l : List (Nat → Int)) : Prop := l.length ≤ 100000
theorem circR_ok (l : List (Nat → Int)) (h : circR_P l) : circR_S l (circR_F l) := by
  unfold circR_P at h
  have hN := len_nodesL l
  unfold circR_S
  refine ⟨by unfold nodesR_P; omega, circR_F l, ?_, rfl⟩
  have e : nodesR_F l = nodesL l := rfl
  have := Wh.upto (f := fun (s : (List Int) × Int) (o : ((List Int) × Int) ⊕ ((List Int))) => circR_l1 l s.1 s.2 o) (fun k : Nat => (((nodesL l).take k).filter (fun x => hasI_F (greach_F l x) x), (k : Int))) (nodesL l).length (r := circR_F l) (fun k hk => by
      have hb : (((nodesL l).take k).filter (fun x => hasI_F (greach_F l x) x)).length ≤ 200000 := Nat.le_trans (List.length_filter_le _ _) (by simp only [List.length_take]; omega)
      have hk' : 0 ≤ (k : Int) ∧ (k : Int) < (nodesL l).length := ⟨by omega, by omega⟩
      dsimp only
      unfold circR_l1
      rw [e, if_pos (by omega), Int.toNat_natCast, filter_take _ _ _ hk]
      refine ⟨hk', hk', h, by
        unfold hasR_P
        have : (reachR_F l ((nodesL l)[k]!)).length ≤ _ := len_greach l ((nodesL l)[k]!)
        omega, ite_intro (fun h1 => ?_) fun h1 => ?_⟩
      · have h1' : hasI_F (greach_F l ((nodesL l)[k]!)) ((nodesL l)[k]!) = true := h1
        rw [if_pos h1']
        exact ⟨hk', by omega, ⟨by omega, by omega⟩, rfl⟩
      · have h1' : ¬ hasI_F (greach_F l ((nodesL l)[k]!)) ((nodesL l)[k]!) = true := h1
        rw [if_neg h1', List.append_nil]
        exact ⟨⟨by omega, by omega⟩, rfl⟩) (by
      dsimp only
      unfold circR_l1
      rw [e, if_neg (by omega), take_len]
      rfl)
  simpa using this

/-! ### The document's order -/
def orderR_F (l : List (Nat → Int)) : List Int × Bool := match ordL l (nodesL l).length (nodesL l) [] with
  | some o => (o, true)
  | none => ([], false)
def orderR_P (l : List (Nat → Int)) : Prop := l.length ≤ 100000
def leftOf (l : List (Nat → Int)) (out : List Int) : List Int := (nodesL l).filter fun x => !decide (x ∈ out)
theorem mem_leftOf {l : List (Nat → Int)} {out : List Int} {x : Int} : x ∈ leftOf l out ↔ x ∈ nodesL l ∧ x ∉ out := by
  unfold leftOf
  rw [List.mem_filter]
  simp
theorem leftOf_snoc (l : List (Nat → Int)) (out : List Int) (n : Int) : (leftOf l out).erase n = leftOf l (out ++ [n]) := by
  have hnd : (nodesL l).Nodup := rising_nodup (rising_rising _)
  unfold leftOf
  rw [List.Nodup.erase_eq_filter (hnd.filter _), List.filter_filter]
  refine List.filter_congr fun x _ => ?_
  simp only [List.mem_append, List.mem_singleton]
  by_cases h1 : x ∈ out <;> by_cases h2 : x = n <;> simp [h1, h2]
theorem orderR_free (l : List (Nat → Int)) (out : List Int) (i : Nat) (hl : l.length ≤ 100000) (ho : out.length ≤ 300000) (hi : i < (nodesL l).length) :
    Wh (fun (s : Bool × Int) (o : (Bool × Int) ⊕ (Bool)) => orderR_l3 l out (i : Int) s.1 s.2 o) ((true, 0) : Bool × Int) (freeL l (leftOf l out) ((nodesL l)[i]!)) := by
  have hi' : 0 ≤ (i : Int) ∧ (i : Int) < (nodesL l).length := ⟨by omega, by omega⟩
  have e : nodesR_F l = nodesL l := rfl
  generalize hn : (nodesL l)[i]! = n
  have hq : ∀ k, k < l.length → blocks (leftOf l out) n (l[k]!) = (decide (l[k]! 2 = n) && !(hasR_F out (l[k]! 0))) := fun k hk => by
    unfold blocks hasR_F
    have hm : (l[k]! 0 ∈ leftOf l out) ↔ ¬ (l[k]! 0 ∈ out) := by
      rw [mem_leftOf]
      exact ⟨fun h => h.2, fun h => ⟨mem_nodesL.2 ⟨_, mem_at hk, .inl rfl⟩, h⟩⟩
    by_cases ho : l[k]! 0 ∈ out
    · rw [decide_eq_true ho, decide_eq_false (fun h => hm.1 h ho)]; rfl
    · rw [decide_eq_false ho, decide_eq_true (hm.2 ho)]; rfl
  have := Wh.upto (f := fun (s : Bool × Int) (o : (Bool × Int) ⊕ (Bool)) => orderR_l3 l out (i : Int) s.1 s.2 o) (fun k : Nat => (!((l.take k).any (blocks (leftOf l out) n)), (k : Int))) l.length (r := freeL l (leftOf l out) n) (fun k hk => by
      have hk' : 0 ≤ (k : Int) ∧ (k : Int) < l.length := ⟨by omega, by omega⟩
      dsimp only
      unfold orderR_l3
      rw [e, if_pos (by omega), Int.toNat_natCast, Int.toNat_natCast, hn, any_take _ _ _ hk, hq k hk]
      refine ⟨hk', hi', fun _ => hk', fun _ => by unfold hasR_P; omega, ⟨by omega, by omega⟩, ?_⟩
      rw [Bool.not_or, Bool.and_comm]
      rfl) (by
      dsimp only
      unfold orderR_l3
      rw [if_neg (by omega), take_len]
      rfl)
  simpa using this
theorem orderR_turn (l : List (Nat → Int)) (out : List Int) (hl : l.length ≤ 100000) (ho : out.length ≤ 300000) :
    ∃ r : List Int × Bool, Wh (fun (s : (List Int) × Bool × Int) (o : ((List Int) × Bool × Int) ⊕ ((List Int) × Bool)) => orderR_l2 l s.1 s.2.1 s.2.2 o) ((out, false, 0) : (List Int) × Bool × Int) r ∧ (match (leftOf l out).find? (freeL l (leftOf l out)) with | none => r = (out, false) | some n => r = (out ++ [n], true)) := by
  have hN := len_nodesL l
  have e : nodesR_F l = nodesL l := rfl
  have hff : (leftOf l out).find? (freeL l (leftOf l out)) = (nodesL l).find? fun x => (!decide (x ∈ out)) && freeL l (leftOf l out) x := by
    conv => lhs; unfold leftOf
    rw [List.find?_filter]
    congr 1
    funext x
    rw [Bool.eq_iff_iff, decide_eq_true_eq, Bool.and_eq_true]
    exact Iff.rfl
  refine Wh.by (fun (s : List Int × Bool × Int) => 0 ≤ s.2.2 ∧ s.2.2 ≤ (nodesL l).length ∧ (s.2.1 = false → s.1 = out ∧ ∀ j : Nat, (j : Int) < s.2.2 → ((!decide ((nodesL l)[j]! ∈ out)) && freeL l (leftOf l out) ((nodesL l)[j]!)) = false) ∧ (s.2.1 = true → ∃ n, (leftOf l out).find? (freeL l (leftOf l out)) = some n ∧ s.1 = out ++ [n])) (fun s => ((nodesL l).length - s.2.2).toNat + if s.2.1 = true then 0 else 1) (fun (r : List Int × Bool) => match (leftOf l out).find? (freeL l (leftOf l out)) with | none => r = (out, false) | some n => r = (out ++ [n], true)) ⟨by simp, by simp, fun _ => ⟨rfl, fun j hj => by simp only at hj; omega⟩, fun h => nomatch h⟩ ?_
  rintro ⟨o1, found, i⟩ ⟨i0, i1, hno, hye⟩
  simp only at i0 i1 hno hye
  cases found with
  | true =>
    obtain ⟨n, hf, rfl⟩ := hye rfl
    refine .inr ⟨(out ++ [n], true), ?_, by rw [hf]⟩
    show orderR_l2 l (out ++ [n]) true i _
    unfold orderR_l2
    rw [if_neg (by simp)]
  | false =>
    obtain ⟨rfl, hno⟩ := hno rfl
    by_cases hi : i < (nodesL l).length
    · have hi' : 0 ≤ i ∧ i < (nodesL l).length := ⟨i0, hi⟩
      have hin : inI64 (i + 1) := ⟨by omega, by omega⟩
      have hcond : ((decide (i < ((nodesR_F l).length : Int))) && (!(false))) = true := by rw [e, decide_eq_true hi]; rfl
      have hP : hasR_P o1 ((nodesL l)[i.toNat]!) := by unfold hasR_P; omega
      have hskip : ((!decide ((nodesL l)[i.toNat]! ∈ o1)) && freeL l (leftOf l o1) ((nodesL l)[i.toNat]!)) = false → ∀ j : Nat, (j : Int) < i + 1 → ((!decide ((nodesL l)[j]! ∈ o1)) && freeL l (leftOf l o1) ((nodesL l)[j]!)) = false := fun h j hj => by
        by_cases hji : (j : Int) = i
        · rw [show j = i.toNat by omega]; exact h
        · exact hno j (by omega)
      by_cases hm : (nodesL l)[i.toNat]! ∈ o1
      · refine .inl ⟨(o1, false, i + 1), ?_, ⟨by simp only; omega, by simp only; omega, fun _ => ⟨rfl, hskip (by rw [decide_eq_true hm]; rfl)⟩, fun h => nomatch h⟩, by simp only; omega⟩
        show orderR_l2 l o1 false i _
        unfold orderR_l2
        rw [if_pos hcond, e, if_pos (by unfold hasR_F; exact decide_eq_true hm)]
        exact ⟨hi', hP, hin, rfl⟩
      · have hw := orderR_free l o1 i.toNat hl ho (by omega)
        rw [Int.toNat_of_nonneg i0] at hw
        have hneg : ¬ hasR_F o1 ((nodesL l)[i.toNat]!) = true := by unfold hasR_F; simpa using hm
        by_cases hf : freeL l (leftOf l o1) ((nodesL l)[i.toNat]!) = true
        · rw [hf] at hw
          have hfind : (leftOf l o1).find? (freeL l (leftOf l o1)) = some ((nodesL l)[i.toNat]!) := by
            have hlt : i.toNat < (nodesL l).length := by omega
            rw [hff, List.find?_eq_some_iff_append]
            refine ⟨by rw [hf, decide_eq_false hm]; rfl, (nodesL l).take i.toNat, (nodesL l).drop (i.toNat + 1), ?_, fun x hx => ?_⟩
            · rw [getElem!_pos (nodesL l) i.toNat hlt, ← List.drop_eq_getElem_cons hlt, List.take_append_drop]
            · obtain ⟨j, hj, rfl⟩ := List.getElem_of_mem hx
              simp only [List.length_take] at hj
              have := hno j (by omega)
              rw [getElem!_pos (nodesL l) j (by omega)] at this
              rw [List.getElem_take, this]
              rfl
          refine .inl ⟨(o1 ++ [(nodesL l)[i.toNat]!], true, i + 1), ?_, ⟨by simp only; omega, by simp only; omega, (fun h => nomatch h), fun _ => ⟨_, hfind, rfl⟩⟩, by simp only [if_true, Bool.false_eq_true, if_false]; omega⟩
          show orderR_l2 l o1 false i _
          unfold orderR_l2
          rw [if_pos hcond, e, if_neg hneg]
          refine ⟨hi', hP, true, hw, ?_⟩
          unfold orderR_k3a
          rw [if_pos rfl, e]
          exact ⟨hi', by omega, hin, rfl⟩
        · simp only [Bool.not_eq_true] at hf
          rw [hf] at hw
          refine .inl ⟨(o1, false, i + 1), ?_, ⟨by simp only; omega, by simp only; omega, fun _ => ⟨rfl, hskip (by rw [hf, Bool.and_false])⟩, fun h => nomatch h⟩, by simp only; omega⟩
          show orderR_l2 l o1 false i _
          unfold orderR_l2
          rw [if_pos hcond, e, if_neg hneg]
          refine ⟨hi', hP, false, hw, ?_⟩
          unfold orderR_k3a
          rw [if_neg (by decide)]
          exact ⟨hin, rfl⟩
    · obtain rfl : i = (nodesL l).length := by omega
      refine .inr ⟨(o1, false), ?_, ?_⟩
      · show orderR_l2 l o1 false ((nodesL l).length : Int) _
        unfold orderR_l2
        rw [if_neg (by rw [e, decide_eq_false (by omega)]; simp)]
      · have : (leftOf l o1).find? (freeL l (leftOf l o1)) = none := by
          rw [hff, List.find?_eq_none]
          intro x hx
          obtain ⟨j, hj, rfl⟩ := List.getElem_of_mem hx
          have := hno j (by omega)
          rw [getElem!_pos (nodesL l) j hj] at this
          rw [this]; decide
        rw [this]
theorem orderR_run (l : List (Nat → Int)) (hl : l.length ≤ 100000) : ∀ (k : Nat) (out : List Int), (leftOf l out).length = k → out.length + k = (nodesL l).length →
    ∃ r, Wh (fun (s : (List Int)) (o : ((List Int)) ⊕ (((List Int)) ⊕ (Unit))) => orderR_l1 l s o) out r ∧ (match ordL l k (leftOf l out) out with | some o => r = .inl o | none => r = .inr ())
  | 0, out, hk, hb => by
    refine ⟨.inl out, .out ?_, rfl⟩
    unfold orderR_l1
    rw [show nodesR_F l = nodesL l from rfl, if_neg (by omega)]
  | k + 1, out, hk, hb => by
    have hN := len_nodesL l
    obtain ⟨r1, hw, hr1⟩ := orderR_turn l out hl (by omega)
    unfold ordL
    cases hf : (leftOf l out).find? (freeL l (leftOf l out)) with
    | none =>
      rw [hf] at hr1
      subst hr1
      refine ⟨.inr (), .out ?_, rfl⟩
      unfold orderR_l1
      rw [show nodesR_F l = nodesL l from rfl, if_pos (by omega)]
      exact ⟨_, hw, by unfold orderR_k2a; rw [if_neg (show ¬ false = true by decide)]⟩
    | some n =>
      rw [hf] at hr1
      subst hr1
      have hmem : n ∈ leftOf l out := List.mem_of_find?_eq_some hf
      have hle := List.length_erase_of_mem hmem
      rw [leftOf_snoc] at hle
      obtain ⟨r, hr, h2⟩ := orderR_run l hl k (out ++ [n]) (by omega) (by simp only [List.length_append, List.length_singleton]; omega)
      dsimp only
      rw [leftOf_snoc]
      refine ⟨r, .again (s' := out ++ [n]) ?_ hr, h2⟩
      unfold orderR_l1
      rw [show nodesR_F l = nodesL l from rfl, if_pos (by omega)]
      exact ⟨_, hw, by unfold orderR_k2a; rw [if_pos rfl]⟩
theorem orderR_ok (l : List (Nat → Int)) (h : orderR_P l) : orderR_S l (orderR_F l) := by
  unfold orderR_P at h
  have e : leftOf l [] = nodesL l := by
    unfold leftOf
    exact List.filter_eq_self.2 fun x _ => by simp
  obtain ⟨r, hr, h2⟩ := orderR_run l h (nodesL l).length [] (by rw [e]) (by simp)
  unfold orderR_S
  refine ⟨by unfold nodesR_P; omega, r, hr, ?_⟩
  rw [e] at h2
  unfold orderR_F
  cases ho : ordL l (nodesL l).length (nodesL l) [] with
  | none =>
    rw [ho] at h2
    subst h2
    rfl
  | some o =>
    rw [ho] at h2
    subst h2
    rfl

/-! ### A way -/
structure WayI (l : List (Nat → Int)) (a b : Int) (w : List Int) : Prop where
  len : 2 ≤ w.length
  fst : w[0]! = a
  lst : w[w.length - 1]! = b
  adj : ∀ k, k + 1 < w.length → Adj l (w[k]!) (w[k + 1]!)
  mid : ∀ k, 0 < k → k + 1 < w.length → w[k]! ≠ b
  top : w.length ≤ 2 * l.length + 3
def WayOk (l : List (Nat → Int)) (a b : Int) (w : List Int) : Prop := (Rt l a b → WayI l a b w) ∧ (¬ Rt l a b → w = [])
theorem app_l {w : List Int} {x : Int} {k : Nat} (h : k < w.length) : (w ++ [x])[k]! = w[k]! := by
  rw [getElem!_pos (w ++ [x]) k (by simp; omega), getElem!_pos w k h, List.getElem_append_left h]
theorem app_r (w : List Int) (x : Int) : (w ++ [x])[w.length]! = x := by
  rw [getElem!_pos (w ++ [x]) w.length (by simp)]
  simp
theorem gway_best (l : List (Nat → Int)) (b n : Int) (hl : l.length ≤ 100000) (hF : FarOk l b (gfar_F l b)) (hy : ∃ y, Adj l n y ∧ mhas ieq (gfar_F l b) y = true) :
    ∃ best, Wh (fun (s : Int × Int) (o : (Int × Int) ⊕ (Int)) => gway_l2 l b n s.1 s.2 o) (((-1), 0) : Int × Int) best ∧ 0 ≤ best ∧ (∃ y ∈ gnext_F l n, mfind ieq (gfar_F l b) y = some best) ∧ ∀ y ∈ gnext_F l n, ∀ k, mfind ieq (gfar_F l b) y = some k → best ≤ k := by
  have hg := len_gnext l n
  refine (Wh.by (f := fun (s : Int × Int) (o : (Int × Int) ⊕ (Int)) => gway_l2 l b n s.1 s.2 o) (s := ((-1), 0)) (fun (s : Int × Int) => 0 ≤ s.2 ∧ s.2 ≤ (gnext_F l n).length ∧ ((s.1 = -1 ∧ ∀ j : Nat, (j : Int) < s.2 → mfind ieq (gfar_F l b) ((gnext_F l n)[j]!) = none) ∨ (0 ≤ s.1 ∧ (∃ y ∈ gnext_F l n, mfind ieq (gfar_F l b) y = some s.1) ∧ ∀ j : Nat, (j : Int) < s.2 → ∀ k, mfind ieq (gfar_F l b) ((gnext_F l n)[j]!) = some k → s.1 ≤ k))) (fun s => (((gnext_F l n).length : Int) - s.2).toNat) (fun best => 0 ≤ best ∧ (∃ y ∈ gnext_F l n, mfind ieq (gfar_F l b) y = some best) ∧ ∀ y ∈ gnext_F l n, ∀ k, mfind ieq (gfar_F l b) y = some k → best ≤ k) ⟨by simp, by simp, .inl ⟨rfl, fun j hj => by simp only at hj; omega⟩⟩ ?_)
  rintro ⟨best, i⟩ ⟨i0, i1, hB⟩
  simp only at i0 i1 hB
  by_cases hi : i < (gnext_F l n).length
  · have hi' : 0 ≤ i ∧ i < (gnext_F l n).length := ⟨i0, hi⟩
    have hmem := at_mem' hi'
    refine .inl ⟨(_, i + 1), (by
      show gway_l2 l b n best i _
      unfold gway_l2
      rw [if_pos hi]
      exact ⟨hi', ⟨by omega, by omega⟩, rfl⟩), ⟨by simp only; omega, by simp only; omega, ?_⟩, by simp only; omega⟩
    simp only
    rw [mhas_mfind, mget_mfind]
    have hj : ∀ j : Nat, (j : Int) < i + 1 → (j : Int) < i ∨ j = i.toNat := fun j h => by omega
    cases hk : mfind ieq (gfar_F l b) ((gnext_F l n)[i.toNat]!) with
    | none =>
      rw [if_neg (by simp)]
      rcases hB with ⟨h1, h2⟩ | ⟨h1, h2, h3⟩
      · exact .inl ⟨h1, fun j hjl => (hj j hjl).elim (h2 j) fun e => by rw [e]; exact hk⟩
      · exact .inr ⟨h1, h2, fun j hjl k hjk => (hj j hjl).elim (fun h => h3 j h k hjk) fun e => by rw [e, hk] at hjk; cases hjk⟩
    | some v =>
      have hv := (hF.v _ v hk).1
      simp only [Option.isSome_some, Option.getD_some, Bool.true_and, Bool.or_eq_true, decide_eq_true_eq]
      rcases hB with ⟨h1, h2⟩ | ⟨h1, h2, h3⟩
      · rw [if_pos (.inl (by omega))]
        refine .inr ⟨hv, ⟨_, hmem, hk⟩, fun j hjl k hjk => (hj j hjl).elim (fun h => by rw [h2 j h] at hjk; cases hjk) fun e => ?_⟩
        rw [e, hk] at hjk
        cases hjk
        exact Int.le_refl _
      · by_cases hlt : v < best
        · rw [if_pos (.inr hlt)]
          refine .inr ⟨hv, ⟨_, hmem, hk⟩, fun j hjl k hjk => (hj j hjl).elim (fun h => by have := h3 j h k hjk; omega) fun e => ?_⟩
          rw [e, hk] at hjk
          cases hjk
          exact Int.le_refl _
        · rw [if_neg (by omega)]
          refine .inr ⟨h1, h2, fun j hjl k hjk => (hj j hjl).elim (fun h => h3 j h k hjk) fun e => ?_⟩
          rw [e, hk] at hjk
          cases hjk
          omega
  · obtain rfl : i = (gnext_F l n).length := by omega
    refine .inr ⟨best, (by
      show gway_l2 l b n best ((gnext_F l n).length : Int) _
      unfold gway_l2
      rw [if_neg (by omega)]), ?_⟩
    have hat : ∀ y ∈ gnext_F l n, ∃ j : Nat, j < (gnext_F l n).length ∧ (gnext_F l n)[j]! = y := fun y hy => by
      obtain ⟨j, hj, rfl⟩ := List.getElem_of_mem hy
      exact ⟨j, hj, getElem!_pos _ j hj⟩
    rcases hB with ⟨h1, h2⟩ | ⟨h1, h2, h3⟩
    · obtain ⟨y, hy1, hy2⟩ := hy
      obtain ⟨j, hj, rfl⟩ := hat y (mem_gnext.2 hy1)
      rw [mhas_mfind, h2 j (by omega)] at hy2
      cases hy2
    · refine ⟨h1, h2, fun y hy k hk => ?_⟩
      obtain ⟨j, hj, rfl⟩ := hat y hy
      exact h3 j (by omega) k hk
theorem gway_pick (l : List (Nat → Int)) (b n best : Int) (hl : l.length ≤ 100000) (hy : ∃ y ∈ gnext_F l n, mfind ieq (gfar_F l b) y = some best) :
    ∃ k, Wh (fun (s : Int × Int) (o : (Int × Int) ⊕ (Int)) => gway_l3 l b n best s.1 s.2 o) ((n, 0) : Int × Int) k ∧ k ∈ gnext_F l n ∧ mfind ieq (gfar_F l b) k = some best := by
  have hg := len_gnext l n
  refine (Wh.by (f := fun (s : Int × Int) (o : (Int × Int) ⊕ (Int)) => gway_l3 l b n best s.1 s.2 o) (s := (n, 0)) (fun (s : Int × Int) => 0 ≤ s.2 ∧ s.2 ≤ (gnext_F l n).length ∧ ∀ j : Nat, (j : Int) < s.2 → mfind ieq (gfar_F l b) ((gnext_F l n)[j]!) ≠ some best) (fun s => (((gnext_F l n).length : Int) - s.2).toNat) (fun k => k ∈ gnext_F l n ∧ mfind ieq (gfar_F l b) k = some best) ⟨by simp, by simp, fun j hj => by simp only at hj; omega⟩ ?_)
  rintro ⟨m, i⟩ ⟨i0, i1, hno⟩
  simp only at i0 i1 hno
  by_cases hi : i < (gnext_F l n).length
  · have hi' : 0 ≤ i ∧ i < (gnext_F l n).length := ⟨i0, hi⟩
    have hmem := at_mem' hi'
    by_cases hk : mfind ieq (gfar_F l b) ((gnext_F l n)[i.toNat]!) = some best
    · refine .inr ⟨(gnext_F l n)[i.toNat]!, (by
        show gway_l3 l b n best m i _
        unfold gway_l3
        rw [if_pos hi, mhas_mfind, mget_mfind, hk, if_pos (by simp)]
        exact ⟨hi', rfl⟩), hmem, hk⟩
    · refine .inl ⟨(m, i + 1), (by
        show gway_l3 l b n best m i _
        unfold gway_l3
        rw [if_pos hi, mhas_mfind, mget_mfind, if_neg (by
          intro h
          cases hv : mfind ieq (gfar_F l b) ((gnext_F l n)[i.toNat]!) with
          | none => rw [hv] at h; simp at h
          | some v =>
            rw [hv] at h
            simp at h
            exact hk (by rw [hv, h]))]
        exact ⟨hi', ⟨by omega, by omega⟩, rfl⟩), ⟨by simp only; omega, by simp only; omega, fun j hj => ?_⟩, by simp only; omega⟩
      simp only at hj
      by_cases hji : (j : Int) = i
      · rw [show j = i.toNat by omega]; exact hk
      · exact hno j (by omega)
  · obtain ⟨y, hy1, hy2⟩ := hy
    obtain ⟨j, hj, rfl⟩ := List.getElem_of_mem hy1
    exact absurd (by rw [getElem!_pos (gnext_F l n) j hj]; exact hy2) (hno j (by omega))
structure WalkI (l : List (Nat → Int)) (a b : Int) (s : List Int × Int) : Prop where
  len : 1 ≤ s.1.length
  fst : s.1[0]! = a
  lst : s.1[s.1.length - 1]! = s.2
  adj : ∀ k, k + 1 < s.1.length → Adj l (s.1[k]!) (s.1[k + 1]!)
  mid : ∀ k, 0 < k → k + 1 < s.1.length → s.1[k]! ≠ b
  one : s.1.length = 1 → s.2 = a
  far : s.1.length ≠ 1 → ∃ k, mfind ieq (gfar_F l b) s.2 = some k ∧ (s.1.length : Int) + k ≤ (gfar_F l b).length + 1
def gway_P (l : List (Nat → Int)) (_ _ : Int) : Prop := Edges l
theorem gway_ex (l : List (Nat → Int)) (a b : Int) (h : gway_P l a b) : ∃ w, gway_S l a b w ∧ WayOk l a b w := by
  have hF := gfar_is l b h
  have hl := h.1
  unfold gway_S
  have hP : hasI_P (greach_F l a) b := by unfold hasI_P; have := len_greach l a; omega
  by_cases hr : Rt l a b
  · suffices hs : ∃ w, Wh (fun (s : (List Int) × Int) (o : ((List Int) × Int) ⊕ ((List Int))) => gway_l1 l b s.1 s.2 o) ((([a] : List Int), a) : (List Int) × Int) w ∧ WayI l a b w by
      obtain ⟨w, hw, hI⟩ := hs
      refine ⟨w, ⟨h, hP, ?_⟩, fun _ => hI, fun hn => absurd hr hn⟩
      rw [if_pos (by unfold hasI_F; exact decide_eq_true (mem_greach.2 hr))]
      exact ⟨h, w, hw, rfl⟩
    refine Wh.by (WalkI l a b) (fun s => if s.1.length = 1 then (gfar_F l b).length + 1 else (mget ieq (gfar_F l b) s.2 0).toNat) (WayI l a b) ⟨by simp, rfl, rfl, fun k hk => by simp at hk, fun k h1 hk => by simp at hk, fun _ => rfl, fun h => absurd rfl h⟩ ?_
    rintro ⟨out, n⟩ ⟨len, fst, lst, adj, mid, one, far⟩
    simp only at len fst lst adj mid one far
    by_cases hend : n = b ∧ out.length ≠ 1
    · obtain ⟨k, hk, hkl⟩ := far hend.2
      have hkv := (hF.v _ k hk).1
      have hn := hF.n
      refine .inr ⟨out, ?_, by omega, fst, by rw [lst, hend.1], adj, mid, by omega⟩
      show gway_l1 l b out n _
      unfold gway_l1
      rw [if_neg (by
        simp only [Bool.or_eq_true, Bool.not_eq_true', decide_eq_true_eq, decide_eq_false_iff_not]
        rintro (h1 | h1)
        · exact h1 hend.1
        · exact hend.2 (by omega))]
    · have hgo : ∃ y, Adj l n y ∧ mhas ieq (gfar_F l b) y = true ∧ (out.length ≠ 1 → ∃ k, mfind ieq (gfar_F l b) n = some k ∧ mfind ieq (gfar_F l b) y = some (k - 1)) := by
        by_cases h1 : out.length = 1
        · obtain ⟨c, hc1, hc2⟩ := hr.first
          refine ⟨c, by rw [one h1]; exact hc1, ?_, fun h => absurd h1 h⟩
          rcases hc2 with rfl | hc2
          · rw [mhas_mfind, hF.z]; rfl
          · exact hF.rt _ hc2
        · obtain ⟨k, hk, _⟩ := far h1
          obtain ⟨y, hy1, hy2⟩ := (hF.v _ k hk).2.2 (fun e => hend ⟨e, h1⟩)
          exact ⟨y, hy1, by rw [mhas_mfind, hy2]; rfl, fun _ => ⟨k, hk, hy2⟩⟩
      obtain ⟨y, hy1, hy2, hy3⟩ := hgo
      obtain ⟨best, hw2, hb0, hb1, hb2⟩ := gway_best l b n hl hF ⟨y, hy1, hy2⟩
      obtain ⟨k, hw3, hk1, hk2⟩ := gway_pick l b n best hl hb1
      have hka : Adj l n k := mem_gnext.1 hk1
      have hkv := hF.v _ best hk2
      have hn := hF.n
      have hout : out.length ≤ 2 * l.length + 3 := by
        by_cases h1 : out.length = 1
        · omega
        · obtain ⟨k', hk', hkl⟩ := far h1
          have := (hF.v _ k' hk').1
          omega
      have hlen' : (out ++ [k]).length = out.length + 1 := by simp
      refine .inl ⟨(out ++ [k], k), ?_, ⟨by simp only [hlen']; omega, by simp only; rw [app_l (by omega)]; exact fst, by simp only [hlen', Nat.add_sub_cancel]; exact app_r out k, fun j hj => ?_, fun j h0 hj => ?_, fun h => by simp only [hlen'] at h; omega, fun _ => ⟨best, hk2, ?_⟩⟩, ?_⟩
      · show gway_l1 l b out n _
        unfold gway_l1
        rw [if_pos (by
          simp only [Bool.or_eq_true, Bool.not_eq_true', decide_eq_true_eq, decide_eq_false_iff_not]
          by_cases h1 : out.length = 1
          · exact .inr (by omega)
          · exact .inl fun e => hend ⟨e, h1⟩)]
        refine ⟨h, best, hw2, ?_⟩
        unfold gway_k2a
        refine ⟨h, k, hw3, ?_⟩
        unfold gway_k3a
        exact ⟨by omega, rfl⟩
      · simp only [hlen'] at hj ⊢
        by_cases hjl : j + 1 < out.length
        · rw [app_l (by omega), app_l hjl]; exact adj j hjl
        · rw [app_l (by omega), show j + 1 = out.length by omega, app_r, show j = out.length - 1 by omega, lst]
          exact hka
      · simp only [hlen'] at hj ⊢
        rw [app_l (by omega)]
        by_cases hjl : j + 1 < out.length
        · exact mid j h0 hjl
        · rw [show j = out.length - 1 by omega, lst]
          exact fun e => hend ⟨e, by omega⟩
      · simp only [hlen']
        by_cases h1 : out.length = 1
        · omega
        · obtain ⟨k', hk', hkl⟩ := far h1
          obtain ⟨k'', hk'', hy4⟩ := hy3 h1
          rw [hk'] at hk''
          cases hk''
          have := hb2 y (mem_gnext.2 hy1) _ hy4
          omega
      · simp only [hlen']
        rw [if_neg (by omega), mget_mfind, hk2]
        simp only [Option.getD_some]
        by_cases h1 : out.length = 1
        · rw [if_pos h1]; omega
        · rw [if_neg h1, mget_mfind]
          obtain ⟨k'', hk'', hy4⟩ := hy3 h1
          rw [hk'']
          have := hb2 y (mem_gnext.2 hy1) _ hy4
          simp only [Option.getD_some]
          omega
  · refine ⟨[], ⟨h, hP, ?_⟩, fun h => absurd h hr, fun _ => rfl⟩
    rw [if_neg (by unfold hasI_F; rw [decide_eq_true_eq, mem_greach]; exact hr)]
noncomputable def gway_F (l : List (Nat → Int)) (a b : Int) : List Int := Classical.epsilon fun w => gway_S l a b w ∧ WayOk l a b w
theorem gway_ok (l : List (Nat → Int)) (a b : Int) (h : gway_P l a b) : gway_S l a b (gway_F l a b) := (Classical.epsilon_spec (gway_ex l a b h)).1
theorem gway_is (l : List (Nat → Int)) (a b : Int) (h : Edges l) : WayOk l a b (gway_F l a b) := (Classical.epsilon_spec (gway_ex l a b h)).2
end Go.E
