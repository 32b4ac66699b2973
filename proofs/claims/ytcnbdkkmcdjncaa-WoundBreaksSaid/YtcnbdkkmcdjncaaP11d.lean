/- Who is wounded: what is asked of it. -/
import Derived.Test.YtcnbdkkmcdjncaaD11S
namespace Go.E
open Go
set_option linter.unusedVariables false
set_option maxRecDepth 100000

theorem alive11_t : alive11_F = true := by
  unfold alive11_F
  rw [wof_ofR]
  decide +kernel
theorem alive11_p : alive11_P := by
  unfold alive11_P wrest_P wof_P oldest_P
  rw [wof_ofR]
  decide +kernel

theorem of11_all (l : List (Nat → Int)) (hw : ∀ m ∈ l, ∀ i, i < 4 → inI64 (m i)) : of11_S l true := by
  unfold of11_S
  refine ⟨alive11_p, ?_⟩
  rw [if_pos alive11_t]
  refine ite_intro (fun _ => rfl) fun hlen => ?_
  have hP : wof_P l := ⟨by omega, fun e he => hw e he 2 (by omega)⟩
  refine ⟨hP, by unfold ofR_P; omega, ?_⟩
  have hb := len_wof l
  rw [wof_ofR] at hb
  rw [wof_ofR, if_pos rfl]
  refine ⟨.inl (), ?_, ?_⟩
  · have := Wh.upto (f := fun (s : Int) (o : (Int) ⊕ ((Unit) ⊕ (Unit))) => of11_l1 l s o) (fun k : Nat => (k : Int)) (ofR_F l).length (r := .inl ()) (fun k hk => by
      have hk' : 0 ≤ (k : Int) ∧ (k : Int) < (ofR_F l).length := ⟨by omega, by omega⟩
      unfold of11_l1
      rw [wof_ofR, if_pos (by omega), if_neg (by simp)]
      exact ⟨hk', hk', fun _ => hk', fun _ => hk', ⟨by omega, by omega⟩, rfl⟩) (by
      unfold of11_l1
      rw [wof_ofR, if_neg (by omega)])
    simpa using this
  · show of11_k1a l true
    unfold of11_k1a
    have e : wrest_F l = restR_F l := rfl
    rw [e]
    refine ⟨hP, by unfold restR_P; omega, ?_, (esame_self _).symm⟩
    unfold esame_P restR_F
    have : (l.filter (leftR l)).length ≤ l.length := List.length_filter_le _ _
    omega

theorem wof_at {l : List (Nat → Int)} {k : Nat} (h : k < (wof_F l).length) : ∃ t, (byR_F l t).2 = true ∧ (wof_F l)[k]! = woundOf t (byR_F l t).1 := mem_wof (mem_at h)
theorem wof_rise {l : List (Nat → Int)} {k : Nat} (h : k + 1 < (wof_F l).length) : (wof_F l)[k]! 0 < (wof_F l)[k + 1]! 0 := by
  have hr := rising_skeys (wby_uniq l)
  have hl : (wof_F l).length = (skeys (wby_F l)).length := by unfold wof_F; rw [List.length_map]
  have e : ∀ j, j < (wof_F l).length → (wof_F l)[j]! 0 = (skeys (wby_F l))[j]! := fun j hj => by
    have hj2 : j < ((skeys (wby_F l)).map fun k => woundOf k (mget ieq (wby_F l) k 0)).length := hj
    rw [show (wof_F l)[j]! = ((skeys (wby_F l)).map fun k => woundOf k (mget ieq (wby_F l) k 0))[j]! from rfl, getElem!_pos _ j hj2, List.getElem_map, getElem!_pos (skeys (wby_F l)) j (by omega)]
    rfl
  rw [e k (by omega), e (k + 1) h, getElem!_pos (skeys (wby_F l)) k (by omega), getElem!_pos (skeys (wby_F l)) (k + 1) (by omega)]
  exact List.pairwise_iff_getElem.1 hr k (k + 1) (by omega) (by omega) (by omega)

theorem by11_in (l : List (Nat → Int)) (i : Nat) (hlen : l.length ≤ 60) (hi : i < (wof_F l).length) :
    Wh (fun (s : Bool × Int) (o : (Bool × Int) ⊕ ((Bool) ⊕ (Unit))) => by11_l3 l (i : Int) s.1 s.2 o) ((false, 0) : Bool × Int) (.inl true) := by
  obtain ⟨t, ht, hw⟩ := wof_at hi
  have hsp := byR_spec l t
  rw [if_pos ht] at hsp
  obtain ⟨⟨e, he, h1, h2, h3⟩, hmin⟩ := hsp
  have w0 : (wof_F l)[i]! 0 = t := by rw [hw]; rfl
  have w1 : (wof_F l)[i]! 1 = (byR_F l t).1 := by rw [hw]; rfl
  have hany : l.any (fun m => (decide (m 0 = (byR_F l t).1)) && (decide (m 2 = t))) = true := List.any_eq_true.2 ⟨e, he, by simp [h1, h3]⟩
  have hi' : 0 ≤ (i : Int) ∧ (i : Int) < (wof_F l).length := ⟨by omega, by omega⟩
  have := Wh.upto (f := fun (s : Bool × Int) (o : (Bool × Int) ⊕ ((Bool) ⊕ (Unit))) => by11_l3 l (i : Int) s.1 s.2 o) (fun k : Nat => ((l.take k).any (fun m => (decide (m 0 = (byR_F l t).1)) && (decide (m 2 = t))), (k : Int))) l.length (r := .inl true) (fun k hk => by
      have hk' : 0 ≤ (k : Int) ∧ (k : Int) < l.length := ⟨by omega, by omega⟩
      dsimp only
      unfold by11_l3
      rw [if_pos (by omega), Int.toNat_natCast, Int.toNat_natCast, w0, w1, any_take _ _ _ hk, if_neg]
      · exact ⟨fun _ => hk', fun _ => hi', fun _ _ => hk', fun _ _ => hi', hk', hi', fun _ => hk', fun _ => hi', ⟨by omega, by omega⟩, rfl⟩
      · intro h
        simp only [Bool.and_eq_true, decide_eq_true_eq] at h
        have := hmin _ (mem_at hk) h.1 (by omega)
        omega) (by
      dsimp only
      unfold by11_l3
      rw [if_neg (by omega), take_len, hany])
  simpa using this

theorem by11_all (l : List (Nat → Int)) (hw : ∀ m ∈ l, ∀ i, i < 4 → inI64 (m i)) : by11_S l true := by
  unfold by11_S
  refine ⟨alive11_p, ?_⟩
  rw [if_pos alive11_t]
  refine ite_intro (fun _ => rfl) fun hlen => ?_
  have hP : wof_P l := ⟨by omega, fun e he => hw e he 2 (by omega)⟩
  have hb := len_wof l
  refine ⟨hP, by unfold oldest_P; omega, ?_⟩
  rw [if_pos (by
    unfold oldest_F
    by_cases h0 : l.length = 0
    · rw [if_pos h0]; simp [h0]
    · rw [if_neg h0, decide_eq_true (by omega)]; rfl)]
  refine ⟨.inl (), ?_, ?_⟩
  · have := Wh.upto (f := fun (s : Int) (o : (Int) ⊕ ((Unit) ⊕ (Unit))) => by11_l1 l s o) (fun k : Nat => (k : Int)) l.length (r := .inl ()) (fun k hk => by
      have hk' : 0 ≤ (k : Int) ∧ (k : Int) < l.length := ⟨by omega, by omega⟩
      have := oldest_le l _ (mem_at hk)
      unfold by11_l1
      rw [if_pos (by omega), Int.toNat_natCast, if_neg (by simp only [Bool.or_eq_true, decide_eq_true_eq]; omega)]
      exact ⟨hk', fun _ => hk', ⟨by omega, by omega⟩, rfl⟩) (by
      unfold by11_l1
      rw [if_neg (by omega)])
    simpa using this
  · show by11_k1a l true
    unfold by11_k1a
    refine ⟨.inl (), ?_, rfl⟩
    have := Wh.upto (f := fun (s : Int) (o : (Int) ⊕ ((Unit) ⊕ (Unit))) => by11_l2 l s o) (fun k : Nat => (k : Int)) (wof_F l).length (r := .inl ()) (fun k hk => by
      have hk' : 0 ≤ (k : Int) ∧ (k : Int) < (wof_F l).length := ⟨by omega, by omega⟩
      unfold by11_l2
      rw [if_pos (by omega)]
      refine ⟨.inl true, by11_in l k (by omega) hk, ?_⟩
      show by11_k3a l (k : Int) true _
      obtain ⟨t, ht, hwt⟩ := wof_at hk
      have hsp := byR_spec l t
      rw [if_pos ht] at hsp
      obtain ⟨⟨e, he, h1, h2, h3⟩, hmin⟩ := hsp
      have w0 : (wof_F l)[k]! 0 = t := by rw [hwt]; rfl
      have w1 : (wof_F l)[k]! 1 = (byR_F l t).1 := by rw [hwt]; rfl
      have ho := oldest_le l e he
      unfold by11_k3a
      rw [Int.toNat_natCast, w0, w1, if_neg]
      · exact ⟨fun _ => hk', fun _ => hk', fun _ => hk', fun _ _ => ⟨by omega, by omega⟩, fun _ h => by
          simp only [decide_eq_true_eq] at h
          exact ⟨by omega, by omega⟩, fun _ _ => by first | exact hk' | exact trivial, ⟨by omega, by omega⟩, rfl⟩
      · simp only [Bool.or_eq_true, Bool.and_eq_true, decide_eq_true_eq, Bool.not_eq_true']
        rintro (((h | h) | h) | ⟨h4, h5⟩)
        · cases h
        · omega
        · omega
        · have := wof_rise (l := l) (k := k - 1) (by omega)
          rw [show k - 1 + 1 = k by omega, w0] at this
          rw [show ((k : Int) - 1).toNat = k - 1 by omega] at h5
          omega) (by
      unfold by11_l2
      rw [if_neg (by omega)])
    simpa using this

theorem more_at (l more : List (Nat → Int)) (k : Nat) (hk : k < (wof_F l).length) : (wof_F (l ++ more)).any (fun m => (decide (m 0 = (wof_F l)[k]! 0)) && (decide (m 1 ≤ (wof_F l)[k]! 1))) = true := by
  obtain ⟨t, ht, hw⟩ := wof_at hk
  have hsp := byR_spec l t
  rw [if_pos ht] at hsp
  obtain ⟨⟨e, he, h1, h2, h3⟩, hmin⟩ := hsp
  have hs2 := byR_spec (l ++ more) t
  by_cases hm : (byR_F (l ++ more) t).2 = true
  · rw [if_pos hm] at hs2
    have := hs2.2 e (List.mem_append_left _ he) h1 h2
    refine List.any_eq_true.2 ⟨_, wof_mem hm, ?_⟩
    rw [hw, Bool.and_eq_true, decide_eq_true_eq, decide_eq_true_eq]
    refine ⟨rfl, ?_⟩
    show (byR_F (l ++ more) t).1 ≤ (byR_F l t).1
    omega
  · rw [if_neg hm] at hs2
    exact absurd h2 (hs2 e (List.mem_append_left _ he) h1)

theorem more11_all (l more : List (Nat → Int)) (hw : ∀ m ∈ l, ∀ i, i < 4 → inI64 (m i)) (hw2 : ∀ m ∈ more, ∀ i, i < 4 → inI64 (m i)) : more11_S l more true := by
  unfold more11_S
  refine ⟨alive11_p, ?_⟩
  rw [if_pos alive11_t]
  refine ite_intro (fun _ => rfl) fun hlen => ?_
  simp only [Bool.or_eq_true, decide_eq_true_eq, not_or, Int.not_lt] at hlen
  rw [List.nil_append]
  have hb := len_wof l
  have hb2 := len_wof (l ++ more)
  rw [List.length_append] at hb2
  refine ⟨⟨by omega, fun e he => hw e he 2 (by omega)⟩, by omega, by omega, ⟨by rw [List.length_append]; omega, fun e he => ?_⟩, ?_⟩
  · rcases List.mem_append.1 he with he | he
    · exact hw e he 2 (by omega)
    · exact hw2 e he 2 (by omega)
  refine ⟨.inl (), ?_, rfl⟩
  have := Wh.upto (f := fun (s : Int) (o : (Int) ⊕ ((Unit) ⊕ (Unit))) => more11_l1 l more s o) (fun k : Nat => (k : Int)) (wof_F l).length (r := .inl ()) (fun i hi => by
      have hi' : 0 ≤ (i : Int) ∧ (i : Int) < (wof_F l).length := ⟨by omega, by omega⟩
      unfold more11_l1
      rw [if_pos (by omega)]
      refine ⟨true, ?_, ?_⟩
      · have := Wh.upto (f := fun (s : Bool × Int) (o : (Bool × Int) ⊕ (Bool)) => more11_l2 l more (i : Int) s.1 s.2 o) (fun k : Nat => (((wof_F (l ++ more)).take k).any (fun m => (decide (m 0 = (wof_F l)[i]! 0)) && (decide (m 1 ≤ (wof_F l)[i]! 1))), (k : Int))) (wof_F (l ++ more)).length (r := true) (fun k hk => by
          have hk' : 0 ≤ (k : Int) ∧ (k : Int) < (wof_F (l ++ more)).length := ⟨by omega, by omega⟩
          dsimp only
          unfold more11_l2
          rw [List.nil_append, if_pos (by omega), Int.toNat_natCast, Int.toNat_natCast, any_take _ _ _ hk]
          exact ⟨fun _ => hk', fun _ => hi', fun _ _ => hk', fun _ _ => hi', ⟨by omega, by omega⟩, rfl⟩) (by
          dsimp only
          unfold more11_l2
          rw [List.nil_append, if_neg (by omega), take_len, more_at l more i hi])
        simpa using this
      · unfold more11_k2a
        rw [if_pos rfl]
        exact ⟨⟨by omega, by omega⟩, rfl⟩) (by
      unfold more11_l1
      rw [if_neg (by omega)])
  simpa using this
end Go.E
