/- Transactions: clones, messages for shards, the same grants. -/
import Derived.Test.YtmfbefghdaiicaaA17S
import Derived.Test.YtmfbefghdaiicaaE23
namespace Go.E
open Go
set_option linter.unusedVariables false
set_option maxRecDepth 100000

theorem ints_ok (a b : List Int) (h : ints_P a b) : ints_S a b (ints_F a b) := by
  unfold ints_P at h
  unfold ints_S ints_F
  by_cases hl : a.length = b.length
  · rw [if_pos (by omega)]
    have := Wh.all (f := fun (s : Int) (o : Int ⊕ (Unit ⊕ Unit)) => ints_l1 a b s o) a.length (fun k => decide (a[k]! = b[k]!)) (.inl ()) (.inr ()) (fun k hk hp => by
        unfold ints_l1
        rw [if_pos (by omega)]
        refine ⟨⟨by omega, by omega⟩, ⟨by omega, by omega⟩, ?_⟩
        rw [Int.toNat_natCast, if_pos (by simpa using hp)]
        exact ⟨step1 (by omega), rfl⟩) (fun k hk hp => by
        unfold ints_l1
        rw [if_pos (by omega)]
        refine ⟨⟨by omega, by omega⟩, ⟨by omega, by omega⟩, ?_⟩
        rw [Int.toNat_natCast, if_neg (by simpa using hp)]) (by
        unfold ints_l1
        rw [if_neg (by omega)])
    refine ⟨_, this, ?_⟩
    rw [all_eq hl]
    by_cases hab : a = b
    · rw [decide_eq_true hab, if_pos rfl]; rfl
    · rw [decide_eq_false hab, if_neg (by decide)]; rfl
  · rw [if_neg (by omega), decide_eq_false (fun e => hl (by rw [e]))]

def cloneI_F (s : List Int) : List Int := s
def cloneI_P (s : List Int) : Prop := s.length ≤ 1000000000
theorem cloneI_ok (s : List Int) (h : cloneI_P s) : cloneI_S s (cloneI_F s) := by
  unfold cloneI_P at h
  exact ⟨fun e => e, by omega, rfl⟩
def cloneG_F (s : List (Nat → Int)) : List (Nat → Int) := s
def cloneG_P (s : List (Nat → Int)) : Prop := s.length ≤ 1000000000
theorem cloneG_ok (s : List (Nat → Int)) (h : cloneG_P s) : cloneG_S s (cloneG_F s) := by
  unfold cloneG_P at h
  exact ⟨fun e => e, by omega, rfl⟩

/-- A message for a shard. -/
def toMsg (tx kind code s : Int) : Nat → Int := updI (updI (updI (updI (fun _ => 0) 0 kind) 2 s) 3 tx) 8 code
def tto_F (tx _st _re _sq : Int) (_op : Bool) (_sh : Int) (_at : Nat → Int) (_mo : Int) (_to _vo _ac : List Int) (_go : List (Nat → Int)) (kind code : Int) (shards : List Int) : List (Nat → Int) := shards.map (toMsg tx kind code)
def tto_P (_tx _st _re _sq : Int) (_op : Bool) (_sh : Int) (_at : Nat → Int) (_mo : Int) (_to _vo _ac : List Int) (_go : List (Nat → Int)) (_kind _code : Int) (shards : List Int) : Prop := shards.length ≤ 1000000
theorem tto_ok (tx st re sq : Int) (op : Bool) (sh : Int) (at_ : Nat → Int) (mo : Int) (to_ vo ac : List Int) (go : List (Nat → Int)) (kind code : Int) (shards : List Int) (h : tto_P tx st re sq op sh at_ mo to_ vo ac go kind code shards) :
    tto_S tx st re sq op sh at_ mo to_ vo ac go kind code shards (tto_F tx st re sq op sh at_ mo to_ vo ac go kind code shards) := by
  unfold tto_P at h
  unfold tto_S
  refine ⟨shards.map (toMsg tx kind code), ?_, rfl⟩
  have := Wh.upto (f := fun (s : (List (Nat → Int)) × Int) (o : ((List (Nat → Int)) × Int) ⊕ ((List (Nat → Int)))) => tto_l1 tx kind code shards s.1 s.2 o) (fun k : Nat => ((shards.take k).map (toMsg tx kind code), (k : Int))) shards.length (r := shards.map (toMsg tx kind code)) (fun k hk => by
      dsimp only
      unfold tto_l1
      rw [if_pos (by omega), Int.toNat_natCast, map_take _ _ _ hk]
      exact ⟨⟨by omega, by omega⟩, by simp; omega, ⟨by omega, by omega⟩, rfl⟩) (by
      dsimp only
      unfold tto_l1
      rw [if_neg (by omega), take_len])
  simpa using this

/-! ### The same grants -/
def grants_F (a b : List (Nat → Int)) : Bool := decide (a.length = b.length) && (List.range a.length).all fun k => eqN 5 (a[k]!) (b[k]!)
def grants_P (a _ : List (Nat → Int)) : Prop := a.length < 9000000000000000000
theorem grants_ok (a b : List (Nat → Int)) (h : grants_P a b) : grants_S a b (grants_F a b) := by
  unfold grants_P at h
  unfold grants_S grants_F
  by_cases hl : a.length = b.length
  · rw [if_pos (by omega), decide_eq_true hl, Bool.true_and]
    have := Wh.all (f := fun (s : Int) (o : Int ⊕ (Unit ⊕ Unit)) => grants_l1 a b s o) a.length (fun k => eqN 5 (a[k]!) (b[k]!)) (.inl ()) (.inr ()) (fun k hk hp => by
        unfold grants_l1
        rw [if_pos (by omega)]
        refine ⟨⟨by omega, by omega⟩, ⟨by omega, by omega⟩, ?_⟩
        rw [Int.toNat_natCast, if_pos hp]
        exact ⟨step1 (by omega), rfl⟩) (fun k hk hp => by
        unfold grants_l1
        rw [if_pos (by omega)]
        refine ⟨⟨by omega, by omega⟩, ⟨by omega, by omega⟩, ?_⟩
        rw [Int.toNat_natCast, if_neg (by simpa using hp)]) (by
        unfold grants_l1
        rw [if_neg (by omega)])
    refine ⟨_, this, ?_⟩
    cases hh : (List.range a.length).all fun k => eqN 5 (a[k]!) (b[k]!)
    · rw [if_neg (by decide)]; rfl
    · rw [if_pos rfl]; rfl
  · rw [if_neg (by omega), decide_eq_false hl]; rfl
theorem grants_self (a : List (Nat → Int)) : grants_F a a = true := by
  unfold grants_F
  rw [decide_eq_true rfl, Bool.true_and, List.all_eq_true]
  exact fun k _ => eqN_iff.2 fun _ _ => rfl
theorem hasI_ok (s : List Int) (v : Int) (h : hasI_P s v) : hasI_S s v (hasI_F s v) := by
  unfold hasI_P at h
  unfold hasI_S
  obtain ⟨r, hr, h2⟩ := Wh.find (f := fun (t : Int) (o : (Int) ⊕ ((Unit) ⊕ (Int))) => hasI_l1 s v t o) s.length (fun k => decide (v = s[k]!)) (.inl ()) (fun k => .inr (k : Int)) (fun k hk hp => by
      unfold hasI_l1
      rw [if_pos (by omega), Int.toNat_natCast, if_neg (by simpa using hp)]
      exact ⟨⟨by omega, by omega⟩, step1 (by omega), rfl⟩) (fun k hk hp => by
      unfold hasI_l1
      rw [if_pos (by omega), Int.toNat_natCast, if_pos (by simpa using hp)]
      exact ⟨⟨by omega, by omega⟩, rfl⟩) (by
      unfold hasI_l1
      rw [if_neg (by omega)])
  refine ⟨r, hr, ?_⟩
  rw [any_range s fun x => decide (v = x), any_has] at h2
  rcases h2 with ⟨rfl, h2⟩ | ⟨k, hk, rfl, h2⟩
  · rw [h2]; rfl
  · rw [h2]
    show hasI_k1b (k : Int) true
    unfold hasI_k1b
    rw [decide_eq_true (by omega)]
def hasR_F (s : List Int) (v : Int) : Bool := decide (v ∈ s)
def hasR_P (s : List Int) (_ : Int) : Prop := s.length ≤ 1000000000
theorem hasR_ok (s : List Int) (v : Int) (h : hasR_P s v) : hasR_S s v (hasR_F s v) := by
  unfold hasR_P at h
  unfold hasR_S
  obtain ⟨r, hr, h2⟩ := Wh.find (f := fun (t : Int) (o : (Int) ⊕ ((Unit) ⊕ (Unit))) => hasR_l1 s v t o) s.length (fun k => decide (v = s[k]!)) (.inl ()) (fun k => .inr ()) (fun k hk hp => by
      unfold hasR_l1
      rw [if_pos (by omega), Int.toNat_natCast, if_neg (by simpa [eq_comm] using hp)]
      exact ⟨⟨by omega, by omega⟩, step1 (by omega), rfl⟩) (fun k hk hp => by
      unfold hasR_l1
      rw [if_pos (by omega), Int.toNat_natCast, if_pos (by simpa [eq_comm] using hp)]
      exact ⟨⟨by omega, by omega⟩, rfl⟩) (by
      unfold hasR_l1
      rw [if_neg (by omega)])
  refine ⟨r, hr, ?_⟩
  rw [any_range s fun x => decide (v = x), any_has] at h2
  rcases h2 with ⟨rfl, h2⟩ | ⟨k, hk, rfl, h2⟩
  · have : hasR_F s v = false := h2
    rw [this]; rfl
  · have : hasR_F s v = true := h2
    rw [this]; rfl
theorem risingR_ok (l : List Int) (h : rising_P l) : risingR_S l (rising_F l) := by
  unfold rising_P at h
  unfold risingR_S
  refine ⟨rising_F l, ?_, rfl⟩
  have := Wh.upto (f := fun (s : (List Int) × Int) (o : ((List Int) × Int) ⊕ ((List Int))) => risingR_l1 l s.1 s.2 o) (fun k : Nat => (rising_F (l.take k), (k : Int))) l.length (r := rising_F l) (fun k hk => by
      have hs : rising_F (l.take (k + 1)) = insI (l[k]!) (rising_F (l.take k)) := by unfold rising_F; exact foldl_take _ _ _ _ hk
      have hl : (rising_F (l.take k)).length ≤ 1000000000 := Nat.le_trans (len_rising _) (by simp; omega)
      dsimp only
      rw [hs]
      unfold risingR_l1
      rw [if_pos (by omega)]
      generalize rising_F (l.take k) = out at hl
      have hsl := spot_le (l[k]!) out
      have hk' : 0 ≤ (k : Int) ∧ (k : Int) < l.length := ⟨by omega, by omega⟩
      refine ⟨(spot (l[k]!) out : Int), ?_, ?_⟩
      · have := Wh.upto (f := fun (s : Int) (o : (Int) ⊕ (Int)) => risingR_l2 l out (k : Int) s o) (fun j : Nat => (j : Int)) (spot (l[k]!) out) (r := (spot (l[k]!) out : Int)) (fun j hj => by
          have := spot_lt hj
          unfold risingR_l2
          rw [Int.toNat_natCast, Int.toNat_natCast, if_pos (by simp only [Bool.and_eq_true, decide_eq_true_eq]; exact ⟨by omega, this⟩)]
          exact ⟨fun _ => ⟨by omega, by omega⟩, fun _ => hk', ⟨by omega, by omega⟩, rfl⟩) (by
          unfold risingR_l2
          rw [Int.toNat_natCast, Int.toNat_natCast, if_neg (by
            simp only [Bool.and_eq_true, decide_eq_true_eq, not_and]
            exact fun h => spot_at (by omega))]
          exact ⟨fun h => ⟨by omega, by simpa using h⟩, fun _ => hk', rfl⟩)
        simpa using this
      · unfold risingR_k2a
        rw [Int.toNat_natCast, Int.toNat_natCast, insI_spot]
        refine ⟨fun h => ⟨by omega, by simpa using h⟩, fun _ => hk', ?_⟩
        by_cases hc : spot (l[k]!) out < out.length ∧ out[spot (l[k]!) out]! = l[k]!
        · rw [if_pos (by simp only [Bool.and_eq_true, decide_eq_true_eq]; exact ⟨by omega, hc.2⟩), if_pos hc]
          exact ⟨⟨by omega, by omega⟩, rfl⟩
        · rw [if_neg (by simp only [Bool.and_eq_true, decide_eq_true_eq]; exact fun h => hc ⟨by omega, h.2⟩), if_neg hc]
          simp only [List.nil_append, List.drop_zero, take_len]
          refine ⟨⟨⟨by omega, by omega⟩, hk', ⟨by omega, by omega⟩, ?_, ?_, ?_, trivial⟩, ⟨by omega, by omega⟩, rfl⟩
          · simp only [List.length_take]; omega
          · simp only [List.length_take]; omega
          · simp only [List.length_append, List.length_take, List.length_drop, List.length_singleton]; omega) (by
      dsimp only
      unfold risingR_l1
      rw [if_neg (by omega), take_len])
  simpa [rising_F] using this

/-! ### The place of a number in a rising list -/
theorem less_eq (a b : Int) : less_F a b = decide (a < b) := by simp [less_F, cNaN_F]
theorem getk {l : List Int} {k : Nat} (h : k < l.length) : l[k]! = l[k] := by simp [h]
theorem spot_iff {x : Int} {l : List Int} (hs : l.Pairwise fun a b => a < b) {k : Nat} (hk : k < l.length) : l[k]! < x ↔ k < spot x l := by
  refine ⟨fun h => ?_, spot_lt⟩
  by_cases hc : k < spot x l
  · exact hc
  · exfalso
    have h1 := spot_at (x := x) (l := l) (by omega)
    rcases Nat.eq_or_lt_of_le (Nat.le_of_not_lt hc) with e | e
    · rw [e] at h1; exact h1 h
    · have h2 := List.pairwise_iff_getElem.1 hs _ _ (by omega) hk e
      rw [getk hk] at h
      rw [getk (by omega)] at h1
      omega
def search_F (l : List Int) (x : Int) : Int × Bool := ((spot x l : Int), decide (spot x l < l.length) && decide (l[spot x l]! = x))
def search_P (l : List Int) (_ : Int) : Prop := l.Pairwise (fun a b => a < b) ∧ l.length ≤ 1000000000
theorem half_wrap {i j : Int} (h0 : 0 ≤ i) (h1 : i ≤ j) (h2 : j ≤ 1000000000) : IntKind.i64.wrap (IntKind.u64.wrap (i + j) / 2) = (i + j) / 2 := by
  have e : IntKind.u64.wrap (i + j) = i + j := by
    simp only [IntKind.wrap, IntKind.bits]
    have : (i + j) % 2 ^ 64 = i + j := Int.emod_eq_of_lt (by omega) (by omega)
    simp [IntKind.signed]
    omega
  rw [e]
  exact wrap_id ⟨by omega, by omega⟩
theorem search_ok (l : List Int) (x : Int) (h : search_P l x) : search_S l x (search_F l x) := by
  obtain ⟨hs, hn⟩ := h
  unfold search_S
  have hle := spot_le x l
  obtain ⟨r, hr, rfl⟩ := Wh.by (f := fun (s : Int × Int) (o : (Int × Int) ⊕ (Int)) => search_l1 l x s.1 s.2 o) (fun s => 0 ≤ s.1 ∧ s.1 ≤ (spot x l : Int) ∧ (spot x l : Int) ≤ s.2 ∧ s.2 ≤ l.length) (fun s => (s.2 - s.1).toNat) (fun r => r = (spot x l : Int)) (s := ((0, (l.length : Int)) : Int × Int)) ⟨by simp, by simp, by simp; omega, by simp⟩ (by
    rintro ⟨i, j⟩ ⟨h0, h1, h2, h3⟩
    dsimp only at h0 h1 h2 h3
    by_cases hij : i < j
    · left
      dsimp only
      have hw := half_wrap h0 (Int.le_of_lt hij) (by omega)
      have hm : i ≤ (i + j) / 2 ∧ (i + j) / 2 < j := by omega
      have hb : ((i + j) / 2).toNat < l.length := by omega
      have hi := spot_iff (x := x) hs hb
      by_cases hc : l[((i + j) / 2).toNat]! < x
      · have hc' := hi.1 hc
        refine ⟨((i + j) / 2 + 1, j), ?_, ⟨by dsimp only; omega, by dsimp only; omega, h2, h3⟩, by dsimp only; omega⟩
        unfold search_l1
        rw [if_pos hij, hw, less_eq, decide_eq_true hc, if_pos rfl, if_pos rfl, if_pos rfl]
        exact ⟨⟨by omega, by omega⟩, ⟨by omega, by omega⟩, ⟨⟨by omega, by omega⟩, trivial⟩, rfl⟩
      · have hc' : ¬ ((i + j) / 2).toNat < spot x l := fun hh => hc (hi.2 hh)
        refine ⟨(i, (i + j) / 2), ?_, ⟨h0, h1, by dsimp only; omega, by dsimp only; omega⟩, by dsimp only; omega⟩
        unfold search_l1
        rw [if_pos hij, hw, less_eq, decide_eq_false hc, if_neg (by decide), if_neg (by decide), if_neg (by decide)]
        exact ⟨⟨by omega, by omega⟩, ⟨by omega, by omega⟩, trivial, rfl⟩
    · right
      dsimp only
      refine ⟨i, ?_, by omega⟩
      unfold search_l1
      rw [if_neg hij])
  refine ⟨_, hr, ?_⟩
  unfold search_k1a search_F
  rw [Int.toNat_natCast]
  refine ⟨fun h => ⟨by omega, by simpa using h⟩, fun h _ => ⟨by omega, by simpa using h⟩, ?_⟩
  rw [show decide ((spot x l : Int) < (l.length : Int)) = decide (spot x l < l.length) from decide_eq_decide.2 (by omega)]
  simp [sNaN_F]
theorem search_le (l : List Int) (x : Int) : 0 ≤ (search_F l x).1 ∧ (search_F l x).1 ≤ (l.length : Int) := by
  have := spot_le x l
  exact ⟨by simp [search_F], by simp [search_F]; omega⟩
/-- A number put into a rising list, once. -/
theorem with_eq (l : List Int) (x : Int) : (if (search_F l x).2 = true then l else insL1 (cloneI_F l) ((search_F l x).1).toNat x) = insI x l := by
  rw [insI_spot]
  unfold search_F insL1 cloneI_F
  rw [Int.toNat_natCast]
  by_cases h : spot x l < l.length ∧ l[spot x l]! = x
  · rw [if_pos h, if_pos (by rw [decide_eq_true h.1, decide_eq_true h.2]; rfl)]
  · rw [if_neg h, if_neg (by rw [Bool.and_eq_true, decide_eq_true_eq, decide_eq_true_eq]; exact h)]
end Go.E
