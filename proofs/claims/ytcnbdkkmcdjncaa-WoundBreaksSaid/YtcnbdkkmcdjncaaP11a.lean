/- Who is wounded by whom; rising lists; the parts of the chapter that stand alone. -/
import Derived.Test.YtcnbdkkmcdjncaaA11S
import Derived.Test.YtcnbdkkmcdjncaaL5
namespace Go.E
open Go
set_option linter.unusedVariables false
set_option maxRecDepth 100000

/-! ### Who is wounded -/
def wstep (d : List (Int × Int)) (e : Nat → Int) : List (Int × Int) :=
  if e 2 ≤ e 0 then d else if ((!(mhas ieq d (e 2))) || (decide (e 0 < mget ieq d (e 2) 0))) = true then mset ieq d (e 2) (e 0) else d
def wby_F (l : List (Nat → Int)) : List (Int × Int) := l.foldl wstep []
def wby_P (l : List (Nat → Int)) : Prop := l.length ≤ 1000000000
theorem wby_ok (l : List (Nat → Int)) (h : wby_P l) : wby_S l (wby_F l) := by
  unfold wby_P at h
  unfold wby_S
  refine ⟨wby_F l, ?_, rfl⟩
  have := Wh.upto (f := fun (s : (List (Int × Int)) × Int) (o : ((List (Int × Int)) × Int) ⊕ ((List (Int × Int)))) => wby_l1 l s.1 s.2 o) (fun k : Nat => ((l.take k).foldl wstep [], (k : Int))) l.length (r := wby_F l) (fun k hk => by
      dsimp only
      unfold wby_l1
      rw [if_pos (by omega), Int.toNat_natCast, foldl_take _ _ _ _ hk]
      refine ⟨⟨by omega, by omega⟩, ?_⟩
      generalize (l.take k).foldl wstep [] = d
      generalize l[k]! = e
      unfold wstep
      have hin : inI64 ((k : Int) + 1) := ⟨by omega, by omega⟩
      refine ite_intro (fun h1 => ?_) fun h1 => ?_
      · rw [if_pos h1]; exact ⟨hin, rfl⟩
      · rw [if_neg h1]
        refine ite_intro (fun h2 => ?_) fun h2 => ?_
        · rw [if_pos h2]; exact ⟨hin, rfl⟩
        · rw [if_neg h2]; exact ⟨hin, rfl⟩) (by
      dsimp only
      unfold wby_l1
      rw [if_neg (by omega), take_len]
      rfl)
  simpa using this

def bstep (tx : Int) (s : Int × Bool) (e : Nat → Int) : Int × Bool :=
  if (((decide (e 2 = tx)) && (decide (e 0 < tx))) && ((!(s.2)) || (decide (e 0 < s.1)))) = true then (e 0, true) else s
def byR_F (l : List (Nat → Int)) (tx : Int) : Int × Bool := l.foldl (bstep tx) (0, false)
def byR_P (l : List (Nat → Int)) (_ : Int) : Prop := l.length ≤ 1000000000
theorem byR_ok (l : List (Nat → Int)) (tx : Int) (h : byR_P l tx) : byR_S l tx (byR_F l tx) := by
  unfold byR_P at h
  unfold byR_S
  refine ⟨byR_F l tx, ?_, rfl⟩
  have := Wh.upto (f := fun (s : Int × Bool × Int) (o : (Int × Bool × Int) ⊕ (Int × Bool)) => byR_l1 l tx s.1 s.2.1 s.2.2 o) (fun k : Nat => (((l.take k).foldl (bstep tx) (0, false)).1, ((l.take k).foldl (bstep tx) (0, false)).2, (k : Int))) l.length (r := byR_F l tx) (fun k hk => by
      dsimp only
      unfold byR_l1
      rw [if_pos (by omega), Int.toNat_natCast, foldl_take _ _ _ _ hk]
      generalize (l.take k).foldl (bstep tx) (0, false) = s
      generalize l[k]! = e
      have hk' : 0 ≤ (k : Int) ∧ (k : Int) < l.length := ⟨by omega, by omega⟩
      refine ⟨hk', fun _ => hk', fun _ _ => hk', ite_intro (fun _ => ⟨hk', trivial⟩) fun _ => trivial, ⟨by omega, by omega⟩, ?_⟩
      unfold bstep
      by_cases hc : (((decide (e 2 = tx)) && (decide (e 0 < tx))) && ((!(s.2)) || (decide (e 0 < s.1)))) = true
      · rw [if_pos hc, if_pos hc, hc]; rfl
      · rw [if_neg hc, if_neg hc]
        simp only [Bool.not_eq_true] at hc
        rw [hc]; rfl) (by
      dsimp only
      unfold byR_l1
      rw [if_neg (by omega), take_len]
      rfl)
  simpa using this

def optB (s : Int × Bool) : Option Int := if s.2 = true then some s.1 else none
theorem wstep_b {d : List (Int × Int)} {e : Nat → Int} {g : Int → Int × Bool} (h : ∀ tx, mfind ieq d tx = optB (g tx)) (tx : Int) : mfind ieq (wstep d e) tx = optB (bstep tx (g tx) e) := by
  unfold wstep bstep
  by_cases h1 : e 2 ≤ e 0
  · rw [if_pos h1, h, if_neg]
    simp only [Bool.and_eq_true, decide_eq_true_eq]
    omega
  · rw [if_neg h1]
    by_cases ht : tx = e 2
    · subst ht
      have h2 : mhas ieq d (e 2) = (g (e 2)).2 := by
        rw [mhas_mfind, h]
        unfold optB
        cases (g (e 2)).2 <;> rfl
      have h3 : (g (e 2)).2 = true → mget ieq d (e 2) 0 = (g (e 2)).1 := fun hs => by
        rw [mget_mfind, h]
        unfold optB
        rw [if_pos hs]; rfl
      rw [h2]
      by_cases hs : (g (e 2)).2 = true
      · rw [h3 hs]
        by_cases h4 : e 0 < (g (e 2)).1
        · rw [if_pos (by simp [h4]), mfind_mset', if_pos rfl, if_pos (by simp [h4]; omega)]
          rfl
        · rw [if_neg (by simp [hs]; omega), h, if_neg (by simp [hs]; omega)]
      · rw [if_pos (by simp [hs]), mfind_mset', if_pos rfl, if_pos (by simp [hs]; omega)]
        rfl
    · have : bstep tx (g tx) e = g tx := by
        unfold bstep
        rw [if_neg]
        simp only [Bool.and_eq_true, decide_eq_true_eq]
        omega
      have e2 := this
      unfold bstep at e2
      rw [e2]
      split
      · rw [mfind_mset', if_neg ht, h]
      · exact h tx
theorem wby_by (l : List (Nat → Int)) (tx : Int) : mfind ieq (wby_F l) tx = optB (byR_F l tx) := by
  have key : ∀ (l : List (Nat → Int)) (d : List (Int × Int)) (g : Int → Int × Bool), (∀ tx, mfind ieq d tx = optB (g tx)) → ∀ tx, mfind ieq (l.foldl wstep d) tx = optB (l.foldl (bstep tx) (g tx)) := by
    intro l
    induction l with
    | nil => intro d g h tx; exact h tx
    | cons e l ih =>
      intro d g h tx
      rw [List.foldl_cons, List.foldl_cons]
      exact ih (wstep d e) (fun tx => bstep tx (g tx) e) (wstep_b h) tx
  exact key l [] (fun _ => (0, false)) (fun _ => rfl) tx
theorem wby_uniq (l : List (Nat → Int)) : Uniq (wby_F l) := by
  have key : ∀ (l : List (Nat → Int)) (d : List (Int × Int)), Uniq d → Uniq (l.foldl wstep d) := by
    intro l
    induction l with
    | nil => intro d h; exact h
    | cons e l ih =>
      intro d h
      rw [List.foldl_cons]
      refine ih _ ?_
      unfold wstep
      split
      · exact h
      · split
        · exact uniq_mset h _ _
        · exact h
  exact key l [] List.nodup_nil
theorem wby_len (l : List (Nat → Int)) : (wby_F l).length ≤ l.length := by
  have key : ∀ (l : List (Nat → Int)) (d : List (Int × Int)), (l.foldl wstep d).length ≤ d.length + l.length := by
    intro l
    induction l with
    | nil => intro d; simp
    | cons e l ih =>
      intro d
      rw [List.foldl_cons, List.length_cons]
      refine Nat.le_trans (ih _) ?_
      have : (wstep d e).length ≤ d.length + 1 := by
        unfold wstep
        split
        · omega
        · split
          · exact len_mset _ _ _
          · omega
      omega
  have := key l []
  simpa [wby_F] using this
theorem wby_keys {l : List (Nat → Int)} {p : Int × Int} (h : p ∈ wby_F l) : ∃ e ∈ l, p.1 = e 2 := by
  have key : ∀ (l : List (Nat → Int)) (d : List (Int × Int)), p ∈ l.foldl wstep d → p ∈ d ∨ ∃ e ∈ l, p.1 = e 2 := by
    intro l
    induction l with
    | nil => intro d h; exact .inl h
    | cons e l ih =>
      intro d h
      rw [List.foldl_cons] at h
      rcases ih _ h with h | ⟨e', h1, h2⟩
      · unfold wstep at h
        split at h
        · exact .inl h
        · split at h
          · rcases mem_mset h with h | h
            · exact .inr ⟨e, List.mem_cons_self, by rw [h]⟩
            · exact .inl h
          · exact .inl h
      · exact .inr ⟨e', List.mem_cons_of_mem _ h1, h2⟩
  rcases key l [] h with h | h
  · simp at h
  · exact h

/-- By whom: the eldest of those that wait and are elder. -/
theorem byR_spec (l : List (Nat → Int)) (tx : Int) : if (byR_F l tx).2 = true then (∃ e ∈ l, e 2 = tx ∧ e 0 < tx ∧ e 0 = (byR_F l tx).1) ∧ ∀ e ∈ l, e 2 = tx → e 0 < tx → (byR_F l tx).1 ≤ e 0 else ∀ e ∈ l, e 2 = tx → ¬ e 0 < tx := by
  have key : ∀ r : List (Nat → Int), if (byR_F r.reverse tx).2 = true then (∃ e ∈ r, e 2 = tx ∧ e 0 < tx ∧ e 0 = (byR_F r.reverse tx).1) ∧ ∀ e ∈ r, e 2 = tx → e 0 < tx → (byR_F r.reverse tx).1 ≤ e 0 else ∀ e ∈ r, e 2 = tx → ¬ e 0 < tx := by
    intro r
    induction r with
    | nil => simp [byR_F]
    | cons e r ih =>
      have hs : byR_F (e :: r).reverse tx = bstep tx (byR_F r.reverse tx) e := by
        unfold byR_F
        rw [List.reverse_cons, List.foldl_append]; rfl
      rw [hs]
      unfold bstep
      by_cases hc : (((decide (e 2 = tx)) && (decide (e 0 < tx))) && ((!((byR_F r.reverse tx).2)) || (decide (e 0 < (byR_F r.reverse tx).1)))) = true
      · rw [if_pos hc, if_pos rfl]
        simp only [Bool.and_eq_true, decide_eq_true_eq, Bool.or_eq_true, Bool.not_eq_true'] at hc
        refine ⟨⟨e, List.mem_cons_self, hc.1.1, hc.1.2, rfl⟩, fun e' he' h1 h2 => ?_⟩
        rcases List.mem_cons.1 he' with rfl | he'
        · exact Int.le_refl _
        · rcases hc.2 with h3 | h3
          · rw [if_neg (by rw [h3]; decide)] at ih
            exact absurd h2 (ih e' he' h1)
          · by_cases h4 : (byR_F r.reverse tx).2 = true
            · rw [if_pos h4] at ih
              have := ih.2 e' he' h1 h2
              simp only
              omega
            · rw [if_neg h4] at ih
              exact absurd h2 (ih e' he' h1)
      · rw [if_neg hc]
        by_cases h4 : (byR_F r.reverse tx).2 = true
        · rw [if_pos h4] at ih ⊢
          obtain ⟨⟨e0, h5, h6⟩, h7⟩ := ih
          refine ⟨⟨e0, List.mem_cons_of_mem _ h5, h6⟩, fun e' he' h1 h2 => ?_⟩
          rcases List.mem_cons.1 he' with rfl | he'
          · simp only [Bool.and_eq_true, decide_eq_true_eq, Bool.or_eq_true, Bool.not_eq_true', h4, Bool.true_eq_false, false_or, not_and] at hc
            have := hc ⟨h1, h2⟩
            omega
          · exact h7 e' he' h1 h2
        · rw [if_neg h4] at ih ⊢
          intro e' he' h1 h2
          rcases List.mem_cons.1 he' with rfl | he'
          · refine hc ?_
            simp only [Bool.not_eq_true] at h4
            simp [h1, h4]
            omega
          · exact ih e' he' h1 h2
  have := key l.reverse
  simpa using this

/-! ### Is there such a pair? -/
def hasW_F (s : List (Nat → Int)) (v : Nat → Int) : Bool := s.any fun y => eqN 2 v y
def hasW_P (s : List (Nat → Int)) (_ : Nat → Int) : Prop := s.length ≤ 1000000000
theorem hasW_ok (s : List (Nat → Int)) (v : Nat → Int) (h : hasW_P s v) : hasW_S s v (hasW_F s v) := by
  unfold hasW_P at h
  unfold hasW_S hasW_F
  obtain ⟨r, hr, h2⟩ := Wh.find (f := fun (t : Int) (o : (Int) ⊕ ((Unit) ⊕ (Int))) => hasW_l1 s v t o) s.length (fun k => eqN 2 v (s[k]!)) (.inl ()) (fun k => .inr (k : Int)) (fun k hk hp => by
      unfold hasW_l1
      rw [if_pos (by omega), Int.toNat_natCast, if_neg (by rw [hp]; decide)]
      exact ⟨⟨by omega, by omega⟩, step1 (by omega), rfl⟩) (fun k hk hp => by
      unfold hasW_l1
      rw [if_pos (by omega), Int.toNat_natCast, if_pos hp]
      exact ⟨⟨by omega, by omega⟩, rfl⟩) (by
      unfold hasW_l1
      rw [if_neg (by omega)])
  refine ⟨r, hr, ?_⟩
  rw [any_range s fun y => eqN 2 v y] at h2
  rcases h2 with ⟨rfl, h2⟩ | ⟨k, hk, rfl, h2⟩
  · rw [h2]; rfl
  · rw [h2]
    show hasW_k1b (k : Int) true
    unfold hasW_k1b
    rw [decide_eq_true (by omega)]

/-! ### The least number -/
def ostep (n : Int) (e : Nat → Int) : Int := if e 2 < (if e 0 < n then e 0 else n) then e 2 else (if e 0 < n then e 0 else n)
def oldest_F (l : List (Nat → Int)) : Int × Bool := if l.length = 0 then (0, false) else (l.foldl ostep (l[0]! 0), true)
def oldest_P (l : List (Nat → Int)) : Prop := l.length ≤ 1000000000
theorem oldest_ok (l : List (Nat → Int)) (h : oldest_P l) : oldest_S l (oldest_F l) := by
  unfold oldest_P at h
  unfold oldest_S oldest_F
  by_cases h0 : l.length = 0
  · rw [if_pos (by omega), if_pos h0]
  · rw [if_neg (by omega), if_neg h0]
    refine ⟨⟨by omega, by omega⟩, l.foldl ostep (l[0]! 0), ?_, rfl⟩
    have := Wh.upto (f := fun (s : Int × Int) (o : (Int × Int) ⊕ (Int)) => oldest_l1 l s.1 s.2 o) (fun k : Nat => ((l.take k).foldl ostep (l[0]! 0), (k : Int))) l.length (r := l.foldl ostep (l[0]! 0)) (fun k hk => by
        dsimp only
        unfold oldest_l1
        rw [if_pos (by omega), Int.toNat_natCast, foldl_take _ _ _ _ hk]
        exact ⟨⟨by omega, by omega⟩, ⟨by omega, by omega⟩, rfl⟩) (by
        dsimp only
        unfold oldest_l1
        rw [if_neg (by omega), take_len])
    simpa using this
theorem oldest_le (l : List (Nat → Int)) : ∀ e ∈ l, (oldest_F l).1 ≤ e 0 ∧ (oldest_F l).1 ≤ e 2 := by
  have key : ∀ (l : List (Nat → Int)) (n : Int), l.foldl ostep n ≤ n ∧ ∀ e ∈ l, l.foldl ostep n ≤ e 0 ∧ l.foldl ostep n ≤ e 2 := by
    intro l
    induction l with
    | nil => intro n; simp
    | cons e l ih =>
      intro n
      rw [List.foldl_cons]
      obtain ⟨h1, h2⟩ := ih (ostep n e)
      have h3 : ostep n e ≤ n ∧ ostep n e ≤ e 0 ∧ ostep n e ≤ e 2 := by
        unfold ostep
        split <;> split at * <;> omega
      refine ⟨by omega, fun e' he' => ?_⟩
      rcases List.mem_cons.1 he' with rfl | he'
      · exact ⟨by omega, by omega⟩
      · exact h2 e' he'
  intro e he
  unfold oldest_F
  rw [if_neg (by have := List.length_pos_of_mem he; omega)]
  exact (key l _).2 e he

/-! ### The same edges -/
def esame_F (a b : List (Nat → Int)) : Bool := decide (a.length = b.length) && (List.range a.length).all fun k => eqN 4 (a[k]!) (b[k]!)
def esame_P (a _ : List (Nat → Int)) : Prop := a.length < 9000000000000000000
theorem esame_ok (a b : List (Nat → Int)) (h : esame_P a b) : esame_S a b (esame_F a b) := by
  unfold esame_P at h
  unfold esame_S esame_F
  by_cases hl : a.length = b.length
  · rw [if_pos (by omega), decide_eq_true hl, Bool.true_and]
    have := Wh.all (f := fun (s : Int) (o : Int ⊕ (Unit ⊕ Unit)) => esame_l1 a b s o) a.length (fun k => eqN 4 (a[k]!) (b[k]!)) (.inl ()) (.inr ()) (fun k hk hp => by
        unfold esame_l1
        rw [if_pos (by omega)]
        refine ⟨⟨by omega, by omega⟩, ⟨by omega, by omega⟩, ?_⟩
        rw [Int.toNat_natCast, if_pos hp]
        exact ⟨step1 (by omega), rfl⟩) (fun k hk hp => by
        unfold esame_l1
        rw [if_pos (by omega)]
        refine ⟨⟨by omega, by omega⟩, ⟨by omega, by omega⟩, ?_⟩
        rw [Int.toNat_natCast, if_neg (by rw [hp]; decide)]) (by
        unfold esame_l1
        rw [if_neg (by omega)])
    refine ⟨_, this, ?_⟩
    by_cases hall : (List.range a.length).all (fun k => eqN 4 (a[k]!) (b[k]!)) = true
    · rw [if_pos hall, hall]; rfl
    · rw [if_neg hall]
      simp only [Bool.not_eq_true] at hall
      rw [hall]; rfl
  · rw [if_neg (by omega), decide_eq_false hl, Bool.false_and]
theorem esame_self (a : List (Nat → Int)) : esame_F a a = true := by
  unfold esame_F
  rw [decide_eq_true rfl, Bool.true_and, List.all_eq_true]
  exact fun k _ => eqN_refl _ _

/-! ### Rising lists -/
theorem risingR_ok (l : List Int) (h : rising_P l) : risingR_S l (rising_F l) := by
  unfold rising_P at h
  unfold risingR_S
  refine ⟨rising_F l, ?_, rfl⟩
  have := Wh.upto (f := fun (s : (List Int) × Int) (o : ((List Int) × Int) ⊕ ((List Int))) => risingR_l1 l s.1 s.2 o) (fun k : Nat => (rising_F (l.take k), (k : Int))) l.length (r := rising_F l) (fun k hk => by
      have hs : rising_F (l.take (k + 1)) = insI (l[k]!) (rising_F (l.take k)) := by unfold rising_F; exact foldl_take _ _ _ _ hk
      have hl : (rising_F (l.take k)).length ≤ 1000000000 := Nat.le_trans (len_rising _) (by simp; omega)
      dsimp only
      rw [hs]
      unfold risingR_l1
      rw [if_pos (by omega)]
      generalize rising_F (l.take k) = out at hl
      have hsl := spot_le (l[k]!) out
      have hk' : 0 ≤ (k : Int) ∧ (k : Int) < l.length := ⟨by omega, by omega⟩
      refine ⟨(spot (l[k]!) out : Int), ?_, ?_⟩
      · have := Wh.upto (f := fun (s : Int) (o : (Int) ⊕ (Int)) => risingR_l2 l out (k : Int) s o) (fun j : Nat => (j : Int)) (spot (l[k]!) out) (r := (spot (l[k]!) out : Int)) (fun j hj => by
          have := spot_lt hj
          unfold risingR_l2
          rw [Int.toNat_natCast, Int.toNat_natCast, if_pos (by simp only [Bool.and_eq_true, decide_eq_true_eq]; exact ⟨by omega, this⟩)]
          exact ⟨fun _ => ⟨by omega, by omega⟩, fun _ => hk', ⟨by omega, by omega⟩, rfl⟩) (by
          unfold risingR_l2
          rw [Int.toNat_natCast, Int.toNat_natCast, if_neg (by
            simp only [Bool.and_eq_true, decide_eq_true_eq, not_and]
            exact fun h => spot_at (by omega))]
          exact ⟨fun h => ⟨by omega, by simpa using h⟩, fun _ => hk', rfl⟩)
        simpa using this
      · unfold risingR_k2a
        rw [Int.toNat_natCast, Int.toNat_natCast, insI_spot]
        refine ⟨fun h => ⟨by omega, by simpa using h⟩, fun _ => hk', ?_⟩
        by_cases hc : spot (l[k]!) out < out.length ∧ out[spot (l[k]!) out]! = l[k]!
        · rw [if_pos (by simp only [Bool.and_eq_true, decide_eq_true_eq]; exact ⟨by omega, hc.2⟩), if_pos hc]
          exact ⟨⟨by omega, by omega⟩, rfl⟩
        · rw [if_neg (by simp only [Bool.and_eq_true, decide_eq_true_eq]; exact fun h => hc ⟨by omega, h.2⟩), if_neg hc]
          simp only [List.nil_append, List.drop_zero, take_len]
          refine ⟨⟨by omega, by omega⟩, hk', ⟨by omega, by omega⟩, ?_, ?_, ?_, ⟨by omega, by omega⟩, rfl⟩
          · simp only [List.length_take]; omega
          · simp only [List.length_take]; omega
          · simp only [List.length_append, List.length_take, List.length_drop, List.length_singleton]; omega) (by
      dsimp only
      unfold risingR_l1
      rw [if_neg (by omega), take_len])
  simpa [rising_F] using this
end Go.E
