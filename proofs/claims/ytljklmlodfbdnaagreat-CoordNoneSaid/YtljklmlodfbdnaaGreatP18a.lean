/- The coordinator: clones, messages for shards, places in lists, clients, probes. -/
import Derived.Test.YtljklmlodfbdnaaGreatA18S
import Derived.Test.YtljklmlodfbdnaaGreatE23
import Derived.Test.YtljklmlodfbdnaaGreatL4
namespace Go.E
open Go
set_option linter.unusedVariables false
set_option maxRecDepth 100000

def cloneI_F (s : List Int) : List Int := s
def cloneI_P (s : List Int) : Prop := s.length ≤ 1000000000
theorem cloneI_ok (s : List Int) (h : cloneI_P s) : cloneI_S s (cloneI_F s) := by
  unfold cloneI_P at h
  exact ⟨fun e => e, by omega, rfl⟩
def cloneG_F (s : List (Nat → Int)) : List (Nat → Int) := s
def cloneG_P (s : List (Nat → Int)) : Prop := s.length ≤ 1000000000
theorem cloneG_ok (s : List (Nat → Int)) (h : cloneG_P s) : cloneG_S s (cloneG_F s) := by
  unfold cloneG_P at h
  exact ⟨fun e => e, by omega, rfl⟩

/-- A message for a shard. -/
def toMsg (tx kind code s : Int) : Nat → Int := updI (updI (updI (updI (fun _ => 0) 0 kind) 2 s) 3 tx) 8 code
def tto_F (tx _st _re _sq : Int) (_op : Bool) (_sh : Int) (_at : Nat → Int) (_mo : Int) (_to _vo _ac : List Int) (_go : List (Nat → Int)) (kind code : Int) (shards : List Int) : List (Nat → Int) := shards.map (toMsg tx kind code)
def tto_P (_tx _st _re _sq : Int) (_op : Bool) (_sh : Int) (_at : Nat → Int) (_mo : Int) (_to _vo _ac : List Int) (_go : List (Nat → Int)) (_kind _code : Int) (shards : List Int) : Prop := shards.length ≤ 1000000
theorem tto_ok (tx st re sq : Int) (op : Bool) (sh : Int) (at_ : Nat → Int) (mo : Int) (to_ vo ac : List Int) (go : List (Nat → Int)) (kind code : Int) (shards : List Int) (h : tto_P tx st re sq op sh at_ mo to_ vo ac go kind code shards) :
    tto_S tx st re sq op sh at_ mo to_ vo ac go kind code shards (tto_F tx st re sq op sh at_ mo to_ vo ac go kind code shards) := by
  unfold tto_P at h
  unfold tto_S
  refine ⟨shards.map (toMsg tx kind code), ?_, rfl⟩
  have := Wh.upto (f := fun (s : (List (Nat → Int)) × Int) (o : ((List (Nat → Int)) × Int) ⊕ ((List (Nat → Int)))) => tto_l1 tx kind code shards s.1 s.2 o) (fun k : Nat => ((shards.take k).map (toMsg tx kind code), (k : Int))) shards.length (r := shards.map (toMsg tx kind code)) (fun k hk => by
      dsimp only
      unfold tto_l1
      rw [if_pos (by omega), Int.toNat_natCast, map_take _ _ _ hk]
      exact ⟨⟨by omega, by omega⟩, by simp; omega, ⟨by omega, by omega⟩, rfl⟩) (by
      dsimp only
      unfold tto_l1
      rw [if_neg (by omega), take_len])
  simpa using this

/-! ### The same grants -/
/-! ### The place of a number in a rising list -/
theorem less_eq (a b : Int) : less_F a b = decide (a < b) := by simp [less_F, cNaN_F]
theorem getk {l : List Int} {k : Nat} (h : k < l.length) : l[k]! = l[k] := by simp [h]
theorem spot_iff {x : Int} {l : List Int} (hs : l.Pairwise fun a b => a < b) {k : Nat} (hk : k < l.length) : l[k]! < x ↔ k < spot x l := by
  refine ⟨fun h => ?_, spot_lt⟩
  by_cases hc : k < spot x l
  · exact hc
  · exfalso
    have h1 := spot_at (x := x) (l := l) (by omega)
    rcases Nat.eq_or_lt_of_le (Nat.le_of_not_lt hc) with e | e
    · rw [e] at h1; exact h1 h
    · have h2 := List.pairwise_iff_getElem.1 hs _ _ (by omega) hk e
      rw [getk hk] at h
      rw [getk (by omega)] at h1
      omega
def search_F (l : List Int) (x : Int) : Int × Bool := ((spot x l : Int), decide (spot x l < l.length) && decide (l[spot x l]! = x))
def search_P (l : List Int) (_ : Int) : Prop := l.Pairwise (fun a b => a < b) ∧ l.length ≤ 1000000000
theorem half_wrap {i j : Int} (h0 : 0 ≤ i) (h1 : i ≤ j) (h2 : j ≤ 1000000000) : IntKind.i64.wrap (IntKind.u64.wrap (i + j) / 2) = (i + j) / 2 := by
  have e : IntKind.u64.wrap (i + j) = i + j := by
    simp only [IntKind.wrap, IntKind.bits]
    have : (i + j) % 2 ^ 64 = i + j := Int.emod_eq_of_lt (by omega) (by omega)
    simp [IntKind.signed]
    omega
  rw [e]
  exact wrap_id ⟨by omega, by omega⟩
theorem search_ok (l : List Int) (x : Int) (h : search_P l x) : search_S l x (search_F l x) := by
  obtain ⟨hs, hn⟩ := h
  unfold search_S
  have hle := spot_le x l
  obtain ⟨r, hr, rfl⟩ := Wh.by (f := fun (s : Int × Int) (o : (Int × Int) ⊕ (Int)) => search_l1 l x s.1 s.2 o) (fun s => 0 ≤ s.1 ∧ s.1 ≤ (spot x l : Int) ∧ (spot x l : Int) ≤ s.2 ∧ s.2 ≤ l.length) (fun s => (s.2 - s.1).toNat) (fun r => r = (spot x l : Int)) (s := ((0, (l.length : Int)) : Int × Int)) ⟨by simp, by simp, by simp; omega, by simp⟩ (by
    rintro ⟨i, j⟩ ⟨h0, h1, h2, h3⟩
    dsimp only at h0 h1 h2 h3
    by_cases hij : i < j
    · left
      dsimp only
      have hw := half_wrap h0 (Int.le_of_lt hij) (by omega)
      have hm : i ≤ (i + j) / 2 ∧ (i + j) / 2 < j := by omega
      have hb : ((i + j) / 2).toNat < l.length := by omega
      have hi := spot_iff (x := x) hs hb
      by_cases hc : l[((i + j) / 2).toNat]! < x
      · have hc' := hi.1 hc
        refine ⟨((i + j) / 2 + 1, j), ?_, ⟨by dsimp only; omega, by dsimp only; omega, h2, h3⟩, by dsimp only; omega⟩
        unfold search_l1
        rw [if_pos hij, hw, less_eq, decide_eq_true hc, if_pos rfl, if_pos rfl, if_pos rfl]
        exact ⟨⟨by omega, by omega⟩, ⟨by omega, by omega⟩, ⟨⟨by omega, by omega⟩, trivial⟩, rfl⟩
      · have hc' : ¬ ((i + j) / 2).toNat < spot x l := fun hh => hc (hi.2 hh)
        refine ⟨(i, (i + j) / 2), ?_, ⟨h0, h1, by dsimp only; omega, by dsimp only; omega⟩, by dsimp only; omega⟩
        unfold search_l1
        rw [if_pos hij, hw, less_eq, decide_eq_false hc, if_neg (by decide), if_neg (by decide), if_neg (by decide)]
        exact ⟨⟨by omega, by omega⟩, ⟨by omega, by omega⟩, trivial, rfl⟩
    · right
      dsimp only
      refine ⟨i, ?_, by omega⟩
      unfold search_l1
      rw [if_neg hij])
  refine ⟨_, hr, ?_⟩
  unfold search_k1a search_F
  rw [Int.toNat_natCast]
  refine ⟨fun h => ⟨by omega, by simpa using h⟩, fun h _ => ⟨by omega, by simpa using h⟩, ?_⟩
  rw [show decide ((spot x l : Int) < (l.length : Int)) = decide (spot x l < l.length) from decide_eq_decide.2 (by omega)]
  simp [sNaN_F]
theorem search_le (l : List Int) (x : Int) : 0 ≤ (search_F l x).1 ∧ (search_F l x).1 ≤ (l.length : Int) := by
  have := spot_le x l
  exact ⟨by simp [search_F], by simp [search_F]; omega⟩
/-- A number put into a rising list, once. -/
theorem with_eq (l : List Int) (x : Int) : (if (search_F l x).2 = true then l else insL1 (cloneI_F l) ((search_F l x).1).toNat x) = insI x l := by
  rw [insI_spot]
  unfold search_F insL1 cloneI_F
  rw [Int.toNat_natCast]
  by_cases h : spot x l < l.length ∧ l[spot x l]! = x
  · rw [if_pos h, if_pos (by rw [decide_eq_true h.1, decide_eq_true h.2]; rfl)]
  · rw [if_neg h, if_neg (by rw [Bool.and_eq_true, decide_eq_true_eq, decide_eq_true_eq]; exact h)]
end Go.E
namespace Go.E
open Go
set_option linter.unusedVariables false
set_option maxRecDepth 100000

def hitC (c : Nat → Int) (tx : Int) (j : Nat) : Bool := decide (0 < j) && decide (1 ≤ tx) && decide (c (1 + j * 3) = tx)
def cofI (c : Nat → Int) (tx : Int) : Int := ((List.range 9).find? (hitC c tx)).elim 0 fun j => (j : Int)
def cof_F (c : Nat → Int) (tx : Int) : Int × Int := if cofI c tx = 0 then (0, 10) else (cofI c tx, 0)
theorem find_at {n : Nat} {p : Nat → Bool} {i : Nat} (hi : i < n) (h : p i = true) (hn : ∀ j, j < i → p j = false) : (List.range n).find? p = some i :=
  List.find?_range_eq_some.2 ⟨h, List.mem_range.2 hi, fun j hj => by rw [hn j hj]; rfl⟩
theorem find_no {n : Nat} {p : Nat → Bool} (hn : ∀ j, j < n → p j = false) : (List.range n).find? p = none :=
  List.find?_eq_none.2 fun j hj => by rw [hn j (List.mem_range.1 hj)]; decide
theorem cof_ok (c : Nat → Int) (tx : Int) : cof_S c tx (cof_F c tx) := by
  unfold cof_S
  refine (Wh.by (f := fun (s : Int × Int) (o : (Int × Int) ⊕ (Int)) => cof_l1 c tx s.1 s.2 o) (s := ((0, 0) : Int × Int)) (fun s => s.1 = 0 ∧ 0 ≤ s.2 ∧ s.2 ≤ 9 ∧ ∀ j : Nat, (j : Int) < s.2 → hitC c tx j = false) (fun s => (9 - s.2).toNat) (fun r => r = cofI c tx) ⟨rfl, by omega, by omega, fun j hj => by omega⟩ ?_).elim fun r hr => ⟨r, hr.1, ?_⟩
  · rintro ⟨w, x⟩ ⟨rfl, x0, x1, hno⟩
    simp only at x0 x1 hno
    by_cases hx : x < 9
    · have hin : inI64 (x + 1) := ⟨by omega, by omega⟩
      have hx' : (x.toNat : Int) = x := by omega
      by_cases hh : hitC c tx x.toNat = true
      · refine .inr ⟨x, ?_, ?_⟩
        · show cof_l1 c tx 0 x _
          unfold cof_l1
          unfold hitC at hh
          simp only [Bool.and_eq_true, decide_eq_true_eq] at hh
          rw [if_pos hx, if_neg (by simp only [Bool.or_eq_true, decide_eq_true_eq]; omega), if_pos hh.2]
          exact ⟨⟨x0, hx⟩, rfl⟩
        · unfold cofI
          rw [find_at (i := x.toNat) (by omega) hh fun j hj => hno j (by omega)]
          exact hx'.symm
      · refine .inl ⟨(0, x + 1), ?_, ⟨rfl, by simp only; omega, by simp only; omega, fun j hj => ?_⟩, by simp only; omega⟩
        · show cof_l1 c tx 0 x _
          unfold cof_l1
          rw [if_pos hx]
          refine ⟨⟨x0, hx⟩, ite_intro (fun h => ⟨hin, rfl⟩) fun h => ?_⟩
          simp only [Bool.or_eq_true, decide_eq_true_eq] at h
          rw [if_neg (fun e => hh (by unfold hitC; simp only [Bool.and_eq_true, decide_eq_true_eq]; exact ⟨⟨by omega, by omega⟩, e⟩))]
          exact ⟨hin, rfl⟩
        · simp only at hj
          by_cases hjx : (j : Int) < x
          · exact hno j hjx
          · rw [show j = x.toNat by omega]
            simpa using hh
    · refine .inr ⟨0, ?_, ?_⟩
      · show cof_l1 c tx 0 x _
        unfold cof_l1
        rw [if_neg hx]
      · unfold cofI
        rw [find_no fun j hj => hno j (by omega)]
        rfl
  · rw [hr.2]
    unfold cof_k1a cof_F
    split <;> rfl
theorem cofI_spec (c : Nat → Int) (tx : Int) : (cofI c tx = 0 ∧ ∀ j : Nat, 1 ≤ j → j ≤ 8 → 1 ≤ tx → c (1 + j * 3) ≠ tx) ∨ ∃ j : Nat, cofI c tx = j ∧ 1 ≤ j ∧ j ≤ 8 ∧ 1 ≤ tx ∧ c (1 + j * 3) = tx := by
  unfold cofI
  cases h : (List.range 9).find? (hitC c tx) with
  | none =>
    refine .inl ⟨rfl, fun j h1 h2 h3 h4 => ?_⟩
    have := List.find?_eq_none.1 h j (List.mem_range.2 (by omega))
    exact this (by unfold hitC; simp only [Bool.and_eq_true, decide_eq_true_eq]; exact ⟨⟨by omega, h3⟩, h4⟩)
  | some j =>
    obtain ⟨h1, h2, _⟩ := List.find?_range_eq_some.1 h
    have h2 := List.mem_range.1 h2
    unfold hitC at h1
    simp only [Bool.and_eq_true, decide_eq_true_eq] at h1
    exact .inr ⟨j, rfl, by omega, by omega, h1.1.2, h1.2⟩

end Go.E
namespace Go.E
open Go
set_option linter.unusedVariables false

/-! ### The victim -/
/-! ### Open steps -/
/-! ### Going on -/
end Go.E
namespace Go.E
end Go.E
