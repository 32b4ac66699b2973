/- Who is due; the same numbers. -/
import Derived.Test.YtfpilngnhkcgjaaA06S
import Derived.Test.YtfpilngnhkcgjaaL4
namespace Go.E
open Go
set_option linter.unusedVariables false

/-! ### The same numbers -/
def ints_F (a b : List Int) : Bool := decide (a = b)
def ints_P (a _ : List Int) : Prop := a.length < 9000000000000000000
theorem ints_ok (a b : List Int) (h : ints_P a b) : ints_S a b (ints_F a b) := by
  unfold ints_P at h
  unfold ints_S ints_F
  by_cases hl : a.length = b.length
  · rw [if_pos (by omega)]
    have := Wh.all (f := fun (s : Int) (o : Int ⊕ (Unit ⊕ Unit)) => ints_l1 a b s o) a.length (fun k => decide (a[k]! = b[k]!)) (.inl ()) (.inr ()) (fun k hk hp => by
        unfold ints_l1
        rw [if_pos (by omega)]
        refine ⟨⟨by omega, by omega⟩, ⟨by omega, by omega⟩, ?_⟩
        rw [Int.toNat_natCast, if_pos (by simpa using hp)]
        exact ⟨step1 (by omega), rfl⟩) (fun k hk hp => by
        unfold ints_l1
        rw [if_pos (by omega)]
        refine ⟨⟨by omega, by omega⟩, ⟨by omega, by omega⟩, ?_⟩
        rw [Int.toNat_natCast, if_neg (by simpa using hp)]) (by
        unfold ints_l1
        rw [if_neg (by omega)])
    refine ⟨_, this, ?_⟩
    have key : (List.range a.length).all (fun k => decide (a[k]! = b[k]!)) = decide (a = b) := by
      rw [Bool.eq_iff_iff, List.all_eq_true, decide_eq_true_eq]
      constructor
      · intro h
        refine List.ext_getElem hl fun i h1 h2 => ?_
        have := h i (List.mem_range.2 h1)
        rwa [decide_eq_true_eq, getElem!_pos a i h1, getElem!_pos b i h2] at this
      · rintro rfl
        exact fun i _ => by simp
    rw [key]
    by_cases hab : a = b
    · rw [decide_eq_true hab, if_pos rfl]; rfl
    · rw [decide_eq_false hab, if_neg (by decide)]; rfl
  · rw [if_neg (by omega), decide_eq_false (fun e => hl (by rw [e]))]
theorem ints_self (a : List Int) : ints_F a a = true := by simp [ints_F]

/-! ### Who is due -/
def isDue (span : Int) (d : List (Int × Int)) (now : Int) (id : Int) : Bool := ltime_F now && decide (span ≤ now - mget ieq d id 0)
def due_F (span : Int) (d : List (Int × Int)) (now : Int) : List Int := (skeys d).filter (isDue span d now)
def due_P (span : Int) (d : List (Int × Int)) (_now : Int) : Prop := skeysP d ∧ ∀ p ∈ d, 0 ≤ p.2 ∧ p.2 ≤ 1099511627776
theorem mget_rng {d : List (Int × Int)} (h : ∀ p ∈ d, 0 ≤ p.2 ∧ p.2 ≤ 1099511627776) (k : Int) : 0 ≤ mget ieq d k 0 ∧ mget ieq d k 0 ≤ 1099511627776 := by
  unfold mget
  cases hf : mfind ieq d k with
  | none => simp
  | some v => exact h _ (mem_of_mfind hf)
theorem due_ok (span : Int) (d : List (Int × Int)) (now : Int) (h : due_P span d now) : due_S span d now (due_F span d now) := by
  obtain ⟨hP, hv⟩ := h
  unfold due_S
  refine ⟨⟨hP, trivial⟩, due_F span d now, ?_, rfl⟩
  have e0 : lall_F span d = skeys d := rfl
  have hlen : (skeys d).length ≤ 1000000000000 := by rw [len_skeys]; exact hP.2
  have := Wh.upto (f := fun (s : (List Int) × Int) (o : ((List Int) × Int) ⊕ (List Int)) => due_l1 span d now s.1 s.2 o) (fun k : Nat => (((skeys d).take k).filter (isDue span d now), (k : Int))) (skeys d).length (r := due_F span d now) (fun k hk => by
      show due_l1 span d now (((skeys d).take k).filter (isDue span d now)) (k : Int) _
      unfold due_l1
      rw [e0, if_pos (by omega), Int.toNat_natCast, filter_take _ _ _ hk]
      have hg := mget_rng hv ((skeys d)[k]!)
      have hl : (((skeys d).take k).filter (isDue span d now)).length ≤ 1000000000000 := Nat.le_trans (List.length_filter_le _ _) (Nat.le_trans (by simp; omega) hlen)
      refine ⟨⟨by omega, by omega⟩, fun ht => ?_, ?_⟩
      · unfold ltime_F at ht
        simp only [Bool.and_eq_true, decide_eq_true_eq] at ht
        exact ⟨by omega, by omega⟩
      · refine ite_intro (fun h1 => ?_) fun h1 => ?_
        · refine ⟨by omega, ⟨by omega, by omega⟩, ?_⟩
          rw [if_pos (by unfold isDue; exact h1)]; rfl
        · refine ⟨⟨by omega, by omega⟩, ?_⟩
          rw [if_neg (by unfold isDue; exact h1), List.append_nil]; rfl) (by
      show due_l1 span d now _ ((skeys d).length : Int) _
      unfold due_l1
      rw [e0, if_neg (by omega), take_len]
      rfl)
  simpa using this
end Go.E
