/- The document's leases that are due; the example. -/
import Derived.Test.YtfpilngnhkcgjaaB06S
namespace Go.E
open Go
set_option linter.unusedVariables false
set_option maxRecDepth 100000

theorem renew_new (span id now : Int) (h : ¬ id < 1) (ht : ltime_F now = true) : renew_F span [] id now = (0, [(id, if 0 < now then now else 0)]) := by
  unfold renew_F
  rw [if_neg (by simp [ht]; omega)]
  simp only [mset, mget, mfind, Option.getD_none]
  rfl
theorem due_one (span k v now : Int) : due_F span [(k, v)] now = if ltime_F now = true ∧ span ≤ now - v then [k] else [] := by
  unfold due_F isDue
  rw [skeys_one]
  simp only [List.filter_cons, List.filter_nil, mget, mfind, ieq, BEq.rfl, if_true, Option.getD_some]
  by_cases h1 : ltime_F now = true <;> by_cases h2 : span ≤ now - v <;> simp [h1, h2]
theorem due_pre_one {span k v now : Int} (hk : inI64 k) (hv : 0 ≤ v ∧ v ≤ 1099511627776) : due_P span [(k, v)] now :=
  ⟨skeysP_one hk, fun p hp => by rw [List.mem_singleton.1 hp]; exact hv⟩
theorem alive_eq : renew_F 3 [] 7 10 = (0, [(7, 10)]) := by rw [renew_new 3 7 10 (by omega) (by decide)]; simp
theorem d12 : due_F 3 [(7, 10)] 12 = [] := by rw [due_one, if_neg (by omega)]
theorem d13 : due_F 3 [(7, 10)] 13 = [7] := by rw [due_one, if_pos (by decide)]
theorem alive06_t : alive06_F = true := by
  unfold alive06_F
  rw [alive_eq]
  simp only
  rw [d12, d13, if_pos trivial, if_pos (by simp)]
  exact ints_self _
theorem alive06_p : alive06_P := by
  unfold alive06_P
  rw [alive_eq]
  simp only
  have h7 : ∀ now, due_P 3 [(7, 10)] now := fun now => due_pre_one (by decide) (by omega)
  rw [if_pos trivial, d12, d13, if_pos (by simp)]
  exact ⟨h7 12, h7 13, by unfold ints_P; simp, trivial⟩

/-! ### The document's -/
def isDueR (span now : Int) (x : Nat → Int) : Bool := decide (x 1 ≤ now) && decide (span ≤ now - x 1)
def dueR_F (l : List (Nat → Int)) (span now : Int) : List Int := if timeR_F now = true then (l.filter (isDueR span now)).map (· 0) else []
def dueR_P (l : List (Nat → Int)) (_span _now : Int) : Prop := l.length ≤ 1000000 ∧ ∀ x ∈ l, 0 ≤ x 1 ∧ x 1 ≤ 1099511627776
theorem dueR_ok (l : List (Nat → Int)) (span now : Int) (h : dueR_P l span now) : dueR_S l span now (dueR_F l span now) := by
  obtain ⟨hl, hv⟩ := h
  unfold dueR_S
  refine ⟨dueR_F l span now, ?_, rfl⟩
  unfold dueR_F
  by_cases ht : timeR_F now = true
  · rw [if_pos ht]
    have htn : 0 ≤ now ∧ now ≤ 1099511627776 := by
      unfold timeR_F at ht
      simpa [Bool.and_eq_true] using ht
    have := Wh.upto (f := fun (s : (List Int) × Int) (o : ((List Int) × Int) ⊕ (List Int)) => dueR_l1 l span now s.1 s.2 o) (fun k : Nat => (((l.take k).filter (isDueR span now)).map (· 0), (k : Int))) l.length (r := (l.filter (isDueR span now)).map (· 0)) (fun k hk => by
        dsimp only
        unfold dueR_l1
        have hc : ((decide ((k : Int) < (l.length : Int))) && timeR_F now) = true := by rw [ht, decide_eq_true (by omega)]; rfl
        rw [if_pos hc, Int.toNat_natCast, filter_take _ _ _ hk]
        have hg := hv _ (mem_at hk)
        have hb : (((l.take k).filter (isDueR span now)).map (· 0)).length ≤ 1000000 := by
          rw [List.length_map]
          exact Nat.le_trans (List.length_filter_le _ _) (Nat.le_trans (by simp; omega) hl)
        refine ⟨⟨by omega, by omega⟩, fun _ => ⟨by omega, by omega⟩, fun _ => ⟨by omega, by omega⟩, ?_⟩
        refine ite_intro (fun h1 => ?_) fun h1 => ?_
        · refine ⟨⟨by omega, by omega⟩, by omega, ⟨by omega, by omega⟩, ?_⟩
          rw [if_pos (by unfold isDueR; exact h1), List.map_append]; rfl
        · refine ⟨⟨by omega, by omega⟩, ?_⟩
          rw [if_neg (by unfold isDueR; exact h1), List.append_nil]; rfl) (by
        dsimp only
        unfold dueR_l1
        have hc : ¬ ((decide ((l.length : Int) < (l.length : Int))) && timeR_F now) = true := by rw [decide_eq_false (by omega)]; simp
        rw [if_neg hc, take_len])
    simpa using this
  · rw [if_neg ht]
    refine .out ?_
    unfold dueR_l1
    rw [if_neg (by simp [ht])]
end Go.E
