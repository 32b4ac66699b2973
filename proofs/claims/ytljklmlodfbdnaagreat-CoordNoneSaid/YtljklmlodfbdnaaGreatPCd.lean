/- An error's number. -/
import Derived.Test.YtljklmlodfbdnaaGreatEB
import Derived.Test.YtljklmlodfbdnaaGreatMCS
namespace Go.E
open Go
def code_F (e : Int) : Int := if 0 ≤ e ∧ e ≤ 15 then e else -1
theorem code_ok (e : Int) : code_S e (code_F e) := by
  unfold code_S
  refine ite_intro (fun h => ?_) (fun h => ?_)
  · subst h; rfl
  · by_cases hr : 1 ≤ e ∧ e ≤ 15
    · refine ⟨.inr e, ?_, ?_⟩
      · have := Wh.upto (f := fun (s : Int) (o : Int ⊕ (Unit ⊕ Int)) => code_l1 e s o) (fun k => (k : Int) + 1) (e.toNat - 1) (r := .inr e) ?_ ?_
        · simpa using this
        · intro k hk
          unfold code_l1
          rw [if_pos (by omega)]
          refine ⟨by omega, by unfold errIs_P; omega, ?_⟩
          rw [if_neg (by simp [errIs_F]; omega)]
          exact ⟨⟨by omega, by omega⟩, by congr 2⟩
        · unfold code_l1
          have e1 : ((e.toNat - 1 : Nat) : Int) + 1 = e := by omega
          simp only [e1]
          rw [if_pos (by omega)]
          refine ⟨by omega, by unfold errIs_P; omega, ?_⟩
          rw [if_pos (by simp [errIs_F])]
          trivial
      · show code_F e = e
        unfold code_F; rw [if_pos (by omega)]
    · refine ⟨.inl (), ?_, ?_⟩
      · have := Wh.upto (f := fun (s : Int) (o : Int ⊕ (Unit ⊕ Int)) => code_l1 e s o) (fun k => (k : Int) + 1) 15 (r := .inl ()) ?_ ?_
        · simpa using this
        · intro k hk
          unfold code_l1
          rw [if_pos (by omega)]
          refine ⟨by omega, by unfold errIs_P; omega, ?_⟩
          rw [if_neg (by simp [errIs_F]; omega)]
          exact ⟨⟨by omega, by omega⟩, by congr 2⟩
        · unfold code_l1
          rw [if_neg (by omega)]
      · show code_F e = -1
        unfold code_F; rw [if_neg (by omega)]
end Go.E
