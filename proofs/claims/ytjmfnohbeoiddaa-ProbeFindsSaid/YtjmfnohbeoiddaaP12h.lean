/- Circles (of the chapter on graphs). -/
import Derived.Test.YtjmfnohbeoiddaaI12S
import Derived.Test.YtjmfnohbeoiddaaP12g
namespace Go.E
open Go
set_option linter.unusedVariables false
set_option maxRecDepth 100000

noncomputable def gcirc_F (l : List (Nat → Int)) : List Int := (nodesL l).filter fun x => hasI_F (greach_F l x) x
theorem mem_gcirc {l : List (Nat → Int)} {x : Int} : x ∈ gcirc_F l ↔ Rt l x x := by
  unfold gcirc_F hasI_F
  rw [List.mem_filter, decide_eq_true_eq, mem_greach]
  exact ⟨fun h => h.2, fun h => ⟨h.left, h⟩⟩
theorem len_gcirc (l : List (Nat → Int)) : (gcirc_F l).length ≤ 2 * l.length := by
  unfold gcirc_F
  exact Nat.le_trans (List.length_filter_le _ _) (len_nodesL l)
noncomputable def circR_F (l : List (Nat → Int)) : List Int := gcirc_F l
def circR_P (l : List (Nat → Int)) : Prop := l.length ≤ 100000
theorem circR_ok (l : List (Nat → Int)) (h : circR_P l) : circR_S l (circR_F l) := by
  unfold circR_P at h
  have hN := len_nodesL l
  unfold circR_S
  refine ⟨by unfold nodesR_P; omega, circR_F l, ?_, rfl⟩
  have e : nodesR_F l = nodesL l := rfl
  have := Wh.upto (f := fun (s : (List Int) × Int) (o : ((List Int) × Int) ⊕ ((List Int))) => circR_l1 l s.1 s.2 o) (fun k : Nat => (((nodesL l).take k).filter (fun x => hasI_F (greach_F l x) x), (k : Int))) (nodesL l).length (r := circR_F l) (fun k hk => by
      have hb : (((nodesL l).take k).filter (fun x => hasI_F (greach_F l x) x)).length ≤ 200000 := Nat.le_trans (List.length_filter_le _ _) (by simp only [List.length_take]; omega)
      have hk' : 0 ≤ (k : Int) ∧ (k : Int) < (nodesL l).length := ⟨by omega, by omega⟩
      dsimp only
      unfold circR_l1
      rw [e, if_pos (by omega), Int.toNat_natCast, filter_take _ _ _ hk]
      refine ⟨hk', hk', h, by
        unfold hasR_P
        have : (reachR_F l ((nodesL l)[k]!)).length ≤ _ := len_greach l ((nodesL l)[k]!)
        omega, ite_intro (fun h1 => ?_) fun h1 => ?_⟩
      · have h1' : hasI_F (greach_F l ((nodesL l)[k]!)) ((nodesL l)[k]!) = true := h1
        rw [if_pos h1']
        exact ⟨hk', by omega, ⟨by omega, by omega⟩, rfl⟩
      · have h1' : ¬ hasI_F (greach_F l ((nodesL l)[k]!)) ((nodesL l)[k]!) = true := h1
        rw [if_neg h1', List.append_nil]
        exact ⟨⟨by omega, by omega⟩, rfl⟩) (by
      dsimp only
      unfold circR_l1
      rw [e, if_neg (by omega), take_len]
      rfl)
  simpa using this
end Go.E
