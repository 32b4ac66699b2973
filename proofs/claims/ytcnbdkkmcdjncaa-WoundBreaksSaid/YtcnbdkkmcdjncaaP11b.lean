/- All that are wounded; all numbers at edges. -/
import Derived.Test.YtcnbdkkmcdjncaaB11S
namespace Go.E
open Go
set_option linter.unusedVariables false
set_option maxRecDepth 100000

abbrev woundOf (t b : Int) : Nat → Int := updI (updI (fun _ => 0) 0 t) 1 b
def wof_F (l : List (Nat → Int)) : List (Nat → Int) := (skeys (wby_F l)).map fun k => woundOf k (mget ieq (wby_F l) k 0)
def wof_P (l : List (Nat → Int)) : Prop := l.length ≤ 1000000 ∧ ∀ e ∈ l, inI64 (e 2)
theorem wby_skeysP {l : List (Nat → Int)} (h : wof_P l) : skeysP (wby_F l) :=
  ⟨fun p hp => by obtain ⟨e, he, h1⟩ := wby_keys hp; rw [h1]; exact h.2 e he, by have := wby_len l; have := h.1; omega⟩
theorem len_wof (l : List (Nat → Int)) : (wof_F l).length ≤ l.length := by
  unfold wof_F
  rw [List.length_map, len_skeys]
  exact wby_len l
theorem wof_ok (l : List (Nat → Int)) (h : wof_P l) : wof_S l (wof_F l) := by
  unfold wof_S
  have hl := h.1
  have hk : (skeys (wby_F l)).length ≤ 1000000 := by rw [len_skeys]; exact Nat.le_trans (wby_len l) hl
  refine ⟨by unfold wby_P; omega, wby_skeysP h, wof_F l, ?_, rfl⟩
  have := Wh.upto (f := fun (s : (List (Nat → Int)) × Int) (o : ((List (Nat → Int)) × Int) ⊕ ((List (Nat → Int)))) => wof_l1 l s.1 s.2 o) (fun k : Nat => (((skeys (wby_F l)).take k).map (fun k => woundOf k (mget ieq (wby_F l) k 0)), (k : Int))) (skeys (wby_F l)).length (r := wof_F l) (fun k hk' => by
      dsimp only
      unfold wof_l1
      rw [if_pos (by omega), Int.toNat_natCast, map_take _ _ _ hk']
      exact ⟨⟨by omega, by omega⟩, by simp only [List.length_map, List.length_take]; omega, ⟨by omega, by omega⟩, rfl⟩) (by
      dsimp only
      unfold wof_l1
      rw [if_neg (by omega), take_len]
      rfl)
  simpa using this

def nodesR_F (l : List (Nat → Int)) : List Int := rising_F (ends2 l)
def nodesR_P (l : List (Nat → Int)) : Prop := l.length ≤ 1000000
theorem nodesR_ok (l : List (Nat → Int)) (h : nodesR_P l) : nodesR_S l (nodesR_F l) := by
  unfold nodesR_P at h
  unfold nodesR_S
  refine ⟨ends2 l, ?_, by unfold nodesR_k1a; exact ⟨by unfold rising_P; rw [len_ends2]; omega, rfl⟩⟩
  have := Wh.upto (f := fun (s : (List Int) × Int) (o : ((List Int) × Int) ⊕ ((List Int))) => nodesR_l1 l s.1 s.2 o) (fun k : Nat => (ends2 (l.take k), (k : Int))) l.length (r := ends2 l) (fun k hk => by
      have hb : (ends2 (l.take k)).length ≤ 2000000 := by rw [len_ends2]; simp only [List.length_take]; omega
      have e : ends2 (l.take (k + 1)) = ends2 (l.take k) ++ [l[k]! 0, l[k]! 2] := by unfold ends2; exact flatMap_take _ _ _ hk
      dsimp only
      unfold nodesR_l1
      rw [if_pos (by omega), Int.toNat_natCast, e]
      exact ⟨⟨by omega, by omega⟩, ⟨by omega, by omega⟩, by omega, ⟨by omega, by omega⟩, rfl⟩) (by
      dsimp only
      unfold nodesR_l1
      rw [if_neg (by omega), take_len])
  simpa [ends2] using this
theorem mem_nodesR {l : List (Nat → Int)} {x : Int} : x ∈ nodesR_F l ↔ ∃ e ∈ l, x = e 0 ∨ x = e 2 := by
  unfold nodesR_F ends2
  rw [mem_rising, List.mem_flatMap]
  simp
theorem len_nodesR (l : List (Nat → Int)) : (nodesR_F l).length ≤ 2 * l.length := by
  unfold nodesR_F
  have := len_rising (ends2 l)
  rw [len_ends2] at this
  exact this
end Go.E
