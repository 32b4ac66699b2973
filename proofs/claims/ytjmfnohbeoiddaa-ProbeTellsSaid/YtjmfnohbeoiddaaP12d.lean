/- How the document's probes go on. -/
import Derived.Test.YtjmfnohbeoiddaaE12S
import Derived.Test.YtjmfnohbeoiddaaP12c
namespace Go.E
open Go
set_option linter.unusedVariables false

def nextW (m : Nat → Int) (q : Int) : Nat → Int := updI (updI (fun _ => 0) 0 (m 9)) 1 q
def goR_F (shard : Int) (m : Nat → Int) (q : Int) (l : List (Nat → Int)) : List (Nat → Int) × Int :=
  if isR_F m = true then
    if ((!(decide (m 10 = 0))) && (!(decide (m 10 = q)))) = true then ([], 14)
    else if metB m = true then ([], 11)
    else if m 11 = 8 then ([], 7)
    else if (onR_F shard m (nextW m q) l).2 = true then ((onR_F shard m (nextW m q) l).1, 0) else ([], 1)
  else ([], 5)
def goR_P (shard : Int) (m : Nat → Int) (q : Int) (l : List (Nat → Int)) : Prop := l.length ≤ 1000000
theorem goR_ok (shard : Int) (m : Nat → Int) (q : Int) (l : List (Nat → Int)) (hP : goR_P shard m q l) : goR_S shard m q l (goR_F shard m q l) := by
  unfold goR_P at hP
  unfold goR_S goR_F
  by_cases h : isR_F m = true
  · rw [if_pos h, if_pos h]
    have hn := isP_n (by rw [← isR_eq]; exact h)
    refine ite_intro (fun h1 => by rw [if_pos h1]) fun h1 => ?_
    rw [if_neg h1]
    refine (Wh.find (f := fun (s : Int) (o : Int ⊕ (Unit ⊕ Unit)) => goR_l1 m s o) (m 11).toNat (fun i => decide (m (12 + i * 2) = m 9)) (.inl ()) (fun k => .inr ()) ?_ ?_ ?_).elim fun r hr => ?_
    · intro k hk hp
      unfold goR_l1
      rw [if_pos (by omega), Int.toNat_natCast]
      refine ⟨⟨by omega, by omega⟩, ?_⟩
      rw [if_neg (by simpa using hp)]
      exact ⟨step1 (by omega), rfl⟩
    · intro k hk hp
      unfold goR_l1
      rw [if_pos (by omega), Int.toNat_natCast]
      refine ⟨⟨by omega, by omega⟩, ?_⟩
      rw [if_pos (by simpa using hp)]
    · unfold goR_l1
      rw [if_neg (by omega)]
    · obtain ⟨h2, h3⟩ := hr
      refine ⟨r, h2, ?_⟩
      rcases h3 with ⟨rfl, h3⟩ | ⟨k, hk, rfl, h3⟩
      · show goR_k1a shard m q l _
        unfold goR_k1a
        have : metB m = false := h3
        rw [this]
        simp only [Bool.false_eq_true, if_false]
        refine ite_intro (fun h8 => by rw [if_pos h8]) fun h8 => ?_
        rw [if_neg h8]
        refine ⟨⟨by omega, by omega, hP⟩, ?_⟩
        show if (onR_F shard m (nextW m q) l).2 = true then _ else _
        by_cases h9 : (onR_F shard m (nextW m q) l).2 = true
        · rw [if_pos h9, if_pos h9]; rfl
        · rw [if_neg h9, if_neg h9]
      · show goR_k1b _
        unfold goR_k1b
        have : metB m = true := h3
        rw [this]; simp
  · rw [if_neg h, if_neg h]
end Go.E
