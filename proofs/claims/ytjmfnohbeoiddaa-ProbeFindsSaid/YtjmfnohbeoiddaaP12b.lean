/- A probe that goes on to another shard is as it was; each by which one goes on has its steps and one more. -/
import Derived.Test.YtjmfnohbeoiddaaC12S
namespace Go.E
open Go
set_option linter.unusedVariables false
set_option maxRecDepth 100000

theorem alive12_t : alive12_F = true := by decide +kernel
theorem alive12_p : alive12_P := by
  unfold alive12_P startP_P goP_P longer_P
  decide +kernel

theorem goP_pre {shard : Int} {m : Nat → Int} {q : Int} {l : List (Nat → Int)} (hl : l.length ≤ 1000000) : goP_P shard m q l := by
  unfold goP_P
  refine ite_intro (fun h => ⟨?_, trivial⟩) fun _ => trivial
  unfold stops_F at h
  by_cases hp : isP_F m = true
  · rw [if_pos hp] at h
    have hn := isP_n hp
    split at h
    · cases h
    · split at h
      · cases h
      · split at h
        · cases h
        · exact ⟨by omega, by omega, hl⟩
  · rw [if_neg hp] at h; cases h
/-- What one that goes on gives. -/
theorem goP_all (shard : Int) (m : Nat → Int) (q : Int) (l : List (Nat → Int)) : ((goP_F shard m q l).2 = 0 ∨ (goP_F shard m q l).1 = []) ∧
    ∀ p ∈ (goP_F shard m q l).1, (1 ≤ m 11 ∧ m 11 < 8) ∧ ∃ e, p = onE shard m (updI (updI (fun _ => 0) 0 (m 9)) 1 q) e := by
  unfold goP_F
  by_cases h : stops_F m q = 0
  · rw [if_pos h]
    have hr : 1 ≤ m 11 ∧ m 11 < 8 := by
      unfold stops_F at h
      by_cases hp : isP_F m = true
      · rw [if_pos hp] at h
        have hn := isP_n hp
        split at h
        · cases h
        · split at h
          · cases h
          · split at h
            · cases h
            · exact ⟨by omega, by omega⟩
      · rw [if_neg hp] at h; cases h
    unfold longer_F
    split
    · refine ⟨.inl rfl, fun p hp => ⟨hr, ?_⟩⟩
      simp only [longF, List.mem_map] at hp
      obtain ⟨e, _, rfl⟩ := hp
      exact ⟨e, rfl⟩
    · exact ⟨.inr rfl, fun p hp => by simp at hp⟩
  · rw [if_neg h]
    exact ⟨.inr rfl, fun p hp => by simp at hp⟩
theorem onE_n {shard : Int} {m ww e : Nat → Int} (h : 1 ≤ m 11 ∧ m 11 < 8) : onE shard m ww e 11 = m 11 + 1 := by
  unfold onE onM
  rw [onM_n ⟨by omega, h.2⟩]
  simp [updI]
theorem onE_new {shard : Int} {m ww e : Nat → Int} (h : 1 ≤ m 11 ∧ m 11 < 8) (i : Nat) (hi : i < 2) : onE shard m ww e (12 + (m 11).toNat * 2 + i) = ww i := by
  unfold onE onM
  simp only [updI, updRI]
  rw [if_neg (by omega), if_neg (by omega), if_neg (by omega), if_pos (by omega)]
  congr 1; omega
theorem onE_old {shard : Int} {m ww e : Nat → Int} (h : 1 ≤ m 11 ∧ m 11 < 8) (k i : Nat) (hk : (k : Int) < m 11) (hi : i < 2) : onE shard m ww e (12 + k * 2 + i) = m (12 + k * 2 + i) := by
  unfold onE onM
  simp only [updI, updRI]
  rw [if_neg (by omega), if_neg (by omega), if_neg (by omega), if_neg (by omega), if_neg (by omega), if_neg (by omega), if_neg (by omega)]

/-- The same probe for another shard. -/
def toM (m : Nat → Int) (shard : Int) : Nat → Int := updI (updI m 1 0) 2 shard
theorem toM_at (m : Nat → Int) (shard : Int) (i : Nat) (h : 3 ≤ i) : toM m shard i = m i := by
  unfold toM
  simp only [updI]
  rw [if_neg (by omega), if_neg (by omega)]
theorem vic_to (m : Nat → Int) (shard : Int) : ∀ k, vicF (toM m shard) k = vicF m k
  | 0 => rfl
  | k + 1 => by simp only [vicF, vic_to m shard k, toM_at m shard (12 + k * 2) (by omega)]
theorem step_to (m : Nat → Int) (shard : Int) (i : Nat) : stepE (toM m shard) i = stepE m i := by
  funext j
  unfold stepE
  exact toM_at _ _ _ (by omega)

theorem same12_all (shard : Int) (m : Nat → Int) (q : Int) (l op : List (Nat → Int)) (h0 : 0 ≤ shard) (h1 : shard < 256) : same12_S shard m q l op true := by
  have hwr : IntKind.i64.wrap shard = shard := wrap_id ⟨by omega, by omega⟩
  have hsh : 1 ≤ 1 + (IntKind.i64.wrap shard).tmod 64 ∧ 1 + (IntKind.i64.wrap shard).tmod 64 ≤ 64 := by
    rw [hwr, Int.tmod_eq_emod_of_nonneg h0]; omega
  unfold same12_S
  refine ⟨alive12_p, ?_⟩
  rw [if_pos alive12_t]
  refine ite_intro (fun _ => rfl) fun hlen => ?_
  simp only [Bool.or_eq_true, decide_eq_true_eq, not_or] at hlen
  have hll : l.length ≤ 60 := by omega
  have hol : op.length ≤ 60 := by omega
  have hin : inI64 (1 + (IntKind.i64.wrap shard).tmod 64) := ⟨by omega, by omega⟩
  refine ⟨hin, ?_⟩
  by_cases ho : (onward_F (1 + (IntKind.i64.wrap shard).tmod 64) m).2 = 0
  · rw [if_pos ho]
    have hm : isP_F m = true := by
      unfold onward_F at ho
      by_cases h : isP_F m = true
      · exact h
      · rw [if_neg h] at ho; simp at ho
    have hto : isP_F (toM m (1 + (IntKind.i64.wrap shard).tmod 64)) = true := by
      unfold onward_F at ho
      rw [if_pos hm] at ho
      by_cases h : isP_F (updI (updI m 1 0) 2 (1 + (IntKind.i64.wrap shard).tmod 64)) = true
      · exact h
      · rw [if_neg h] at ho; simp at ho
    have hon : (onward_F (1 + (IntKind.i64.wrap shard).tmod 64) m).1 = toM m (1 + (IntKind.i64.wrap shard).tmod 64) := by
      unfold onward_F
      rw [if_pos hm, if_pos (by exact hto)]; rfl
    rw [hon]
    generalize hshd : 1 + (IntKind.i64.wrap shard).tmod 64 = sh at *
    have hN : toM m sh 11 = m 11 := toM_at _ _ _ (by omega)
    have v1 : victim_F m = (vicF m (m 11).toNat, 0) := by unfold victim_F; rw [if_pos hm]
    have v2 : victim_F (toM m sh) = (vicF m (m 11).toNat, 0) := by unfold victim_F; rw [if_pos hto, vic_to, hN]
    have b1 : back_F (toM m sh) = back_F m := by
      unfold back_F
      rw [hm, hto, toM_at m sh 9 (by omega), toM_at m sh 10 (by omega), toM_at m sh 12 (by omega), toM_at m sh 13 (by omega)]
    have l1 : live_F (toM m sh) op = live_F m op := by
      unfold live_F
      rw [hm, hto, hN]
      simp only [step_to]
    have hlp : ∀ x, live_P x op := fun x => by unfold live_P; omega
    refine ⟨fun _ => hlp _, fun _ => hlp _, ?_⟩
    rw [v1, v2, b1, l1]
    rw [if_neg (by simp)]
    refine ⟨hin, goP_pre (by omega), ?_⟩
    obtain ⟨hg1, hg2⟩ := goP_all sh m q l
    generalize hg : goP_F sh m q l = G at hg1 hg2
    have hglen : G.1.length ≤ 1000000 := by
      rw [← hg]
      unfold goP_F
      split
      · unfold longer_F
        split
        · unfold longF
          simp only [List.length_map]
          have := List.length_filter_le (ofB (updI (updI (fun _ => 0) 0 (m 9)) 1 q)) l
          omega
        · simp
      · simp
    have inner : ∀ i : Nat, i < G.1.length → Wh (fun (s : Int) (o : Int ⊕ (Unit ⊕ Unit)) => same12_l2 shard m q l (i : Int) s o) 0 (.inl ()) := by
      intro i hi
      obtain ⟨hr, e, he⟩ := hg2 _ (List.getElem_mem hi)
      refine Wh.upto (fun k : Nat => (k : Int)) (m 11).toNat (fun k hk => ?_) ?_
      · unfold same12_l2
        rw [if_pos (by omega)]
        refine ⟨⟨by omega, by omega⟩, ⟨by omega, by omega⟩, ?_⟩
        rw [hshd, hg, Int.toNat_natCast, Int.toNat_natCast, getElem!_pos G.1 i hi, he]
        rw [if_pos]
        · exact ⟨step1 (by omega), rfl⟩
        · rw [eqN_iff]
          intro j hj
          exact onE_old hr k j (by omega) hj
      · unfold same12_l2
        rw [if_neg (by omega)]
    refine ⟨.inl (), ?_, ?_⟩
    · refine Wh.upto (fun k : Nat => (k : Int)) G.1.length (fun k hk => ?_) ?_
      · unfold same12_l1
        rw [hshd, hg, if_pos (by omega)]
        obtain ⟨hr, e, he⟩ := hg2 _ (List.getElem_mem hk)
        refine ⟨⟨by omega, by omega⟩, ⟨by omega, by omega⟩, fun _ => ⟨by omega, by omega⟩, ?_⟩
        rw [Int.toNat_natCast, getElem!_pos G.1 k hk, he, onE_n hr]
        rw [if_neg]
        · exact ⟨.inl (), inner k hk, step1 (by omega), rfl⟩
        · have : eqN 2 (fun i => onE sh m (updI (updI (fun _ => 0) 0 (m 9)) 1 q) e (12 + (m 11).toNat * 2 + i)) (updI (updI (fun _ => 0) 0 (m 9)) 1 q) = true := by
            rw [eqN_iff]
            intro j hj
            exact onE_new hr j hj
          rw [this]
          simp; omega
      · unfold same12_l1
        rw [hshd, hg, if_neg (by omega)]
    · show same12_k1a shard m q l true
      unfold same12_k1a
      rw [hshd, hg]
      rcases hg1 with h | h <;> simp [h]
  · rw [if_neg ho]
    have : (onward_F (1 + (IntKind.i64.wrap shard).tmod 64) m).1 = fun _ => 0 := by
      unfold onward_F at ho ⊢
      by_cases h : isP_F m = true
      · rw [if_pos h] at ho ⊢
        by_cases h2 : isP_F (updI (updI m 1 0) 2 (1 + (IntKind.i64.wrap shard).tmod 64)) = true
        · rw [if_pos h2] at ho; simp at ho
        · rw [if_neg h2]
      · rw [if_neg h]
    rw [this, eqN_refl]
end Go.E
