/- The edges that are left have no circle; on each circle somebody is wounded. -/
import Derived.Test.YtcnbdkkmcdjncaaH11S
namespace Go.E
open Go
set_option linter.unusedVariables false
set_option maxRecDepth 100000

theorem left_down {l : List (Nat → Int)} {e : Nat → Int} (h : e ∈ wrest_F l) : e ∈ l ∧ ¬ e 0 < e 2 := by
  have h' : e ∈ l.filter (leftR l) := h
  rw [List.mem_filter] at h'
  refine ⟨h'.1, fun hlt => ?_⟩
  have h2 := h'.2
  unfold leftR at h2
  simp only [Bool.and_eq_true, Bool.not_eq_true'] at h2
  have := byR_spec l (e 2)
  rw [if_neg (by rw [h2.2]; decide)] at this
  exact this e h'.1 rfl hlt
def notLoop (e : Nat → Int) : Bool := !decide (e 0 = e 2)
theorem plain_down {l : List (Nat → Int)} {a b : Int} (h : Rt ((wrest_F l).filter notLoop) a b) : b < a := by
  have key : ∀ {a b : Int}, Adj ((wrest_F l).filter notLoop) a b → b < a := by
    rintro a b ⟨e, he, rfl, rfl⟩
    rw [List.mem_filter] at he
    have h1 := (left_down he.1).2
    have h2 : ¬ e 0 = e 2 := by
      have := he.2
      unfold notLoop at this
      simpa using this
    omega
  induction h with
  | one e => exact key e
  | more _ e ih => have := key e; omega
theorem plain_order (l : List (Nat → Int)) : (gorder_F ((wrest_F l).filter notLoop)).2 = 0 := by
  unfold gorder_F
  cases ho : ordL ((wrest_F l).filter notLoop) (nodesL ((wrest_F l).filter notLoop)).length (nodesL ((wrest_F l).filter notLoop)) [] with
  | none =>
    obtain ⟨x, hx⟩ := ordL_none _ _ _ rfl (rising_nodup (rising_rising _)) (fun x hx => hx) ho
    have := plain_down hx
    omega
  | some o => rfl

theorem way_hurt {l : List (Nat → Int)} {n : Int} {w : List Int} (h : WayI l n n w) (h3 : 3 ≤ w.length) : w.any (fun c => (wof_F l).any fun x => decide (x 0 = c)) = true := by
  obtain ⟨len, fst, lst, adj, mid, top⟩ := h
  have hex : ∃ k, k + 1 < w.length ∧ w[k]! < w[k + 1]! := by
    refine Classical.byContradiction fun hno => ?_
    have hall : ∀ k, k + 1 < w.length → w[k + 1]! ≤ w[k]! := fun k hk => by
      have : ¬ w[k]! < w[k + 1]! := fun h => hno ⟨k, hk, h⟩
      omega
    have hdown : ∀ d, d + 1 < w.length → w[d + 1]! ≤ w[1]! := by
      intro d
      induction d with
      | zero => intro _; exact Int.le_refl _
      | succ d ih => intro hd; have := ih (by omega); have := hall (d + 1) hd; omega
    have h1 := hdown (w.length - 2) (by omega)
    rw [show w.length - 2 + 1 = w.length - 1 by omega, lst] at h1
    have h2 := hall 0 (by omega)
    rw [fst] at h2
    have h4 : w[0 + 1]! = w[1]! := rfl
    exact mid 1 (by omega) (by omega) (by omega)
  obtain ⟨k, hk, hlt⟩ := hex
  obtain ⟨e, he, h1, h2⟩ := adj k hk
  have hs := byR_spec l (w[k + 1]!)
  have hb : (byR_F l (w[k + 1]!)).2 = true := by
    refine Classical.byContradiction fun hn => ?_
    rw [if_neg hn] at hs
    exact hs e he h2 (by rw [h1]; exact hlt)
  refine List.any_eq_true.2 ⟨w[k + 1]!, mem_at hk, List.any_eq_true.2 ⟨_, wof_mem hb, ?_⟩⟩
  exact decide_eq_true rfl

theorem breaks11_all (l : List (Nat → Int)) (hw : ∀ m ∈ l, ∀ i, i < 4 → inI64 (m i)) : breaks11_S l true := by
  unfold breaks11_S
  refine ⟨alive11_p, ?_⟩
  rw [if_pos alive11_t]
  refine ite_intro (fun _ => rfl) fun hlen => ?_
  have hP : wof_P l := ⟨by omega, fun e he => hw e he 2 (by omega)⟩
  have hE : Edges l := ⟨by omega, fun e he => ⟨hw e he 0 (by omega), hw e he 2 (by omega)⟩⟩
  have hrl : (wrest_F l).length ≤ l.length := List.length_filter_le _ _
  have hwl := len_wof l
  have hN := len_nodesL l
  refine ⟨hP, hP, .inl ((wrest_F l).filter notLoop), ?_, ?_⟩
  · have := Wh.upto (f := fun (s : (List (Nat → Int)) × Int) (o : ((List (Nat → Int)) × Int) ⊕ (((List (Nat → Int))) ⊕ (Unit))) => breaks11_l1 l s.1 s.2 o) (fun k : Nat => (((wrest_F l).take k).filter notLoop, (k : Int))) (wrest_F l).length (r := .inl ((wrest_F l).filter notLoop)) (fun k hk => by
      have hk' : 0 ≤ (k : Int) ∧ (k : Int) < (wrest_F l).length := ⟨by omega, by omega⟩
      have hd := (left_down (mem_at hk)).2
      have hb : (((wrest_F l).take k).filter notLoop).length ≤ 60 := Nat.le_trans (List.length_filter_le _ _) (by simp only [List.length_take]; omega)
      dsimp only
      unfold breaks11_l1
      rw [if_pos (by omega), Int.toNat_natCast, if_neg hd, filter_take _ _ _ hk]
      refine ⟨hk', hk', hk', hk', ite_intro (fun h1 => ?_) fun h1 => ?_⟩
      · rw [if_neg (by unfold notLoop; rw [decide_eq_true h1]; decide), List.append_nil]
        exact ⟨⟨by omega, by omega⟩, rfl⟩
      · rw [if_pos (by unfold notLoop; rw [decide_eq_false h1]; rfl)]
        exact ⟨hk', by omega, ⟨by omega, by omega⟩, rfl⟩) (by
      dsimp only
      unfold breaks11_l1
      rw [if_neg (by omega), take_len])
    simpa using this
  · show breaks11_k1a l ((wrest_F l).filter notLoop) true
    unfold breaks11_k1a
    rw [plain_order, if_pos rfl]
    have hpl : ((wrest_F l).filter notLoop).length ≤ (wrest_F l).length := List.length_filter_le _ _
    refine ⟨⟨by omega, fun e he => hE.2 e (left_down (List.mem_filter.1 he).1).1⟩, by unfold nodesR_P; omega, .inl (), ?_, rfl⟩
    have e : nodesR_F l = nodesL l := rfl
    have := Wh.upto (f := fun (s : Int) (o : (Int) ⊕ ((Unit) ⊕ (Unit))) => breaks11_l2 l s o) (fun k : Nat => (k : Int)) (nodesL l).length (r := .inl ()) (fun i hi => by
      have hi' : 0 ≤ (i : Int) ∧ (i : Int) < (nodesL l).length := ⟨by omega, by omega⟩
      have hW := gway_is l ((nodesL l)[i]!) ((nodesL l)[i]!) hE
      unfold breaks11_l2
      rw [e, if_pos (by omega), Int.toNat_natCast]
      refine ⟨hi', hi', hE, ite_intro (fun h1 => ⟨⟨by omega, by omega⟩, rfl⟩) fun h1 => ?_⟩
      have hr : Rt l ((nodesL l)[i]!) ((nodesL l)[i]!) := Classical.byContradiction fun hn => h1 (by rw [hW.2 hn]; decide)
      have hI := hW.1 hr
      have hh := way_hurt hI (by omega)
      have htop := hI.top
      refine ⟨true, ?_, by unfold breaks11_k3a; rw [if_pos rfl]; exact ⟨⟨by omega, by omega⟩, rfl⟩⟩
      generalize hw : gway_F l ((nodesL l)[i]!) ((nodesL l)[i]!) = w at hh htop
      have := Wh.upto (f := fun (s : Bool × Int) (o : (Bool × Int) ⊕ (Bool)) => breaks11_l3 l (i : Int) s.1 s.2 o) (fun k : Nat => ((w.take k).any (fun c => (wof_F l).any fun x => decide (x 0 = c)), (k : Int))) w.length (r := true) (fun k hk => by
        have hk' : 0 ≤ (k : Int) ∧ (k : Int) < w.length := ⟨by omega, by omega⟩
        dsimp only
        unfold breaks11_l3
        rw [e, Int.toNat_natCast, hw, if_pos (by omega), any_take _ _ _ hk]
        refine ⟨_, ?_, by unfold breaks11_k4a; exact ⟨⟨by omega, by omega⟩, rfl⟩⟩
        have := Wh.upto (f := fun (s : Bool × Int) (o : (Bool × Int) ⊕ (Bool)) => breaks11_l4 l (i : Int) (k : Int) s.1 s.2 o) (fun n : Nat => ((w.take k).any (fun c => (wof_F l).any fun x => decide (x 0 = c)) || ((wof_F l).take n).any fun x => decide (x 0 = w[k]!), (n : Int))) (wof_F l).length (r := ((w.take k).any (fun c => (wof_F l).any fun x => decide (x 0 = c)) || (wof_F l).any fun x => decide (x 0 = w[k]!))) (fun n hn => by
          have hn' : 0 ≤ (n : Int) ∧ (n : Int) < (wof_F l).length := ⟨by omega, by omega⟩
          dsimp only
          unfold breaks11_l4
          rw [e, Int.toNat_natCast, Int.toNat_natCast, Int.toNat_natCast, hw, if_pos (by omega), any_take _ _ _ hn, Bool.or_assoc]
          exact ⟨fun _ => hn', fun _ => hk', ⟨by omega, by omega⟩, rfl⟩) (by
          dsimp only
          unfold breaks11_l4
          rw [if_neg (by omega), take_len])
        simpa using this) (by
        dsimp only
        unfold breaks11_l3
        rw [e, Int.toNat_natCast, hw, if_neg (by omega), take_len, hh])
      simpa using this) (by
      unfold breaks11_l2
      rw [e, if_neg (by omega)])
    simpa using this
end Go.E
