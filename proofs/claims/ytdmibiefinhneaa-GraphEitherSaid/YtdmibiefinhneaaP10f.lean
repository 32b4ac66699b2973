/- There is an order just if nobody is on a circle. -/
import Derived.Test.YtdmibiefinhneaaP10e
namespace Go.E
open Go
set_option linter.unusedVariables false
set_option maxRecDepth 100000

/-- An order: whoever leads to one stands ahead of it. -/
structure Ord (l : List (Nat → Int)) (o : List Int) : Prop where
  nd : o.Nodup
  ah : ∀ j, j < o.length → ∀ a, Adj l a (o[j]!) → a ∈ o.take j
theorem at_eq {o : List Int} {j : Nat} (h : j < o.length) : o[j]! = o[j] := getElem!_pos o j h
theorem free_iff {l : List (Nat → Int)} {left : List Int} {n : Int} : freeL l left n = true ↔ ∀ a, Adj l a n → a ∉ left := by
  unfold freeL blocks
  rw [Bool.not_eq_true', List.any_eq_false]
  constructor
  · rintro h a ⟨e, he, h1, h2⟩ ha
    exact h e he (by rw [h1, h2, decide_eq_true rfl, decide_eq_true ha]; rfl)
  · intro h e he hb
    simp only [Bool.and_eq_true, decide_eq_true_eq] at hb
    exact h (e 0) ⟨e, he, rfl, hb.1⟩ hb.2
theorem ordL_some {l : List (Nat → Int)} : ∀ (k : Nat) (left out : List Int) {o : List Int}, left.length = k → (out ++ left).Nodup → (∀ x, x ∈ nodesL l → x ∈ out ∨ x ∈ left) → Ord l out → ordL l k left out = some o → Ord l o ∧ ∀ x, x ∈ nodesL l → x ∈ o
  | 0, left, out, o, hk, hn, hm, ho, h => by
    unfold ordL at h
    cases h
    obtain rfl := List.eq_nil_of_length_eq_zero hk
    exact ⟨ho, fun x hx => (hm x hx).elim id fun h => by simp at h⟩
  | k + 1, left, out, o, hk, hn, hm, ho, h => by
    unfold ordL at h
    cases hf : left.find? (freeL l left) with
    | none => rw [hf] at h; cases h
    | some n =>
      rw [hf] at h
      have hmem : n ∈ left := List.mem_of_find?_eq_some hf
      have hfree := free_iff.1 (List.find?_some hf)
      have hl := List.length_erase_of_mem hmem
      have hnd := List.nodup_append.1 hn
      refine ordL_some k _ _ (by omega) ?_ (fun x hx => ?_) ?_ h
      · rw [List.append_assoc]
        refine List.nodup_append.2 ⟨hnd.1, List.nodup_cons.2 ⟨hnd.2.1.not_mem_erase, hnd.2.1.erase n⟩, fun a ha b hb e => ?_⟩
        subst e
        rcases List.mem_cons.1 hb with rfl | hb
        · exact hnd.2.2 _ ha _ hmem rfl
        · exact hnd.2.2 _ ha _ (List.mem_of_mem_erase hb) rfl
      · rcases hm x hx with h | h
        · exact .inl (List.mem_append_left _ h)
        · by_cases he : x = n
          · exact .inl (List.mem_append_right _ (List.mem_singleton.2 he))
          · exact .inr ((List.mem_erase_of_ne he).2 h)
      · refine ⟨List.nodup_append.2 ⟨hnd.1, by simp, fun a ha b hb e => ?_⟩, fun j hj a ha => ?_⟩
        · rw [List.mem_singleton.1 hb] at e
          exact hnd.2.2 a ha n hmem e
        · simp only [List.length_append, List.length_singleton] at hj
          by_cases hjl : j < out.length
          · rw [app_l hjl] at ha
            rw [List.take_append_of_le_length (by omega)]
            exact ho.ah j hjl a ha
          · obtain rfl : j = out.length := by omega
            rw [app_r] at ha
            rw [List.take_append_of_le_length (Nat.le_refl _), take_len]
            exact (hm a ha.left).elim id fun h => absurd h (hfree a ha)
theorem Ord.rt {l : List (Nat → Int)} {o : List Int} (h : Ord l o) (hm : ∀ x, x ∈ nodesL l → x ∈ o) {a b : Int} (hr : Rt l a b) : ∀ j, j < o.length → o[j]! = b → a ∈ o.take j := by
  induction hr with
  | one e => intro j hj hb; exact h.ah j hj _ (by rw [hb]; exact e)
  | more _ e ih =>
    intro j hj hb
    have := h.ah j hj _ (by rw [hb]; exact e)
    obtain ⟨i, hi, h2⟩ := List.getElem_of_mem this
    simp only [List.length_take] at hi
    rw [List.getElem_take] at h2
    have h3 := ih i (by omega) (by rw [at_eq (by omega), h2])
    exact (List.take_sublist_take_left (by omega)).subset h3
theorem Ord.no_circ {l : List (Nat → Int)} {o : List Int} (h : Ord l o) (hm : ∀ x, x ∈ nodesL l → x ∈ o) (x : Int) : ¬ Rt l x x := fun hr => by
  obtain ⟨j, hj, hx⟩ := List.getElem_of_mem (hm x hr.left)
  have := h.rt hm hr j hj (by rw [at_eq hj, hx])
  obtain ⟨i, hi, h2⟩ := List.getElem_of_mem this
  simp only [List.length_take] at hi
  rw [List.getElem_take, ← hx] at h2
  have := (List.getElem_inj h.nd).1 h2
  omega
theorem ordL_none {l : List (Nat → Int)} : ∀ (k : Nat) (left out : List Int), left.length = k → left.Nodup → (∀ x ∈ left, x ∈ nodesL l) → ordL l k left out = none → ∃ x, Rt l x x
  | 0, left, out, hk, hn, hm, h => by unfold ordL at h; cases h
  | k + 1, left, out, hk, hn, hm, h => by
    unfold ordL at h
    cases hf : left.find? (freeL l left) with
    | none =>
      obtain ⟨x, hx⟩ := List.exists_mem_of_length_pos (show 0 < left.length by omega)
      rw [List.find?_eq_none] at hf
      obtain ⟨y, _, hy⟩ := circ_of_stuck (l := l) (S := left) (fun z hz => by
        have := hf z hz
        rw [free_iff] at this
        simp only [Classical.not_forall] at this
        obtain ⟨a, ha, hb⟩ := this
        exact ⟨a, by simpa using hb, ha⟩) hx
      exact ⟨y, hy⟩
    | some n =>
      rw [hf] at h
      have hmem : n ∈ left := List.mem_of_find?_eq_some hf
      have hl := List.length_erase_of_mem hmem
      exact ordL_none k _ _ (by omega) (hn.erase n) (fun x hx => hm x (List.mem_of_mem_erase hx)) h
theorem order_spec (l : List (Nat → Int)) : (∃ o, gorder_F l = (o, 0) ∧ Ord l o ∧ (∀ x, x ∈ nodesL l → x ∈ o) ∧ o.length = (nodesL l).length ∧ gcirc_F l = []) ∨ (gorder_F l = ([], 11) ∧ gcirc_F l ≠ []) := by
  have hnd : (nodesL l).Nodup := rising_nodup (rising_rising _)
  unfold gorder_F
  cases ho : ordL l (nodesL l).length (nodesL l) [] with
  | none =>
    refine .inr ⟨rfl, fun h => ?_⟩
    obtain ⟨x, hx⟩ := ordL_none _ _ _ rfl hnd (fun x hx => hx) ho
    have := mem_gcirc.2 hx
    rw [h] at this
    simp at this
  | some o =>
    obtain ⟨h1, h2⟩ := ordL_some _ _ _ rfl (by simpa using hnd) (fun x hx => .inr hx) ⟨List.nodup_nil, fun j hj => by simp at hj⟩ ho
    refine .inl ⟨o, rfl, h1, h2, by simpa using len_ordL _ _ _ ho, ?_⟩
    cases hc : gcirc_F l with
    | nil => rfl
    | cons x r => exact absurd (mem_gcirc.1 (by rw [hc]; exact List.mem_cons_self)) (h1.no_circ h2 x)

/-- Where each number stands. -/
def posM (o : List Int) : Nat → List (Int × Int)
  | 0 => []
  | k + 1 => mset ieq (posM o k) (o[k]!) (k : Int)
theorem posM_at {o : List Int} (h : o.Nodup) : ∀ k, k ≤ o.length → ∀ j, j < k → mfind ieq (posM o k) (o[j]!) = some (j : Int)
  | 0, _, j, hj => by omega
  | k + 1, hk, j, hj => by
    unfold posM
    rw [mfind_mset']
    by_cases hjk : j = k
    · rw [if_pos (by rw [hjk]), hjk]
    · rw [if_neg (fun e => hjk (by
        rw [at_eq (by omega), at_eq (by omega)] at e
        exact (List.getElem_inj h).1 e)), posM_at h k (by omega) j (by omega)]

theorem either10_way (l : List (Nat → Int)) (i : Nat) (hl : l.length ≤ 60) (hE : Edges l) (hi : i < (gcirc_F l).length) : either10_l3 l (i : Int) (.inl ((i : Int) + 1)) := by
  have hi' : 0 ≤ (i : Int) ∧ (i : Int) < (gcirc_F l).length := ⟨by omega, by omega⟩
  have hc := mem_gcirc.1 (mem_at hi)
  have hW := (gway_is l _ _ hE).1 hc
  have hcl := len_gcirc l
  unfold either10_l3
  rw [if_pos (by omega), Int.toNat_natCast]
  obtain ⟨len, fst, lst, adj, mid, top⟩ := hW
  have hlast : (((gway_F l ((gcirc_F l)[i]!) ((gcirc_F l)[i]!)).length : Int) - 1).toNat = (gway_F l ((gcirc_F l)[i]!) ((gcirc_F l)[i]!)).length - 1 := by omega
  rw [hlast, fst, lst, if_neg (by
    simp only [decide_true, Bool.not_true, Bool.or_false, decide_eq_true_eq]
    omega)]
  refine ⟨hi', hi', hE, fun _ => ⟨by omega, by omega⟩, fun _ => hi', fun _ => ⟨by omega, by omega⟩, fun _ => ⟨by omega, by omega⟩, fun _ => hi', .inl (), ?_, by
    show either10_k4a (i : Int) _
    unfold either10_k4a
    exact ⟨⟨by omega, by omega⟩, rfl⟩⟩
  have hgw : ∀ k : Nat, either10_l4 l (i : Int) (k : Int) = either10_l4 l (i : Int) (k : Int) := fun _ => rfl
  generalize hw : gway_F l ((gcirc_F l)[i]!) ((gcirc_F l)[i]!) = w at len fst lst adj mid top
  generalize hcc : (gcirc_F l)[i]! = c at hc fst lst mid hw
  have hch : ∀ d a : Nat, a + d + 1 < w.length → Rt l (w[a]!) (w[a + d + 1]!) := by
    intro d
    induction d with
    | zero => intro a ha; exact .one (adj a ha)
    | succ d ih => intro a ha; exact (ih a (by omega)).more (adj (a + d + 1) ha)
  have hon : ∀ k : Nat, k < w.length → w[k]! ∈ gcirc_F l := fun k hk => by
    rw [mem_gcirc]
    by_cases h0 : k = 0
    · rw [h0, fst]; exact hc
    · by_cases h1 : k = w.length - 1
      · rw [h1, lst]; exact hc
      · have r1 := hch (k - 1) 0 (by omega)
        rw [show 0 + (k - 1) + 1 = k by omega, fst] at r1
        have r2 := hch (w.length - 1 - k - 1) k (by omega)
        rw [show k + (w.length - 1 - k - 1) + 1 = w.length - 1 by omega, lst] at r2
        exact r2.trans r1
  have := Wh.upto (f := fun (s : Int) (o : (Int) ⊕ ((Unit) ⊕ (Unit))) => either10_l4 l (i : Int) s o) (fun j : Nat => (j : Int) + 1) (w.length - 1) (r := .inl ()) (fun j hj => by
    have hk' : 0 ≤ (j : Int) + 1 ∧ (j : Int) + 1 < w.length := ⟨by omega, by omega⟩
    have hjn : ((j : Int) + 1).toNat = j + 1 := by omega
    have hjm : ((j : Int) + 1 - 1).toNat = j := by omega
    unfold either10_l4
    rw [Int.toNat_natCast, hcc, hw, if_pos (by omega)]
    refine ⟨true, ?_, ?_⟩
    · have hany : (gcirc_F l).any (fun x => decide (x = w[j + 1]!)) = true := List.any_eq_true.2 ⟨_, hon (j + 1) (by omega), by simp⟩
      have := Wh.upto (f := fun (s : Bool × Int) (o : (Bool × Int) ⊕ (Bool)) => either10_l5 l (i : Int) ((j : Int) + 1) s.1 s.2 o) (fun n : Nat => (((gcirc_F l).take n).any (fun x => decide (x = w[j + 1]!)), (n : Int))) (gcirc_F l).length (r := true) (fun n hn => by
        dsimp only
        unfold either10_l5
        rw [if_pos (by omega), Int.toNat_natCast, Int.toNat_natCast, hcc, hw, hjn, any_take _ _ _ hn]
        exact ⟨fun _ => ⟨by omega, by omega⟩, fun _ => hk', ⟨by omega, by omega⟩, rfl⟩) (by
        dsimp only
        unfold either10_l5
        rw [if_neg (by omega), take_len, hany])
      simpa using this
    · unfold either10_k5a
      refine ⟨true, ?_, by
        unfold either10_k6a
        rw [if_neg (by decide)]
        exact ⟨⟨by omega, by omega⟩, rfl⟩⟩
      obtain ⟨e, he, h1, h2⟩ := adj j (by omega)
      have hany : l.any (fun x => (decide (x 0 = w[j]!)) && (decide (x 2 = w[j + 1]!))) = true := List.any_eq_true.2 ⟨e, he, by rw [h1, h2]; simp⟩
      have := Wh.upto (f := fun (s : Bool × Int) (o : (Bool × Int) ⊕ (Bool)) => either10_l6 l (i : Int) ((j : Int) + 1) s.1 s.2 o) (fun n : Nat => ((l.take n).any (fun x => (decide (x 0 = w[j]!)) && (decide (x 2 = w[j + 1]!))), (n : Int))) l.length (r := true) (fun n hn => by
        have hn' : 0 ≤ (n : Int) ∧ (n : Int) < l.length := ⟨by omega, by omega⟩
        dsimp only
        unfold either10_l6
        rw [if_pos (by omega), Int.toNat_natCast, Int.toNat_natCast, hcc, hw, hjn, hjm, any_take _ _ _ hn]
        exact ⟨fun _ => hn', fun _ => ⟨by omega, by omega⟩, fun _ => ⟨by omega, by omega⟩, fun _ _ => hn', fun _ _ => hk', ⟨by omega, by omega⟩, rfl⟩) (by
        dsimp only
        unfold either10_l6
        rw [if_neg (by omega), take_len, hany])
      simpa using this) (by
    unfold either10_l4
    rw [Int.toNat_natCast, hcc, hw, if_neg (by omega)])
  simpa using this

theorem either10_all (l : List (Nat → Int)) (hw : ∀ m ∈ l, ∀ i, i < 4 → inI64 (m i)) : either10_S l true := by
  unfold either10_S
  refine ⟨alive10_p, ?_⟩
  rw [if_pos alive10_t]
  refine ite_intro (fun _ => rfl) fun hlen => ?_
  have hE := edges_of (n := 60) (by omega) (by omega) hw
  have hN := len_nodesL l
  have hcl := len_gcirc l
  refine ⟨hE, hE, ?_⟩
  have hfin : either10_k2a l true := by
    unfold either10_k2a
    refine ⟨.inl (), ?_, rfl⟩
    have := Wh.upto (f := fun (s : Int) (o : (Int) ⊕ ((Unit) ⊕ (Unit))) => either10_l3 l s o) (fun j : Nat => (j : Int)) (gcirc_F l).length (r := .inl ()) (fun j hj => either10_way l j (by omega) hE hj) (by
      unfold either10_l3
      rw [if_neg (by omega)])
    simpa using this
  have hpos : ∀ o : List Int, (gorder_F l).1 = o → o.length ≤ 200 → Wh (fun (s : (List (Int × Int)) × Int) (o : ((List (Int × Int)) × Int) ⊕ ((List (Int × Int)))) => either10_l1 l s.1 s.2 o) (([], 0) : (List (Int × Int)) × Int) (posM o o.length) := fun o ho hb => by
    have := Wh.upto (f := fun (s : (List (Int × Int)) × Int) (o : ((List (Int × Int)) × Int) ⊕ ((List (Int × Int)))) => either10_l1 l s.1 s.2 o) (fun j : Nat => (posM o j, (j : Int))) o.length (r := posM o o.length) (fun j hj => by
      dsimp only
      unfold either10_l1
      rw [ho, if_pos (by omega), Int.toNat_natCast]
      exact ⟨⟨by omega, by omega⟩, ⟨by omega, by omega⟩, rfl⟩) (by
      dsimp only
      unfold either10_l1
      rw [ho, if_neg (by omega)])
    exact this
  rcases order_spec l with ⟨o, ho, hO, hm, hlo, hc⟩ | ⟨ho, hc⟩
  · have e1 : (gorder_F l).1 = o := by rw [ho]
    have e2 : (gorder_F l).2 = 0 := by rw [ho]
    rw [e2, hc, if_pos (by decide)]
    refine ⟨posM o o.length, hpos o e1 (by omega), ?_⟩
    unfold either10_k1a
    refine ⟨.inl (), ?_, hfin⟩
    have := Wh.upto (f := fun (s : Int) (o' : (Int) ⊕ ((Unit) ⊕ (Unit))) => either10_l2 l (posM o o.length) s o') (fun j : Nat => (j : Int)) l.length (r := .inl ()) (fun j hj => by
      have hj' : 0 ≤ (j : Int) ∧ (j : Int) < l.length := ⟨by omega, by omega⟩
      have hadj : Adj l (l[j]! 0) (l[j]! 2) := ⟨_, mem_at hj, rfl, rfl⟩
      obtain ⟨q, hq, hq2⟩ := List.getElem_of_mem (hm _ hadj.right)
      have hah := hO.ah q hq (l[j]! 0) (by rw [at_eq hq, hq2]; exact hadj)
      obtain ⟨p, hp, hp2⟩ := List.getElem_of_mem hah
      simp only [List.length_take] at hp
      rw [List.getElem_take] at hp2
      have f1 := posM_at hO.nd o.length (Nat.le_refl _) p (by omega)
      have f2 := posM_at hO.nd o.length (Nat.le_refl _) q hq
      rw [at_eq (by omega), hp2] at f1
      rw [at_eq hq, hq2] at f2
      unfold either10_l2
      rw [if_pos (by rw [e2, decide_eq_true (by omega)]; decide), Int.toNat_natCast, mhas_mfind, mhas_mfind, mget_mfind, mget_mfind, f1, f2, if_neg (by simp; omega)]
      exact ⟨hj', hj', ⟨by omega, by omega⟩, rfl⟩) (by
      unfold either10_l2
      rw [if_neg (by rw [decide_eq_false (by omega)]; simp)])
    simpa using this
  · have e1 : (gorder_F l).1 = [] := by rw [ho]
    have e2 : (gorder_F l).2 = 11 := by rw [ho]
    have hcn : (gcirc_F l).length ≠ 0 := fun h => hc (List.eq_nil_of_length_eq_zero h)
    rw [e2, if_pos (by rw [decide_eq_false (by omega), decide_eq_false (by omega)]; rfl)]
    refine ⟨posM [] 0, hpos [] e1 (by simp), ?_⟩
    unfold either10_k1a
    refine ⟨.inl (), .out ?_, hfin⟩
    unfold either10_l2
    rw [if_neg (by rw [e2]; simp)]
end Go.E
