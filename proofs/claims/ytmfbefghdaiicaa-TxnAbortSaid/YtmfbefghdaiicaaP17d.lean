/- Transactions: what happens to one, in plain words. -/
import Derived.Test.YtmfbefghdaiicaaP17c
namespace Go.E
open Go
set_option linter.unusedVariables false
set_option linter.unusedSimpArgs false
set_option maxRecDepth 100000
section
variable (tx st re sq : Int) (op : Bool) (sh : Int) (at_ : Nat → Int) (mo : Int) (to_ vo ac : List Int) (go : List (Nat → Int))
def lockM (tx sq sh : Int) (at_ : Nat → Int) (mo : Int) : Nat → Int := updI (updRI (updI (updI (updI (updI (fun _ => 0) 0 1) 2 sh) 3 tx) 4 sq) 5 2 at_) 7 mo
def grantM (m : Nat → Int) : Nat → Int := updI (updRI (updI (updI (fun _ => 0) 0 (m 3)) 1 (m 4)) 2 2 (fun i => m (5 + i))) 4 (m 7)
/-- A message of a kind, that may be, of the transaction. -/
def Form (tx k : Int) (m : Nat → Int) : Prop := m 0 = k ∧ okB m = true ∧ m 3 = tx
instance (tx k : Int) (m : Nat → Int) : Decidable (Form tx k m) := by unfold Form; exact inferInstance
def askC (s : Int) (a : Nat → Int) (m : Int) : T17 × List (Nat → Int) × Int :=
  if (1 ≤ s ∧ s ≤ 64) ∧ resOk_F a = true ∧ (1 ≤ m ∧ m ≤ 4) then
    if st = 1 then
      if op = true then ((tx, st, re, sq, op, sh, at_, mo, to_, vo, ac, go), [], 8)
      else if sq = 1048576 then ((tx, st, re, sq, op, sh, at_, mo, to_, vo, ac, go), [], 6)
      else ((tx, st, re, sq + 1, true, s, a, m, insI s to_, vo, ac, go), [lockM tx (sq + 1) s a m], 0)
    else ((tx, st, re, sq, op, sh, at_, mo, to_, vo, ac, go), [], 11)
  else ((tx, st, re, sq, op, sh, at_, mo, to_, vo, ac, go), [], 1)
def ansC (m : Nat → Int) : T17 × Int :=
  if Form tx 2 m ∨ Form tx 3 m then
    if st = 1 then
      if op = true ∧ m 4 = sq ∧ m 1 = sh ∧ (m 0 = 2 → eqN 2 (fun i => m (5 + i)) at_ = true) then ((tx, st, re, sq, false, sh, at_, mo, to_, vo, ac, if m 0 = 2 then go ++ [grantM m] else go), 0)
      else ((tx, st, re, sq, op, sh, at_, mo, to_, vo, ac, go), 14)
    else ((tx, st, re, sq, op, sh, at_, mo, to_, vo, ac, go), 11)
  else ((tx, st, re, sq, op, sh, at_, mo, to_, vo, ac, go), 5)
def finC : T17 × List (Nat → Int) × Int :=
  if st = 1 then
    if op = true then ((tx, st, re, sq, op, sh, at_, mo, to_, vo, ac, go), [], 8)
    else if to_ = [] then ((tx, 3, 0, sq, false, sh, at_, mo, to_, vo, ac, go), to_.map (toMsg tx 6 1), 0)
    else ((tx, 2, re, sq, op, sh, at_, mo, to_, vo, ac, go), to_.map (toMsg tx 4 0), 0)
  else ((tx, st, re, sq, op, sh, at_, mo, to_, vo, ac, go), [], 11)
def voteC (m : Nat → Int) : T17 × List (Nat → Int) × Int :=
  if Form tx 5 m then
    if st = 2 then
      if m 1 ∈ to_ then
        if m 8 = 0 then ((tx, 4, 2, sq, false, sh, at_, mo, to_, vo, ac, go), to_.map (toMsg tx 6 0), 0)
        else if (insI (m 1) vo).length < to_.length then ((tx, st, re, sq, op, sh, at_, mo, to_, insI (m 1) vo, ac, go), [], 0)
        else ((tx, 3, 0, sq, false, sh, at_, mo, to_, insI (m 1) vo, ac, go), to_.map (toMsg tx 6 1), 0)
      else ((tx, st, re, sq, op, sh, at_, mo, to_, vo, ac, go), [], 10)
    else ((tx, st, re, sq, op, sh, at_, mo, to_, vo, ac, go), [], 11)
  else ((tx, st, re, sq, op, sh, at_, mo, to_, vo, ac, go), [], 5)
def abortC (r : Int) : T17 × List (Nat → Int) × Int :=
  if 1 ≤ r ∧ r ≤ 5 then
    if st = 3 ∨ st = 4 then ((tx, st, re, sq, op, sh, at_, mo, to_, vo, ac, go), [], 15)
    else ((tx, 4, r, sq, false, sh, at_, mo, to_, vo, ac, go), to_.map (toMsg tx 6 0), 0)
  else ((tx, st, re, sq, op, sh, at_, mo, to_, vo, ac, go), [], 1)
def ackC (m : Nat → Int) : T17 × Int :=
  if Form tx 7 m then
    if st = 3 ∨ st = 4 then
      if m 1 ∈ to_ then ((tx, st, re, sq, op, sh, at_, mo, to_, vo, insI (m 1) ac, go), 0)
      else ((tx, st, re, sq, op, sh, at_, mo, to_, vo, ac, go), 10)
    else ((tx, st, re, sq, op, sh, at_, mo, to_, vo, ac, go), 11)
  else ((tx, st, re, sq, op, sh, at_, mo, to_, vo, ac, go), 5)
def againC (tx st sq : Int) (op : Bool) (sh : Int) (at_ : Nat → Int) (mo : Int) (to_ vo ac : List Int) (alive : Bool) : List (Nat → Int) :=
  if st = 1 then (if op = true then [lockM tx sq sh at_ mo] else []) ++ (if alive = true then to_.map (toMsg tx 8 0) else [])
  else if st = 2 then (leftL to_ vo).map (toMsg tx 4 0)
  else if st = 3 then (leftL to_ ac).map (toMsg tx 6 1)
  else if st = 4 then (leftL to_ ac).map (toMsg tx 6 0)
  else []
def overC (st : Int) (to_ ac : List Int) : Bool := decide (st = 3 ∨ st = 4) && decide (leftL to_ ac = [])
end
section
variable {n : Nat} {tx st re sq : Int} {op : Bool} {sh : Int} {at_ : Nat → Int} {mo : Int} {to_ vo ac : List Int} {go : List (Nat → Int)}
/-! ### The program does so -/
theorem task_is (h : TI n tx st re sq op sh at_ mo to_ vo ac go) (hn : n ≤ 1000000) (s : Int) (a : Nat → Int) (m : Int) :
    task_P tx st re sq op sh at_ mo to_ vo ac go s a m ∧ task_F tx st re sq op sh at_ mo to_ vo ac go s a m = askC tx st re sq op sh at_ mo to_ vo ac go s a m := by
  have ho := h.own hn
  have hq := h.hsq
  unfold task_P task_F askC
  by_cases hb : (1 ≤ s ∧ s ≤ 64) ∧ resOk_F a = true ∧ (1 ≤ m ∧ m ≤ 4)
  · have hb' : ¬ (((((decide (s < 1)) || (decide (64 < s))) || (!((resOk_F a)))) || (decide (m < 1))) || (decide (4 < m))) = true := by
      simp only [Bool.or_eq_true, decide_eq_true_eq, Bool.not_eq_true']
      rintro ((((h | h) | h) | h) | h)
      · omega
      · omega
      · rw [hb.2.1] at h; cases h
      · omega
      · omega
    rw [if_neg hb', if_neg hb', if_pos hb]
    by_cases hs : st = 1
    · rw [if_pos hs]
      cases op with
      | true =>
        have hf : tfree_F tx st re sq true sh at_ mo to_ vo ac go = 8 := by simp [tfree_F, hs]
        rw [hf, if_neg (by decide), if_neg (by decide), if_pos rfl]
        exact ⟨⟨ho, trivial⟩, rfl⟩
      | false =>
        have hf : tfree_F tx st re sq false sh at_ mo to_ vo ac go = 0 := by simp [tfree_F, hs]
        rw [hf, if_pos rfl, if_pos rfl, if_neg Bool.false_ne_true]
        by_cases h6 : sq = 1048576
        · rw [if_pos h6, if_pos h6, if_pos h6]
          exact ⟨⟨ho, trivial⟩, rfl⟩
        · rw [if_neg h6, if_neg h6, if_neg h6]
          by_cases hc : (search_F to_ s).2 = true
          · rw [if_pos hc, if_pos hc, with_in hc]
            exact ⟨⟨ho, ⟨by omega, by omega⟩, search_P_of s h.to1 h.lto, trivial⟩, rfl⟩
          · rw [if_neg hc, if_neg hc, with_out hc]
            exact ⟨⟨ho, ⟨by omega, by omega⟩, search_P_of s h.to1 h.lto, clone_P_of h.lto, search_le _ _, sort_P_of h.lto, trivial⟩, rfl⟩
    · have hf : tfree_F tx st re sq op sh at_ mo to_ vo ac go = 11 := by simp [tfree_F, hs]
      rw [hf, if_neg (by decide), if_neg (by decide), if_neg hs]
      exact ⟨⟨ho, trivial⟩, rfl⟩
  · have hb' : (((((decide (s < 1)) || (decide (64 < s))) || (!((resOk_F a)))) || (decide (m < 1))) || (decide (4 < m))) = true := by
      simp only [Bool.or_eq_true, decide_eq_true_eq, Bool.not_eq_true']
      cases hr : resOk_F a
      · simp
      · simp only [hr, true_and] at hb
        simp
        omega
    rw [if_pos hb', if_pos hb', if_neg hb]
    exact ⟨⟨ho, trivial⟩, rfl⟩
theorem form_P_of {m : Nat → Int} {l : List Int} (hl : l.length ≤ 64) : tform_P tx st re sq op sh at_ mo to_ vo ac go m l := by
  unfold tform_P hasI_P
  refine ⟨by omega, ?_⟩
  exact ite_intro (fun _ => trivial) (fun _ => trivial)
theorem form1 {k : Int} {m : Nat → Int} : tform_F tx st re sq op sh at_ mo to_ vo ac go m [k] = if Form tx k m then 0 else 5 := by
  unfold tform_F hasI_F
  simp only [List.mem_singleton, msgOk_0]
  by_cases h : Form tx k m
  · obtain ⟨h1, h2, h3⟩ := id h
    rw [if_pos h, if_neg]
    simp [h1, h2, h3]
  · rw [if_neg h, if_pos]
    simp only [Bool.or_eq_true, Bool.not_eq_true', decide_eq_false_iff_not]
    by_cases h1 : m 0 = k
    · by_cases h2 : okB m = true
      · exact .inr fun h3 => h (And.intro h1 (And.intro h2 h3))
      · exact .inl (.inr h2)
    · exact .inl (.inl h1)
theorem form2 {m : Nat → Int} : tform_F tx st re sq op sh at_ mo to_ vo ac go m [2, 3] = if Form tx 2 m ∨ Form tx 3 m then 0 else 5 := by
  unfold tform_F hasI_F
  simp only [List.mem_cons, List.not_mem_nil, or_false, msgOk_0]
  by_cases h : Form tx 2 m ∨ Form tx 3 m
  · rw [if_pos h, if_neg]
    rcases h with ⟨h1, h2, h3⟩ | ⟨h1, h2, h3⟩ <;> simp [h1, h2, h3]
  · rw [if_neg h, if_pos]
    simp only [Bool.or_eq_true, Bool.not_eq_true', decide_eq_false_iff_not]
    by_cases h1 : m 0 = 2 ∨ m 0 = 3
    · by_cases h2 : okB m = true
      · exact .inr fun h3 => h (h1.imp (fun e => And.intro e (And.intro h2 h3)) fun e => And.intro e (And.intro h2 h3))
      · exact .inl (.inr h2)
    · exact .inl (.inl h1)
theorem tanswered_is (h : TI n tx st re sq op sh at_ mo to_ vo ac go) (hn : n ≤ 1000000) (m : Nat → Int) :
    tanswered_P tx st re sq op sh at_ mo to_ vo ac go m ∧ tanswered_F tx st re sq op sh at_ mo to_ vo ac go m = ansC tx st re sq op sh at_ mo to_ vo ac go m := by
  have ho := h.own hn
  have hg := h.hgo
  unfold tanswered_P tanswered_F ansC
  refine ⟨⟨ho, form_P_of (by simp), ?_⟩, ?_⟩
  · refine ite_intro (fun _ => ite_intro (fun _ => ite_intro (fun _ => trivial) (fun _ => ite_intro (fun _ => ?_) (fun _ => trivial))) (fun _ => trivial)) (fun _ => trivial)
    exact ⟨by omega, trivial⟩
  · rw [form2]
    by_cases hf : Form tx 2 m ∨ Form tx 3 m
    · rw [if_pos hf, if_pos rfl, if_pos hf]
      by_cases hs : st = 1
      · rw [if_pos hs, if_pos hs]
        by_cases hc : op = true ∧ m 4 = sq ∧ m 1 = sh ∧ (m 0 = 2 → eqN 2 (fun i => m (5 + i)) at_ = true)
        · obtain ⟨h1, h2, h3, h4⟩ := id hc
          have hc' : ¬ ((((!(op)) || (!(decide (m 4 = sq)))) || (!(decide (m 1 = sh)))) || ((decide (m 0 = 2)) && (!((eqN 2 (fun i => m (5 + i)) at_))))) = true := by
            by_cases h5 : m 0 = 2
            · simp [h1, h2, h3, h4 h5]
            · simp [h1, h2, h3, h5]
          rw [if_neg hc', if_pos hc]
          by_cases h5 : m 0 = 2
          · rw [if_pos h5, if_pos h5]; rfl
          · rw [if_neg h5, if_neg h5]
        · have hc' : ((((!(op)) || (!(decide (m 4 = sq)))) || (!(decide (m 1 = sh)))) || ((decide (m 0 = 2)) && (!((eqN 2 (fun i => m (5 + i)) at_))))) = true := by
            simp only [Bool.or_eq_true, Bool.not_eq_true', decide_eq_false_iff_not, Bool.and_eq_true, decide_eq_true_eq]
            by_cases h1 : op = true
            · by_cases h2 : m 4 = sq
              · by_cases h3 : m 1 = sh
                · right
                  by_cases h4 : m 0 = 2 ∧ eqN 2 (fun i => m (5 + i)) at_ = false
                  · exact h4
                  · exfalso
                    refine hc ⟨h1, h2, h3, fun e => ?_⟩
                    cases hq : eqN 2 (fun i => m (5 + i)) at_
                    · exact absurd ⟨e, hq⟩ h4
                    · rfl
                · exact .inl (.inr h3)
              · exact .inl (.inl (.inr h2))
            · simp only [Bool.not_eq_true] at h1; exact .inl (.inl (.inl h1))
          rw [if_pos hc', if_neg hc]
      · rw [if_neg hs, if_neg hs]
    · rw [if_neg hf, if_neg (by decide), if_neg hf]
theorem len0 {l : List Int} : (l.length : Int) = 0 ↔ l = [] := by
  rw [← List.length_eq_zero_iff]; omega
theorem tfinish_is (h : TI n tx st re sq op sh at_ mo to_ vo ac go) (hn : n ≤ 1000000) :
    tfinish_P tx st re sq op sh at_ mo to_ vo ac go ∧ tfinish_F tx st re sq op sh at_ mo to_ vo ac go = finC tx st re sq op sh at_ mo to_ vo ac go := by
  have ho := h.own hn
  unfold tfinish_P tfinish_F finC
  refine ⟨⟨ho, ite_intro (fun _ => ite_intro (fun _ => ⟨tdec_P_of h.lto, trivial⟩) (fun _ => ⟨tto_P_of h.lto, trivial⟩)) (fun _ => trivial)⟩, ?_⟩
  by_cases hs : st = 1
  · rw [if_pos hs]
    cases op with
    | true =>
      have hf : tfree_F tx st re sq true sh at_ mo to_ vo ac go = 8 := by simp [tfree_F, hs]
      rw [hf, if_neg (by decide), if_pos rfl]
    | false =>
      have hf : tfree_F tx st re sq false sh at_ mo to_ vo ac go = 0 := by simp [tfree_F, hs]
      rw [hf, if_pos rfl, if_neg Bool.false_ne_true]
      by_cases ht : to_ = []
      · rw [if_pos (len0.2 ht), if_pos ht]; rfl
      · rw [if_neg (fun e => ht (len0.1 e)), if_neg ht]; rfl
  · have hf : tfree_F tx st re sq op sh at_ mo to_ vo ac go = 11 := by simp [tfree_F, hs]
    rw [hf, if_neg (by decide), if_neg hs]
theorem from_P_of (h : TI n tx st re sq op sh at_ mo to_ vo ac go) {m : Nat → Int} {k : Int} {b : Bool} : tfrom_P tx st re sq op sh at_ mo to_ vo ac go m k b := by
  have := h.lto
  unfold tfrom_P
  refine ⟨form_P_of (by simp), ite_intro (fun _ => ite_intro (fun _ => ⟨by unfold hasI_P; omega, ite_intro (fun _ => trivial) (fun _ => trivial)⟩) (fun _ => trivial)) (fun _ => trivial)⟩
theorem from_is {m : Nat → Int} {k : Int} {b : Bool} : tfrom_F tx st re sq op sh at_ mo to_ vo ac go m k b = if Form tx k m then if b = true then if m 1 ∈ to_ then 0 else 10 else 11 else 5 := by
  unfold tfrom_F
  rw [form1]
  by_cases hf : Form tx k m
  · rw [if_pos hf, if_pos rfl, if_pos hf]
    simp only [hasI_F, decide_eq_true_eq]
  · rw [if_neg hf, if_neg (by decide), if_neg hf]
theorem tvote_is (h : TI n tx st re sq op sh at_ mo to_ vo ac go) (hn : n ≤ 1000000) (m : Nat → Int) :
    tvote_P tx st re sq op sh at_ mo to_ vo ac go m ∧ tvote_F tx st re sq op sh at_ mo to_ vo ac go m = voteC tx st re sq op sh at_ mo to_ vo ac go m := by
  have ho := h.own hn
  unfold tvote_P tvote_F voteC
  refine ⟨⟨ho, from_P_of h, ?_⟩, ?_⟩
  · refine ite_intro (fun _ => ite_intro (fun _ => ⟨tdec_P_of h.lto, trivial⟩) (fun _ => ⟨search_P_of _ h.vo1 h.lvo, ite_intro (fun _ => ite_intro (fun _ => trivial) (fun _ => ⟨tdec_P_of h.lto, trivial⟩)) (fun _ => ⟨clone_P_of h.lvo, search_le _ _, sort_P_of h.lvo, ite_intro (fun _ => trivial) (fun _ => ⟨tdec_P_of h.lto, trivial⟩)⟩)⟩)) (fun _ => trivial)
  · rw [from_is]
    by_cases hf : Form tx 5 m
    · rw [if_pos hf, if_pos hf]
      by_cases hs : st = 2
      · rw [if_pos (decide_eq_true hs), if_pos hs]
        by_cases hm : m 1 ∈ to_
        · rw [if_pos hm, if_pos rfl, if_pos hm]
          by_cases h8 : m 8 = 0
          · rw [if_pos h8, if_pos h8]; rfl
          · rw [if_neg h8, if_neg h8]
            by_cases hc : (search_F vo (m 1)).2 = true
            · rw [if_pos hc, with_in hc]
              by_cases hl : vo.length < to_.length
              · rw [if_pos (by omega), if_pos hl]
              · rw [if_neg (by omega), if_neg hl]; rfl
            · rw [if_neg hc, with_out hc]
              by_cases hl : (insI (m 1) vo).length < to_.length
              · rw [if_pos (by omega), if_pos hl]
              · rw [if_neg (by omega), if_neg hl]; rfl
        · rw [if_neg hm, if_neg (by decide), if_neg hm]
      · rw [if_neg (show ¬ decide (st = 2) = true by simpa using hs), if_neg (show ¬ (11 : Int) = 0 by decide), if_neg hs]
    · rw [if_neg hf, if_neg (by decide), if_neg hf]
theorem tabort_is (h : TI n tx st re sq op sh at_ mo to_ vo ac go) (hn : n ≤ 1000000) (r : Int) :
    tabort_P tx st re sq op sh at_ mo to_ vo ac go r ∧ tabort_F tx st re sq op sh at_ mo to_ vo ac go r = abortC tx st re sq op sh at_ mo to_ vo ac go r := by
  have ho := h.own hn
  unfold tabort_P tabort_F abortC
  refine ⟨⟨ho, ite_intro (fun _ => trivial) (fun _ => ite_intro (fun _ => trivial) (fun _ => ⟨tdec_P_of h.lto, trivial⟩))⟩, ?_⟩
  by_cases hr : 1 ≤ r ∧ r ≤ 5
  · rw [if_neg (by simp; omega), if_pos hr]
    by_cases hd : st = 3 ∨ st = 4
    · rw [if_pos (tdec_iff.2 hd), if_pos hd]
    · rw [if_neg (fun e => hd (tdec_iff.1 e)), if_neg hd]; rfl
  · rw [if_pos (by simp; omega), if_neg hr]
theorem tack_is (h : TI n tx st re sq op sh at_ mo to_ vo ac go) (hn : n ≤ 1000000) (m : Nat → Int) :
    tack_P tx st re sq op sh at_ mo to_ vo ac go m ∧ tack_F tx st re sq op sh at_ mo to_ vo ac go m = ackC tx st re sq op sh at_ mo to_ vo ac go m := by
  have ho := h.own hn
  unfold tack_P tack_F ackC
  refine ⟨⟨ho, from_P_of h, ?_⟩, ?_⟩
  · refine ite_intro (fun _ => ⟨search_P_of _ h.ac1 h.lac, ite_intro (fun _ => trivial) (fun _ => ⟨clone_P_of h.lac, search_le _ _, sort_P_of h.lac, trivial⟩)⟩) (fun _ => trivial)
  · rw [from_is]
    by_cases hf : Form tx 7 m
    · rw [if_pos hf, if_pos hf]
      by_cases hs : st = 3 ∨ st = 4
      · rw [if_pos (tdec_iff.2 hs), if_pos hs]
        by_cases hm : m 1 ∈ to_
        · rw [if_pos hm, if_pos rfl, if_pos hm]
          by_cases hc : (search_F ac (m 1)).2 = true
          · rw [if_pos hc, with_in hc]
          · rw [if_neg hc, with_out hc]
        · rw [if_neg hm, if_neg (by decide), if_neg hm]
      · rw [if_neg (fun e => hs (tdec_iff.1 e)), if_neg (by decide), if_neg hs]
    · rw [if_neg hf, if_neg (by decide), if_neg hf]
theorem leftL_len (l but : List Int) : (leftL l but).length ≤ l.length := List.length_filter_le _ _
theorem tagain_is (h : TI n tx st re sq op sh at_ mo to_ vo ac go) (b : Bool) :
    tagain_P tx st re sq op sh at_ mo to_ vo ac go b ∧ tagain_F tx st re sq op sh at_ mo to_ vo ac go b = againC tx st sq op sh at_ mo to_ vo ac b := by
  have h1 := h.lto
  have h2 := h.lvo
  have h3 := h.lac
  have hl := fun but => leftL_len to_ but
  unfold tagain_P tagain_F againC
  have hv := hl vo
  have ha := hl ac
  refine ⟨?_, ?_⟩
  · refine ite_intro (fun _ => ite_intro (fun _ => ⟨by omega, ite_intro (fun _ => ⟨tto_P_of h1, ?_, trivial⟩) (fun _ => trivial)⟩) (fun _ => ite_intro (fun _ => ⟨tto_P_of h1, ?_, trivial⟩) (fun _ => trivial))) (fun _ => ite_intro (fun _ => ⟨⟨by omega, by omega⟩, tto_P_of (Nat.le_trans hv h1), trivial⟩) (fun _ => ite_intro (fun _ => ⟨⟨by omega, by omega⟩, tdec_P_of (Nat.le_trans ha h1), trivial⟩) (fun _ => ite_intro (fun _ => ⟨⟨by omega, by omega⟩, tdec_P_of (Nat.le_trans ha h1), trivial⟩) (fun _ => trivial))))
    · simp [tto_F]; omega
    · simp [tto_F]; omega
  · by_cases s1 : st = 1
    · rw [if_pos s1, if_pos s1]
      cases op <;> cases b <;> simp [tto_F, tlock_F, lockM]
    · rw [if_neg s1, if_neg s1]
      by_cases s2 : st = 2
      · rw [if_pos s2, if_pos s2]; rfl
      · rw [if_neg s2, if_neg s2]
        by_cases s3 : st = 3
        · rw [if_pos s3, if_pos s3]
          simp [tdecision_F, tto_F, tleft_F, s3]
        · rw [if_neg s3, if_neg s3]
          by_cases s4 : st = 4
          · rw [if_pos s4, if_pos s4]
            simp [tdecision_F, tto_F, tleft_F, s3]
          · rw [if_neg s4, if_neg s4]
theorem tover_is (h : TI n tx st re sq op sh at_ mo to_ vo ac go) :
    tover_P tx st re sq op sh at_ mo to_ vo ac go ∧ tover_F tx st re sq op sh at_ mo to_ vo ac go = overC st to_ ac := by
  have h1 := h.lto
  have h3 := h.lac
  unfold tover_P tover_F overC
  refine ⟨ite_intro (fun _ => ⟨⟨by omega, by omega⟩, trivial⟩) (fun _ => trivial), ?_⟩
  by_cases hd : st = 3 ∨ st = 4
  · rw [if_pos (tdec_iff.2 hd), decide_eq_true hd, Bool.true_and]
    exact decide_eq_decide.2 len0
  · rw [if_neg (fun e => hd (tdec_iff.1 e)), decide_eq_false hd, Bool.false_and]
end
end Go.E
