/- Transactions: what holds of one, what happens to it. -/
import Derived.Test.YtljklmlodfbdnaaGreatC18S
import Derived.Test.YtljklmlodfbdnaaGreatC18bS
import Derived.Test.YtljklmlodfbdnaaGreatL6
import Derived.Test.YtljklmlodfbdnaaGreatEB
import Derived.Test.YtljklmlodfbdnaaGreatMAS
namespace Go.E
open Go
set_option linter.unusedVariables false
set_option linter.unusedSimpArgs false
set_option maxRecDepth 100000

abbrev T17 := Int × Int × Int × Int × Bool × Int × (Nat → Int) × Int × (List Int) × (List Int) × (List Int) × (List (Nat → Int))
abbrev Rise (l : List Int) : Prop := l.Pairwise fun a b => a < b

/-- What is known of a transaction to which at most n things happened. -/
structure TI (n : Nat) (tx st re sq : Int) (op : Bool) (sh : Int) (at_ : Nat → Int) (mo : Int) (to_ vo ac : List Int) (go : List (Nat → Int)) : Prop where
  htx : 1 ≤ tx ∧ tx ≤ 1048576
  hst : 1 ≤ st ∧ st ≤ 4
  hre : 0 ≤ re ∧ re ≤ 5
  hre4 : st = 4 ↔ 0 < re
  hsq : 0 ≤ sq ∧ sq ≤ 1048576
  to1 : Rise to_
  to2 : ∀ s ∈ to_, 1 ≤ s ∧ s ≤ 64
  vo1 : Rise vo
  vo2 : ∀ s ∈ vo, s ∈ to_
  ac1 : Rise ac
  ac2 : ∀ s ∈ ac, s ∈ to_
  hgo : go.length ≤ n
  hop : op = true → st = 1 ∧ 1 ≤ sq ∧ (1 ≤ sh ∧ sh ≤ 64) ∧ sh ∈ to_ ∧ resOk_F at_ = true ∧ (1 ≤ mo ∧ mo ≤ 4)
  vo3 : st = 3 → vo.length = to_.length
  vo4 : st = 2 → vo.length < to_.length
  vo5 : st = 1 → vo = []
  ac3 : st = 1 ∨ st = 2 → ac = []
def TIT (n : Nat) (t : T17) : Prop := TI n t.1 t.2.1 t.2.2.1 t.2.2.2.1 t.2.2.2.2.1 t.2.2.2.2.2.1 t.2.2.2.2.2.2.1 t.2.2.2.2.2.2.2.1 t.2.2.2.2.2.2.2.2.1 t.2.2.2.2.2.2.2.2.2.1 t.2.2.2.2.2.2.2.2.2.2.1 t.2.2.2.2.2.2.2.2.2.2.2

theorem len64 {l : List Int} (h : Rise l) (h2 : ∀ s ∈ l, 1 ≤ s ∧ s ≤ 64) : l.length ≤ 64 := by
  have := nodup_len (rising_nodup h) (m := (List.range 64).map fun k : Nat => (k : Int) + 1) (fun x hx => by
    obtain ⟨h1, h3⟩ := h2 x hx
    exact List.mem_map.2 ⟨(x - 1).toNat, by simp; omega, by omega⟩)
  simpa using this

section
variable {n : Nat} {tx st re sq : Int} {op : Bool} {sh : Int} {at_ : Nat → Int} {mo : Int} {to_ vo ac : List Int} {go : List (Nat → Int)}
theorem TI.mono {m : Nat} (h : TI n tx st re sq op sh at_ mo to_ vo ac go) (hm : n ≤ m) : TI m tx st re sq op sh at_ mo to_ vo ac go := { h with hgo := Nat.le_trans h.hgo hm }
theorem TI.lto (h : TI n tx st re sq op sh at_ mo to_ vo ac go) : to_.length ≤ 64 := len64 h.to1 h.to2
theorem TI.lvo (h : TI n tx st re sq op sh at_ mo to_ vo ac go) : vo.length ≤ 64 := len64 h.vo1 fun s hs => h.to2 s (h.vo2 s hs)
theorem TI.lac (h : TI n tx st re sq op sh at_ mo to_ vo ac go) : ac.length ≤ 64 := len64 h.ac1 fun s hs => h.to2 s (h.ac2 s hs)
theorem TI.own (h : TI n tx st re sq op sh at_ mo to_ vo ac go) (hn : n ≤ 1000000) : own_P tx st re sq op sh at_ mo to_ vo ac go := by
  have h1 := h.lto
  have h2 := h.lvo
  have h3 := h.lac
  have h4 := h.hgo
  unfold own_P cloneI_P cloneG_P
  exact ⟨by omega, by omega, by omega, by omega, trivial⟩
theorem tto_P_of {a b : Int} {l : List Int} (h : l.length ≤ 64) : tto_P tx st re sq op sh at_ mo to_ vo ac go a b l := by unfold tto_P; omega
theorem tdec_P_of {l : List Int} (h : l.length ≤ 64) : tdecision_P tx st re sq op sh at_ mo to_ vo ac go l := by
  unfold tdecision_P
  exact ⟨tto_P_of h, trivial⟩
theorem with_in {l : List Int} {x : Int} (h : (search_F l x).2 = true) : insI x l = l := by rw [← with_eq, if_pos h]
theorem with_out {l : List Int} {x : Int} (h : ¬ (search_F l x).2 = true) : insL1 (cloneI_F l) ((search_F l x).1).toNat x = insI x l := by rw [← with_eq, if_neg h]
theorem search_P_of {l : List Int} (x : Int) (h : Rise l) (hl : l.length ≤ 64) : search_P l x := ⟨h, by omega⟩
theorem clone_P_of {l : List Int} (hl : l.length ≤ 64) : cloneI_P l := by unfold cloneI_P; omega
theorem sort_P_of {l : List Int} (hl : l.length ≤ 64) : sortP (cloneI_F l) := by unfold sortP cloneI_F; omega
/-! ### A message that may be sent -/
/-! ### What changes -/
theorem TI.ask (h : TI n tx 1 re sq false sh at_ mo to_ vo ac go) (hq : sq ≠ 1048576) {s m : Int} {a : Nat → Int} (hs : 1 ≤ s ∧ s ≤ 64) (ha : resOk_F a = true) (hm : 1 ≤ m ∧ m ≤ 4) : TI n tx 1 re (sq + 1) true s a m (insI s to_) vo ac go := by
  have h1 := h.hsq
  exact { h with
    hsq := by omega
    to1 := rising_insI h.to1
    to2 := fun x hx => (mem_insI.1 hx).elim (fun e => e ▸ hs) (h.to2 x)
    vo2 := fun x hx => by rw [h.vo5 rfl] at hx; simp at hx
    ac2 := fun x hx => by rw [h.ac3 (.inl rfl)] at hx; simp at hx
    hop := fun _ => ⟨rfl, by omega, hs, mem_insI.2 (.inl rfl), ha, hm⟩
    vo3 := fun e => by omega
    vo4 := fun e => by omega }
theorem TI.commit (h : TI n tx st re sq op sh at_ mo to_ vo ac go) (hv : vo.length = to_.length) : TI n tx 3 0 sq false sh at_ mo to_ vo ac go :=
  { h with
    hst := by omega
    hre := by omega
    hre4 := by omega
    hop := fun e => by cases e
    vo3 := fun _ => hv
    vo4 := fun e => by omega
    vo5 := fun e => by omega
    ac3 := fun e => by omega }
theorem TI.abort (h : TI n tx st re sq op sh at_ mo to_ vo ac go) {r : Int} (hr : 1 ≤ r ∧ r ≤ 5) : TI n tx 4 r sq false sh at_ mo to_ vo ac go :=
  { h with
    hst := by omega
    hre := by omega
    hre4 := by omega
    hop := fun e => by cases e
    vo3 := fun e => by omega
    vo4 := fun e => by omega
    vo5 := fun e => by omega
    ac3 := fun e => by omega }
end
end Go.E
namespace Go.E
open Go
set_option linter.unusedVariables false
set_option linter.unusedSimpArgs false
set_option maxRecDepth 100000
section
variable (tx st re sq : Int) (op : Bool) (sh : Int) (at_ : Nat → Int) (mo : Int) (to_ vo ac : List Int) (go : List (Nat → Int))
def lockM (tx sq sh : Int) (at_ : Nat → Int) (mo : Int) : Nat → Int := updI (updRI (updI (updI (updI (updI (fun _ => 0) 0 1) 2 sh) 3 tx) 4 sq) 5 2 at_) 7 mo
/-- A message of a kind, that may be, of the transaction. -/
def Form (tx k : Int) (m : Nat → Int) : Prop := m 0 = k ∧ okB m = true ∧ m 3 = tx
instance (tx k : Int) (m : Nat → Int) : Decidable (Form tx k m) := by unfold Form; exact inferInstance
def askC (s : Int) (a : Nat → Int) (m : Int) : T17 × List (Nat → Int) × Int :=
  if (1 ≤ s ∧ s ≤ 64) ∧ resOk_F a = true ∧ (1 ≤ m ∧ m ≤ 4) then
    if st = 1 then
      if op = true then ((tx, st, re, sq, op, sh, at_, mo, to_, vo, ac, go), [], 8)
      else if sq = 1048576 then ((tx, st, re, sq, op, sh, at_, mo, to_, vo, ac, go), [], 6)
      else ((tx, st, re, sq + 1, true, s, a, m, insI s to_, vo, ac, go), [lockM tx (sq + 1) s a m], 0)
    else ((tx, st, re, sq, op, sh, at_, mo, to_, vo, ac, go), [], 11)
  else ((tx, st, re, sq, op, sh, at_, mo, to_, vo, ac, go), [], 1)
def finC : T17 × List (Nat → Int) × Int :=
  if st = 1 then
    if op = true then ((tx, st, re, sq, op, sh, at_, mo, to_, vo, ac, go), [], 8)
    else if to_ = [] then ((tx, 3, 0, sq, false, sh, at_, mo, to_, vo, ac, go), to_.map (toMsg tx 6 1), 0)
    else ((tx, 2, re, sq, op, sh, at_, mo, to_, vo, ac, go), to_.map (toMsg tx 4 0), 0)
  else ((tx, st, re, sq, op, sh, at_, mo, to_, vo, ac, go), [], 11)
end
section
variable {n : Nat} {tx st re sq : Int} {op : Bool} {sh : Int} {at_ : Nat → Int} {mo : Int} {to_ vo ac : List Int} {go : List (Nat → Int)}
/-! ### The program does so -/
theorem task_is (h : TI n tx st re sq op sh at_ mo to_ vo ac go) (hn : n ≤ 1000000) (s : Int) (a : Nat → Int) (m : Int) :
    task_P tx st re sq op sh at_ mo to_ vo ac go s a m ∧ task_F tx st re sq op sh at_ mo to_ vo ac go s a m = askC tx st re sq op sh at_ mo to_ vo ac go s a m := by
  have ho := h.own hn
  have hq := h.hsq
  unfold task_P task_F askC
  by_cases hb : (1 ≤ s ∧ s ≤ 64) ∧ resOk_F a = true ∧ (1 ≤ m ∧ m ≤ 4)
  · have hb' : ¬ (((((decide (s < 1)) || (decide (64 < s))) || (!((resOk_F a)))) || (decide (m < 1))) || (decide (4 < m))) = true := by
      simp only [Bool.or_eq_true, decide_eq_true_eq, Bool.not_eq_true']
      rintro ((((h | h) | h) | h) | h)
      · omega
      · omega
      · rw [hb.2.1] at h; cases h
      · omega
      · omega
    rw [if_neg hb', if_neg hb', if_pos hb]
    by_cases hs : st = 1
    · rw [if_pos hs]
      cases op with
      | true =>
        have hf : tfree_F tx st re sq true sh at_ mo to_ vo ac go = 8 := by simp [tfree_F, hs]
        rw [hf, if_neg (by decide), if_neg (by decide), if_pos rfl]
        exact ⟨⟨ho, trivial⟩, rfl⟩
      | false =>
        have hf : tfree_F tx st re sq false sh at_ mo to_ vo ac go = 0 := by simp [tfree_F, hs]
        rw [hf, if_pos rfl, if_pos rfl, if_neg Bool.false_ne_true]
        by_cases h6 : sq = 1048576
        · rw [if_pos h6, if_pos h6, if_pos h6]
          exact ⟨⟨ho, trivial⟩, rfl⟩
        · rw [if_neg h6, if_neg h6, if_neg h6]
          by_cases hc : (search_F to_ s).2 = true
          · rw [if_pos hc, if_pos hc, with_in hc]
            exact ⟨⟨ho, ⟨by omega, by omega⟩, search_P_of s h.to1 h.lto, trivial⟩, rfl⟩
          · rw [if_neg hc, if_neg hc, with_out hc]
            exact ⟨⟨ho, ⟨by omega, by omega⟩, search_P_of s h.to1 h.lto, clone_P_of h.lto, search_le _ _, sort_P_of h.lto, trivial⟩, rfl⟩
    · have hf : tfree_F tx st re sq op sh at_ mo to_ vo ac go = 11 := by simp [tfree_F, hs]
      rw [hf, if_neg (by decide), if_neg (by decide), if_neg hs]
      exact ⟨⟨ho, trivial⟩, rfl⟩
  · have hb' : (((((decide (s < 1)) || (decide (64 < s))) || (!((resOk_F a)))) || (decide (m < 1))) || (decide (4 < m))) = true := by
      simp only [Bool.or_eq_true, decide_eq_true_eq, Bool.not_eq_true']
      cases hr : resOk_F a
      · simp
      · simp only [hr, true_and] at hb
        simp
        omega
    rw [if_pos hb', if_pos hb', if_neg hb]
    exact ⟨⟨ho, trivial⟩, rfl⟩
theorem len0 {l : List Int} : (l.length : Int) = 0 ↔ l = [] := by
  rw [← List.length_eq_zero_iff]; omega
theorem tfinish_is (h : TI n tx st re sq op sh at_ mo to_ vo ac go) (hn : n ≤ 1000000) :
    tfinish_P tx st re sq op sh at_ mo to_ vo ac go ∧ tfinish_F tx st re sq op sh at_ mo to_ vo ac go = finC tx st re sq op sh at_ mo to_ vo ac go := by
  have ho := h.own hn
  unfold tfinish_P tfinish_F finC
  refine ⟨⟨ho, ite_intro (fun _ => ite_intro (fun _ => ⟨tdec_P_of h.lto, trivial⟩) (fun _ => ⟨tto_P_of h.lto, trivial⟩)) (fun _ => trivial)⟩, ?_⟩
  by_cases hs : st = 1
  · rw [if_pos hs]
    cases op with
    | true =>
      have hf : tfree_F tx st re sq true sh at_ mo to_ vo ac go = 8 := by simp [tfree_F, hs]
      rw [hf, if_neg (by decide), if_pos rfl]
    | false =>
      have hf : tfree_F tx st re sq false sh at_ mo to_ vo ac go = 0 := by simp [tfree_F, hs]
      rw [hf, if_pos rfl, if_neg Bool.false_ne_true]
      by_cases ht : to_ = []
      · rw [if_pos (len0.2 ht), if_pos ht]; rfl
      · rw [if_neg (fun e => ht (len0.1 e)), if_neg ht]; rfl
  · have hf : tfree_F tx st re sq op sh at_ mo to_ vo ac go = 11 := by simp [tfree_F, hs]
    rw [hf, if_neg (by decide), if_neg hs]
end
end Go.E
namespace Go.E
open Go
set_option linter.unusedVariables false
set_option linter.unusedSimpArgs false
set_option maxRecDepth 100000
section
variable {n : Nat} {tx st re sq : Int} {op : Bool} {sh : Int} {at_ : Nat → Int} {mo : Int} {to_ vo ac : List Int} {go : List (Nat → Int)}
theorem askC_TI (h : TI n tx st re sq op sh at_ mo to_ vo ac go) (s : Int) (a : Nat → Int) (m : Int) : TIT (n + 1) (askC tx st re sq op sh at_ mo to_ vo ac go s a m).1 := by
  have h' := h.mono (Nat.le_succ n)
  unfold askC
  by_cases hb : (1 ≤ s ∧ s ≤ 64) ∧ resOk_F a = true ∧ (1 ≤ m ∧ m ≤ 4)
  · rw [if_pos hb]
    by_cases hs : st = 1
    · rw [if_pos hs]
      cases op with
      | true => rw [if_pos rfl]; exact h'
      | false =>
        rw [if_neg Bool.false_ne_true]
        by_cases h6 : sq = 1048576
        · rw [if_pos h6]; exact h'
        · rw [if_neg h6]
          subst hs
          exact h'.ask h6 hb.1 hb.2.1 hb.2.2
    · rw [if_neg hs]; exact h'
  · rw [if_neg hb]; exact h'
theorem new_TI {t : Int} (h : 1 ≤ t ∧ t ≤ 1048576) : TI 0 t 1 0 0 false 0 (fun _ => 0) 0 [] [] [] [] where
  htx := h
  hst := by omega
  hre := by omega
  hre4 := by omega
  hsq := by omega
  to1 := .nil
  to2 := fun s hs => by simp at hs
  vo1 := .nil
  vo2 := fun s hs => by simp at hs
  ac1 := .nil
  ac2 := fun s hs => by simp at hs
  hgo := Nat.le_refl 0
  hop := fun e => by cases e
  vo3 := fun e => by omega
  vo4 := fun e => by omega
  vo5 := fun _ => rfl
  ac3 := fun _ => rfl
theorem tnew_is {t : Int} : tnew_F t = if 1 ≤ t ∧ t ≤ 1048576 then ((t, 1, 0, 0, false, 0, (fun _ => 0), 0, [], [], [], []), 0) else ((0, 0, 0, 0, false, 0, (fun _ => 0), 0, [], [], [], []), 1) := by
  unfold tnew_F
  by_cases h : 1 ≤ t ∧ t ≤ 1048576
  · rw [if_neg (by simp; omega), if_pos h]
  · rw [if_pos (by simp; omega), if_neg h]
end
end Go.E
