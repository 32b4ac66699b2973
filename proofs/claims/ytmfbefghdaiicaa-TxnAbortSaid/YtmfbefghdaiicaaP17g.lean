/- Transactions: something that happens, in plain words. -/
import Derived.Test.YtmfbefghdaiicaaP17e
import Derived.Test.YtmfbefghdaiicaaD17S
namespace Go.E
open Go
set_option linter.unusedVariables false
set_option linter.unusedSimpArgs false
set_option maxRecDepth 100000
section
variable (tx st re sq : Int) (op : Bool) (sh : Int) (at_ : Nat → Int) (mo : Int) (to_ vo ac : List Int) (go : List (Nat → Int))
def actC (a : Nat → Int) : T17 × List (Nat → Int) × Int :=
  if a 0 = 0 then askC tx st re sq op sh at_ mo to_ vo ac go (a 1) (fun i => a (2 + i)) (a 4)
  else if a 0 = 1 then ((ansC tx st re sq op sh at_ mo to_ vo ac go fun i => a (5 + i)).1, [], (ansC tx st re sq op sh at_ mo to_ vo ac go fun i => a (5 + i)).2)
  else if a 0 = 2 then finC tx st re sq op sh at_ mo to_ vo ac go
  else if a 0 = 3 then voteC tx st re sq op sh at_ mo to_ vo ac go fun i => a (5 + i)
  else if a 0 = 4 then abortC tx st re sq op sh at_ mo to_ vo ac go (a 1)
  else if a 0 = 5 then ((ackC tx st re sq op sh at_ mo to_ vo ac go fun i => a (5 + i)).1, [], (ackC tx st re sq op sh at_ mo to_ vo ac go fun i => a (5 + i)).2)
  else ((tx, st, re, sq, op, sh, at_, mo, to_, vo, ac, go), [], 0)
end
/-- An error's number, among those that a transaction has. -/
def Cd (e : Int) : Prop := 0 ≤ e ∧ e ≤ 15
theorem code_Cd {e : Int} (h : Cd e) : code_F e = e := if_pos h
section
variable {n : Nat} {tx st re sq : Int} {op : Bool} {sh : Int} {at_ : Nat → Int} {mo : Int} {to_ vo ac : List Int} {go : List (Nat → Int)}
theorem askC_cd {s : Int} {a : Nat → Int} {m : Int} : Cd (askC tx st re sq op sh at_ mo to_ vo ac go s a m).2.2 := by
  unfold askC Cd
  repeat' split
  all_goals (dsimp only; omega)
theorem ansC_cd {m : Nat → Int} : Cd (ansC tx st re sq op sh at_ mo to_ vo ac go m).2 := by
  unfold ansC Cd
  by_cases hf : Form tx 2 m ∨ Form tx 3 m
  · rw [if_pos hf]
    by_cases hs : st = 1
    · rw [if_pos hs]
      by_cases hc : op = true ∧ m 4 = sq ∧ m 1 = sh ∧ (m 0 = 2 → eqN 2 (fun i => m (5 + i)) at_ = true)
      · rw [if_pos hc]; dsimp only; omega
      · rw [if_neg hc]; dsimp only; omega
    · rw [if_neg hs]; dsimp only; omega
  · rw [if_neg hf]; dsimp only; omega
theorem finC_cd : Cd (finC tx st re sq op sh at_ mo to_ vo ac go).2.2 := by
  unfold finC Cd
  repeat' split
  all_goals (dsimp only; omega)
theorem voteC_cd {m : Nat → Int} : Cd (voteC tx st re sq op sh at_ mo to_ vo ac go m).2.2 := by
  unfold voteC Cd
  repeat' split
  all_goals (dsimp only; omega)
theorem abortC_cd {r : Int} : Cd (abortC tx st re sq op sh at_ mo to_ vo ac go r).2.2 := by
  unfold abortC Cd
  repeat' split
  all_goals (dsimp only; omega)
theorem ackC_cd {m : Nat → Int} : Cd (ackC tx st re sq op sh at_ mo to_ vo ac go m).2 := by
  unfold ackC Cd
  repeat' split
  all_goals (dsimp only; omega)
theorem actC_cd {a : Nat → Int} : Cd (actC tx st re sq op sh at_ mo to_ vo ac go a).2.2 := by
  unfold actC
  by_cases h0 : a 0 = 0
  · rw [if_pos h0]; exact askC_cd
  rw [if_neg h0]
  by_cases h1 : a 0 = 1
  · rw [if_pos h1]; exact ansC_cd
  rw [if_neg h1]
  by_cases h2 : a 0 = 2
  · rw [if_pos h2]; exact finC_cd
  rw [if_neg h2]
  by_cases h3 : a 0 = 3
  · rw [if_pos h3]; exact voteC_cd
  rw [if_neg h3]
  by_cases h4 : a 0 = 4
  · rw [if_pos h4]; exact abortC_cd
  rw [if_neg h4]
  by_cases h5 : a 0 = 5
  · rw [if_pos h5]; exact ackC_cd
  rw [if_neg h5]
  unfold Cd
  dsimp only
  omega
theorem actC_TI (h : TI n tx st re sq op sh at_ mo to_ vo ac go) (a : Nat → Int) : TIT (n + 1) (actC tx st re sq op sh at_ mo to_ vo ac go a).1 := by
  unfold actC
  by_cases h0 : a 0 = 0
  · rw [if_pos h0]; exact askC_TI h _ _ _
  rw [if_neg h0]
  by_cases h1 : a 0 = 1
  · rw [if_pos h1]; exact ansC_TI h _
  rw [if_neg h1]
  by_cases h2 : a 0 = 2
  · rw [if_pos h2]; exact finC_TI h
  rw [if_neg h2]
  by_cases h3 : a 0 = 3
  · rw [if_pos h3]; exact voteC_TI h _
  rw [if_neg h3]
  by_cases h4 : a 0 = 4
  · rw [if_pos h4]; exact abortC_TI h _
  rw [if_neg h4]
  by_cases h5 : a 0 = 5
  · rw [if_pos h5]; exact ackC_TI h _
  rw [if_neg h5]
  exact h.mono (Nat.le_succ n)
theorem act17_is (h : TI n tx st re sq op sh at_ mo to_ vo ac go) (hn : n ≤ 1000000) {a : Nat → Int} (hk : 0 ≤ a 0 ∧ a 0 ≤ 5) :
    act17_P tx st re sq op sh at_ mo to_ vo ac go a ∧ act17_F tx st re sq op sh at_ mo to_ vo ac go a = actC tx st re sq op sh at_ mo to_ vo ac go a := by
  have hc := actC_cd (tx := tx) (st := st) (re := re) (sq := sq) (op := op) (sh := sh) (at_ := at_) (mo := mo) (to_ := to_) (vo := vo) (ac := ac) (go := go) (a := a)
  unfold act17_P act17_F
  unfold actC at hc ⊢
  by_cases h0 : a 0 = 0
  · rw [if_pos h0] at hc
    rw [if_pos h0, if_pos h0, if_pos h0]
    obtain ⟨p, q⟩ := task_is h hn (a 1) (fun i => a (2 + i)) (a 4)
    rw [q, code_Cd hc]
    exact ⟨⟨p, trivial⟩, rfl⟩
  rw [if_neg h0] at hc
  rw [if_neg h0, if_neg h0, if_neg h0]
  by_cases h1 : a 0 = 1
  · rw [if_pos h1] at hc
    rw [if_pos h1, if_pos h1, if_pos h1]
    obtain ⟨p, q⟩ := tanswered_is h hn (fun i => a (5 + i))
    rw [q, code_Cd hc]
    exact ⟨⟨p, trivial⟩, rfl⟩
  rw [if_neg h1] at hc
  rw [if_neg h1, if_neg h1, if_neg h1]
  by_cases h2 : a 0 = 2
  · rw [if_pos h2] at hc
    rw [if_pos h2, if_pos h2, if_pos h2]
    obtain ⟨p, q⟩ := tfinish_is h hn
    rw [q, code_Cd hc]
    exact ⟨⟨p, trivial⟩, rfl⟩
  rw [if_neg h2] at hc
  rw [if_neg h2, if_neg h2, if_neg h2]
  by_cases h3 : a 0 = 3
  · rw [if_pos h3] at hc
    rw [if_pos h3, if_pos h3, if_pos h3]
    obtain ⟨p, q⟩ := tvote_is h hn (fun i => a (5 + i))
    rw [q, code_Cd hc]
    exact ⟨⟨p, trivial⟩, rfl⟩
  rw [if_neg h3] at hc
  rw [if_neg h3, if_neg h3, if_neg h3]
  by_cases h4 : a 0 = 4
  · rw [if_pos h4] at hc
    rw [if_pos h4, if_pos h4, if_pos h4]
    obtain ⟨p, q⟩ := tabort_is h hn (a 1)
    rw [q, code_Cd hc]
    exact ⟨⟨p, trivial⟩, rfl⟩
  rw [if_neg h4] at hc
  rw [if_neg h4, if_neg h4, if_neg h4]
  by_cases h5 : a 0 = 5
  · rw [if_pos h5] at hc
    rw [if_pos h5, if_pos h5, if_pos h5]
    obtain ⟨p, q⟩ := tack_is h hn (fun i => a (5 + i))
    rw [q, code_Cd hc]
    exact ⟨⟨p, trivial⟩, rfl⟩
  omega
/-! ### What a step may do -/
/-- What a step does to the number, the state and the reason. -/
structure Stp (tx st re : Int) (op : Bool) (k : Int) (r : T17 × List (Nat → Int) × Int) : Prop where
  tx : r.1.1 = tx
  dec : st = 3 ∨ st = 4 → r.1.2.1 = st ∧ r.1.2.2.1 = re
  err : r.2.2 ≠ 0 → r.1.2.1 = st
  fin : k = 2 → r.2.2 = 0 → op = false
  ask : r.1.2.1 = 2 ∨ r.1.2.1 = 3 → (st = 2 ∨ st = 3) ∨ (k = 2 ∧ r.2.2 = 0)
theorem actC_stp (a : Nat → Int) : Stp tx st re op (a 0) (actC tx st re sq op sh at_ mo to_ vo ac go a) := by
  unfold actC
  by_cases h0 : a 0 = 0
  · rw [if_pos h0]
    unfold askC
    repeat' split
    all_goals exact ⟨rfl, fun _ => ⟨rfl, rfl⟩, fun _ => rfl, fun e => by omega, fun e => .inl e⟩
  rw [if_neg h0]
  by_cases h1 : a 0 = 1
  · rw [if_pos h1]
    unfold ansC
    by_cases hf : Form tx 2 (fun i => a (5 + i)) ∨ Form tx 3 (fun i => a (5 + i))
    · rw [if_pos hf]
      by_cases hs : st = 1
      · rw [if_pos hs]
        by_cases hc : op = true ∧ a (5 + 4) = sq ∧ a (5 + 1) = sh ∧ (a (5 + 0) = 2 → eqN 2 (fun i => a (5 + (5 + i))) at_ = true)
        · rw [if_pos hc]; exact ⟨rfl, fun _ => ⟨rfl, rfl⟩, fun _ => rfl, fun e => by omega, fun e => .inl e⟩
        · rw [if_neg hc]; exact ⟨rfl, fun _ => ⟨rfl, rfl⟩, fun _ => rfl, fun e => by omega, fun e => .inl e⟩
      · rw [if_neg hs]; exact ⟨rfl, fun _ => ⟨rfl, rfl⟩, fun _ => rfl, fun e => by omega, fun e => .inl e⟩
    · rw [if_neg hf]; exact ⟨rfl, fun _ => ⟨rfl, rfl⟩, fun _ => rfl, fun e => by omega, fun e => .inl e⟩
  rw [if_neg h1]
  by_cases h2 : a 0 = 2
  · rw [if_pos h2]
    unfold finC
    by_cases hs : st = 1
    · rw [if_pos hs]
      cases op with
      | true => rw [if_pos rfl]; exact ⟨rfl, fun _ => ⟨rfl, rfl⟩, fun _ => rfl, fun _ e => by dsimp only at e; omega, fun e => .inl e⟩
      | false =>
        rw [if_neg Bool.false_ne_true]
        by_cases ht : to_ = []
        · rw [if_pos ht]; exact ⟨rfl, fun e => by omega, fun e => absurd rfl e, fun _ _ => rfl, fun _ => .inr ⟨h2, rfl⟩⟩
        · rw [if_neg ht]; exact ⟨rfl, fun e => by omega, fun e => absurd rfl e, fun _ _ => rfl, fun _ => .inr ⟨h2, rfl⟩⟩
    · rw [if_neg hs]; exact ⟨rfl, fun _ => ⟨rfl, rfl⟩, fun _ => rfl, fun _ e => by dsimp only at e; omega, fun e => .inl e⟩
  rw [if_neg h2]
  by_cases h3 : a 0 = 3
  · rw [if_pos h3]
    unfold voteC
    by_cases hf : Form tx 5 (fun i => a (5 + i))
    · rw [if_pos hf]
      by_cases hs : st = 2
      · rw [if_pos hs]
        repeat' split
        all_goals first
          | exact ⟨rfl, fun _ => ⟨rfl, rfl⟩, fun _ => rfl, fun e => by omega, fun e => .inl e⟩
          | exact ⟨rfl, fun e => by omega, fun e => absurd rfl e, fun e => by omega, fun e => .inl (.inl hs)⟩
      · rw [if_neg hs]; exact ⟨rfl, fun _ => ⟨rfl, rfl⟩, fun _ => rfl, fun e => by omega, fun e => .inl e⟩
    · rw [if_neg hf]; exact ⟨rfl, fun _ => ⟨rfl, rfl⟩, fun _ => rfl, fun e => by omega, fun e => .inl e⟩
  rw [if_neg h3]
  by_cases h4 : a 0 = 4
  · rw [if_pos h4]
    unfold abortC
    by_cases hr : 1 ≤ a 1 ∧ a 1 ≤ 5
    · rw [if_pos hr]
      by_cases hd : st = 3 ∨ st = 4
      · rw [if_pos hd]; exact ⟨rfl, fun _ => ⟨rfl, rfl⟩, fun _ => rfl, fun e => by omega, fun e => .inl e⟩
      · rw [if_neg hd]; exact ⟨rfl, fun e => absurd e hd, fun e => absurd rfl e, fun e => by omega, fun e => by dsimp only at e; omega⟩
    · rw [if_neg hr]; exact ⟨rfl, fun _ => ⟨rfl, rfl⟩, fun _ => rfl, fun e => by omega, fun e => .inl e⟩
  rw [if_neg h4]
  by_cases h5 : a 0 = 5
  · rw [if_pos h5]
    unfold ackC
    repeat' split
    all_goals exact ⟨rfl, fun _ => ⟨rfl, rfl⟩, fun _ => rfl, fun e => by omega, fun e => .inl e⟩
  rw [if_neg h5]
  exact ⟨rfl, fun _ => ⟨rfl, rfl⟩, fun _ => rfl, fun e => by omega, fun e => .inl e⟩
end
end Go.E
