/- Transactions: what holds of one, whatever happens to it. -/
import Derived.Test.YtmfbefghdaiicaaC17S
import Derived.Test.YtmfbefghdaiicaaC17bS
import Derived.Test.YtmfbefghdaiicaaC17cS
import Derived.Test.YtmfbefghdaiicaaL6
import Derived.Test.YtmfbefghdaiicaaPR
namespace Go.E
open Go
set_option linter.unusedVariables false
set_option linter.unusedSimpArgs false
set_option maxRecDepth 100000

abbrev T17 := Int × Int × Int × Int × Bool × Int × (Nat → Int) × Int × (List Int) × (List Int) × (List Int) × (List (Nat → Int))
abbrev Rise (l : List Int) : Prop := l.Pairwise fun a b => a < b

/-- What is known of a transaction to which at most n things happened. -/
structure TI (n : Nat) (tx st re sq : Int) (op : Bool) (sh : Int) (at_ : Nat → Int) (mo : Int) (to_ vo ac : List Int) (go : List (Nat → Int)) : Prop where
  htx : 1 ≤ tx ∧ tx ≤ 1048576
  hst : 1 ≤ st ∧ st ≤ 4
  hre : 0 ≤ re ∧ re ≤ 5
  hre4 : st = 4 ↔ 0 < re
  hsq : 0 ≤ sq ∧ sq ≤ 1048576
  to1 : Rise to_
  to2 : ∀ s ∈ to_, 1 ≤ s ∧ s ≤ 64
  vo1 : Rise vo
  vo2 : ∀ s ∈ vo, s ∈ to_
  ac1 : Rise ac
  ac2 : ∀ s ∈ ac, s ∈ to_
  hgo : go.length ≤ n
  hop : op = true → st = 1 ∧ 1 ≤ sq ∧ (1 ≤ sh ∧ sh ≤ 64) ∧ sh ∈ to_ ∧ resOk_F at_ = true ∧ (1 ≤ mo ∧ mo ≤ 4)
  vo3 : st = 3 → vo.length = to_.length
  vo4 : st = 2 → vo.length < to_.length
  vo5 : st = 1 → vo = []
  ac3 : st = 1 ∨ st = 2 → ac = []
def TIT (n : Nat) (t : T17) : Prop := TI n t.1 t.2.1 t.2.2.1 t.2.2.2.1 t.2.2.2.2.1 t.2.2.2.2.2.1 t.2.2.2.2.2.2.1 t.2.2.2.2.2.2.2.1 t.2.2.2.2.2.2.2.2.1 t.2.2.2.2.2.2.2.2.2.1 t.2.2.2.2.2.2.2.2.2.2.1 t.2.2.2.2.2.2.2.2.2.2.2

theorem len64 {l : List Int} (h : Rise l) (h2 : ∀ s ∈ l, 1 ≤ s ∧ s ≤ 64) : l.length ≤ 64 := by
  have := nodup_len (rising_nodup h) (m := (List.range 64).map fun k : Nat => (k : Int) + 1) (fun x hx => by
    obtain ⟨h1, h3⟩ := h2 x hx
    exact List.mem_map.2 ⟨(x - 1).toNat, by simp; omega, by omega⟩)
  simpa using this

section
variable {n : Nat} {tx st re sq : Int} {op : Bool} {sh : Int} {at_ : Nat → Int} {mo : Int} {to_ vo ac : List Int} {go : List (Nat → Int)}
theorem TI.mono {m : Nat} (h : TI n tx st re sq op sh at_ mo to_ vo ac go) (hm : n ≤ m) : TI m tx st re sq op sh at_ mo to_ vo ac go := { h with hgo := Nat.le_trans h.hgo hm }
theorem TI.lto (h : TI n tx st re sq op sh at_ mo to_ vo ac go) : to_.length ≤ 64 := len64 h.to1 h.to2
theorem TI.lvo (h : TI n tx st re sq op sh at_ mo to_ vo ac go) : vo.length ≤ 64 := len64 h.vo1 fun s hs => h.to2 s (h.vo2 s hs)
theorem TI.lac (h : TI n tx st re sq op sh at_ mo to_ vo ac go) : ac.length ≤ 64 := len64 h.ac1 fun s hs => h.to2 s (h.ac2 s hs)
theorem TI.own (h : TI n tx st re sq op sh at_ mo to_ vo ac go) (hn : n ≤ 1000000) : own_P tx st re sq op sh at_ mo to_ vo ac go := by
  have h1 := h.lto
  have h2 := h.lvo
  have h3 := h.lac
  have h4 := h.hgo
  unfold own_P cloneI_P cloneG_P
  exact ⟨by omega, by omega, by omega, by omega, trivial⟩
theorem sub_len {l m : List Int} (h : Rise l) (hs : ∀ s ∈ l, s ∈ m) : l.length ≤ m.length := nodup_len (rising_nodup h) hs
theorem tto_P_of {a b : Int} {l : List Int} (h : l.length ≤ 64) : tto_P tx st re sq op sh at_ mo to_ vo ac go a b l := by unfold tto_P; omega
theorem tdec_P_of {l : List Int} (h : l.length ≤ 64) : tdecision_P tx st re sq op sh at_ mo to_ vo ac go l := by
  unfold tdecision_P
  exact ⟨tto_P_of h, trivial⟩
theorem with_in {l : List Int} {x : Int} (h : (search_F l x).2 = true) : insI x l = l := by rw [← with_eq, if_pos h]
theorem with_out {l : List Int} {x : Int} (h : ¬ (search_F l x).2 = true) : insL1 (cloneI_F l) ((search_F l x).1).toNat x = insI x l := by rw [← with_eq, if_neg h]
theorem search_P_of {l : List Int} (x : Int) (h : Rise l) (hl : l.length ≤ 64) : search_P l x := ⟨h, by omega⟩
theorem clone_P_of {l : List Int} (hl : l.length ≤ 64) : cloneI_P l := by unfold cloneI_P; omega
theorem sort_P_of {l : List Int} (hl : l.length ≤ 64) : sortP (cloneI_F l) := by unfold sortP cloneI_F; omega
theorem tdec_iff : tdecided_F tx st re sq op sh at_ mo to_ vo ac go = true ↔ st = 3 ∨ st = 4 := by
  unfold tdecided_F
  by_cases h3 : st = 3
  · simp [h3]
  · by_cases h4 : st = 4
    · simp [h4]
    · simp [h3, h4]
/-! ### A message that may be sent -/
/-- A message that is for one that is touched, of the transaction, and may be. -/
def Snd (tx : Int) (to_ : List Int) (m : Nat → Int) : Prop := m 2 ∈ to_ ∧ m 3 = tx ∧ (m 0 = 1 ∨ m 0 = 4 ∨ m 0 = 6 ∨ m 0 = 8) ∧ okB m = true
theorem snd_to {kind code s : Int} (hk : (kind = 4 ∨ kind = 8) ∧ code = 0 ∨ kind = 6 ∧ 0 ≤ code ∧ code ≤ 1) (ht : 1 ≤ tx ∧ tx ≤ 1048576) (hs : s ∈ to_) (h2 : 1 ≤ s ∧ s ≤ 64) : Snd tx to_ (toMsg tx kind code s) := by
  have e0 : toMsg tx kind code s 0 = kind := rfl
  refine ⟨hs, rfl, by rw [e0]; omega, (okB_oth _ (by rw [e0]; omega)).2 ⟨?_, ?_, ?_⟩⟩
  · unfold endsB shB inB
    rw [e0, if_neg (by omega), if_pos (by omega)]
    simp only [Bool.and_eq_true, decide_eq_true_eq]
    exact ⟨rfl, h2⟩
  · unfold oth
    rw [e0]
    simp only [toMsg, updI]
    simp
    omega
  · unfold zt
    simp [toMsg, updI]
theorem snd_all {kind code : Int} {l : List Int} (hk : (kind = 4 ∨ kind = 8) ∧ code = 0 ∨ kind = 6 ∧ 0 ≤ code ∧ code ≤ 1) (ht : 1 ≤ tx ∧ tx ≤ 1048576) (hs : ∀ s ∈ l, s ∈ to_) (h2 : ∀ s ∈ to_, 1 ≤ s ∧ s ≤ 64) {m : Nat → Int} (hm : m ∈ l.map (toMsg tx kind code)) : Snd tx to_ m := by
  obtain ⟨s, h, rfl⟩ := List.mem_map.1 hm
  exact snd_to hk ht (hs s h) (h2 s (hs s h))
theorem snd_lock (h : TI n tx st re sq true sh at_ mo to_ vo ac go) : Snd tx to_ (tlock_F tx st re sq true sh at_ mo to_ vo ac go) := by
  obtain ⟨h1, h2, h3, h4, h5, h6⟩ := h.hop rfl
  have h7 := h.htx
  have h8 := h.hsq
  have e0 : tlock_F tx st re sq true sh at_ mo to_ vo ac go 0 = 1 := rfl
  refine ⟨h4, rfl, by rw [e0]; omega, (okB_oth _ (by rw [e0]; omega)).2 ⟨?_, ?_, ?_⟩⟩
  · unfold endsB shB inB
    rw [e0, if_neg (by omega), if_pos (by omega)]
    simp only [Bool.and_eq_true, decide_eq_true_eq]
    exact ⟨rfl, h3⟩
  · simp only [resOk_F, Bool.and_eq_true, decide_eq_true_eq] at h5
    unfold oth
    rw [e0]
    simp [tlock_F, updI, updRI]
    omega
  · unfold zt
    simp [tlock_F, updI, updRI]
/-! ### What changes -/
theorem TI.ask (h : TI n tx 1 re sq false sh at_ mo to_ vo ac go) (hq : sq ≠ 1048576) {s m : Int} {a : Nat → Int} (hs : 1 ≤ s ∧ s ≤ 64) (ha : resOk_F a = true) (hm : 1 ≤ m ∧ m ≤ 4) : TI n tx 1 re (sq + 1) true s a m (insI s to_) vo ac go := by
  have h1 := h.hsq
  exact { h with
    hsq := by omega
    to1 := rising_insI h.to1
    to2 := fun x hx => (mem_insI.1 hx).elim (fun e => e ▸ hs) (h.to2 x)
    vo2 := fun x hx => by rw [h.vo5 rfl] at hx; simp at hx
    ac2 := fun x hx => by rw [h.ac3 (.inl rfl)] at hx; simp at hx
    hop := fun _ => ⟨rfl, by omega, hs, mem_insI.2 (.inl rfl), ha, hm⟩
    vo3 := fun e => by omega
    vo4 := fun e => by omega }
theorem TI.shut (h : TI n tx st re sq op sh at_ mo to_ vo ac go) : TI n tx st re sq false sh at_ mo to_ vo ac go := { h with hop := fun e => by cases e }
theorem TI.got (h : TI n tx st re sq op sh at_ mo to_ vo ac go) (x : Nat → Int) : TI (n + 1) tx st re sq op sh at_ mo to_ vo ac (go ++ [x]) := { h with hgo := by have := h.hgo; simp; omega }
theorem TI.prep (h : TI n tx 1 re sq false sh at_ mo to_ vo ac go) (ht : ¬ (to_.length : Int) = 0) : TI n tx 2 re sq false sh at_ mo to_ vo ac go := by
  have h1 := h.hre4
  exact { h with
    hst := by omega
    hre4 := by omega
    hop := fun e => by cases e
    vo3 := fun e => by omega
    vo4 := fun _ => by rw [h.vo5 rfl]; simp; omega
    vo5 := fun e => by omega
    ac3 := fun _ => h.ac3 (.inl rfl) }
theorem TI.commit (h : TI n tx st re sq op sh at_ mo to_ vo ac go) (hv : vo.length = to_.length) : TI n tx 3 0 sq false sh at_ mo to_ vo ac go :=
  { h with
    hst := by omega
    hre := by omega
    hre4 := by omega
    hop := fun e => by cases e
    vo3 := fun _ => hv
    vo4 := fun e => by omega
    vo5 := fun e => by omega
    ac3 := fun e => by omega }
theorem TI.abort (h : TI n tx st re sq op sh at_ mo to_ vo ac go) {r : Int} (hr : 1 ≤ r ∧ r ≤ 5) : TI n tx 4 r sq false sh at_ mo to_ vo ac go :=
  { h with
    hst := by omega
    hre := by omega
    hre4 := by omega
    hop := fun e => by cases e
    vo3 := fun e => by omega
    vo4 := fun e => by omega
    vo5 := fun e => by omega
    ac3 := fun e => by omega }
theorem rise_sub {s : Int} (h1 : Rise vo) (h2 : ∀ x ∈ vo, x ∈ to_) (hs : s ∈ to_) : (insI s vo).length ≤ to_.length := sub_len (rising_insI h1) fun x hx => (mem_insI.1 hx).elim (fun e => e ▸ hs) (h2 x)
theorem TI.vote (h : TI n tx 2 re sq op sh at_ mo to_ vo ac go) {s : Int} (hs : s ∈ to_) (hl : (insI s vo).length < to_.length) : TI n tx 2 re sq op sh at_ mo to_ (insI s vo) ac go :=
  { h with
    vo1 := rising_insI h.vo1
    vo2 := fun x hx => (mem_insI.1 hx).elim (fun e => e ▸ hs) (h.vo2 x)
    vo3 := fun e => by omega
    vo4 := fun _ => hl
    vo5 := fun e => by omega }
theorem TI.votes (h : TI n tx 2 re sq op sh at_ mo to_ vo ac go) {s : Int} (hs : s ∈ to_) (hl : ¬ (insI s vo).length < to_.length) : TI n tx 3 0 sq false sh at_ mo to_ (insI s vo) ac go := by
  have := rise_sub h.vo1 h.vo2 hs
  exact { h with
    hst := by omega
    hre := by omega
    hre4 := by omega
    hop := fun e => by cases e
    vo1 := rising_insI h.vo1
    vo2 := fun x hx => (mem_insI.1 hx).elim (fun e => e ▸ hs) (h.vo2 x)
    vo3 := fun _ => by omega
    vo4 := fun e => by omega
    vo5 := fun e => by omega
    ac3 := fun e => by omega }
theorem TI.ack (h : TI n tx st re sq op sh at_ mo to_ vo ac go) (hd : st = 3 ∨ st = 4) {s : Int} (hs : s ∈ to_) : TI n tx st re sq op sh at_ mo to_ vo (insI s ac) go :=
  { h with
    ac1 := rising_insI h.ac1
    ac2 := fun x hx => (mem_insI.1 hx).elim (fun e => e ▸ hs) (h.ac2 x)
    ac3 := fun e => by omega }
end
end Go.E
