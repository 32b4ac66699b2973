/- Transactions: what is sent, and what comes twice. -/
import Derived.Test.YtmfbefghdaiicaaP17g
import Derived.Test.YtmfbefghdaiicaaL4
namespace Go.E
open Go
set_option linter.unusedVariables false
set_option linter.unusedSimpArgs false
set_option maxRecDepth 100000
def t5 : T17 := (5, 1, 0, 0, false, 0, (fun _ => 0), 0, [], [], [], [])
theorem new5 : tnew_F 5 = (t5, 0) := by rw [tnew_is, if_pos (by omega)]; rfl
theorem t5_TI : TIT 0 t5 := new_TI (t := 5) (by omega)
theorem insI_in {l : List Int} {x : Int} (h : Rise l) (hx : x ∈ l) : insI x l = l :=
  rising_ext (rising_insI h) h fun y => by rw [mem_insI]; exact ⟨fun e => e.elim (fun e => e ▸ hx) id, .inr⟩
theorem insI_two {l : List Int} {x : Int} (h : Rise l) : insI x (insI x l) = insI x l := insI_in (rising_insI h) (mem_insI.2 (.inl rfl))
section
variable {n : Nat} {tx st re sq : Int} {op : Bool} {sh : Int} {at_ : Nat → Int} {mo : Int} {to_ vo ac : List Int} {go : List (Nat → Int)}
/-! ### What is sent -/
/-- The messages of a step are for those that are touched then. -/
def SndT (r : T17 × List (Nat → Int) × Int) : Prop := (∀ m ∈ r.2.1, Snd r.1.1 r.1.2.2.2.2.2.2.2.2.1 m) ∧ r.2.1.length ≤ 64
theorem sndT_nil {t : T17} {e : Int} : SndT (t, [], e) := ⟨fun m hm => by simp at hm, by simp⟩
theorem askC_snd (h : TI n tx st re sq op sh at_ mo to_ vo ac go) (s : Int) (a : Nat → Int) (m : Int) : SndT (askC tx st re sq op sh at_ mo to_ vo ac go s a m) := by
  unfold askC
  by_cases hb : (1 ≤ s ∧ s ≤ 64) ∧ resOk_F a = true ∧ (1 ≤ m ∧ m ≤ 4)
  · rw [if_pos hb]
    by_cases hs : st = 1
    · rw [if_pos hs]
      cases op with
      | true => rw [if_pos rfl]; exact sndT_nil
      | false =>
        rw [if_neg Bool.false_ne_true]
        by_cases h6 : sq = 1048576
        · rw [if_pos h6]; exact sndT_nil
        · rw [if_neg h6]
          subst hs
          refine ⟨fun x hx => ?_, by simp⟩
          rw [List.mem_singleton.1 hx]
          exact snd_lock (h.ask h6 hb.1 hb.2.1 hb.2.2)
    · rw [if_neg hs]; exact sndT_nil
  · rw [if_neg hb]; exact sndT_nil
theorem sndT_all {t : T17} {kind code e : Int} (hk : (kind = 4 ∨ kind = 8) ∧ code = 0 ∨ kind = 6 ∧ 0 ≤ code ∧ code ≤ 1) (ht : 1 ≤ t.1 ∧ t.1 ≤ 1048576) (h1 : Rise t.2.2.2.2.2.2.2.2.1) (h2 : ∀ s ∈ t.2.2.2.2.2.2.2.2.1, 1 ≤ s ∧ s ≤ 64) : SndT (t, t.2.2.2.2.2.2.2.2.1.map (toMsg t.1 kind code), e) :=
  ⟨fun m hm => snd_all hk ht (fun _ h => h) h2 hm, by simp only [List.length_map]; exact len64 h1 h2⟩
theorem finC_snd (h : TI n tx st re sq op sh at_ mo to_ vo ac go) : SndT (finC tx st re sq op sh at_ mo to_ vo ac go) := by
  unfold finC
  by_cases hs : st = 1
  · rw [if_pos hs]
    cases op with
    | true => rw [if_pos rfl]; exact sndT_nil
    | false =>
      rw [if_neg Bool.false_ne_true]
      by_cases ht : to_ = []
      · rw [if_pos ht]
        exact sndT_all (t := (tx, 3, 0, sq, false, sh, at_, mo, to_, vo, ac, go)) (.inr ⟨rfl, by omega, by omega⟩) h.htx h.to1 h.to2
      · rw [if_neg ht]
        exact sndT_all (t := (tx, 2, re, sq, false, sh, at_, mo, to_, vo, ac, go)) (.inl ⟨.inl rfl, rfl⟩) h.htx h.to1 h.to2
  · rw [if_neg hs]; exact sndT_nil
theorem voteC_snd (h : TI n tx st re sq op sh at_ mo to_ vo ac go) (m : Nat → Int) : SndT (voteC tx st re sq op sh at_ mo to_ vo ac go m) := by
  unfold voteC
  by_cases hf : Form tx 5 m
  · rw [if_pos hf]
    by_cases hs : st = 2
    · rw [if_pos hs]
      by_cases hm : m 1 ∈ to_
      · rw [if_pos hm]
        by_cases h8 : m 8 = 0
        · rw [if_pos h8]
          exact sndT_all (t := (tx, 4, 2, sq, false, sh, at_, mo, to_, vo, ac, go)) (.inr ⟨rfl, by omega, by omega⟩) h.htx h.to1 h.to2
        · rw [if_neg h8]
          by_cases hl : (insI (m 1) vo).length < to_.length
          · rw [if_pos hl]; exact sndT_nil
          · rw [if_neg hl]
            exact sndT_all (t := (tx, 3, 0, sq, false, sh, at_, mo, to_, insI (m 1) vo, ac, go)) (.inr ⟨rfl, by omega, by omega⟩) h.htx h.to1 h.to2
      · rw [if_neg hm]; exact sndT_nil
    · rw [if_neg hs]; exact sndT_nil
  · rw [if_neg hf]; exact sndT_nil
theorem abortC_snd (h : TI n tx st re sq op sh at_ mo to_ vo ac go) (r : Int) : SndT (abortC tx st re sq op sh at_ mo to_ vo ac go r) := by
  unfold abortC
  by_cases hr : 1 ≤ r ∧ r ≤ 5
  · rw [if_pos hr]
    by_cases hd : st = 3 ∨ st = 4
    · rw [if_pos hd]; exact sndT_nil
    · rw [if_neg hd]
      exact sndT_all (t := (tx, 4, r, sq, false, sh, at_, mo, to_, vo, ac, go)) (.inr ⟨rfl, by omega, by omega⟩) h.htx h.to1 h.to2
  · rw [if_neg hr]; exact sndT_nil
theorem actC_snd (h : TI n tx st re sq op sh at_ mo to_ vo ac go) (a : Nat → Int) : SndT (actC tx st re sq op sh at_ mo to_ vo ac go a) := by
  unfold actC
  by_cases h0 : a 0 = 0
  · rw [if_pos h0]; exact askC_snd h _ _ _
  rw [if_neg h0]
  by_cases h1 : a 0 = 1
  · rw [if_pos h1]; exact sndT_nil
  rw [if_neg h1]
  by_cases h2 : a 0 = 2
  · rw [if_pos h2]; exact finC_snd h
  rw [if_neg h2]
  by_cases h3 : a 0 = 3
  · rw [if_pos h3]; exact voteC_snd h _
  rw [if_neg h3]
  by_cases h4 : a 0 = 4
  · rw [if_pos h4]; exact abortC_snd h _
  rw [if_neg h4]
  by_cases h5 : a 0 = 5
  · rw [if_pos h5]; exact sndT_nil
  rw [if_neg h5]
  exact sndT_nil
theorem mem_leftL {l but : List Int} {x : Int} (h : x ∈ leftL l but) : x ∈ l := (List.mem_filter.1 h).1
theorem againC_snd (h : TI n tx st re sq op sh at_ mo to_ vo ac go) (b : Bool) : (∀ m ∈ againC tx st sq op sh at_ mo to_ vo ac b, Snd tx to_ m) ∧ (againC tx st sq op sh at_ mo to_ vo ac b).length ≤ 65 := by
  have h1 := h.lto
  have hv := Nat.le_trans (leftL_len to_ vo) h1
  have ha := Nat.le_trans (leftL_len to_ ac) h1
  unfold againC
  by_cases s1 : st = 1
  · rw [if_pos s1]
    refine ⟨fun m hm => ?_, ?_⟩
    · rcases List.mem_append.1 hm with hm | hm
      · cases op with
        | true =>
          rw [if_pos rfl] at hm
          rw [List.mem_singleton.1 hm]
          exact snd_lock h
        | false => rw [if_neg Bool.false_ne_true] at hm; simp at hm
      · cases b with
        | true => rw [if_pos rfl] at hm; exact snd_all (.inl ⟨.inr rfl, rfl⟩) h.htx (fun _ h => h) h.to2 hm
        | false => rw [if_neg Bool.false_ne_true] at hm; simp at hm
    · cases op <;> cases b <;> simp <;> omega
  rw [if_neg s1]
  by_cases s2 : st = 2
  · rw [if_pos s2]
    exact ⟨fun m hm => snd_all (.inl ⟨.inl rfl, rfl⟩) h.htx (fun _ h => mem_leftL h) h.to2 hm, by simp; omega⟩
  rw [if_neg s2]
  by_cases s3 : st = 3
  · rw [if_pos s3]
    exact ⟨fun m hm => snd_all (.inr ⟨rfl, by omega, by omega⟩) h.htx (fun _ h => mem_leftL h) h.to2 hm, by simp; omega⟩
  rw [if_neg s3]
  by_cases s4 : st = 4
  · rw [if_pos s4]
    exact ⟨fun m hm => snd_all (.inr ⟨rfl, by omega, by omega⟩) h.htx (fun _ h => mem_leftL h) h.to2 hm, by simp; omega⟩
  rw [if_neg s4]
  exact ⟨fun m hm => by simp at hm, by simp⟩
theorem over_again (b : Bool) (h : overC st to_ ac = true) : againC tx st sq op sh at_ mo to_ vo ac b = [] := by
  unfold overC at h
  simp only [Bool.and_eq_true, decide_eq_true_eq] at h
  unfold againC
  rcases h.1 with s | s
  · rw [if_neg (by omega), if_neg (by omega), if_pos s, h.2]; rfl
  · rw [if_neg (by omega), if_neg (by omega), if_neg (by omega), if_pos s, h.2]; rfl
/-! ### What comes twice -/
def actT (t : T17) (a : Nat → Int) : T17 × List (Nat → Int) × Int := actC t.1 t.2.1 t.2.2.1 t.2.2.2.1 t.2.2.2.2.1 t.2.2.2.2.2.1 t.2.2.2.2.2.2.1 t.2.2.2.2.2.2.2.1 t.2.2.2.2.2.2.2.2.1 t.2.2.2.2.2.2.2.2.2.1 t.2.2.2.2.2.2.2.2.2.2.1 t.2.2.2.2.2.2.2.2.2.2.2 a
theorem actT_dec (h : st = 3 ∨ st = 4) {a : Nat → Int} (hk : a 0 ≠ 5) : (actC tx st re sq op sh at_ mo to_ vo ac go a).1 = (tx, st, re, sq, op, sh, at_, mo, to_, vo, ac, go) ∧ (actC tx st re sq op sh at_ mo to_ vo ac go a).2.1 = [] := by
  unfold actC
  by_cases h0 : a 0 = 0
  · rw [if_pos h0]
    unfold askC
    by_cases hb : (1 ≤ a 1 ∧ a 1 ≤ 64) ∧ resOk_F (fun i => a (2 + i)) = true ∧ (1 ≤ a 4 ∧ a 4 ≤ 4)
    · rw [if_pos hb, if_neg (by omega)]; exact ⟨rfl, rfl⟩
    · rw [if_neg hb]; exact ⟨rfl, rfl⟩
  rw [if_neg h0]
  by_cases h1 : a 0 = 1
  · rw [if_pos h1]
    unfold ansC
    by_cases hf : Form tx 2 (fun i => a (5 + i)) ∨ Form tx 3 (fun i => a (5 + i))
    · rw [if_pos hf, if_neg (by omega)]; exact ⟨rfl, rfl⟩
    · rw [if_neg hf]; exact ⟨rfl, rfl⟩
  rw [if_neg h1]
  by_cases h2 : a 0 = 2
  · rw [if_pos h2]
    unfold finC
    rw [if_neg (by omega)]; exact ⟨rfl, rfl⟩
  rw [if_neg h2]
  by_cases h3 : a 0 = 3
  · rw [if_pos h3]
    unfold voteC
    by_cases hf : Form tx 5 (fun i => a (5 + i))
    · rw [if_pos hf, if_neg (by omega)]; exact ⟨rfl, rfl⟩
    · rw [if_neg hf]; exact ⟨rfl, rfl⟩
  rw [if_neg h3]
  by_cases h4 : a 0 = 4
  · rw [if_pos h4]
    unfold abortC
    by_cases hr : 1 ≤ a 1 ∧ a 1 ≤ 5
    · rw [if_pos hr, if_pos h]; exact ⟨rfl, rfl⟩
    · rw [if_neg hr]; exact ⟨rfl, rfl⟩
  rw [if_neg h4, if_neg hk]
  exact ⟨rfl, rfl⟩
/-- Nothing changes, or a second time changes nothing. -/
theorem actT_two (h : TI n tx st re sq op sh at_ mo to_ vo ac go) {a : Nat → Int} (hk : a 0 ≠ 0) :
    ((actC tx st re sq op sh at_ mo to_ vo ac go a).1 = (tx, st, re, sq, op, sh, at_, mo, to_, vo, ac, go) ∧ (actC tx st re sq op sh at_ mo to_ vo ac go a).2.1 = []) ∨
    ∀ u, u = (actC tx st re sq op sh at_ mo to_ vo ac go a).1 → (actT u a).1 = u ∧ (actT u a).2.1 = [] := by
  by_cases h1 : a 0 = 1
  · have e : ∀ tx st re sq op sh at_ mo to_ vo ac go, actC tx st re sq op sh at_ mo to_ vo ac go a = ((ansC tx st re sq op sh at_ mo to_ vo ac go fun i => a (5 + i)).1, [], (ansC tx st re sq op sh at_ mo to_ vo ac go fun i => a (5 + i)).2) := fun tx st re sq op sh at_ mo to_ vo ac go => by unfold actC; rw [if_neg hk, if_pos h1]
    unfold actT
    simp only [e]
    unfold ansC
    by_cases hf : Form tx 2 (fun i => a (5 + i)) ∨ Form tx 3 (fun i => a (5 + i))
    · by_cases hs : st = 1
      · by_cases hc : op = true ∧ a (5 + 4) = sq ∧ a (5 + 1) = sh ∧ (a (5 + 0) = 2 → eqN 2 (fun i => a (5 + (5 + i))) at_ = true)
        · right
          intro u hu
          rw [if_pos hf, if_pos hs, if_pos hc] at hu
          subst hu
          dsimp only
          rw [if_pos hf, if_pos hs, if_neg (fun e => Bool.false_ne_true e.1)]
          exact ⟨rfl, trivial⟩
        · left
          rw [if_pos hf, if_pos hs, if_neg hc]; exact ⟨rfl, trivial⟩
      · left
        rw [if_pos hf, if_neg hs]; exact ⟨rfl, trivial⟩
    · left
      rw [if_neg hf]; exact ⟨rfl, trivial⟩
  by_cases h2 : a 0 = 2
  · have e : ∀ tx st re sq op sh at_ mo to_ vo ac go, actC tx st re sq op sh at_ mo to_ vo ac go a = finC tx st re sq op sh at_ mo to_ vo ac go := fun tx st re sq op sh at_ mo to_ vo ac go => by unfold actC; rw [if_neg hk, if_neg h1, if_pos h2]
    unfold actT
    simp only [e]
    unfold finC
    by_cases hs : st = 1
    · cases op with
      | true => left; rw [if_pos hs, if_pos rfl]; exact ⟨rfl, rfl⟩
      | false =>
        right
        intro u hu
        rw [if_pos hs, if_neg Bool.false_ne_true] at hu
        by_cases ht : to_ = []
        · rw [if_pos ht] at hu
          subst hu
          dsimp only
          rw [if_neg (by decide)]; exact ⟨rfl, rfl⟩
        · rw [if_neg ht] at hu
          subst hu
          dsimp only
          rw [if_neg (by decide)]; exact ⟨rfl, rfl⟩
    · left; rw [if_neg hs]; exact ⟨rfl, rfl⟩
  by_cases h3 : a 0 = 3
  · have e : ∀ tx st re sq op sh at_ mo to_ vo ac go, actC tx st re sq op sh at_ mo to_ vo ac go a = voteC tx st re sq op sh at_ mo to_ vo ac go fun i => a (5 + i) := fun tx st re sq op sh at_ mo to_ vo ac go => by unfold actC; rw [if_neg hk, if_neg h1, if_neg h2, if_pos h3]
    unfold actT
    simp only [e]
    unfold voteC
    by_cases hf : Form tx 5 (fun i => a (5 + i))
    · by_cases hs : st = 2
      · by_cases hm : a (5 + 1) ∈ to_
        · right
          intro u hu
          rw [if_pos hf, if_pos hs, if_pos hm] at hu
          by_cases h8 : a (5 + 8) = 0
          · rw [if_pos h8] at hu
            subst hu
            dsimp only
            rw [if_pos hf, if_neg (by decide)]; exact ⟨rfl, rfl⟩
          · rw [if_neg h8] at hu
            by_cases hl : (insI (a (5 + 1)) vo).length < to_.length
            · rw [if_pos hl] at hu
              subst hu
              dsimp only
              rw [if_pos hf, if_pos hs, if_pos hm, if_neg h8, insI_two h.vo1, if_pos hl]; exact ⟨rfl, rfl⟩
            · rw [if_neg hl] at hu
              subst hu
              dsimp only
              rw [if_pos hf, if_neg (by decide)]; exact ⟨rfl, rfl⟩
        · left
          rw [if_pos hf, if_pos hs, if_neg hm]; exact ⟨rfl, rfl⟩
      · left
        rw [if_pos hf, if_neg hs]; exact ⟨rfl, rfl⟩
    · left
      rw [if_neg hf]; exact ⟨rfl, rfl⟩
  by_cases h4 : a 0 = 4
  · have e : ∀ tx st re sq op sh at_ mo to_ vo ac go, actC tx st re sq op sh at_ mo to_ vo ac go a = abortC tx st re sq op sh at_ mo to_ vo ac go (a 1) := fun tx st re sq op sh at_ mo to_ vo ac go => by unfold actC; rw [if_neg hk, if_neg h1, if_neg h2, if_neg h3, if_pos h4]
    unfold actT
    simp only [e]
    unfold abortC
    by_cases hr : 1 ≤ a 1 ∧ a 1 ≤ 5
    · by_cases hd : st = 3 ∨ st = 4
      · left
        rw [if_pos hr, if_pos hd]; exact ⟨rfl, rfl⟩
      · right
        intro u hu
        rw [if_pos hr, if_neg hd] at hu
        subst hu
        dsimp only
        rw [if_pos hr, if_pos (.inr rfl)]; exact ⟨rfl, rfl⟩
    · left
      rw [if_neg hr]; exact ⟨rfl, rfl⟩
  by_cases h5 : a 0 = 5
  · have e : ∀ tx st re sq op sh at_ mo to_ vo ac go, actC tx st re sq op sh at_ mo to_ vo ac go a = ((ackC tx st re sq op sh at_ mo to_ vo ac go fun i => a (5 + i)).1, [], (ackC tx st re sq op sh at_ mo to_ vo ac go fun i => a (5 + i)).2) := fun tx st re sq op sh at_ mo to_ vo ac go => by unfold actC; rw [if_neg hk, if_neg h1, if_neg h2, if_neg h3, if_neg h4, if_pos h5]
    unfold actT
    simp only [e]
    unfold ackC
    by_cases hf : Form tx 7 (fun i => a (5 + i))
    · by_cases hd : st = 3 ∨ st = 4
      · by_cases hm : a (5 + 1) ∈ to_
        · right
          intro u hu
          rw [if_pos hf, if_pos hd, if_pos hm] at hu
          subst hu
          dsimp only
          rw [if_pos hf, if_pos hd, if_pos hm, insI_two h.ac1]; exact ⟨rfl, trivial⟩
        · left
          rw [if_pos hf, if_pos hd, if_neg hm]; exact ⟨rfl, trivial⟩
      · left
        rw [if_pos hf, if_neg hd]; exact ⟨rfl, trivial⟩
    · left
      rw [if_neg hf]; exact ⟨rfl, trivial⟩
  left
  unfold actC
  rw [if_neg hk, if_neg h1, if_neg h2, if_neg h3, if_neg h4, if_neg h5]
  exact ⟨rfl, rfl⟩
theorem actT_again {t : T17} (h : TIT n t) {a : Nat → Int} (hk : a 0 ≠ 0) : (actT (actT t a).1 a).1 = (actT t a).1 ∧ (actT (actT t a).1 a).2.1 = [] := by
  rcases actT_two h hk with ⟨h1, h2⟩ | h1
  · have e : (actT t a).1 = t := h1
    have e2 : (actT t a).2.1 = [] := h2
    rw [e]
    exact ⟨e, e2⟩
  · exact h1 _ rfl
end
end Go.E
