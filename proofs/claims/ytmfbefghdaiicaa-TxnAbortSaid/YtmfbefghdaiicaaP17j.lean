/- A transaction that isn't decided can be aborted: the law's code says true. -/
import Derived.Test.YtmfbefghdaiicaaP17i
import Derived.Test.YtmfbefghdaiicaaH17S
namespace Go.E
open Go
set_option linter.unusedVariables false
set_option linter.unusedSimpArgs false
set_option maxRecDepth 100000
theorem actC_tx {tx st re sq : Int} {op : Bool} {sh : Int} {at_ : Nat → Int} {mo : Int} {to_ vo ac : List Int} {go : List (Nat → Int)} (a : Nat → Int) : (actC tx st re sq op sh at_ mo to_ vo ac go a).1.1 = tx := (actC_stp a).tx
theorem abort17_step {acts : List (Nat → Int)} (hl : acts.length ≤ 60) {k : Nat} {t : T17} (hk : k < acts.length) (h : TIT k t) (h5 : t.1 = 5) :
    ∃ u : T17, abort17_l1 acts (k : Int) t.1 t.2.1 t.2.2.1 t.2.2.2.1 t.2.2.2.2.1 t.2.2.2.2.2.1 t.2.2.2.2.2.2.1 t.2.2.2.2.2.2.2.1 t.2.2.2.2.2.2.2.2.1 t.2.2.2.2.2.2.2.2.2.1 t.2.2.2.2.2.2.2.2.2.2.1 t.2.2.2.2.2.2.2.2.2.2.2 (.inl ((k : Int) + 1, u)) ∧ TIT (k + 1) u ∧ u.1 = 5 := by
  have hki : (k : Int) < (acts.length : Int) := by omega
  have hkr : 0 ≤ (k : Int) ∧ (k : Int) < acts.length := ⟨by omega, by omega⟩
  by_cases hin : 0 ≤ (acts[k]!) 0 ∧ (acts[k]!) 0 ≤ 5
  · obtain ⟨p, q⟩ := act17_is h (by omega) hin
    refine ⟨(actT t (acts[k]!)).1, ?_, actC_TI h _, by rw [← h5]; exact actC_tx _⟩
    unfold abort17_l1
    rw [if_pos hki, Int.toNat_natCast, if_pos hin]
    exact ⟨hkr, p, _, q.symm, step1 (by omega), rfl⟩
  · refine ⟨t, ?_, h.mono (Nat.le_succ k), h5⟩
    unfold abort17_l1
    rw [if_pos hki, Int.toNat_natCast, if_neg hin]
    exact ⟨hkr, by omega, by omega, by omega, by omega, by omega, by omega, step1 (by omega), rfl⟩
theorem abort17_last {n : Nat} {t : T17} (h : TIT n t) (hn : n ≤ 1000) (h5 : t.1 = 5) {reason : Int} (hr : 0 ≤ reason ∧ reason ≤ 255) :
    abort17_k1a reason t.1 t.2.1 t.2.2.1 t.2.2.2.1 t.2.2.2.2.1 t.2.2.2.2.2.1 t.2.2.2.2.2.2.1 t.2.2.2.2.2.2.2.1 t.2.2.2.2.2.2.2.2.1 t.2.2.2.2.2.2.2.2.2.1 t.2.2.2.2.2.2.2.2.2.2.1 t.2.2.2.2.2.2.2.2.2.2.2 true := by
  have hw : IntKind.i64.wrap reason = reason := wrap_id ⟨by omega, by omega⟩
  have hm : reason.tmod 5 = reason % 5 := Int.tmod_eq_emod_of_nonneg hr.1
  unfold abort17_k1a
  rw [hw, hm]
  have hb : 1 ≤ 1 + reason % 5 ∧ 1 + reason % 5 ≤ 5 := by omega
  generalize 1 + reason % 5 = x at hb
  obtain ⟨p, q⟩ := tabort_is h (by omega) x
  refine ⟨⟨by omega, by omega⟩, p, _, rfl, ?_⟩
  rw [q]
  unfold abortC
  rw [if_pos hb]
  by_cases hd : t.2.1 = 3 ∨ t.2.1 = 4
  · rw [if_pos (tdec_iff.2 hd), if_pos hd]; rfl
  · rw [if_neg (fun e => hd (tdec_iff.1 e)), if_neg hd]
    dsimp only
    rw [if_neg (by simp)]
    refine ⟨.inl (), ?_, rfl⟩
    have hl : t.2.2.2.2.2.2.2.2.1.length ≤ 64 := h.lto
    generalize t.2.2.2.2.2.2.2.2.1 = to_ at hl
    rw [h5]
    have := Wh.all (f := fun (s : Int) (o : Int ⊕ (Unit ⊕ Unit)) => abort17_l2 to_ ((5, 4, x, t.2.2.2.1, false, t.2.2.2.2.2.1, t.2.2.2.2.2.2.1, t.2.2.2.2.2.2.2.1, to_, t.2.2.2.2.2.2.2.2.2.1, t.2.2.2.2.2.2.2.2.2.2.1, t.2.2.2.2.2.2.2.2.2.2.2), to_.map (toMsg 5 6 0), 0) s o) to_.length (fun _ => true) (.inl ()) (.inr ()) (fun k hk _ => by
      unfold abort17_l2
      dsimp only
      rw [if_pos (by simp; omega), Int.toNat_natCast]
      refine ⟨⟨by omega, by simp; omega⟩, ⟨by omega, by omega⟩, ?_⟩
      rw [if_pos]
      · exact ⟨step1 (by omega), rfl⟩
      · rw [show (to_.map (toMsg 5 6 0))[k]! = toMsg 5 6 0 (to_[k]!) from by simp [hk]]
        refine eqN_iff.2 fun i hi => ?_
        simp only [toMsg, updI]
        repeat' split
        all_goals omega) (fun k hk h => by cases h) (by
      unfold abort17_l2
      dsimp only
      rw [if_neg (by simp)])
    rw [if_pos (by simp)] at this
    exact this
theorem abort17_all (acts : List (Nat → Int)) (reason : Int) (hr : 0 ≤ reason ∧ reason ≤ 255) : abort17_S acts reason true := by
  unfold abort17_S
  rw [if_pos (show alive17_F = true from rfl)]
  by_cases hl : 60 < (acts.length : Int)
  · rw [if_pos hl]
  rw [if_neg hl, new5]
  dsimp only
  rw [if_pos rfl]
  obtain ⟨x, hx, k, hk, hT, h5⟩ := Wh.by (f := fun (s : Int × T17) (o : (Int × T17) ⊕ T17) => abort17_l1 acts s.1 s.2.1 s.2.2.1 s.2.2.2.1 s.2.2.2.2.1 s.2.2.2.2.2.1 s.2.2.2.2.2.2.1 s.2.2.2.2.2.2.2.1 s.2.2.2.2.2.2.2.2.1 s.2.2.2.2.2.2.2.2.2.1 s.2.2.2.2.2.2.2.2.2.2.1 s.2.2.2.2.2.2.2.2.2.2.2.1 s.2.2.2.2.2.2.2.2.2.2.2.2 o)
      (fun s => ∃ k : Nat, s.1 = (k : Int) ∧ k ≤ acts.length ∧ TIT k s.2 ∧ s.2.1 = 5) (fun s => acts.length - s.1.toNat) (fun r => ∃ k : Nat, k ≤ acts.length ∧ TIT k r ∧ r.1 = 5) (s := (0, t5)) ⟨0, rfl, by omega, t5_TI, rfl⟩ (by
    rintro ⟨i, t⟩ ⟨k, hk, hle, hT, h5⟩
    dsimp only at hk hT h5
    subst hk
    by_cases hlt : k < acts.length
    · left
      obtain ⟨u, h1, h2, h3⟩ := abort17_step (by omega) hlt hT h5
      exact ⟨((k : Int) + 1, u), h1, ⟨k + 1, by simp, hlt, h2, h3⟩, by dsimp only; omega⟩
    · right
      refine ⟨t, ?_, k, hle, hT, h5⟩
      dsimp only
      unfold abort17_l1
      rw [if_neg (by omega)])
  exact ⟨x, hx, abort17_last hT (by omega) h5 hr⟩
end Go.E
