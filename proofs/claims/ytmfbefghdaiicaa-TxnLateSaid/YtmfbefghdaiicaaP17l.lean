/- What comes late to a transaction, or twice: the law's code says true. -/
import Derived.Test.YtmfbefghdaiicaaP17i
import Derived.Test.YtmfbefghdaiicaaG17S
namespace Go.E
open Go
set_option linter.unusedVariables false
set_option linter.unusedSimpArgs false
set_option maxRecDepth 100000
theorem same17_self {n : Nat} {tx st re sq : Int} {op : Bool} {sh : Int} {at_ : Nat → Int} {mo : Int} {to_ vo ac : List Int} {go : List (Nat → Int)} (h : TI n tx st re sq op sh at_ mo to_ vo ac go) (hn : n ≤ 1000000) :
    same17_P tx st re sq op sh at_ mo to_ vo ac go tx st re sq op sh at_ mo to_ vo ac go ∧ same17_F tx st re sq op sh at_ mo to_ vo ac go tx st re sq op sh at_ mo to_ vo ac go = true := by
  have h1 := h.lto
  have h2 := h.lvo
  have h3 := h.lac
  have h4 := h.hgo
  have he : eqN 2 at_ at_ = true := eqN_iff.2 fun _ _ => rfl
  unfold same17_P same17_F
  have hc : ¬ ((((((((!(decide (tx = tx))) || (!(decide (st = st)))) || (!(decide (re = re)))) || (!(decide (sq = sq)))) || (!(((op) == (op))))) || (!(decide (sh = sh)))) || (!((eqN 2 at_ at_)))) || (!(decide (mo = mo)))) = true := by
    rw [he]; simp
  rw [if_neg hc, if_neg hc]
  refine ⟨⟨by unfold ints_P; omega, fun _ => by unfold ints_P; omega, fun _ => by unfold ints_P; omega, fun _ => by unfold grants_P; omega, trivial⟩, ?_⟩
  rw [ints_self, ints_self, ints_self, grants_self]; rfl
theorem same17_T {n : Nat} {t : T17} (h : TIT n t) (hn : n ≤ 1000000) :
    same17_P t.1 t.2.1 t.2.2.1 t.2.2.2.1 t.2.2.2.2.1 t.2.2.2.2.2.1 t.2.2.2.2.2.2.1 t.2.2.2.2.2.2.2.1 t.2.2.2.2.2.2.2.2.1 t.2.2.2.2.2.2.2.2.2.1 t.2.2.2.2.2.2.2.2.2.2.1 t.2.2.2.2.2.2.2.2.2.2.2 t.1 t.2.1 t.2.2.1 t.2.2.2.1 t.2.2.2.2.1 t.2.2.2.2.2.1 t.2.2.2.2.2.2.1 t.2.2.2.2.2.2.2.1 t.2.2.2.2.2.2.2.2.1 t.2.2.2.2.2.2.2.2.2.1 t.2.2.2.2.2.2.2.2.2.2.1 t.2.2.2.2.2.2.2.2.2.2.2 ∧ same17_F t.1 t.2.1 t.2.2.1 t.2.2.2.1 t.2.2.2.2.1 t.2.2.2.2.2.1 t.2.2.2.2.2.2.1 t.2.2.2.2.2.2.2.1 t.2.2.2.2.2.2.2.2.1 t.2.2.2.2.2.2.2.2.2.1 t.2.2.2.2.2.2.2.2.2.2.1 t.2.2.2.2.2.2.2.2.2.2.2 t.1 t.2.1 t.2.2.1 t.2.2.2.1 t.2.2.2.2.1 t.2.2.2.2.2.1 t.2.2.2.2.2.2.1 t.2.2.2.2.2.2.2.1 t.2.2.2.2.2.2.2.2.1 t.2.2.2.2.2.2.2.2.2.1 t.2.2.2.2.2.2.2.2.2.2.1 t.2.2.2.2.2.2.2.2.2.2.2 = true := same17_self h hn
theorem late17_step {acts : List (Nat → Int)} (hl : acts.length ≤ 60) {k : Nat} {t : T17} (hk : k < acts.length) (h : TIT k t) :
    ∃ u : T17, late17_l1 acts (k : Int) t.1 t.2.1 t.2.2.1 t.2.2.2.1 t.2.2.2.2.1 t.2.2.2.2.2.1 t.2.2.2.2.2.2.1 t.2.2.2.2.2.2.2.1 t.2.2.2.2.2.2.2.2.1 t.2.2.2.2.2.2.2.2.2.1 t.2.2.2.2.2.2.2.2.2.2.1 t.2.2.2.2.2.2.2.2.2.2.2 (.inl ((k : Int) + 1, u)) ∧ TIT (k + 1) u := by
  have hki : (k : Int) < (acts.length : Int) := by omega
  have hkr : 0 ≤ (k : Int) ∧ (k : Int) < acts.length := ⟨by omega, by omega⟩
  by_cases hin : 0 ≤ (acts[k]!) 0 ∧ (acts[k]!) 0 ≤ 5
  · obtain ⟨p, q⟩ := act17_is h (by omega) hin
    refine ⟨(actT t (acts[k]!)).1, ?_, actC_TI h _⟩
    unfold late17_l1
    rw [if_pos hki, Int.toNat_natCast, if_pos hin]
    exact ⟨hkr, p, _, q.symm, step1 (by omega), rfl⟩
  · refine ⟨t, ?_, h.mono (Nat.le_succ k)⟩
    unfold late17_l1
    rw [if_pos hki, Int.toNat_natCast, if_neg hin]
    exact ⟨hkr, by omega, by omega, by omega, by omega, by omega, by omega, step1 (by omega), rfl⟩
theorem late17_last {n : Nat} {t : T17} (h : TIT n t) (hn : n ≤ 1000) (a : Nat → Int) :
    late17_k1a a t.1 t.2.1 t.2.2.1 t.2.2.2.1 t.2.2.2.2.1 t.2.2.2.2.2.1 t.2.2.2.2.2.2.1 t.2.2.2.2.2.2.2.1 t.2.2.2.2.2.2.2.2.1 t.2.2.2.2.2.2.2.2.2.1 t.2.2.2.2.2.2.2.2.2.2.1 t.2.2.2.2.2.2.2.2.2.2.2 true := by
  unfold late17_k1a
  by_cases hin : 0 ≤ a 0 ∧ a 0 ≤ 5
  · rw [if_pos hin]
    obtain ⟨p, q⟩ := act17_is h (by omega) hin
    have hI : TIT (n + 1) (actT t a).1 := actC_TI h a
    obtain ⟨p2, q2⟩ := act17_is hI (by omega) hin
    have q' : actT t a = act17_F t.1 t.2.1 t.2.2.1 t.2.2.2.1 t.2.2.2.2.1 t.2.2.2.2.2.1 t.2.2.2.2.2.2.1 t.2.2.2.2.2.2.2.1 t.2.2.2.2.2.2.2.2.1 t.2.2.2.2.2.2.2.2.2.1 t.2.2.2.2.2.2.2.2.2.2.1 t.2.2.2.2.2.2.2.2.2.2.2 a := q.symm
    refine ⟨p, actT t a, q', ?_⟩
    have key : a 0 ≠ 0 → (actT (actT t a).1 a).1 = (actT t a).1 ∧ (actT (actT t a).1 a).2.1 = [] := fun hk => actT_again h hk
    by_cases hd : t.2.1 = 3 ∨ t.2.1 = 4
    · rw [if_pos (tdec_iff.2 hd)]
      by_cases h5 : a 0 = 5
      · rw [if_pos h5]
        refine ⟨p2, actT (actT t a).1 a, q2.symm, ?_⟩
        obtain ⟨k1, k2⟩ := key (by omega)
        rw [k1, k2]
        obtain ⟨s1, s2⟩ := same17_T hI (by omega)
        refine ⟨s1, ?_⟩
        rw [if_pos s2]
        rfl
      · rw [if_neg h5]
        obtain ⟨d1, d2⟩ := actT_dec (tx := t.1) (st := t.2.1) (re := t.2.2.1) (sq := t.2.2.2.1) (op := t.2.2.2.2.1) (sh := t.2.2.2.2.2.1) (at_ := t.2.2.2.2.2.2.1) (mo := t.2.2.2.2.2.2.2.1) (to_ := t.2.2.2.2.2.2.2.2.1) (vo := t.2.2.2.2.2.2.2.2.2.1) (ac := t.2.2.2.2.2.2.2.2.2.2.1) (go := t.2.2.2.2.2.2.2.2.2.2.2) hd h5
        have d1' : (actT t a).1 = t := d1
        have d2' : (actT t a).2.1 = [] := d2
        obtain ⟨s1, s2⟩ := same17_T h (by omega)
        rw [d1'] at key p2 q2 ⊢
        rw [d2']
        refine ⟨s1, ?_⟩
        rw [if_pos s2, if_pos (show (([] : List (Nat → Int)).length : Int) = 0 from rfl)]
        refine ⟨p2, actT t a, q2.symm, ?_⟩
        by_cases h0 : a 0 = 0
        · rw [if_pos h0]
        · rw [if_neg h0]
          rw [d1', d2']
          refine ⟨s1, ?_⟩
          rw [if_pos s2]
          rfl
    · rw [if_neg (fun e => hd (tdec_iff.1 e))]
      refine ⟨p2, actT (actT t a).1 a, q2.symm, ?_⟩
      by_cases h0 : a 0 = 0
      · rw [if_pos h0]
      · rw [if_neg h0]
        obtain ⟨k1, k2⟩ := key h0
        rw [k1, k2]
        obtain ⟨s1, s2⟩ := same17_T hI (by omega)
        refine ⟨s1, ?_⟩
        rw [if_pos s2]
        rfl
  · rw [if_neg hin]
    refine ⟨by omega, by omega, by omega, by omega, by omega, by omega, ?_⟩
    obtain ⟨s1, s2⟩ := same17_T h (by omega)
    by_cases hd : t.2.1 = 3 ∨ t.2.1 = 4
    · rw [if_pos (tdec_iff.2 hd)]
      refine ⟨s1, ?_⟩
      rw [if_pos s2]
      exact ⟨s1, rfl⟩
    · rw [if_neg (fun e => hd (tdec_iff.1 e))]
      refine ⟨s1, ?_⟩
      rw [if_pos s2]
theorem late17_all (acts : List (Nat → Int)) (a : Nat → Int) : late17_S acts a true := by
  unfold late17_S
  rw [if_pos (show alive17_F = true from rfl)]
  by_cases hl : 60 < (acts.length : Int)
  · rw [if_pos hl]
  rw [if_neg hl, new5]
  dsimp only
  rw [if_pos rfl]
  obtain ⟨x, hx, k, hk, hT⟩ := Wh.by (f := fun (s : Int × T17) (o : (Int × T17) ⊕ T17) => late17_l1 acts s.1 s.2.1 s.2.2.1 s.2.2.2.1 s.2.2.2.2.1 s.2.2.2.2.2.1 s.2.2.2.2.2.2.1 s.2.2.2.2.2.2.2.1 s.2.2.2.2.2.2.2.2.1 s.2.2.2.2.2.2.2.2.2.1 s.2.2.2.2.2.2.2.2.2.2.1 s.2.2.2.2.2.2.2.2.2.2.2.1 s.2.2.2.2.2.2.2.2.2.2.2.2 o)
      (fun s => ∃ k : Nat, s.1 = (k : Int) ∧ k ≤ acts.length ∧ TIT k s.2) (fun s => acts.length - s.1.toNat) (fun r => ∃ k : Nat, k ≤ acts.length ∧ TIT k r) (s := (0, t5)) ⟨0, rfl, by omega, t5_TI⟩ (by
    rintro ⟨i, t⟩ ⟨k, hk, hle, hT⟩
    dsimp only at hk hT
    subst hk
    by_cases hlt : k < acts.length
    · left
      obtain ⟨u, h1, h2⟩ := late17_step (by omega) hlt hT
      exact ⟨((k : Int) + 1, u), h1, ⟨k + 1, by simp, hlt, h2⟩, by dsimp only; omega⟩
    · right
      refine ⟨t, ?_, k, hle, hT⟩
      dsimp only
      unfold late17_l1
      rw [if_neg (by omega)])
  exact ⟨x, hx, late17_last hT (by omega) a⟩
end Go.E
