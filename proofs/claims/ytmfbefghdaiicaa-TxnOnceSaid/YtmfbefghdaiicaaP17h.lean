/- A transaction is decided once: the law's code says true. -/
import Derived.Test.YtmfbefghdaiicaaP17g
import Derived.Test.YtmfbefghdaiicaaF17S
namespace Go.E
open Go
set_option linter.unusedVariables false
set_option linter.unusedSimpArgs false
set_option maxRecDepth 100000
def t5 : T17 := (5, 1, 0, 0, false, 0, (fun _ => 0), 0, [], [], [], [])
theorem new5 : tnew_F 5 = (t5, 0) := by rw [tnew_is, if_pos (by omega)]; rfl
theorem t5_TI : TIT 0 t5 := new_TI (t := 5) (by omega)
theorem once17_step {acts : List (Nat → Int)} (hl : acts.length ≤ 100) {k : Nat} {asked : Bool} {fb fb1 fb2 fb3 : Int} {fb4 : Bool} {fb5 : Int} {fb6 : Nat → Int} {fb8 : Int} {fb9 fb10 fb11 : List Int} {fb12 : List (Nat → Int)}
    (hk : k < acts.length) (h : TI k fb fb1 fb2 fb3 fb4 fb5 fb6 fb8 fb9 fb10 fb11 fb12) (ha : fb1 = 2 ∨ fb1 = 3 → asked = true) :
    ∃ (b : Bool) (t : T17), once17_l1 acts asked (k : Int) fb fb1 fb2 fb3 fb4 fb5 fb6 fb8 fb9 fb10 fb11 fb12 (.inl (b, (k : Int) + 1, t)) ∧ TIT (k + 1) t ∧ (t.2.1 = 2 ∨ t.2.1 = 3 → b = true) := by
  have hki : (k : Int) < (acts.length : Int) := by omega
  have hkr : 0 ≤ (k : Int) ∧ (k : Int) < acts.length := ⟨by omega, by omega⟩
  have hst := h.hst
  have hre := h.hre
  by_cases hin : 0 ≤ (acts[k]!) 0 ∧ (acts[k]!) 0 ≤ 5
  · obtain ⟨p, q⟩ := act17_is h (by omega) hin
    have hI := actC_TI h (acts[k]!)
    have hS := actC_stp (tx := fb) (st := fb1) (re := fb2) (sq := fb3) (op := fb4) (sh := fb5) (at_ := fb6) (mo := fb8) (to_ := fb9) (vo := fb10) (ac := fb11) (go := fb12) (acts[k]!)
    generalize actC fb fb1 fb2 fb3 fb4 fb5 fb6 fb8 fb9 fb10 fb11 fb12 (acts[k]!) = r at hI hS q
    -- what is asked
    have c1 : ¬ ((tdecided_F fb fb1 fb2 fb3 fb4 fb5 fb6 fb8 fb9 fb10 fb11 fb12) && ((!(decide (r.1.2.1 = fb1))) || (!(decide (r.1.2.2.1 = fb2))))) = true := by
      rw [Bool.and_eq_true, tdec_iff]
      rintro ⟨hd, he⟩
      obtain ⟨h1, h2⟩ := hS.dec hd
      rw [decide_eq_true h1, decide_eq_true h2] at he
      cases he
    have c3 : ¬ ((!(((decide (r.1.2.1 = 4)) == (decide (0 < r.1.2.2.1))))) || ((!(decide (r.2.2 = 0))) && (!(decide (r.1.2.1 = fb1))))) = true := by
      have h4 : decide (r.1.2.1 = 4) = decide (0 < r.1.2.2.1) := decide_eq_decide.2 hI.hre4
      rw [h4]
      by_cases he : r.2.2 = 0
      · simp [he]
      · simp [hS.err he]
    have hv : r.1.2.1 = 3 → (r.1.2.2.2.2.2.2.2.2.2.1.length : Int) = (r.1.2.2.2.2.2.2.2.2.1.length : Int) := fun e => by have := hI.vo3 e; omega
    have ho : r.1.2.1 = 3 → r.1.2.2.2.2.1 = false := fun e => by
      cases hb : r.1.2.2.2.2.1
      · rfl
      · have := (hI.hop hb).1; omega
    by_cases h2 : acts[k]! 0 = 2 ∧ r.2.2 = 0
    · have e4 := hS.fin h2.1 h2.2
      refine ⟨true, r.1, ?_, hI, fun _ => rfl⟩
      unfold once17_l1
      rw [if_pos hki, Int.toNat_natCast, if_pos hin]
      refine ⟨r, q.symm, ⟨hkr, p, trivial⟩, hkr, ?_⟩
      rw [if_pos (by rw [decide_eq_true h2.1, decide_eq_true h2.2]; rfl), if_neg (by rw [e4]; decide), if_neg c1, if_neg, if_neg c3]
      · exact ⟨step1 (by omega), rfl⟩
      · by_cases e3 : r.1.2.1 = 3
        · rw [decide_eq_true (hv e3), ho e3]; simp
        · rw [decide_eq_false e3]; simp
    · refine ⟨asked, r.1, ?_, hI, fun e => (hS.ask e).elim ha fun e => absurd e h2⟩
      unfold once17_l1
      rw [if_pos hki, Int.toNat_natCast, if_pos hin]
      refine ⟨r, q.symm, ⟨hkr, p, trivial⟩, hkr, ?_⟩
      rw [if_neg (by simpa using h2), if_neg c1, if_neg, if_neg c3]
      · exact ⟨step1 (by omega), rfl⟩
      · by_cases e3 : r.1.2.1 = 3
        · have hb : asked = true := (hS.ask (.inr e3)).elim ha fun e => absurd e h2
          rw [decide_eq_true (hv e3), ho e3, hb]; simp
        · rw [decide_eq_false e3]; simp
  · refine ⟨asked, (fb, fb1, fb2, fb3, fb4, fb5, fb6, fb8, fb9, fb10, fb11, fb12), ?_, h.mono (Nat.le_succ k), ha⟩
    unfold once17_l1
    rw [if_pos hki, Int.toNat_natCast, if_neg hin]
    refine ⟨⟨hkr, by omega, by omega, by omega, by omega, by omega, by omega, trivial⟩, hkr, ?_⟩
    have c1 : ¬ ((tdecided_F fb fb1 fb2 fb3 fb4 fb5 fb6 fb8 fb9 fb10 fb11 fb12) && ((!(decide (fb1 = fb1))) || (!(decide (fb2 = fb2))))) = true := by simp
    have c3 : ¬ ((!(((decide (fb1 = 4)) == (decide (0 < fb2))))) || ((!(decide ((code_F 0) = 0))) && (!(decide (fb1 = fb1))))) = true := by
      rw [show decide (fb1 = 4) = decide (0 < fb2) from decide_eq_decide.2 h.hre4]; simp
    rw [if_neg (by rw [Bool.and_eq_true, decide_eq_true_eq]; omega), if_neg c1, if_neg, if_neg c3]
    · exact ⟨step1 (by omega), rfl⟩
    · by_cases e3 : fb1 = 3
      · have e4 : fb4 = false := by
          cases hb : fb4
          · rfl
          · have := (h.hop hb).1; omega
        have e5 : (fb10.length : Int) = (fb9.length : Int) := by have := h.vo3 e3; omega
        rw [decide_eq_true e5, e4, ha (.inr e3)]; simp
      · rw [decide_eq_false e3]; simp
theorem once17_all (acts : List (Nat → Int)) : once17_S acts true := by
  unfold once17_S
  rw [if_pos (show alive17_F = true from rfl)]
  by_cases hl : 100 < (acts.length : Int)
  · rw [if_pos hl]
  rw [if_neg hl, new5]
  dsimp only
  rw [if_pos rfl]
  obtain ⟨x, hx, t, h2⟩ := Wh.by (f := fun (s : Bool × Int × Int × Int × Int × Int × Bool × Int × (Nat → Int) × Int × (List Int) × (List Int) × (List Int) × (List (Nat → Int))) (o : (Bool × Int × Int × Int × Int × Int × Bool × Int × (Nat → Int) × Int × (List Int) × (List Int) × (List Int) × (List (Nat → Int))) ⊕ ((Int × Int × Int × Int × Bool × Int × (Nat → Int) × Int × (List Int) × (List Int) × (List Int) × (List (Nat → Int))) ⊕ (Int × Int × Int × Int × Bool × Int × (Nat → Int) × Int × (List Int) × (List Int) × (List Int) × (List (Nat → Int))))) => once17_l1 acts s.1 s.2.1 s.2.2.1 s.2.2.2.1 s.2.2.2.2.1 s.2.2.2.2.2.1 s.2.2.2.2.2.2.1 s.2.2.2.2.2.2.2.1 s.2.2.2.2.2.2.2.2.1 s.2.2.2.2.2.2.2.2.2.1 s.2.2.2.2.2.2.2.2.2.2.1 s.2.2.2.2.2.2.2.2.2.2.2.1 s.2.2.2.2.2.2.2.2.2.2.2.2.1 s.2.2.2.2.2.2.2.2.2.2.2.2.2 o)
      (fun s => ∃ k : Nat, s.2.1 = (k : Int) ∧ k ≤ acts.length ∧ TIT k s.2.2 ∧ (s.2.2.2.1 = 2 ∨ s.2.2.2.1 = 3 → s.1 = true)) (fun s => acts.length - s.2.1.toNat) (fun r => ∃ t : T17, r = .inl t) (s := (false, 0, t5)) ⟨0, rfl, by omega, t5_TI, fun e => by rcases e with e | e <;> cases e⟩ (by
    rintro ⟨asked, i, t⟩ ⟨k, hk, hle, hT, ha⟩
    dsimp only at hk hT ha
    subst hk
    by_cases hlt : k < acts.length
    · left
      obtain ⟨b, u, h1, h2, h3⟩ := once17_step (asked := asked) (by omega) hlt hT ha
      exact ⟨(b, (k : Int) + 1, u), h1, ⟨k + 1, by simp, hlt, h2, h3⟩, by dsimp only; omega⟩
    · right
      refine ⟨.inl t, ?_, t, rfl⟩
      dsimp only
      unfold once17_l1
      rw [if_neg (by omega)])
  refine ⟨x, hx, ?_⟩
  subst h2
  rfl
end Go.E
