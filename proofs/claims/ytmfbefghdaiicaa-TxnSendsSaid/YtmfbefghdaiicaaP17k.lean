/- What a transaction sends: the law's code says true. -/
import Derived.Test.YtmfbefghdaiicaaP17i
import Derived.Test.YtmfbefghdaiicaaI17S
namespace Go.E
open Go
set_option linter.unusedVariables false
set_option linter.unusedSimpArgs false
set_option maxRecDepth 100000
/-! ### The law's inner loops, of any messages -/
def gl3 (to_ : List Int) (L : List (Nat → Int)) (k11 : Int) (there12 : Bool) (n13 : Int) (o : (Bool × Int) ⊕ Bool) : Prop :=
  if n13 < (to_.length : Int) then
    (((there12) = false) → 0 ≤ n13 ∧ n13 < to_.length) ∧ (((there12) = false) → 0 ≤ k11 ∧ k11 < L.length) ∧ (
    (inI64 (n13 + 1)) ∧ (
    o = (.inl ((there12) || (decide (to_[n13.toNat]! = L[k11.toNat]! 2)), n13 + 1))))
  else
    o = (.inr there12)
def gk3 (L : List (Nat → Int)) (k11 : Int) (there12 : Bool) (o : Int ⊕ (Unit ⊕ Unit)) : Prop :=
  (((!(there12)) = false) → 0 ≤ k11 ∧ k11 < L.length) ∧ ((((!(there12)) || (!(decide (L[k11.toNat]! 3 = 5)))) = false) → 0 ≤ k11 ∧ k11 < L.length) ∧ ((((!(there12)) || (!(decide (L[k11.toNat]! 3 = 5)))) = false) → okV_P (L[k11.toNat]!)) ∧ (
  if (((!(there12)) || (!(decide (L[k11.toNat]! 3 = 5)))) || (!((okV_F (L[k11.toNat]!))))) = true then
    o = (.inr (.inr ()))
  else
    (inI64 (k11 + 1)) ∧ (
    o = (.inl (k11 + 1))))
def gl2 (to_ : List Int) (L : List (Nat → Int)) (k11 : Int) (o : Int ⊕ (Unit ⊕ Unit)) : Prop :=
  if k11 < (L.length : Int) then
    ∃ x : Bool, Wh (fun (s : Bool × Int) (o : (Bool × Int) ⊕ (Bool)) => gl3 to_ L k11 s.1 s.2 o) ((false, 0) : Bool × Int) x ∧ gk3 L k11 x o
  else
    o = (.inr (.inl ()))
theorem gl3_wh {to_ : List Int} {L : List (Nat → Int)} (ht : to_.length ≤ 64) {k : Nat} (hk : k < L.length) :
    Wh (fun (s : Bool × Int) (o : (Bool × Int) ⊕ (Bool)) => gl3 to_ L (k : Int) s.1 s.2 o) ((false, 0) : Bool × Int) (to_.any fun x => decide (x = L[k]! 2)) := by
  have := Wh.upto (f := fun (s : Bool × Int) (o : (Bool × Int) ⊕ (Bool)) => gl3 to_ L (k : Int) s.1 s.2 o) (fun j : Nat => ((to_.take j).any (fun x => decide (x = L[k]! 2)), (j : Int))) to_.length (r := to_.any fun x => decide (x = L[k]! 2)) (fun j hj => by
    dsimp only
    rw [any_take _ _ _ hj]
    unfold gl3
    rw [if_pos (by omega), Int.toNat_natCast, Int.toNat_natCast]
    exact ⟨fun _ => ⟨by omega, by omega⟩, fun _ => ⟨by omega, by omega⟩, step1 (by omega), rfl⟩) (by
    dsimp only
    unfold gl3
    rw [if_neg (by omega), take_len])
  simpa using this
theorem gl2_wh {to_ : List Int} {L : List (Nat → Int)} (ht : to_.length ≤ 64) (hL : L.length ≤ 1000) (h : ∀ m ∈ L, Snd 5 to_ m) : Wh (fun (s : Int) (o : Int ⊕ (Unit ⊕ Unit)) => gl2 to_ L s o) (0 : Int) (.inl ()) := by
  have := Wh.all (f := fun (s : Int) (o : Int ⊕ (Unit ⊕ Unit)) => gl2 to_ L s o) L.length (fun _ => true) (.inl ()) (.inr ()) (fun k hk _ => by
    unfold gl2
    rw [if_pos (by omega)]
    obtain ⟨h1, h2, h4, h3⟩ := h _ (mem_at hk)
    have ha : (to_.any fun x => decide (x = L[k]! 2)) = true := List.any_eq_true.2 ⟨_, h1, by simp⟩
    refine ⟨true, by rw [← ha]; exact gl3_wh ht hk, ?_⟩
    unfold gk3
    rw [Int.toNat_natCast, decide_eq_true h2]
    refine ⟨fun _ => ⟨by omega, by omega⟩, fun _ => ⟨by omega, by omega⟩, fun _ => ⟨h3, h4⟩, ?_⟩
    rw [if_neg (by unfold okV_F; decide)]
    exact ⟨step1 (by omega), rfl⟩) (fun k hk h => by cases h) (by
    unfold gl2
    rw [if_neg (by omega)])
  rw [if_pos (by simp)] at this
  exact this
theorem sends17_step {acts : List (Nat → Int)} (hl : acts.length ≤ 100) (b : Bool) {k : Nat} {t : T17} (hk : k < acts.length) (h : TIT k t) (h5 : t.1 = 5) :
    ∃ u : T17, sends17_l1 acts b (k : Int) t.1 t.2.1 t.2.2.1 t.2.2.2.1 t.2.2.2.2.1 t.2.2.2.2.2.1 t.2.2.2.2.2.2.1 t.2.2.2.2.2.2.2.1 t.2.2.2.2.2.2.2.2.1 t.2.2.2.2.2.2.2.2.2.1 t.2.2.2.2.2.2.2.2.2.2.1 t.2.2.2.2.2.2.2.2.2.2.2 (.inl ((k : Int) + 1, u)) ∧ TIT (k + 1) u ∧ u.1 = 5 := by
  have hki : (k : Int) < (acts.length : Int) := by omega
  have hkr : 0 ≤ (k : Int) ∧ (k : Int) < acts.length := ⟨by omega, by omega⟩
  by_cases hin : 0 ≤ (acts[k]!) 0 ∧ (acts[k]!) 0 ≤ 5
  · obtain ⟨p, q⟩ := act17_is h (by omega) hin
    have hI : TIT (k + 1) (actT t (acts[k]!)).1 := actC_TI h _
    have hS : SndT (actT t (acts[k]!)) := actC_snd h _
    have hx : (actT t (acts[k]!)).1.1 = 5 := by rw [← h5]; exact (actC_stp _).tx
    refine ⟨(actT t (acts[k]!)).1, ?_, hI, hx⟩
    unfold sends17_l1
    rw [if_pos hki, Int.toNat_natCast, if_pos hin]
    refine ⟨actT t (acts[k]!), q.symm, ⟨hkr, p, trivial⟩, ?_⟩
    generalize actT t (acts[k]!) = r at hI hS hx
    obtain ⟨pa, qa⟩ := tagain_is hI b
    obtain ⟨po, qo⟩ := tover_is hI
    have hA := againC_snd hI b
    have hall : ∀ m ∈ r.2.1 ++ tagain_F r.1.1 r.1.2.1 r.1.2.2.1 r.1.2.2.2.1 r.1.2.2.2.2.1 r.1.2.2.2.2.2.1 r.1.2.2.2.2.2.2.1 r.1.2.2.2.2.2.2.2.1 r.1.2.2.2.2.2.2.2.2.1 r.1.2.2.2.2.2.2.2.2.2.1 r.1.2.2.2.2.2.2.2.2.2.2.1 r.1.2.2.2.2.2.2.2.2.2.2.2 b, Snd 5 r.1.2.2.2.2.2.2.2.2.1 m := by
      intro m hm
      rw [qa] at hm
      rw [← hx]
      exact (List.mem_append.1 hm).elim (hS.1 m) (hA.1 m)
    have hlen := hS.2
    have hlen2 := hA.2
    refine ⟨pa, by rw [qa]; omega, .inl (), gl2_wh hI.lto (by rw [qa, List.length_append]; omega) hall, ?_⟩
    show sends17_k2a b (k : Int) r _
    unfold sends17_k2a
    refine ⟨po, ?_⟩
    rw [qo]
    by_cases ho : overC r.1.2.1 r.1.2.2.2.2.2.2.2.2.1 r.1.2.2.2.2.2.2.2.2.2.2.1 = true
    · rw [if_pos ho]
      refine ⟨pa, ?_⟩
      rw [qa, if_pos (by rw [over_again b ho]; rfl)]
      exact ⟨step1 (by omega), rfl⟩
    · rw [if_neg ho]
      exact ⟨step1 (by omega), rfl⟩
  · have hI := h.mono (Nat.le_succ k)
    refine ⟨t, ?_, hI, h5⟩
    unfold sends17_l1
    rw [if_pos hki, Int.toNat_natCast, if_neg hin]
    refine ⟨⟨hkr, by omega, by omega, by omega, by omega, by omega, by omega, trivial⟩, ?_⟩
    obtain ⟨pa, qa⟩ := tagain_is h b
    obtain ⟨po, qo⟩ := tover_is h
    have hA := againC_snd h b
    have hall : ∀ m ∈ [] ++ tagain_F t.1 t.2.1 t.2.2.1 t.2.2.2.1 t.2.2.2.2.1 t.2.2.2.2.2.1 t.2.2.2.2.2.2.1 t.2.2.2.2.2.2.2.1 t.2.2.2.2.2.2.2.2.1 t.2.2.2.2.2.2.2.2.2.1 t.2.2.2.2.2.2.2.2.2.2.1 t.2.2.2.2.2.2.2.2.2.2.2 b, Snd 5 t.2.2.2.2.2.2.2.2.1 m := by
      intro m hm
      rw [qa] at hm
      rw [← h5]
      exact hA.1 m hm
    have hlen2 := hA.2
    refine ⟨pa, by rw [qa]; omega, .inl (), gl2_wh h.lto (by rw [qa]; simp only [List.nil_append]; omega) hall, ?_⟩
    show sends17_k4a b (k : Int) t.1 t.2.1 t.2.2.1 t.2.2.2.1 t.2.2.2.2.1 t.2.2.2.2.2.1 t.2.2.2.2.2.2.1 t.2.2.2.2.2.2.2.1 t.2.2.2.2.2.2.2.2.1 t.2.2.2.2.2.2.2.2.2.1 t.2.2.2.2.2.2.2.2.2.2.1 t.2.2.2.2.2.2.2.2.2.2.2 _
    unfold sends17_k4a
    refine ⟨po, ?_⟩
    rw [qo]
    by_cases ho : overC t.2.1 t.2.2.2.2.2.2.2.2.1 t.2.2.2.2.2.2.2.2.2.2.1 = true
    · rw [if_pos ho]
      refine ⟨pa, ?_⟩
      rw [qa, if_pos (by rw [over_again b ho]; rfl)]
      exact ⟨step1 (by omega), rfl⟩
    · rw [if_neg ho]
      exact ⟨step1 (by omega), rfl⟩
theorem sends17_all (acts : List (Nat → Int)) (b : Bool) : sends17_S acts b true := by
  unfold sends17_S
  rw [if_pos (show alive17_F = true from rfl)]
  by_cases hl : 100 < (acts.length : Int)
  · rw [if_pos hl]
  rw [if_neg hl, new5]
  dsimp only
  rw [if_pos rfl]
  obtain ⟨x, hx, t, rfl⟩ := Wh.by (f := fun (s : Int × T17) (o : (Int × T17) ⊕ (T17 ⊕ T17)) => sends17_l1 acts b s.1 s.2.1 s.2.2.1 s.2.2.2.1 s.2.2.2.2.1 s.2.2.2.2.2.1 s.2.2.2.2.2.2.1 s.2.2.2.2.2.2.2.1 s.2.2.2.2.2.2.2.2.1 s.2.2.2.2.2.2.2.2.2.1 s.2.2.2.2.2.2.2.2.2.2.1 s.2.2.2.2.2.2.2.2.2.2.2.1 s.2.2.2.2.2.2.2.2.2.2.2.2 o)
      (fun s => ∃ k : Nat, s.1 = (k : Int) ∧ k ≤ acts.length ∧ TIT k s.2 ∧ s.2.1 = 5) (fun s => acts.length - s.1.toNat) (fun r => ∃ t : T17, r = .inl t) (s := (0, t5)) ⟨0, rfl, by omega, t5_TI, rfl⟩ (by
    rintro ⟨i, t⟩ ⟨k, hk, hle, hT, h5⟩
    dsimp only at hk hT h5
    subst hk
    by_cases hlt : k < acts.length
    · left
      obtain ⟨u, h1, h2, h3⟩ := sends17_step (by omega) b hlt hT h5
      exact ⟨((k : Int) + 1, u), h1, ⟨k + 1, by simp, hlt, h2, h3⟩, by dsimp only; omega⟩
    · right
      refine ⟨.inl t, ?_, t, rfl⟩
      dsimp only
      unfold sends17_l1
      rw [if_neg (by omega)])
  exact ⟨_, hx, rfl⟩
end Go.E
