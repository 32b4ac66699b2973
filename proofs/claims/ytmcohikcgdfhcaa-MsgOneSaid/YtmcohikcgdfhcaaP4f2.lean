/- The reference's bytes are the program's. -/
import Derived.Test.YtmcohikcgdfhcaaP4f
namespace Go.E
open Go
theorem four_P_of {x : Int} (h : 0 ≤ x ∧ x < 4294967296) : four_P x := by
  unfold four_P
  have h1 : ∀ k : Int, 0 < k → inI64 (x.tdiv k) := fun k hk => by
    rw [Int.tdiv_eq_ediv_of_nonneg h.1]
    have h0 := Int.ediv_nonneg h.1 (Int.le_of_lt hk)
    have h2 : x / k ≤ x := Int.ediv_le_self _ h.1
    exact ⟨by omega, by omega⟩
  exact ⟨h1 _ (by omega), h1 _ (by omega), h1 _ (by omega), trivial⟩
theorem beN4 (x : Int) : beN 4 x = [IntKind.u8.wrap (x / 16777216), IntKind.u8.wrap (x / 65536), IntKind.u8.wrap (x / 256), IntKind.u8.wrap (x / 1)] := rfl
theorem beN1 (x : Int) : beN 1 x = [IntKind.u8.wrap (x / 1)] := rfl
theorem four_eq {x : Int} (h : 0 ≤ x ∧ x < 4294967296) : four_F x = beN 4 x := by
  rw [beN4]
  unfold four_F
  simp only [u8_wrap, Int.tdiv_eq_ediv_of_nonneg h.1]
  have h1 : ∀ y : Int, 0 ≤ y → y.tmod 256 = y % 256 := fun y hy => Int.tmod_eq_emod_of_nonneg hy
  rw [h1 _ (by omega), h1 _ (by omega), h1 _ (by omega), h1 _ h.1]
  simp
theorem four_len (x : Int) : (four_F x).length = 4 := rfl
def refHead (m : Nat → Int) : List Int := ((((((([IntKind.u8.wrap (m 0), IntKind.u8.wrap (m 1), IntKind.u8.wrap (m 2)] ++ (four_F (m 3))) ++ (four_F (m 4))) ++ [IntKind.u8.wrap (m 5), IntKind.u8.wrap (m 6), IntKind.u8.wrap (m 7), IntKind.u8.wrap (m 8)]) ++ (four_F (m 9))) ++ (four_F (m 10))) ++ [IntKind.u8.wrap (m 11)]))
def refTail (m : Nat → Int) (k : Nat) : List Int := (List.range k).flatMap fun i => four_F (m (12 + i * 2)) ++ four_F (m (12 + i * 2 + 1))
theorem refTail_succ (m : Nat → Int) (k : Nat) : refTail m (k + 1) = refTail m k ++ (four_F (m (12 + k * 2)) ++ four_F (m (12 + k * 2 + 1))) := by
  unfold refTail; rw [List.range_succ, List.flatMap_append]; simp
theorem refTail_len (m : Nat → Int) (k : Nat) : (refTail m k).length = 8 * k := by
  induction k with
  | zero => rfl
  | succ k ih => rw [refTail_succ, List.length_append, List.length_append, four_len, four_len, ih]; omega
def refEnc_F (m : Nat → Int) : List Int := refHead m ++ refTail m 8
def refEnc_P (m : Nat → Int) : Prop := msgOk_F m = 0
theorem refEnc_ok (m : Nat → Int) (h : refEnc_P m) : refEnc_S m (refEnc_F m) := by
  obtain ⟨h1, h4⟩ := msg_rng h
  unfold refEnc_S
  simp only [List.length_append, four_len, List.length_cons, List.length_nil]
  refine ⟨four_P_of (h4 3 (by omega) (by omega)), by omega, four_P_of (h4 4 (by omega) (by omega)), by omega, by omega, four_P_of (h4 9 (by omega) (by omega)), by omega, four_P_of (h4 10 (by omega) (by omega)), by omega, by omega, refEnc_F m, ?_, rfl⟩
  have := Wh.upto (f := fun (s : (List Int) × Int) (o : ((List Int) × Int) ⊕ (List Int)) => refEnc_l1 m s.1 s.2 o) (fun k => (refHead m ++ refTail m k, (k : Int))) 8 (r := refEnc_F m) ?_ ?_
  · simpa [refTail, refHead] using this
  · intro k hk
    unfold refEnc_l1
    simp only
    rw [if_pos (by omega)]
    simp only [Int.toNat_natCast, List.length_append, four_len, refTail_len]
    have hl : (refHead m).length = 24 := rfl
    refine ⟨by omega, four_P_of (h4 _ (by omega) (by omega)), by omega, by omega, four_P_of (h4 _ (by omega) (by omega)), by omega, ⟨by omega, by omega⟩, ?_⟩
    rw [refTail_succ]
    simp only [List.append_assoc]
    rfl
  · unfold refEnc_l1
    simp only
    rw [if_neg (by omega)]
    rfl
theorem enc_ref (m : Nat → Int) (h : msgOk_F m = 0) : (enc_F m).1 = refEnc_F m ∧ (enc_F m).2 = 0 := by
  obtain ⟨h1, h4⟩ := msg_rng h
  unfold enc_F
  rw [if_pos h]
  refine ⟨?_, rfl⟩
  have e4 : ∀ k, (k = 3 ∨ k = 4 ∨ k = 9 ∨ k = 10 ∨ 12 ≤ k) → k < 28 → beN 4 (m k) = four_F (m k) := fun k hk hk' => (four_eq (h4 k hk hk')).symm
  unfold refEnc_F refHead refTail
  simp only [List.flatMap_cons, List.flatMap_nil, List.append_nil, List.nil_append, beN1, Int.ediv_one, List.range, List.range.loop]
  rw [e4 3 (by omega) (by omega), e4 4 (by omega) (by omega), e4 9 (by omega) (by omega), e4 10 (by omega) (by omega)]
  repeat rw [e4 _ (by omega) (by omega)]
  simp only [List.append_assoc, List.cons_append, List.nil_append]
theorem enc_no (m : Nat → Int) (h : msgOk_F m ≠ 0) : enc_F m = ([], 5) := by
  unfold enc_F
  rw [if_neg h, msgOk_eq]
  rw [msgOk_eq] at h
  cases hb : okB m
  · rfl
  · rw [hb] at h; exact absurd rfl h
theorem enc_len (m : Nat → Int) (h : msgOk_F m = 0) : (enc_F m).1.length = 88 := by
  rw [(enc_ref m h).1]
  unfold refEnc_F
  rw [List.length_append, refTail_len]
  rfl
end Go.E
