/- What was encoded is decoded; in plain words. -/
import Derived.Test.YtmcohikcgdfhcaaP4g
namespace Go.E
open Go
set_option maxRecDepth 100000
theorem all_congr {p q : Nat → Bool} (n : Nat) (h : ∀ k, k < n → p k = q k) : (List.range n).all p = (List.range n).all q := by
  refine boolEq ?_
  rw [List.all_eq_true, List.all_eq_true]
  exact ⟨fun g k hk => by rw [← h k (List.mem_range.1 hk)]; exact g k hk, fun g k hk => by rw [h k (List.mem_range.1 hk)]; exact g k hk⟩
theorem okB_congr {m m' : Nat → Int} (h : ∀ i, i < 28 → m i = m' i) : okB m = okB m' := by
  have h0 := h 0 (by omega); have h1 := h 1 (by omega); have h2 := h 2 (by omega); have h3 := h 3 (by omega); have h4 := h 4 (by omega); have h5 := h 5 (by omega); have h6 := h 6 (by omega); have h7 := h 7 (by omega); have h8 := h 8 (by omega); have h9 := h 9 (by omega); have h10 := h 10 (by omega); have h11 := h 11 (by omega)
  have hp : pathB m = pathB m' := by
    unfold pathB
    rw [h9, h10, h11]
    congr 1
    refine all_congr 8 fun i hi => ?_
    unfold stepB newB
    rw [h11, h (12 + (i * 2 + 0)) (by omega), h (12 + (i * 2 + 1)) (by omega)]
    rw [all_congr i fun k hk => (by rw [h (12 + k * 2 + 0) (by omega)] : (!decide (m (12 + k * 2 + 0) = m' (12 + (i * 2 + 0)))) = (!decide (m' (12 + k * 2 + 0) = m' (12 + (i * 2 + 0)))))]
  unfold okB
  have he : endsB m = endsB m' := by unfold endsB; rw [h0, h1, h2]
  have hm : mayB m = mayB m' := by unfold mayB; rw [h0, h3, h4, h5, h6, h7, h8, h9, hp]
  have hz : eqN 28 (mayZ m) (headM m) = eqN 28 (mayZ m') (headM m') := by
    have e1 : ∀ i, i < 28 → mayZ m i = mayZ m' i := by
      intro i hi
      have hi' := h i hi
      unfold mayZ
      rw [h0]
      repeat' split
      all_goals (try simp only [updI, updRI]; repeat' split)
      all_goals first | rfl | exact hi' | (exfalso; omega)
    have e2 : ∀ i, i < 28 → headM m i = headM m' i := by
      intro i hi
      unfold headM
      simp only [updI, h0, h1, h2]
    refine boolEq ?_
    rw [eqN_iff, eqN_iff]
    exact ⟨fun g i hi => by rw [← e1 i hi, ← e2 i hi]; exact g i hi, fun g i hi => by rw [e1 i hi, e2 i hi]; exact g i hi⟩
  rw [he, hm, hz]
theorem refEnc_congr {m m' : Nat → Int} (h : ∀ i, i < 28 → m i = m' i) : refEnc_F m = refEnc_F m' := by
  have hh : refHead m = refHead m' := by
    unfold refHead
    rw [h 0 (by omega), h 1 (by omega), h 2 (by omega), h 3 (by omega), h 4 (by omega), h 5 (by omega), h 6 (by omega), h 7 (by omega), h 8 (by omega), h 9 (by omega), h 10 (by omega), h 11 (by omega)]
  have ht : ∀ k, k ≤ 8 → refTail m k = refTail m' k := by
    intro k
    induction k with
    | zero => intro _; rfl
    | succ k ih => intro hk; rw [refTail_succ, refTail_succ, ih (by omega), h (12 + k * 2) (by omega), h (12 + k * 2 + 1) (by omega)]
  unfold refEnc_F
  rw [hh, ht 8 (by omega)]
theorem list88 {b : List Int} (hl : b.length = 88) : b = [b[0]!, b[1]!, b[2]!, b[3]!, b[4]!, b[5]!, b[6]!, b[7]!, b[8]!, b[9]!, b[10]!, b[11]!, b[12]!, b[13]!, b[14]!, b[15]!, b[16]!, b[17]!, b[18]!, b[19]!, b[20]!, b[21]!, b[22]!, b[23]!, b[24]!, b[25]!, b[26]!, b[27]!, b[28]!, b[29]!, b[30]!, b[31]!, b[32]!, b[33]!, b[34]!, b[35]!, b[36]!, b[37]!, b[38]!, b[39]!, b[40]!, b[41]!, b[42]!, b[43]!, b[44]!, b[45]!, b[46]!, b[47]!, b[48]!, b[49]!, b[50]!, b[51]!, b[52]!, b[53]!, b[54]!, b[55]!, b[56]!, b[57]!, b[58]!, b[59]!, b[60]!, b[61]!, b[62]!, b[63]!, b[64]!, b[65]!, b[66]!, b[67]!, b[68]!, b[69]!, b[70]!, b[71]!, b[72]!, b[73]!, b[74]!, b[75]!, b[76]!, b[77]!, b[78]!, b[79]!, b[80]!, b[81]!, b[82]!, b[83]!, b[84]!, b[85]!, b[86]!, b[87]!] := by
  have : b = (List.range 88).map (fun i => b[i]!) := by
    apply List.ext_getElem (by simp [hl])
    intro i h1 h2
    simp
    rw [List.getElem?_eq_getElem h1]; rfl
  exact this
/-- The bytes of what 88 bytes are, are they. -/
theorem enc_dec {b : List Int} (hb : isB b) (hl : b.length = 88) : refEnc_F (decM b) = b := by
  have e4 : ∀ (k : Nat) (i : Int), i = k → k + 4 ≤ 88 → four_F (numF b i 4) = [b[k]!, b[k + 1]!, b[k + 2]!, b[k + 3]!] := fun k i hi hk => by
    rw [hi, num4, four_num (isB_get hb (by omega)) (isB_get hb (by omega)) (isB_get hb (by omega)) (isB_get hb (by omega))]
  have e1 : ∀ k : Nat, k < 88 → IntKind.u8.wrap (b[k]!) = b[k]! := fun k hk => by
    have := isB_get hb (i := k) (by omega)
    rw [u8_wrap]; exact Int.emod_eq_of_lt this.1 this.2
  have hlhs : refEnc_F (decM b) = ((((((([IntKind.u8.wrap (b[0]!), IntKind.u8.wrap (b[1]!), IntKind.u8.wrap (b[2]!)] ++ four_F (numF b 3 4)) ++ four_F (numF b 7 4)) ++ [IntKind.u8.wrap (b[11]!), IntKind.u8.wrap (b[12]!), IntKind.u8.wrap (b[13]!), IntKind.u8.wrap (b[14]!)]) ++ four_F (numF b 15 4)) ++ four_F (numF b 19 4)) ++ [IntKind.u8.wrap (b[23]!)])) ++ ((four_F (numF b 24 4) ++ four_F (numF b 28 4)) ++ ((four_F (numF b 32 4) ++ four_F (numF b 36 4)) ++ ((four_F (numF b 40 4) ++ four_F (numF b 44 4)) ++ ((four_F (numF b 48 4) ++ four_F (numF b 52 4)) ++ ((four_F (numF b 56 4) ++ four_F (numF b 60 4)) ++ ((four_F (numF b 64 4) ++ four_F (numF b 68 4)) ++ ((four_F (numF b 72 4) ++ four_F (numF b 76 4)) ++ ((four_F (numF b 80 4) ++ four_F (numF b 84 4)) ++ ([]))))))))) := rfl
  rw [hlhs]
  rw [e1 0 (by omega), e1 1 (by omega), e1 2 (by omega), e4 3 3 rfl (by omega), e4 7 7 rfl (by omega), e1 11 (by omega), e1 12 (by omega), e1 13 (by omega), e1 14 (by omega), e4 15 15 rfl (by omega), e4 19 19 rfl (by omega), e1 23 (by omega), e4 24 24 rfl (by omega), e4 28 28 rfl (by omega), e4 32 32 rfl (by omega), e4 36 36 rfl (by omega), e4 40 40 rfl (by omega), e4 44 44 rfl (by omega), e4 48 48 rfl (by omega), e4 52 52 rfl (by omega), e4 56 56 rfl (by omega), e4 60 60 rfl (by omega), e4 64 64 rfl (by omega), e4 68 68 rfl (by omega), e4 72 72 rfl (by omega), e4 76 76 rfl (by omega), e4 80 80 rfl (by omega), e4 84 84 rfl (by omega)]
  simp only [List.append_assoc, List.cons_append, List.nil_append, List.append_nil, Nat.reduceAdd]
  exact (list88 hl).symm
theorem enc_isB (m : Nat → Int) : isB (refEnc_F m) := by
  have hu : ∀ x : Int, 0 ≤ IntKind.u8.wrap x ∧ IntKind.u8.wrap x < 256 := fun x => by rw [u8_wrap]; omega
  have hf : ∀ x y : Int, y ∈ four_F x → 0 ≤ y ∧ y < 256 := by
    intro x y hy
    simp only [four_F, List.mem_cons, List.not_mem_nil, or_false] at hy
    rcases hy with rfl | rfl | rfl | rfl <;> exact hu _
  intro x hx
  unfold refEnc_F refHead refTail at hx
  simp only [List.mem_append, List.mem_cons, List.not_mem_nil, or_false, List.mem_flatMap] at hx
  rcases hx with (((((((rfl | rfl | rfl) | h) | h) | (rfl | rfl | rfl | rfl)) | h) | h) | rfl) | ⟨i, _, h | h⟩
  all_goals first | exact hu _ | exact hf _ _ h
theorem bytes88 {m : Nat → Int} (h : msgOk_F m = 0) : refEnc_F m = [IntKind.u8.wrap (m 0), IntKind.u8.wrap (m 1), IntKind.u8.wrap (m 2), IntKind.u8.wrap (m 3 / 16777216), IntKind.u8.wrap (m 3 / 65536), IntKind.u8.wrap (m 3 / 256), IntKind.u8.wrap (m 3 / 1), IntKind.u8.wrap (m 4 / 16777216), IntKind.u8.wrap (m 4 / 65536), IntKind.u8.wrap (m 4 / 256), IntKind.u8.wrap (m 4 / 1), IntKind.u8.wrap (m 5), IntKind.u8.wrap (m 6), IntKind.u8.wrap (m 7), IntKind.u8.wrap (m 8), IntKind.u8.wrap (m 9 / 16777216), IntKind.u8.wrap (m 9 / 65536), IntKind.u8.wrap (m 9 / 256), IntKind.u8.wrap (m 9 / 1), IntKind.u8.wrap (m 10 / 16777216), IntKind.u8.wrap (m 10 / 65536), IntKind.u8.wrap (m 10 / 256), IntKind.u8.wrap (m 10 / 1), IntKind.u8.wrap (m 11), IntKind.u8.wrap (m 12 / 16777216), IntKind.u8.wrap (m 12 / 65536), IntKind.u8.wrap (m 12 / 256), IntKind.u8.wrap (m 12 / 1), IntKind.u8.wrap (m 13 / 16777216), IntKind.u8.wrap (m 13 / 65536), IntKind.u8.wrap (m 13 / 256), IntKind.u8.wrap (m 13 / 1), IntKind.u8.wrap (m 14 / 16777216), IntKind.u8.wrap (m 14 / 65536), IntKind.u8.wrap (m 14 / 256), IntKind.u8.wrap (m 14 / 1), IntKind.u8.wrap (m 15 / 16777216), IntKind.u8.wrap (m 15 / 65536), IntKind.u8.wrap (m 15 / 256), IntKind.u8.wrap (m 15 / 1), IntKind.u8.wrap (m 16 / 16777216), IntKind.u8.wrap (m 16 / 65536), IntKind.u8.wrap (m 16 / 256), IntKind.u8.wrap (m 16 / 1), IntKind.u8.wrap (m 17 / 16777216), IntKind.u8.wrap (m 17 / 65536), IntKind.u8.wrap (m 17 / 256), IntKind.u8.wrap (m 17 / 1), IntKind.u8.wrap (m 18 / 16777216), IntKind.u8.wrap (m 18 / 65536), IntKind.u8.wrap (m 18 / 256), IntKind.u8.wrap (m 18 / 1), IntKind.u8.wrap (m 19 / 16777216), IntKind.u8.wrap (m 19 / 65536), IntKind.u8.wrap (m 19 / 256), IntKind.u8.wrap (m 19 / 1), IntKind.u8.wrap (m 20 / 16777216), IntKind.u8.wrap (m 20 / 65536), IntKind.u8.wrap (m 20 / 256), IntKind.u8.wrap (m 20 / 1), IntKind.u8.wrap (m 21 / 16777216), IntKind.u8.wrap (m 21 / 65536), IntKind.u8.wrap (m 21 / 256), IntKind.u8.wrap (m 21 / 1), IntKind.u8.wrap (m 22 / 16777216), IntKind.u8.wrap (m 22 / 65536), IntKind.u8.wrap (m 22 / 256), IntKind.u8.wrap (m 22 / 1), IntKind.u8.wrap (m 23 / 16777216), IntKind.u8.wrap (m 23 / 65536), IntKind.u8.wrap (m 23 / 256), IntKind.u8.wrap (m 23 / 1), IntKind.u8.wrap (m 24 / 16777216), IntKind.u8.wrap (m 24 / 65536), IntKind.u8.wrap (m 24 / 256), IntKind.u8.wrap (m 24 / 1), IntKind.u8.wrap (m 25 / 16777216), IntKind.u8.wrap (m 25 / 65536), IntKind.u8.wrap (m 25 / 256), IntKind.u8.wrap (m 25 / 1), IntKind.u8.wrap (m 26 / 16777216), IntKind.u8.wrap (m 26 / 65536), IntKind.u8.wrap (m 26 / 256), IntKind.u8.wrap (m 26 / 1), IntKind.u8.wrap (m 27 / 16777216), IntKind.u8.wrap (m 27 / 65536), IntKind.u8.wrap (m 27 / 256), IntKind.u8.wrap (m 27 / 1)] := by
  obtain ⟨h1, h4⟩ := msg_rng h
  have g4 : ∀ k, (k = 3 ∨ k = 4 ∨ k = 9 ∨ k = 10 ∨ 12 ≤ k) → k < 28 → four_F (m k) = [IntKind.u8.wrap (m k / 16777216), IntKind.u8.wrap (m k / 65536), IntKind.u8.wrap (m k / 256), IntKind.u8.wrap (m k / 1)] := fun k hk hk' => by rw [four_eq (h4 k hk hk'), beN4]
  have hx : refEnc_F m = ((((((([IntKind.u8.wrap (m 0), IntKind.u8.wrap (m 1), IntKind.u8.wrap (m 2)] ++ four_F (m 3)) ++ four_F (m 4)) ++ [IntKind.u8.wrap (m 5), IntKind.u8.wrap (m 6), IntKind.u8.wrap (m 7), IntKind.u8.wrap (m 8)]) ++ four_F (m 9)) ++ four_F (m 10)) ++ [IntKind.u8.wrap (m 11)])) ++ ((four_F (m 12) ++ four_F (m 13)) ++ ((four_F (m 14) ++ four_F (m 15)) ++ ((four_F (m 16) ++ four_F (m 17)) ++ ((four_F (m 18) ++ four_F (m 19)) ++ ((four_F (m 20) ++ four_F (m 21)) ++ ((four_F (m 22) ++ four_F (m 23)) ++ ((four_F (m 24) ++ four_F (m 25)) ++ ((four_F (m 26) ++ four_F (m 27)) ++ ([]))))))))) := rfl
  rw [hx]
  rw [g4 3 (by omega) (by omega), g4 4 (by omega) (by omega), g4 9 (by omega) (by omega), g4 10 (by omega) (by omega), g4 12 (by omega) (by omega), g4 13 (by omega) (by omega), g4 14 (by omega) (by omega), g4 15 (by omega) (by omega), g4 16 (by omega) (by omega), g4 17 (by omega) (by omega), g4 18 (by omega) (by omega), g4 19 (by omega) (by omega), g4 20 (by omega) (by omega), g4 21 (by omega) (by omega), g4 22 (by omega) (by omega), g4 23 (by omega) (by omega), g4 24 (by omega) (by omega), g4 25 (by omega) (by omega), g4 26 (by omega) (by omega), g4 27 (by omega) (by omega)]
  simp only [List.append_assoc, List.cons_append, List.nil_append, List.append_nil]
/-- What was encoded is decoded. -/
theorem dec_enc {m : Nat → Int} (h : msgOk_F m = 0) : ∀ i, i < 28 → decM (refEnc_F m) i = m i := by
  obtain ⟨h1, h4⟩ := msg_rng h
  have g1 : ∀ k, (k = 0 ∨ k = 1 ∨ k = 2 ∨ k = 5 ∨ k = 6 ∨ k = 7 ∨ k = 8 ∨ k = 11) → IntKind.u8.wrap (m k) = m k := fun k hk => by
    rw [u8_wrap]; exact Int.emod_eq_of_lt (h1 k hk).1 (h1 k hk).2
  rw [bytes88 h]
  refine all28.2 ⟨g1 0 (by omega), g1 1 (by omega), g1 2 (by omega), (num4 _ 3).trans (num_four (h4 3 (by omega) (by omega))), (num4 _ 7).trans (num_four (h4 4 (by omega) (by omega))), g1 5 (by omega), g1 6 (by omega), g1 7 (by omega), g1 8 (by omega), (num4 _ 15).trans (num_four (h4 9 (by omega) (by omega))), (num4 _ 19).trans (num_four (h4 10 (by omega) (by omega))), g1 11 (by omega), (num4 _ 24).trans (num_four (h4 12 (by omega) (by omega))), (num4 _ 28).trans (num_four (h4 13 (by omega) (by omega))), (num4 _ 32).trans (num_four (h4 14 (by omega) (by omega))), (num4 _ 36).trans (num_four (h4 15 (by omega) (by omega))), (num4 _ 40).trans (num_four (h4 16 (by omega) (by omega))), (num4 _ 44).trans (num_four (h4 17 (by omega) (by omega))), (num4 _ 48).trans (num_four (h4 18 (by omega) (by omega))), (num4 _ 52).trans (num_four (h4 19 (by omega) (by omega))), (num4 _ 56).trans (num_four (h4 20 (by omega) (by omega))), (num4 _ 60).trans (num_four (h4 21 (by omega) (by omega))), (num4 _ 64).trans (num_four (h4 22 (by omega) (by omega))), (num4 _ 68).trans (num_four (h4 23 (by omega) (by omega))), (num4 _ 72).trans (num_four (h4 24 (by omega) (by omega))), (num4 _ 76).trans (num_four (h4 25 (by omega) (by omega))), (num4 _ 80).trans (num_four (h4 26 (by omega) (by omega))), (num4 _ 84).trans (num_four (h4 27 (by omega) (by omega)))⟩
end Go.E
