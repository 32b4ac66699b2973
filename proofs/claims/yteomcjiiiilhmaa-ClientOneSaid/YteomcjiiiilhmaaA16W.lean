/- The code answers as the relations say. -/
import Derived.Test.YteomcjiiiilhmaaTab
import Derived.Test.YteomcjiiiilhmaaA16S
import Derived.Test.YteomcjiiiilhmaaMCW
import Derived.Test.YteomcjiiiilhmaaSK
set_option maxHeartbeats 1000000
set_option linter.unusedVariables false
set_option linter.unusedSimpArgs false
set_option maxRecDepth 100000
namespace Go.Proofs.Yteomcjiiiilhmaa
open Go Go.E

theorem code_c (e0 : Int) (w : World) : Con Try.prog 13 #[errV 56 e0] w (Is (.int .i64 (code_F e0)) []) :=
  code_con e0 w _ (code_ok e0)

theorem ints_con (a0 : (List Int)) (b1 : (List Int)) (v0 : Value) (v1 : Value) (w : World) (hs0 : SL w 1 ic v0 a0) (hs1 : SL w 1 ic v1 b1) (r : Bool) (h : ints_S a0 b1 r) : Con Try.prog 17 #[v0, v1] w (Is (.bool r) []) := by
  unfold ints_S at h
  refine con_enter (n := 26) [(0, _), (1, _)] Try.func17 rfl Try.ntmps17 rfl (lac rfl (lac rfl lan)) ?_
  refine xw_seq (xw_region ?_)
  refine xq rfl trivial (o_as rfl) ?_
  refine xo_nil (xq_then (xw_seq (xw_seq (xw_region ?_))))
  refine xq rfl trivial (o_mv rfl) ?_
  refine xq rfl trivial (o_lenL rfl Try.underlying33 rfl (SL.val hs0)) ?_
  refine xq rfl trivial (o_mv rfl) ?_
  refine xq rfl trivial (o_lenL rfl Try.underlying33 rfl (SL.val hs1)) ?_
  refine xq rfl trivial (o_neq rfl rfl) ?_
  refine xo_nil (xq_then ?_)
  refine xw_bool 10 rfl (fun hc1 => ?_) (fun hc1 => ?_)
  · have hq1 : (decide ((a0.length : Int) = (b1.length : Int))) = false := (bnT hc1)
    have hp1 : ¬ ((a0.length : Int) = (b1.length : Int)) := of_decide_eq_false hq1
    rw [if_neg hp1] at h
    refine xw_cond_t rfl rfl (xw_seq (xw_region ?_))
    refine xq rfl trivial (o_as rfl) ?_
    refine xo_nil (xq_then (xw_ret (xq_then_ret ?_)))
    subst h
    exact con_ret1 (.inl rfl) Try.results17 rfl [] (fun _ h => h) (⟨rfl, rfl⟩)
  · have hq1 : (decide ((a0.length : Int) = (b1.length : Int))) = true := (bnF hc1)
    have hp1 : (a0.length : Int) = (b1.length : Int) := of_decide_eq_true hq1
    rw [if_pos hp1] at h
    refine xw_cond_f rfl rfl (xw_skip (xq_then (xw_seq (xw_seq (xw_region ?_)))))
    refine xq rfl trivial (o_as rfl) ?_
    refine xo_nil (xq_then ?_)
    refine xw_block ?_
    obtain ⟨x1, hx1, h⟩ := h
    refine xw_wh (fun (i5 : Int) e H => e = [(0, v0), (1, v1), (5, .int .i64 i5)] ∧ H = []) (fun x ex e H => match x with | .inl _ => ex = .exit 0 ∧ e = [] ∧ H = [] | .inr _ => ex = .ret ∧ e = [(4, .bool false)] ∧ H = []) hx1 ⟨[(0, v0), (1, v1), (5, .int .i64 0)], [], (lc rfl (lc rfl (lc rfl ln))), fun _ h => h, ⟨rfl, rfl⟩⟩ ?_ ?_
    · rintro i5 o _ _ ⟨rfl, rfl⟩ hb
      have h : ints_l1 a0 b1 i5 o := hb
      clear hb
      unfold ints_l1 at h
      refine xw_seq (xw_seq (xw_region ?_))
      refine xq rfl trivial (o_mv rfl) ?_
      refine xq rfl trivial (o_mv rfl) ?_
      refine xq rfl trivial (o_lenL rfl Try.underlying33 rfl (SL.val hs0)) ?_
      refine xq rfl trivial (o_lss rfl rfl) ?_
      refine xo_nil (xq_then ?_)
      refine xw_bool 14 rfl (fun hc2 => ?_) (fun hc2 => ?_)
      · have hq2 : (decide (i5 < (a0.length : Int))) = true := hc2
        have hp2 : i5 < (a0.length : Int) := of_decide_eq_true hq2
        rw [if_pos hp2] at h
        refine xw_cond_t rfl rfl (xw_skip (xq_then (xw_seq ?_)))
        refine xw_block ?_
        refine xw_seq ?_
        refine xd_start (by kernel_rfl) (by kernel_rfl) (fun hok => ?_)
        refine xd_b hok 0 [(0, _)] ([]) rsN rfl rfl rfl (lc rfl ln) (by kernel_rfl) trivial (fun H' hy hK => o_mv rfl) ?_
        refine xd_b hok 1 [(5, _)] ([]) rsN rfl rfl rfl (lc rfl ln) (by kernel_rfl) trivial (fun H' hy hK => o_mv rfl) ?_
        obtain ⟨ho3, h⟩ := h
        refine xd_b hok 2 [(17, _), (18, _)] ([]) rsN rfl rfl rfl (lc rfl (lc rfl ln)) (by kernel_rfl) trivial (fun H' hy hK => o_ixL el33 rfl rfl (fun w hw => (hs0.keep hw (fun k hk => (hK k hk).elim (fun h => Fr.nil k h) id))) rfl ho3) ?_
        refine xd_b hok 3 [(19, _)] ([]) rsN rfl rfl rfl (lc rfl ln) (by kernel_rfl) trivial (fun H' hy hK => o_ldL1 (off := 0) (u := .int .i64 (a0[i5.toNat]!)) rfl ts3 rfl (fun w hw => (hs0.keep hw (fun k hk => (hK k hk).elim (fun h => Fr.nil k h) id))) (toNat_lt ho3) rfl rfl) ?_
        refine xd_b hok 4 [(1, _)] ([]) rsN rfl rfl rfl (lc rfl ln) (by kernel_rfl) trivial (fun H' hy hK => o_mv rfl) ?_
        refine xd_b hok 5 [(5, _)] ([]) rsN rfl rfl rfl (lc rfl ln) (by kernel_rfl) trivial (fun H' hy hK => o_mv rfl) ?_
        obtain ⟨ho4, h⟩ := h
        refine xd_b hok 6 [(21, _), (22, _)] ([]) rsN rfl rfl rfl (lc rfl (lc rfl ln)) (by kernel_rfl) trivial (fun H' hy hK => o_ixL el33 rfl rfl (fun w hw => (hs1.keep hw (fun k hk => (hK k hk).elim (fun h => Fr.nil k h) id))) rfl ho4) ?_
        refine xd_b hok 7 [(23, _)] ([]) rsN rfl rfl rfl (lc rfl ln) (by kernel_rfl) trivial (fun H' hy hK => o_ldL1 (off := 0) (u := .int .i64 (b1[i5.toNat]!)) rfl ts3 rfl (fun w hw => (hs1.keep hw (fun k hk => (hK k hk).elim (fun h => Fr.nil k h) id))) (toNat_lt ho4) rfl rfl) ?_
        refine xd_b hok 8 [(20, _), (24, _)] ([]) rsN rfl rfl rfl (lc rfl (lc rfl ln)) (by kernel_rfl) trivial (fun H' hy hK => o_neq rfl rfl) ?_
        refine xd_end hok (by kernel_rfl) ?_
        refine xq_then ?_
        refine xw_bool 25 rfl (fun hc5 => ?_) (fun hc5 => ?_)
        · have hq5 : (decide (a0[i5.toNat]! = b1[i5.toNat]!)) = false := (bnT hc5)
          have hp5 : ¬ (a0[i5.toNat]! = b1[i5.toNat]!) := of_decide_eq_false hq5
          rw [if_neg hp5] at h
          refine xw_cond_t rfl rfl (xw_seq (xw_region ?_))
          refine xq rfl trivial (o_as rfl) ?_
          refine xo_nil (xq_then (xw_ret (xq_blk_ret (xq_then_ret ?_))))
          exact xq_out (r := (.inr () : (Unit) ⊕ (Unit))) (e' := [(4, .bool false)]) ([]) (lc rfl ln) (fun _ h => h) h (by intro hh; cases hh) ⟨rfl, rfl, rfl⟩
        · have hq5 : (decide (a0[i5.toNat]! = b1[i5.toNat]!)) = true := (bnF hc5)
          have hp5 : a0[i5.toNat]! = b1[i5.toNat]! := of_decide_eq_true hq5
          rw [if_pos hp5] at h
          refine xw_cond_f rfl rfl (xw_skip ?_)
          refine xq_blk 1 ?_
          refine xq_then (xw_region ?_)
          refine xq rfl trivial (o_mv rfl) ?_
          obtain ⟨ho6, h⟩ := h
          refine xq rfl trivial (o_add rfl rfl rfl ho6) ?_
          refine xq rfl trivial (o_as rfl) ?_
          refine xo_nil ?_
          exact xq_next (s' := (i5 + 1 : Int)) (e' := [(0, v0), (1, v1), (5, .int .i64 (i5 + 1))]) ([]) (lc rfl (lc rfl (lc rfl ln))) (fun _ h => h) h ⟨rfl, rfl⟩
      · have hq2 : (decide (i5 < (a0.length : Int))) = false := hc2
        have hp2 : ¬ (i5 < (a0.length : Int)) := of_decide_eq_false hq2
        rw [if_neg hp2] at h
        refine xw_cond_f rfl rfl (xw_exit (xq_then_exit ?_))
        exact xq_out (r := (.inl () : (Unit) ⊕ (Unit))) (e' := []) ([]) ln (fun _ h => h) h (by intro hh; cases hh) ⟨rfl, rfl, rfl⟩
    · rcases x1 with _ | x1
      · rintro _ _ _ ⟨rfl, rfl, rfl⟩
        replace h : ints_k1a r := h
        unfold ints_k1a at h
        refine xq_blk_eq ?_
        refine xq_then (xw_seq (xw_region ?_))
        refine xq rfl trivial (o_as rfl) ?_
        refine xo_nil (xq_then (xw_ret ?_))
        subst h
        exact con_ret1 (.inl rfl) Try.results17 rfl [] (fun _ h => h) (⟨rfl, rfl⟩)
      cases x1
      rintro _ _ _ ⟨rfl, rfl, rfl⟩
      replace h : ints_k1b r := h
      unfold ints_k1b at h
      refine xq_blk_ret (xq_then_ret ?_)
      subst h
      exact con_ret1 (.inl rfl) Try.results17 rfl [] (fun _ h => h) (⟨rfl, rfl⟩)

theorem risingR_con (l0 : (List Int)) (v0 : Value) (w : World) (hs0 : SL w 1 ic v0 l0) (r : (List Int)) (h : risingR_S l0 r) : Con Try.prog 28 #[v0] w (fun v F => ∃ (u0 : Value) (C0 : GH), v = u0 ∧ F = (C0 ++ []) ∧ OJ 3 1 ic C0 u0 r ∧ Cov w [] C0) := by
  unfold risingR_S at h
  refine con_enter (n := 60) [(0, _)] Try.func28 rfl Try.ntmps28 rfl (lac rfl lan) ?_
  refine xw_seq (xw_region ?_)
  refine xq rfl trivial (o_as rfl) ?_
  refine xo_nil (xq_then (xw_seq (xw_region ?_)))
  refine xq rfl trivial (o_as rfl) ?_
  refine xo_nil (xq_then (xw_seq (xw_seq (xw_region ?_))))
  refine xq rfl trivial (o_as rfl) ?_
  refine xo_nil (xq_then ?_)
  refine xw_block ?_
  obtain ⟨out3, hx1, h⟩ := h
  refine xw_wh (fun s e H => match s with | (out3, i4) => ∃ (v3_1 : Value) (B3_1 : GH), e = [(0, v0), (3, v3_1), (4, .int .i64 i4)] ∧ H = B3_1 ++ ([]) ∧ OJ 3 1 ic B3_1 v3_1 out3 ∧ Cov w [] B3_1) (fun (out3 : (List Int)) ex e H => ∃ (v3_1o : Value) (B3_1o : GH), ex = .exit 0 ∧ e = [(3, v3_1o)] ∧ H = B3_1o ++ ([]) ∧ OJ 3 1 ic B3_1o v3_1o out3 ∧ Cov w [] B3_1o) hx1 ⟨[(0, v0), (3, .slice none 0 0), (4, .int .i64 0)], [] ++ ([]), (lc rfl (lc rfl (lc rfl ln))), fun _ h => h, ⟨_, [], rfl, rfl, OJ.nil, (Cov.refl _)⟩⟩ ?_ ?_
  · rintro ⟨out3, i4⟩ o _ _ ⟨v3_1, B3_1, rfl, rfl, hJ3_1, hcB3_1⟩ hb
    have h : risingR_l1 l0 out3 i4 o := hb
    clear hb
    unfold risingR_l1 at h
    refine xw_seq (xw_seq (xw_region ?_))
    refine xq rfl trivial (o_mv rfl) ?_
    refine xq rfl trivial (o_mv rfl) ?_
    refine xq rfl trivial (o_lenL rfl Try.underlying33 rfl (SL.val hs0)) ?_
    refine xq rfl trivial (o_lss rfl rfl) ?_
    refine xo_nil (xq_then ?_)
    refine xw_bool 9 rfl (fun hc1 => ?_) (fun hc1 => ?_)
    · have hq1 : (decide (i4 < (l0.length : Int))) = true := hc1
      have hp1 : i4 < (l0.length : Int) := of_decide_eq_true hq1
      rw [if_pos hp1] at h
      refine xw_cond_t rfl rfl (xw_skip (xq_then (xw_seq ?_)))
      refine xw_block ?_
      refine xw_seq (xw_region ?_)
      refine xq rfl trivial (o_as rfl) ?_
      refine xo_nil (xq_then (xw_seq ?_))
      refine xw_block ?_
      obtain ⟨at5, hx2, h⟩ := h
      refine xw_wh (fun (at5 : Int) e H => e = [(0, v0), (3, v3_1), (4, .int .i64 i4), (5, .int .i64 at5)] ∧ H = B3_1 ++ ([])) (fun (at5 : Int) ex e H => ex = .exit 2 ∧ e = [(0, v0), (3, v3_1), (4, .int .i64 i4), (5, .int .i64 at5)] ∧ H = B3_1 ++ ([])) hx2 ⟨[(0, v0), (3, v3_1), (4, .int .i64 i4), (5, .int .i64 0)], B3_1 ++ ([]), (lc rfl (lc rfl (lc rfl (lc rfl ln)))), fun _ h => h, ⟨rfl, rfl⟩⟩ ?_ ?_
      · rintro at5 o _ _ ⟨rfl, rfl⟩ hb
        have h : risingR_l2 l0 out3 i4 at5 o := hb
        clear hb
        unfold risingR_l2 at h
        refine xw_seq (xw_seq ?_)
        obtain ⟨ho2, ho3, h⟩ := h
        refine xw_cut [(0, _), (3, _), (4, _), (5, _)] (lc rfl (lc rfl (lc rfl (lc rfl ln)))) [(26, .bool ((decide (at5 < (out3.length : Int))) && (decide (out3[at5.toNat]! < l0[i4.toNat]!))))] ?_ ?_
        · refine xd_start (by kernel_rfl) (by kernel_rfl) (fun hok => ?_)
          refine xd_b hok 0 [(5, _)] ([]) rsN rfl rfl rfl (lc rfl ln) (by kernel_rfl) trivial (fun H' hy hK => o_mv rfl) ?_
          refine xd_b hok 1 [(3, _)] ([]) rsN rfl rfl rfl (lc rfl ln) (by kernel_rfl) trivial (fun H' hy hK => o_mv rfl) ?_
          refine xd_b hok 2 [(13, _)] ([]) rsN rfl rfl rfl (lc rfl ln) (by kernel_rfl) trivial (fun H' hy hK => o_lenL rfl Try.underlying33 rfl (OJ.val hJ3_1)) ?_
          refine xd_b hok 3 [(12, _), (14, _)] ([]) rsN rfl rfl rfl (lc rfl (lc rfl ln)) (by kernel_rfl) trivial (fun H' hy hK => o_lss rfl rfl) ?_
          refine xd_b hok 4 [(15, _)] ([]) rsN rfl rfl rfl (lc rfl ln) (by kernel_rfl) trivial (fun H' hy hK => o_mv rfl) ?_
          refine xd_bool 16 rfl (fun hg4 => ?_) (fun hg4 => ?_)
          · have hq4 : (decide (at5 < (out3.length : Int))) = true := hg4
            have hp4 : at5 < (out3.length : Int) := of_decide_eq_true hq4
            refine xd_b hok 5 [(3, _), (16, _)] ([]) rsN rfl rfl rfl (lc rfl (lc rfl ln)) (by kernel_rfl) ⟨_, rfl, rfl⟩ (fun H' hy hK => o_mv rfl) ?_
            refine xd_b hok 6 [(5, _), (16, _)] ([]) rsN rfl rfl rfl (lc rfl (lc rfl ln)) (by kernel_rfl) ⟨_, rfl, rfl⟩ (fun H' hy hK => o_mv rfl) ?_
            refine xd_b hok 7 [(17, _), (18, _), (16, _)] (B3_1 ++ ([])) (rsA (Pull.sub (.here _ _)) rsN) rfl rfl rfl (lc rfl (lc rfl (lc rfl ln))) (by kernel_rfl) ⟨_, rfl, rfl⟩ (fun H' hy hK => o_ixL el33 rfl rfl (fun w hw => (hJ3_1.sl hw (fun x hx => hy x (Pull.sub (.here _ _) x hx)))) rfl (ho2 (by first | exact hg4 | (simp only [hq4, if_pos hp4, bS]; done) | (simp only [hq4, if_pos hp4, bS, reduceIte, Bool.false_eq_true]; done) | (simp [hp4]; done) | (simp_all; done)))) ?_
            refine xd_b hok 8 [(19, _), (16, _)] (B3_1 ++ ([])) (rsA (Pull.sub (.here _ _)) rsN) rfl rfl rfl (lc rfl (lc rfl ln)) (by kernel_rfl) ⟨_, rfl, rfl⟩ (fun H' hy hK => o_ldL1 (off := 0) (u := .int .i64 (out3[at5.toNat]!)) rfl ts3 rfl (fun w hw => (hJ3_1.sl hw (fun x hx => hy x (Pull.sub (.here _ _) x hx)))) (toNat_lt (ho2 (by first | exact hg4 | (simp only [hq4, if_pos hp4, bS]; done) | (simp only [hq4, if_pos hp4, bS, reduceIte, Bool.false_eq_true]; done) | (simp [hp4]; done) | (simp_all; done)))) rfl rfl) ?_
            refine xd_b hok 9 [(0, _), (16, _)] ([]) rsN rfl rfl rfl (lc rfl (lc rfl ln)) (by kernel_rfl) ⟨_, rfl, rfl⟩ (fun H' hy hK => o_mv rfl) ?_
            refine xd_b hok 10 [(4, _), (16, _)] ([]) rsN rfl rfl rfl (lc rfl (lc rfl ln)) (by kernel_rfl) ⟨_, rfl, rfl⟩ (fun H' hy hK => o_mv rfl) ?_
            refine xd_b hok 11 [(21, _), (22, _), (16, _)] ([]) rsN rfl rfl rfl (lc rfl (lc rfl (lc rfl ln))) (by kernel_rfl) ⟨_, rfl, rfl⟩ (fun H' hy hK => o_ixL el33 rfl rfl (fun w hw => (hs0.keep hw (fun k hk => (hK k hk).elim (fun h => (Fr.seg hcB3_1 Fr.nil) k h) id))) rfl (ho3 (by first | exact hg4 | (simp only [hq4, if_pos hp4, bS]; done) | (simp only [hq4, if_pos hp4, bS, reduceIte, Bool.false_eq_true]; done) | (simp [hp4]; done) | (simp_all; done)))) ?_
            refine xd_b hok 12 [(23, _), (16, _)] ([]) rsN rfl rfl rfl (lc rfl (lc rfl ln)) (by kernel_rfl) ⟨_, rfl, rfl⟩ (fun H' hy hK => o_ldL1 (off := 0) (u := .int .i64 (l0[i4.toNat]!)) rfl ts3 rfl (fun w hw => (hs0.keep hw (fun k hk => (hK k hk).elim (fun h => (Fr.seg hcB3_1 Fr.nil) k h) id))) (toNat_lt (ho3 (by first | exact hg4 | (simp only [hq4, if_pos hp4, bS]; done) | (simp only [hq4, if_pos hp4, bS, reduceIte, Bool.false_eq_true]; done) | (simp [hp4]; done) | (simp_all; done)))) rfl rfl) ?_
            refine xd_b hok 13 [(20, _), (24, _), (16, _)] ([]) rsN rfl rfl rfl (lc rfl (lc rfl (lc rfl ln))) (by kernel_rfl) ⟨_, rfl, rfl⟩ (fun H' hy hK => o_lss rfl rfl) ?_
            refine xd_b hok 14 [(16, _), (25, _)] ([]) rsN rfl rfl rfl (lc rfl (lc rfl ln)) (by kernel_rfl) trivial (fun H' hy hK => o_pick_t rfl rfl) ?_
            refine xd_end hok (by kernel_rfl) ?_
            exact xq_cut ((lce rfl (by first | rfl | (simp only [hq4, if_pos hp4, bS]; done) | (simp only [hq4, if_pos hp4, bS, reduceIte, Bool.false_eq_true]; done) | (simp [hp4]; done) | (simp_all; done)) (lc rfl (lc rfl (lc rfl (lc rfl ln)))))) (fun _ h => h)
          · have hq4 : (decide (at5 < (out3.length : Int))) = false := hg4
            have hp4 : ¬ (at5 < (out3.length : Int)) := of_decide_eq_false hq4
            refine xd_skip hok 5 [(3, _), (16, _)] rfl rfl rfl (lc rfl (lc rfl ln)) (by kernel_rfl) ⟨_, _, rfl, rfl, rfl⟩ ?_
            refine xd_skip hok 6 [(5, _), (16, _)] rfl rfl rfl (lc rfl (lc rfl ln)) (by kernel_rfl) ⟨_, _, rfl, rfl, rfl⟩ ?_
            refine xd_skip hok 7 [(17, _), (18, _), (16, _)] rfl rfl rfl (lc rfl (lc rfl (lc rfl ln))) (by kernel_rfl) ⟨_, _, rfl, rfl, rfl⟩ ?_
            refine xd_skip hok 8 [(19, _), (16, _)] rfl rfl rfl (lc rfl (lc rfl ln)) (by kernel_rfl) ⟨_, _, rfl, rfl, rfl⟩ ?_
            refine xd_skip hok 9 [(0, _), (16, _)] rfl rfl rfl (lc rfl (lc rfl ln)) (by kernel_rfl) ⟨_, _, rfl, rfl, rfl⟩ ?_
            refine xd_skip hok 10 [(4, _), (16, _)] rfl rfl rfl (lc rfl (lc rfl ln)) (by kernel_rfl) ⟨_, _, rfl, rfl, rfl⟩ ?_
            refine xd_skip hok 11 [(21, _), (22, _), (16, _)] rfl rfl rfl (lc rfl (lc rfl (lc rfl ln))) (by kernel_rfl) ⟨_, _, rfl, rfl, rfl⟩ ?_
            refine xd_skip hok 12 [(23, _), (16, _)] rfl rfl rfl (lc rfl (lc rfl ln)) (by kernel_rfl) ⟨_, _, rfl, rfl, rfl⟩ ?_
            refine xd_skip hok 13 [(20, _), (24, _), (16, _)] rfl rfl rfl (lc rfl (lc rfl (lc rfl ln))) (by kernel_rfl) ⟨_, _, rfl, rfl, rfl⟩ ?_
            refine xd_b hok 14 [(16, _), (25, _)] ([]) rsN rfl rfl rfl (lc rfl (lc rfl ln)) (by kernel_rfl) trivial (fun H' hy hK => o_pick_f rfl rfl) ?_
            refine xd_end hok (by kernel_rfl) ?_
            exact xq_cut ((lce rfl (by first | rfl | (simp only [hq4, if_neg hp4, bS]; done) | (simp only [hq4, if_neg hp4, bS, reduceIte, Bool.false_eq_true]; done) | (simp [hp4]; done) | (simp_all; done)) (lc rfl (lc rfl (lc rfl (lc rfl ln)))))) (fun _ h => h)
        · refine xq_then ?_
          refine xw_bool 26 rfl (fun hc5 => ?_) (fun hc5 => ?_)
          · have hq5 : ((decide (at5 < (out3.length : Int))) && (decide (out3[at5.toNat]! < l0[i4.toNat]!))) = true := hc5
            have hp5 : ((decide (at5 < (out3.length : Int))) && (decide (out3[at5.toNat]! < l0[i4.toNat]!))) = true := hq5
            rw [if_pos hp5] at h
            refine xw_cond_t rfl rfl (xw_skip (xq_then ?_))
            refine xw_block ?_
            refine xw_region ?_
            refine xq rfl trivial (o_mv rfl) ?_
            obtain ⟨ho6, h⟩ := h
            refine xq rfl trivial (o_add rfl rfl rfl ho6) ?_
            refine xq rfl trivial (o_as rfl) ?_
            refine xo_nil ?_
            refine xq_blk 3 ?_
            exact xq_next (s' := (at5 + 1 : Int)) (e' := [(0, v0), (3, v3_1), (4, .int .i64 i4), (5, .int .i64 (at5 + 1))]) (B3_1 ++ ([])) (lc rfl (lc rfl (lc rfl (lc rfl ln)))) (fun _ h => h) h ⟨rfl, rfl⟩
          · have hq5 : ((decide (at5 < (out3.length : Int))) && (decide (out3[at5.toNat]! < l0[i4.toNat]!))) = false := hc5
            have hp5 : ¬ (((decide (at5 < (out3.length : Int))) && (decide (out3[at5.toNat]! < l0[i4.toNat]!))) = true) := bne' hq5
            rw [if_neg hp5] at h
            refine xw_cond_f rfl rfl (xw_exit (xq_then_exit ?_))
            exact xq_out (r := (at5 : Int)) (e' := [(0, v0), (3, v3_1), (4, .int .i64 i4), (5, .int .i64 at5)]) (B3_1 ++ ([])) (lc rfl (lc rfl (lc rfl (lc rfl ln)))) (fun _ h => h) h (by intro hh; cases hh) ⟨rfl, rfl, rfl⟩
      · rintro _ _ _ ⟨rfl, rfl, rfl⟩
        replace h : risingR_k2a l0 out3 i4 at5 o := h
        unfold risingR_k2a at h
        refine xq_blk_eq ?_
        refine xq_then (xw_seq (xw_seq ?_))
        obtain ⟨ho7, ho8, h⟩ := h
        refine xw_cut [(0, _), (3, _), (4, _), (5, _)] (lc rfl (lc rfl (lc rfl (lc rfl ln)))) [(43, .bool ((decide (at5 < (out3.length : Int))) && (decide (out3[at5.toNat]! = l0[i4.toNat]!))))] ?_ ?_
        · refine xd_start (by kernel_rfl) (by kernel_rfl) (fun hok => ?_)
          refine xd_b hok 0 [(5, _)] ([]) rsN rfl rfl rfl (lc rfl ln) (by kernel_rfl) trivial (fun H' hy hK => o_mv rfl) ?_
          refine xd_b hok 1 [(3, _)] ([]) rsN rfl rfl rfl (lc rfl ln) (by kernel_rfl) trivial (fun H' hy hK => o_mv rfl) ?_
          refine xd_b hok 2 [(30, _)] ([]) rsN rfl rfl rfl (lc rfl ln) (by kernel_rfl) trivial (fun H' hy hK => o_lenL rfl Try.underlying33 rfl (OJ.val hJ3_1)) ?_
          refine xd_b hok 3 [(29, _), (31, _)] ([]) rsN rfl rfl rfl (lc rfl (lc rfl ln)) (by kernel_rfl) trivial (fun H' hy hK => o_lss rfl rfl) ?_
          refine xd_b hok 4 [(32, _)] ([]) rsN rfl rfl rfl (lc rfl ln) (by kernel_rfl) trivial (fun H' hy hK => o_mv rfl) ?_
          refine xd_bool 33 rfl (fun hg9 => ?_) (fun hg9 => ?_)
          · have hq9 : (decide (at5 < (out3.length : Int))) = true := hg9
            have hp9 : at5 < (out3.length : Int) := of_decide_eq_true hq9
            refine xd_b hok 5 [(3, _), (33, _)] ([]) rsN rfl rfl rfl (lc rfl (lc rfl ln)) (by kernel_rfl) ⟨_, rfl, rfl⟩ (fun H' hy hK => o_mv rfl) ?_
            refine xd_b hok 6 [(5, _), (33, _)] ([]) rsN rfl rfl rfl (lc rfl (lc rfl ln)) (by kernel_rfl) ⟨_, rfl, rfl⟩ (fun H' hy hK => o_mv rfl) ?_
            refine xd_b hok 7 [(34, _), (35, _), (33, _)] (B3_1 ++ ([])) (rsA (Pull.sub (.here _ _)) rsN) rfl rfl rfl (lc rfl (lc rfl (lc rfl ln))) (by kernel_rfl) ⟨_, rfl, rfl⟩ (fun H' hy hK => o_ixL el33 rfl rfl (fun w hw => (hJ3_1.sl hw (fun x hx => hy x (Pull.sub (.here _ _) x hx)))) rfl (ho7 (by first | exact hg9 | (simp only [hq9, if_pos hp9, bS]; done) | (simp only [hq9, if_pos hp9, bS, reduceIte, Bool.false_eq_true]; done) | (simp [hp9]; done) | (simp_all; done)))) ?_
            refine xd_b hok 8 [(36, _), (33, _)] (B3_1 ++ ([])) (rsA (Pull.sub (.here _ _)) rsN) rfl rfl rfl (lc rfl (lc rfl ln)) (by kernel_rfl) ⟨_, rfl, rfl⟩ (fun H' hy hK => o_ldL1 (off := 0) (u := .int .i64 (out3[at5.toNat]!)) rfl ts3 rfl (fun w hw => (hJ3_1.sl hw (fun x hx => hy x (Pull.sub (.here _ _) x hx)))) (toNat_lt (ho7 (by first | exact hg9 | (simp only [hq9, if_pos hp9, bS]; done) | (simp only [hq9, if_pos hp9, bS, reduceIte, Bool.false_eq_true]; done) | (simp [hp9]; done) | (simp_all; done)))) rfl rfl) ?_
            refine xd_b hok 9 [(0, _), (33, _)] ([]) rsN rfl rfl rfl (lc rfl (lc rfl ln)) (by kernel_rfl) ⟨_, rfl, rfl⟩ (fun H' hy hK => o_mv rfl) ?_
            refine xd_b hok 10 [(4, _), (33, _)] ([]) rsN rfl rfl rfl (lc rfl (lc rfl ln)) (by kernel_rfl) ⟨_, rfl, rfl⟩ (fun H' hy hK => o_mv rfl) ?_
            refine xd_b hok 11 [(38, _), (39, _), (33, _)] ([]) rsN rfl rfl rfl (lc rfl (lc rfl (lc rfl ln))) (by kernel_rfl) ⟨_, rfl, rfl⟩ (fun H' hy hK => o_ixL el33 rfl rfl (fun w hw => (hs0.keep hw (fun k hk => (hK k hk).elim (fun h => (Fr.seg hcB3_1 Fr.nil) k h) id))) rfl (ho8 (by first | exact hg9 | (simp only [hq9, if_pos hp9, bS]; done) | (simp only [hq9, if_pos hp9, bS, reduceIte, Bool.false_eq_true]; done) | (simp [hp9]; done) | (simp_all; done)))) ?_
            refine xd_b hok 12 [(40, _), (33, _)] ([]) rsN rfl rfl rfl (lc rfl (lc rfl ln)) (by kernel_rfl) ⟨_, rfl, rfl⟩ (fun H' hy hK => o_ldL1 (off := 0) (u := .int .i64 (l0[i4.toNat]!)) rfl ts3 rfl (fun w hw => (hs0.keep hw (fun k hk => (hK k hk).elim (fun h => (Fr.seg hcB3_1 Fr.nil) k h) id))) (toNat_lt (ho8 (by first | exact hg9 | (simp only [hq9, if_pos hp9, bS]; done) | (simp only [hq9, if_pos hp9, bS, reduceIte, Bool.false_eq_true]; done) | (simp [hp9]; done) | (simp_all; done)))) rfl rfl) ?_
            refine xd_b hok 13 [(37, _), (41, _), (33, _)] ([]) rsN rfl rfl rfl (lc rfl (lc rfl (lc rfl ln))) (by kernel_rfl) ⟨_, rfl, rfl⟩ (fun H' hy hK => o_eql rfl rfl) ?_
            refine xd_b hok 14 [(33, _), (42, _)] ([]) rsN rfl rfl rfl (lc rfl (lc rfl ln)) (by kernel_rfl) trivial (fun H' hy hK => o_pick_t rfl rfl) ?_
            refine xd_end hok (by kernel_rfl) ?_
            exact xq_cut ((lce rfl (by first | rfl | (simp only [hq9, if_pos hp9, bS]; done) | (simp only [hq9, if_pos hp9, bS, reduceIte, Bool.false_eq_true]; done) | (simp [hp9]; done) | (simp_all; done)) (lc rfl (lc rfl (lc rfl (lc rfl ln)))))) (fun _ h => h)
          · have hq9 : (decide (at5 < (out3.length : Int))) = false := hg9
            have hp9 : ¬ (at5 < (out3.length : Int)) := of_decide_eq_false hq9
            refine xd_skip hok 5 [(3, _), (33, _)] rfl rfl rfl (lc rfl (lc rfl ln)) (by kernel_rfl) ⟨_, _, rfl, rfl, rfl⟩ ?_
            refine xd_skip hok 6 [(5, _), (33, _)] rfl rfl rfl (lc rfl (lc rfl ln)) (by kernel_rfl) ⟨_, _, rfl, rfl, rfl⟩ ?_
            refine xd_skip hok 7 [(34, _), (35, _), (33, _)] rfl rfl rfl (lc rfl (lc rfl (lc rfl ln))) (by kernel_rfl) ⟨_, _, rfl, rfl, rfl⟩ ?_
            refine xd_skip hok 8 [(36, _), (33, _)] rfl rfl rfl (lc rfl (lc rfl ln)) (by kernel_rfl) ⟨_, _, rfl, rfl, rfl⟩ ?_
            refine xd_skip hok 9 [(0, _), (33, _)] rfl rfl rfl (lc rfl (lc rfl ln)) (by kernel_rfl) ⟨_, _, rfl, rfl, rfl⟩ ?_
            refine xd_skip hok 10 [(4, _), (33, _)] rfl rfl rfl (lc rfl (lc rfl ln)) (by kernel_rfl) ⟨_, _, rfl, rfl, rfl⟩ ?_
            refine xd_skip hok 11 [(38, _), (39, _), (33, _)] rfl rfl rfl (lc rfl (lc rfl (lc rfl ln))) (by kernel_rfl) ⟨_, _, rfl, rfl, rfl⟩ ?_
            refine xd_skip hok 12 [(40, _), (33, _)] rfl rfl rfl (lc rfl (lc rfl ln)) (by kernel_rfl) ⟨_, _, rfl, rfl, rfl⟩ ?_
            refine xd_skip hok 13 [(37, _), (41, _), (33, _)] rfl rfl rfl (lc rfl (lc rfl (lc rfl ln))) (by kernel_rfl) ⟨_, _, rfl, rfl, rfl⟩ ?_
            refine xd_b hok 14 [(33, _), (42, _)] ([]) rsN rfl rfl rfl (lc rfl (lc rfl ln)) (by kernel_rfl) trivial (fun H' hy hK => o_pick_f rfl rfl) ?_
            refine xd_end hok (by kernel_rfl) ?_
            exact xq_cut ((lce rfl (by first | rfl | (simp only [hq9, if_neg hp9, bS]; done) | (simp only [hq9, if_neg hp9, bS, reduceIte, Bool.false_eq_true]; done) | (simp [hp9]; done) | (simp_all; done)) (lc rfl (lc rfl (lc rfl (lc rfl ln)))))) (fun _ h => h)
        · refine xq_then ?_
          refine xw_bool 43 rfl (fun hc10 => ?_) (fun hc10 => ?_)
          · have hq10 : ((decide (at5 < (out3.length : Int))) && (decide (out3[at5.toNat]! = l0[i4.toNat]!))) = true := hc10
            have hp10 : ((decide (at5 < (out3.length : Int))) && (decide (out3[at5.toNat]! = l0[i4.toNat]!))) = true := hq10
            rw [if_pos hp10] at h
            refine xw_cond_t rfl rfl (xw_exit (xq_then_exit ?_))
            refine xq_blk_eq ?_
            refine xq_then (xw_region ?_)
            refine xq rfl trivial (o_mv rfl) ?_
            obtain ⟨ho11, h⟩ := h
            refine xq rfl trivial (o_add rfl rfl rfl ho11) ?_
            refine xq rfl trivial (o_as rfl) ?_
            refine xo_nil ?_
            exact xq_next (s' := ((out3, i4 + 1) : (List Int) × Int)) (e' := [(0, v0), (3, v3_1), (4, .int .i64 (i4 + 1))]) (B3_1 ++ ([])) (lc rfl (lc rfl (lc rfl ln))) (fun _ h => h) h ⟨v3_1, B3_1, rfl, rfl, hJ3_1, hcB3_1⟩
          · have hq10 : ((decide (at5 < (out3.length : Int))) && (decide (out3[at5.toNat]! = l0[i4.toNat]!))) = false := hc10
            have hp10 : ¬ (((decide (at5 < (out3.length : Int))) && (decide (out3[at5.toNat]! = l0[i4.toNat]!))) = true) := bne' hq10
            rw [if_neg hp10] at h
            refine xw_cond_f rfl rfl (xw_skip (xq_then ?_))
            refine xd_start (by kernel_rfl) (by kernel_rfl) (fun hok => ?_)
            refine xd_b hok 1 [(3, _)] ([]) rsN rfl rfl rfl (lc rfl ln) (by kernel_rfl) trivial (fun H' hy hK => o_mv rfl) ?_
            refine xd_b hok 2 [(5, _)] ([]) rsN rfl rfl rfl (lc rfl ln) (by kernel_rfl) trivial (fun H' hy hK => o_mv rfl) ?_
            obtain ⟨ho12, h⟩ := h
            refine xd_b hok 3 [(45, _), (46, _)] (B3_1 ++ ([])) (rsA (Pull.sub (.here _ _)) rsN) rfl rfl rfl (lc rfl (lc rfl ln)) (by kernel_rfl) trivial (fun H' hy hK => o_cutH el33 rfl (fun w hw => (hJ3_1.sl hw (fun x hx => hy x (Pull.sub (.here _ _) x hx)))) rfl ho12) ?_
            refine xd_b hok 5 [(0, _)] ([]) rsN rfl rfl rfl (lc rfl ln) (by kernel_rfl) trivial (fun H' hy hK => o_mv rfl) ?_
            refine xd_b hok 6 [(4, _)] ([]) rsN rfl rfl rfl (lc rfl ln) (by kernel_rfl) trivial (fun H' hy hK => o_mv rfl) ?_
            obtain ⟨ho13, h⟩ := h
            refine xd_b hok 7 [(49, _), (50, _)] ([]) rsN rfl rfl rfl (lc rfl (lc rfl ln)) (by kernel_rfl) trivial (fun H' hy hK => o_ixL el33 rfl rfl (fun w hw => (hs0.keep hw (fun k hk => (hK k hk).elim (fun h => (Fr.seg hcB3_1 Fr.nil) k h) id))) rfl ho13) ?_
            refine xd_b hok 8 [(51, _)] ([]) rsN rfl rfl rfl (lc rfl ln) (by kernel_rfl) trivial (fun H' hy hK => o_ldL1 (off := 0) (u := .int .i64 (l0[i4.toNat]!)) rfl ts3 rfl (fun w hw => (hs0.keep hw (fun k hk => (hK k hk).elim (fun h => (Fr.seg hcB3_1 Fr.nil) k h) id))) (toNat_lt ho13) rfl rfl) ?_
            refine xd_b hok 11 [(3, _)] ([]) rsN rfl rfl rfl (lc rfl ln) (by kernel_rfl) trivial (fun H' hy hK => o_mv rfl) ?_
            refine xd_b hok 12 [(5, _)] ([]) rsN rfl rfl rfl (lc rfl ln) (by kernel_rfl) trivial (fun H' hy hK => o_mv rfl) ?_
            obtain ⟨ho14, h⟩ := h
            refine xd_b hok 13 [(55, _), (56, _)] (B3_1 ++ ([])) (rsA (Pull.sub (.here _ _)) rsN) rfl rfl rfl (lc rfl (lc rfl ln)) (by kernel_rfl) trivial (fun H' hy hK => o_cutL el33 rfl (fun w hw => (hJ3_1.sl hw (fun x hx => hy x (Pull.sub (.here _ _) x hx)))) rfl ho14) ?_
            refine xd_step2 hok 0 9 [] [(52, _)] rfl rfl rfl rfl (by kernel_rfl) ln (lc rfl ln) (by kernel_rfl) (by kernel_rfl) trivial trivial (o_bsl el33 ze3 (cells_one rfl) rfl rfl (.nil _)) (o_bsl el33 ze3 (cells_one rfl) rfl rfl (.int rfl rfl (.nil _))) ?_ ?_
            · rintro _ _ ⟨b44, hb44, rfl, rfl⟩
              refine ⟨(rsA (rsA (Pull.sub (.thereC _ (.here _ _))) rsN) (rsA rsN (rsA rsN (rsA rsN (rsA rsN (rsA rsN (rsA rsN (rsA (rsA (Pull.sub (.thereC _ (.here _ _))) rsN) (rsA rsN (rsA rsN rsN)))))))))), (Ks.consN hb44 (Ks.segK (fun k hk => by simp [hk]) Ks.nil)), ?_⟩
              obtain ⟨ho16, h⟩ := h
              refine xd_step2 hok 4 9 [(44, _), (47, _)] [(52, _)] rfl rfl rfl rfl (by kernel_rfl) (lc rfl (lc rfl ln)) (lc rfl ln) (by kernel_rfl) (by kernel_rfl) trivial trivial (OT.st (fun _ h => Pull.st (.hereC _ _) h) (o_appJ (l := []) (l' := (out3.take at5.toNat).drop 0) (B := [_]) ap33 rfl rfl (OJ.lit (l := []) (List.Mem.head _) rfl (by omega) (by simp [maxLen]) (by exact (fun i hi => match i, hi with  | q + 0, h => absurd h (by omega)))) (fun w2 hw2 => ((hJ3_1.cut (Nat.zero_le _) (toNat_le ho12) (by decide)).sl hw2 (Pull.sub (.there _ (.here _ _))))) (fun _ _ => rfl) ho16 (len_max ho16 (by decide)))) (o_bsl el33 ze3 (cells_one rfl) rfl rfl (.int rfl rfl (.nil _))) ?_ ?_
              · rintro vs15 _ ⟨Bs15, rfl, hns15, hJs15⟩
                have hcBs15 := Cov.trans (Cov.new hb44) hns15
                refine ⟨(rsA (rsA (Pull.sub (.there _ (.here _ _))) rsN) (rsA rsN (rsA rsN (rsA rsN (rsA rsN (rsA rsN (rsA rsN (rsA (rsA (Pull.sub (.there _ (.here _ _))) rsN) (rsA rsN (rsA rsN rsN)))))))))), (Ks.segN hcBs15 (Ks.segK (fun k hk => by simp [hk]) Ks.nil)), ?_⟩
                refine xd_step hok 9 [(52, _)] rfl rfl (by kernel_rfl) (lc rfl ln) (by kernel_rfl) trivial (o_bsl el33 ze3 (cells_one rfl) rfl rfl (.int rfl rfl (.nil _))) ?_
                rintro _ _ ⟨b53, hb53, rfl, rfl⟩
                refine ⟨(rsA (rsA (Pull.sub (.thereC _ (.there _ (.here _ _)))) rsN) (rsA rsN (rsA rsN (rsA rsN (rsA rsN (rsA rsN (rsA rsN (rsA (rsA (Pull.sub (.thereC _ (.there _ (.here _ _)))) rsN) (rsA rsN (rsA rsN rsN)))))))))), (Ks.consN hb53 (Ks.segN hcBs15 (Ks.segK (fun k hk => by simp [hk]) Ks.nil))), ?_⟩
                obtain ⟨ho18, h⟩ := h
                refine xd_step hok 10 [(48, _), (53, _)] rfl rfl (by kernel_rfl) (lc rfl (lc rfl ln)) (by kernel_rfl) trivial (OT.push (fun q_ => (b53, BK 1 _ 3) :: (q_ ++ (B3_1 ++ ([])))) (fun _ => (.thereC _ (.here _ _))) (OT.st (fun _ h => Pull.st (.thereC _ (.here _ _)) h) (o_appJ (l := ([] ++ (out3.take at5.toNat).drop 0)) (l' := [l0[i4.toNat]!]) (B := Bs15) ap33 rfl rfl hJs15 (fun w2 hw2 => (SL.lit (l := [l0[i4.toNat]!]) hw2 (List.mem_append_right _ (List.Mem.head _)) rfl (by omega) (by simp [maxLen]) (by exact (fun i hi => match i, hi with | 0, _ => rfl | q + 1, h => absurd h (by omega))))) (fun _ _ => rfl) ho18 (len_max ho18 (by decide))))) ?_
                rintro vs17 _ ⟨Bs17, rfl, hns17, hJs17⟩
                have hcBs17 := Cov.trans hcBs15 hns17
                refine ⟨(rsA (rsA (Pull.sub (.thereC _ (.there _ (.here _ _)))) rsN) (rsA rsN (rsA rsN (rsA rsN (rsA rsN (rsA rsN (rsA rsN (rsA (rsA (Pull.sub (.thereC _ (.there _ (.here _ _)))) rsN) (rsA rsN (rsA rsN rsN)))))))))), (Ks.consN hb53 (Ks.segN hcBs17 (Ks.segK (fun k hk => by simp [hk]) Ks.nil))), ?_⟩
                refine xd_show (H' := (b53, BK 1 _ 3) :: (Bs17 ++ (B3_1 ++ ([])))) rfl ?_
                obtain ⟨ho20, h⟩ := h
                refine xd_fl hok 4 14 [(54, _), (57, _)] rfl rfl (by kernel_rfl) (by kernel_rfl) (lc rfl (lc rfl ln)) (by kernel_rfl) trivial (OT.push (fun q_ => (b53, BK 1 _ 3) :: (q_ ++ (B3_1 ++ ([])))) (fun _ => (.thereC _ (.here _ _))) (OT.st (fun _ h => Pull.st (.thereC _ (.here _ _)) h) (o_appJ (l := (([] ++ (out3.take at5.toNat).drop 0) ++ [l0[i4.toNat]!])) (l' := (out3.take out3.length).drop at5.toNat) (B := Bs17) ap33 rfl rfl hJs17 (fun w2 hw2 => ((hJ3_1.cut (toNat_le ho14) (Nat.le_refl _) (by decide)).sl hw2 (Pull.sub (.there _ (.thereC _ (.here _ _)))))) (fun _ _ => rfl) ho20 (len_max ho20 (by decide))))) ?_
                rintro vs19 _ ⟨Bs19, rfl, hns19, hJs19⟩
                have hcBs19 := Cov.trans hcBs17 hns19
                refine ⟨(Ks.consN hb53 (Ks.segN hcBs19 (Ks.segK (fun k hk => by simp [hk]) Ks.nil))), ?_⟩
                refine xd_show (H' := (b53, BK 1 _ 3) :: (Bs19 ++ (B3_1 ++ ([])))) rfl ?_
                refine xd_b hok 15 [(58, _)] ([]) rsN rfl rfl rfl (lc rfl ln) (by kernel_rfl) trivial (fun H' hy hK => o_as rfl) ?_
                refine xd_end hok (by kernel_rfl) ?_
                refine xq_blk 1 ?_
                refine xq_then (xw_region ?_)
                refine xq rfl trivial (o_mv rfl) ?_
                obtain ⟨ho21, h⟩ := h
                refine xq rfl trivial (o_add rfl rfl rfl ho21) ?_
                refine xq rfl trivial (o_as rfl) ?_
                refine xo_nil ?_
                exact xq_next (s' := ((((([] ++ (out3.take at5.toNat).drop 0) ++ [l0[i4.toNat]!]) ++ (out3.take out3.length).drop at5.toNat), i4 + 1) : (List Int) × Int)) (e' := [(0, v0), (3, vs19), (4, .int .i64 (i4 + 1))]) (Bs19 ++ ([])) (lc rfl (lc rfl (lc rfl ln))) (Kp.st (Kp.new hb53 (Kp.segKeep (Kp.segNew (Cov.fresh hcB3_1) Kp.nil)))) h ⟨vs19, Bs19, rfl, rfl, hJs19, hcBs19⟩
              · rintro _ _ ⟨b53, hb53, rfl, rfl⟩
                refine ⟨(rsA (rsA (Pull.sub (.thereC _ (.thereC _ (.here _ _)))) rsN) (rsA rsN (rsA rsN (rsA rsN (rsA rsN (rsA rsN (rsA rsN (rsA (rsA (Pull.sub (.thereC _ (.thereC _ (.here _ _)))) rsN) (rsA rsN (rsA rsN rsN)))))))))), (Ks.consN hb53 (Ks.consN hb44 (Ks.segK (fun k hk => by simp [hk]) Ks.nil))), ?_⟩
                refine xd_step hok 4 [(44, _), (47, _)] rfl rfl (by kernel_rfl) (lc rfl (lc rfl ln)) (by kernel_rfl) trivial (OT.push (fun q_ => (b53, BK 1 _ 3) :: (q_ ++ (B3_1 ++ ([])))) (fun _ => (.thereC _ (.here _ _))) (OT.st (fun _ h => Pull.st (.thereC _ (.hereC _ _)) h) (o_appJ (l := []) (l' := (out3.take at5.toNat).drop 0) (B := [_]) ap33 rfl rfl (OJ.lit (l := []) (List.Mem.head _) rfl (by omega) (by simp [maxLen]) (by exact (fun i hi => match i, hi with  | q + 0, h => absurd h (by omega)))) (fun w2 hw2 => ((hJ3_1.cut (Nat.zero_le _) (toNat_le ho12) (by decide)).sl hw2 (Pull.sub (.there _ (.thereC _ (.here _ _)))))) (fun _ _ => rfl) ho16 (len_max ho16 (by decide))))) ?_
                rintro vs22 _ ⟨Bs22, rfl, hns22, hJs22⟩
                have hcBs22 := Cov.trans (Cov.new hb44) hns22
                refine ⟨(rsA (rsA (Pull.sub (.thereC _ (.there _ (.here _ _)))) rsN) (rsA rsN (rsA rsN (rsA rsN (rsA rsN (rsA rsN (rsA rsN (rsA (rsA (Pull.sub (.thereC _ (.there _ (.here _ _)))) rsN) (rsA rsN (rsA rsN rsN)))))))))), (Ks.consN hb53 (Ks.segN hcBs22 (Ks.segK (fun k hk => by simp [hk]) Ks.nil))), ?_⟩
                refine xd_show (H' := (b53, BK 1 _ 3) :: (Bs22 ++ (B3_1 ++ ([])))) rfl ?_
                obtain ⟨ho24, h⟩ := h
                refine xd_step hok 10 [(48, _), (53, _)] rfl rfl (by kernel_rfl) (lc rfl (lc rfl ln)) (by kernel_rfl) trivial (OT.push (fun q_ => (b53, BK 1 _ 3) :: (q_ ++ (B3_1 ++ ([])))) (fun _ => (.thereC _ (.here _ _))) (OT.st (fun _ h => Pull.st (.thereC _ (.here _ _)) h) (o_appJ (l := ([] ++ (out3.take at5.toNat).drop 0)) (l' := [l0[i4.toNat]!]) (B := Bs22) ap33 rfl rfl hJs22 (fun w2 hw2 => (SL.lit (l := [l0[i4.toNat]!]) hw2 (List.mem_append_right _ (List.Mem.head _)) rfl (by omega) (by simp [maxLen]) (by exact (fun i hi => match i, hi with | 0, _ => rfl | q + 1, h => absurd h (by omega))))) (fun _ _ => rfl) ho24 (len_max ho24 (by decide))))) ?_
                rintro vs23 _ ⟨Bs23, rfl, hns23, hJs23⟩
                have hcBs23 := Cov.trans hcBs22 hns23
                refine ⟨(rsA (rsA (Pull.sub (.thereC _ (.there _ (.here _ _)))) rsN) (rsA rsN (rsA rsN (rsA rsN (rsA rsN (rsA rsN (rsA rsN (rsA (rsA (Pull.sub (.thereC _ (.there _ (.here _ _)))) rsN) (rsA rsN (rsA rsN rsN)))))))))), (Ks.consN hb53 (Ks.segN hcBs23 (Ks.segK (fun k hk => by simp [hk]) Ks.nil))), ?_⟩
                refine xd_show (H' := (b53, BK 1 _ 3) :: (Bs23 ++ (B3_1 ++ ([])))) rfl ?_
                obtain ⟨ho26, h⟩ := h
                refine xd_fl hok 4 14 [(54, _), (57, _)] rfl rfl (by kernel_rfl) (by kernel_rfl) (lc rfl (lc rfl ln)) (by kernel_rfl) trivial (OT.push (fun q_ => (b53, BK 1 _ 3) :: (q_ ++ (B3_1 ++ ([])))) (fun _ => (.thereC _ (.here _ _))) (OT.st (fun _ h => Pull.st (.thereC _ (.here _ _)) h) (o_appJ (l := (([] ++ (out3.take at5.toNat).drop 0) ++ [l0[i4.toNat]!])) (l' := (out3.take out3.length).drop at5.toNat) (B := Bs23) ap33 rfl rfl hJs23 (fun w2 hw2 => ((hJ3_1.cut (toNat_le ho14) (Nat.le_refl _) (by decide)).sl hw2 (Pull.sub (.there _ (.thereC _ (.here _ _)))))) (fun _ _ => rfl) ho26 (len_max ho26 (by decide))))) ?_
                rintro vs25 _ ⟨Bs25, rfl, hns25, hJs25⟩
                have hcBs25 := Cov.trans hcBs23 hns25
                refine ⟨(Ks.consN hb53 (Ks.segN hcBs25 (Ks.segK (fun k hk => by simp [hk]) Ks.nil))), ?_⟩
                refine xd_show (H' := (b53, BK 1 _ 3) :: (Bs25 ++ (B3_1 ++ ([])))) rfl ?_
                refine xd_b hok 15 [(58, _)] ([]) rsN rfl rfl rfl (lc rfl ln) (by kernel_rfl) trivial (fun H' hy hK => o_as rfl) ?_
                refine xd_end hok (by kernel_rfl) ?_
                refine xq_blk 1 ?_
                refine xq_then (xw_region ?_)
                refine xq rfl trivial (o_mv rfl) ?_
                obtain ⟨ho27, h⟩ := h
                refine xq rfl trivial (o_add rfl rfl rfl ho27) ?_
                refine xq rfl trivial (o_as rfl) ?_
                refine xo_nil ?_
                exact xq_next (s' := ((((([] ++ (out3.take at5.toNat).drop 0) ++ [l0[i4.toNat]!]) ++ (out3.take out3.length).drop at5.toNat), i4 + 1) : (List Int) × Int)) (e' := [(0, v0), (3, vs25), (4, .int .i64 (i4 + 1))]) (Bs25 ++ ([])) (lc rfl (lc rfl (lc rfl ln))) (Kp.st (Kp.new hb53 (Kp.segKeep (Kp.segNew (Cov.fresh hcB3_1) Kp.nil)))) h ⟨vs25, Bs25, rfl, rfl, hJs25, hcBs25⟩
            · rintro _ _ ⟨b53, hb53, rfl, rfl⟩
              refine ⟨(rsA (rsA (Pull.sub (.thereC _ (.here _ _))) rsN) (rsA rsN (rsA rsN (rsA rsN (rsA rsN (rsA rsN (rsA rsN (rsA (rsA (Pull.sub (.thereC _ (.here _ _))) rsN) (rsA rsN (rsA rsN rsN)))))))))), (Ks.consN hb53 (Ks.segK (fun k hk => by simp [hk]) Ks.nil)), ?_⟩
              refine xd_step hok 0 [] rfl rfl (by kernel_rfl) ln (by kernel_rfl) trivial (o_bsl el33 ze3 (cells_one rfl) rfl rfl (.nil _)) ?_
              rintro _ _ ⟨b44, hb44, rfl, rfl⟩
              refine ⟨(rsA (rsA (Pull.sub (.thereC _ (.thereC _ (.here _ _)))) rsN) (rsA rsN (rsA rsN (rsA rsN (rsA rsN (rsA rsN (rsA rsN (rsA (rsA (Pull.sub (.thereC _ (.thereC _ (.here _ _)))) rsN) (rsA rsN (rsA rsN rsN)))))))))), (Ks.consN hb44 (Ks.consN hb53 (Ks.segK (fun k hk => by simp [hk]) Ks.nil))), ?_⟩
              obtain ⟨ho29, h⟩ := h
              refine xd_step hok 4 [(44, _), (47, _)] rfl rfl (by kernel_rfl) (lc rfl (lc rfl ln)) (by kernel_rfl) trivial (OT.st (fun _ h => Pull.st (.hereC _ _) h) (o_appJ (l := []) (l' := (out3.take at5.toNat).drop 0) (B := [_]) ap33 rfl rfl (OJ.lit (l := []) (List.Mem.head _) rfl (by omega) (by simp [maxLen]) (by exact (fun i hi => match i, hi with  | q + 0, h => absurd h (by omega)))) (fun w2 hw2 => ((hJ3_1.cut (Nat.zero_le _) (toNat_le ho12) (by decide)).sl hw2 (Pull.sub (.there _ (.thereC _ (.here _ _)))))) (fun _ _ => rfl) ho29 (len_max ho29 (by decide)))) ?_
              rintro vs28 _ ⟨Bs28, rfl, hns28, hJs28⟩
              have hcBs28 := Cov.trans (Cov.new hb44) hns28
              refine ⟨(rsA (rsA (Pull.sub (.there _ (.thereC _ (.here _ _)))) rsN) (rsA rsN (rsA rsN (rsA rsN (rsA rsN (rsA rsN (rsA rsN (rsA (rsA (Pull.sub (.there _ (.thereC _ (.here _ _)))) rsN) (rsA rsN (rsA rsN rsN)))))))))), (Ks.segN hcBs28 (Ks.consN hb53 (Ks.segK (fun k hk => by simp [hk]) Ks.nil))), ?_⟩
              obtain ⟨ho31, h⟩ := h
              refine xd_step hok 10 [(48, _), (53, _)] rfl rfl (by kernel_rfl) (lc rfl (lc rfl ln)) (by kernel_rfl) trivial (OT.st (fun _ h => Pull.st (.here _ _) h) (o_appJ (l := ([] ++ (out3.take at5.toNat).drop 0)) (l' := [l0[i4.toNat]!]) (B := Bs28) ap33 rfl rfl hJs28 (fun w2 hw2 => (SL.lit (l := [l0[i4.toNat]!]) hw2 (List.mem_append_right _ (List.Mem.head _)) rfl (by omega) (by simp [maxLen]) (by exact (fun i hi => match i, hi with | 0, _ => rfl | q + 1, h => absurd h (by omega))))) (fun _ _ => rfl) ho31 (len_max ho31 (by decide)))) ?_
              rintro vs30 _ ⟨Bs30, rfl, hns30, hJs30⟩
              have hcBs30 := Cov.trans hcBs28 hns30
              refine ⟨(rsA (rsA (Pull.sub (.there _ (.thereC _ (.here _ _)))) rsN) (rsA rsN (rsA rsN (rsA rsN (rsA rsN (rsA rsN (rsA rsN (rsA (rsA (Pull.sub (.there _ (.thereC _ (.here _ _)))) rsN) (rsA rsN (rsA rsN rsN)))))))))), (Ks.segN hcBs30 (Ks.consN hb53 (Ks.segK (fun k hk => by simp [hk]) Ks.nil))), ?_⟩
              obtain ⟨ho33, h⟩ := h
              refine xd_fl hok 4 14 [(54, _), (57, _)] rfl rfl (by kernel_rfl) (by kernel_rfl) (lc rfl (lc rfl ln)) (by kernel_rfl) trivial (OT.st (fun _ h => Pull.st (.here _ _) h) (o_appJ (l := (([] ++ (out3.take at5.toNat).drop 0) ++ [l0[i4.toNat]!])) (l' := (out3.take out3.length).drop at5.toNat) (B := Bs30) ap33 rfl rfl hJs30 (fun w2 hw2 => ((hJ3_1.cut (toNat_le ho14) (Nat.le_refl _) (by decide)).sl hw2 (Pull.sub (.there _ (.thereC _ (.here _ _)))))) (fun _ _ => rfl) ho33 (len_max ho33 (by decide)))) ?_
              rintro vs32 _ ⟨Bs32, rfl, hns32, hJs32⟩
              have hcBs32 := Cov.trans hcBs30 hns32
              refine ⟨(Ks.segN hcBs32 (Ks.consN hb53 (Ks.segK (fun k hk => by simp [hk]) Ks.nil))), ?_⟩
              refine xd_b hok 15 [(58, _)] ([]) rsN rfl rfl rfl (lc rfl ln) (by kernel_rfl) trivial (fun H' hy hK => o_as rfl) ?_
              refine xd_end hok (by kernel_rfl) ?_
              refine xq_blk 1 ?_
              refine xq_then (xw_region ?_)
              refine xq rfl trivial (o_mv rfl) ?_
              obtain ⟨ho34, h⟩ := h
              refine xq rfl trivial (o_add rfl rfl rfl ho34) ?_
              refine xq rfl trivial (o_as rfl) ?_
              refine xo_nil ?_
              exact xq_next (s' := ((((([] ++ (out3.take at5.toNat).drop 0) ++ [l0[i4.toNat]!]) ++ (out3.take out3.length).drop at5.toNat), i4 + 1) : (List Int) × Int)) (e' := [(0, v0), (3, vs32), (4, .int .i64 (i4 + 1))]) (Bs32 ++ ([])) (lc rfl (lc rfl (lc rfl ln))) (Kp.st (Kp.segKeep (Kp.new hb53 (Kp.segNew (Cov.fresh hcB3_1) Kp.nil)))) h ⟨vs32, Bs32, rfl, rfl, hJs32, hcBs32⟩
    · have hq1 : (decide (i4 < (l0.length : Int))) = false := hc1
      have hp1 : ¬ (i4 < (l0.length : Int)) := of_decide_eq_false hq1
      rw [if_neg hp1] at h
      refine xw_cond_f rfl rfl (xw_exit (xq_then_exit ?_))
      exact xq_out (r := (out3 : (List Int))) (e' := [(3, v3_1)]) (B3_1 ++ ([])) (lc rfl ln) (fun _ h => h) h (by intro hh; cases hh) ⟨v3_1, B3_1, rfl, rfl, rfl, hJ3_1, hcB3_1⟩
  · rintro _ _ _ ⟨v3_1o, B3_1o, rfl, rfl, rfl, hJ3_1o, hcB3_1o⟩
    replace h : risingR_k1a out3 r := h
    unfold risingR_k1a at h
    refine xq_blk_eq ?_
    refine xq_then (xw_seq (xw_region ?_))
    refine xq rfl trivial (o_mv rfl) ?_
    refine xq rfl trivial (o_as rfl) ?_
    refine xo_nil (xq_then (xw_ret ?_))
    subst h
    exact con_ret1 (.inl rfl) Try.results28 rfl (B3_1o ++ []) (fun _ h => h) (⟨_, B3_1o, rfl, rfl, hJ3_1o, hcB3_1o⟩)

theorem timeR_con (now0 : Int) (w : World) (r : Bool) (h : timeR_S now0 r) : Con Try.prog 27 #[.int .i64 now0] w (Is (.bool r) []) := by
  unfold timeR_S at h
  refine con_enter (n := 9) [(0, _)] Try.func27 rfl Try.ntmps27 rfl (lac rfl lan) ?_
  refine xw_seq (xw_region ?_)
  refine xq rfl trivial (o_as rfl) ?_
  refine xo_nil (xq_then (xw_seq ?_))
  refine xw_cut [] ln [(2, .bool ((decide (0 ≤ now0)) && (decide (now0 ≤ 1099511627776))))] ?_ ?_
  · refine xw_region ?_
    refine xq rfl trivial (o_mv rfl) ?_
    refine xq rfl trivial (o_geq rfl rfl) ?_
    refine xq rfl trivial (o_mv rfl) ?_
    refine xo_bool 5 rfl (fun hg1 => ?_) (fun hg1 => ?_)
    · have hq1 : (decide (0 ≤ now0)) = true := hg1
      have hp1 : 0 ≤ now0 := of_decide_eq_true hq1
      refine xq rfl ⟨_, rfl, rfl⟩ (o_mv rfl) ?_
      refine xq rfl ⟨_, rfl, rfl⟩ (o_leq rfl rfl) ?_
      refine xq rfl trivial (o_pick_t rfl rfl) ?_
      refine xq rfl trivial (o_as rfl) ?_
      refine xo_nil ?_
      exact xq_cut ((lce rfl (by first | rfl | (simp only [hq1, if_pos hp1, bS]; done) | (simp only [hq1, if_pos hp1, bS, reduceIte, Bool.false_eq_true]; done) | (simp [hp1]; done) | (simp_all; done)) ln)) (fun _ h => h)
    · have hq1 : (decide (0 ≤ now0)) = false := hg1
      have hp1 : ¬ (0 ≤ now0) := of_decide_eq_false hq1
      refine xs rfl ⟨_, _, rfl, rfl, rfl⟩ (xs rfl ⟨_, _, rfl, rfl, rfl⟩ ?_)
      refine xq rfl trivial (o_pick_f rfl rfl) ?_
      refine xq rfl trivial (o_as rfl) ?_
      refine xo_nil ?_
      exact xq_cut ((lce rfl (by first | rfl | (simp only [hq1, if_neg hp1, bS]; done) | (simp only [hq1, if_neg hp1, bS, reduceIte, Bool.false_eq_true]; done) | (simp [hp1]; done) | (simp_all; done)) ln)) (fun _ h => h)
  · refine xq_then (xw_ret ?_)
    subst h
    exact con_ret1 (.inl rfl) Try.results27 rfl [] (fun _ h => h) (⟨rfl, rfl⟩)

theorem timeR_c (now0 : Int) (w : World) : Con Try.prog 27 #[.int .i64 now0] w (Is (.bool (timeR_F now0)) []) :=
  timeR_con now0 w _ (timeR_ok now0)

theorem cof_con (c0 : (Nat → Int)) (tx1 : Int) (p0 : Nat) (w : World) (hC : Has w (cat [[(p0, BK 28 (mv (kPA 1 3 (kS [2])) c0) 61)]])) (r : Int × Int) (h : cof_S c0 tx1 r) : Con Try.prog 10 #[.pointer (some ⟨p0, 0, none⟩), .int .i64 tx1] w (CatG fun v Ls => Cov w (cat [[(p0, BK 28 (mv (kPA 1 3 (kS [2])) c0) 61)]]) (cat Ls) ∧ v = .tuple #[.int .i64 r.1, errV 56 r.2] ∧ Ls = [[(p0, BK 28 (mv (kPA 1 3 (kS [2])) c0) 61)]]) := by
  unfold cof_S at h
  refine con_enter (n := 38) [(0, _), (1, _)] Try.func10 rfl Try.ntmps10 rfl (lac rfl (lac rfl lan)) ?_
  refine xw_has hC ?_
  refine xw_st ((p0, BK 28 (mv (kPA 1 3 (kS [2])) c0) 61) :: ([])) (fun _ h => h) ?_
  refine xw_seq (xw_region ?_)
  refine xq rfl trivial (o_as rfl) ?_
  refine xq rfl trivial (o_as rfl) ?_
  refine xo_nil (xq_then ?_)
  refine xw_scope ?_
  refine xw_seq (xw_seq (xw_region ?_))
  refine xq rfl trivial (o_mv rfl) ?_
  refine xq rfl trivial (o_eqn Try.underlying25 rfl rfl rfl rfl) ?_
  refine xo_nil (xq_then (xw_cond_f rfl rfl (xw_skip (xq_then (xw_seq (xw_region ?_))))))
  refine xq rfl trivial (o_as rfl) ?_
  refine xo_nil (xq_then (xw_seq ?_))
  refine xw_label ?_
  refine xq_then (xw_seq (xw_seq (xw_region ?_)))
  refine xq rfl trivial (o_mv rfl) ?_
  refine xq rfl trivial (o_nilp rfl) ?_
  first | refine xq rfl trivial (o_fa0 fl61_1 rfl) ?_ | refine xq rfl trivial (o_fa fl61_1 rfl) ?_
  refine xq rfl trivial (o_ldS (f := mv (kPA 0 3 (kS [2])) (fun i => c0 (1 + i))) rfl ts59 (List.Mem.head _) (by omega) (mv_sub (by decide))) ?_
  refine xq rfl trivial (o_mv rfl) ?_
  refine xo_nil (xq_then ?_)
  refine xw_block ?_
  obtain ⟨whose6, hx1, h⟩ := h
  refine xw_wh (fun s e H => match s with | (whose6, x16) => e = [(1, .int .i64 tx1), (6, .int .i64 whose6), (15, AG 27 (mv (kPA 0 3 (kS [2])) (fun i => c0 (1 + i)))), (16, .int .i64 x16)] ∧ H = (p0, BK 28 (mv (kPA 1 3 (kS [2])) c0) 61) :: ([])) (fun (whose6 : Int) ex e H => ex = .exit 0 ∧ e = [(6, .int .i64 whose6)] ∧ H = (p0, BK 28 (mv (kPA 1 3 (kS [2])) c0) 61) :: ([])) hx1 ⟨[(1, .int .i64 tx1), (6, .int .i64 0), (15, AG 27 (mv (kPA 0 3 (kS [2])) (fun i => c0 (1 + i)))), (16, .int .i64 0)], (p0, BK 28 (mv (kPA 1 3 (kS [2])) c0) 61) :: ([]), (lc rfl (lc rfl (lc rfl (lc rfl ln)))), fun _ h => h, ⟨rfl, rfl⟩⟩ ?_ ?_
  · rintro ⟨whose6, x16⟩ o _ _ ⟨rfl, rfl⟩ hb
    have h : cof_l1 c0 tx1 whose6 x16 o := hb
    clear hb
    unfold cof_l1 at h
    refine xw_seq (xw_region ?_)
    refine xq rfl trivial (o_lss rfl rfl) ?_
    refine xo_nil (xq_then (xw_seq ?_))
    refine xw_bool 17 rfl (fun hc1 => ?_) (fun hc1 => ?_)
    · have hq1 : (decide (x16 < 9)) = true := hc1
      have hp1 : x16 < 9 := of_decide_eq_true hq1
      rw [if_pos hp1] at h
      refine xw_cond_t rfl rfl (xw_skip (xq_then (xw_seq ?_)))
      refine xw_block ?_
      refine xw_seq (xw_region ?_)
      refine xq rfl trivial (o_mv rfl) ?_
      obtain ⟨ho2, h⟩ := h
      refine xq rfl trivial (o_ixA (j := x16.toNat) (h := mv (kS [2]) (fun i => (fun i => c0 (1 + i)) ((x16.toNat * 3) + i))) ea59 rfl rfl ho2 rfl (by decide) (mv_sub (fun i hi => kpaE (j := x16.toNat) (r := i) (by omega) hi rfl))) ?_
      refine xo rfl trivial (o_alloc ze58 rfl) ?_
      rintro _ _ ⟨b8, hb8, rfl, rfl⟩
      refine xq rfl trivial (o_as rfl) ?_
      refine xq0 trivial (o_stW rfl rfl ts58 (fun _ _ => mv_one) (List.Mem.head _) (.here _ _ _ _)) ?_
      refine xo_nil (xq_then ?_)
      refine xw_block ?_
      refine xw_seq ?_
      refine xw_cut [(1, _), (6, _), (7, _), (8, _), (15, _), (16, _)] (lc rfl (lc rfl (lc rfl (lc rfl (lc rfl (lc rfl ln)))))) [(20, .bool ((decide (x16 = 0)) || (decide (tx1 < 1))))] ?_ ?_
      · refine xw_region ?_
        refine xq rfl trivial (o_mv rfl) ?_
        refine xq rfl trivial (o_eql rfl rfl) ?_
        refine xq rfl trivial (o_mv rfl) ?_
        refine xo_bool 23 rfl (fun hg3 => ?_) (fun hg3 => ?_)
        · have hq3 : (decide (x16 = 0)) = true := hg3
          have hp3 : x16 = 0 := of_decide_eq_true hq3
          refine xs rfl ⟨_, _, rfl, rfl, rfl⟩ (xs rfl ⟨_, _, rfl, rfl, rfl⟩ ?_)
          refine xq rfl trivial (o_pick_t rfl rfl) ?_
          refine xq rfl trivial (o_as rfl) ?_
          refine xo_nil ?_
          exact xq_cut ((lce rfl (by first | rfl | (simp only [hq1, hq3, if_pos hp1, if_pos hp3, bS]; done) | (simp only [hq1, hq3, if_pos hp1, if_pos hp3, bS, reduceIte, Bool.false_eq_true]; done) | (simp [hp1, hp3]; done) | (simp_all; done)) (lc rfl (lc rfl (lc rfl (lc rfl (lc rfl (lc rfl ln)))))))) (fun _ h => h)
        · have hq3 : (decide (x16 = 0)) = false := hg3
          have hp3 : ¬ (x16 = 0) := of_decide_eq_false hq3
          refine xq rfl ⟨_, rfl, rfl⟩ (o_mv rfl) ?_
          refine xq rfl ⟨_, rfl, rfl⟩ (o_lss rfl rfl) ?_
          refine xq rfl trivial (o_pick_f rfl rfl) ?_
          refine xq rfl trivial (o_as rfl) ?_
          refine xo_nil ?_
          exact xq_cut ((lce rfl (by first | rfl | (simp only [hq1, hq3, if_pos hp1, if_neg hp3, bS]; done) | (simp only [hq1, hq3, if_pos hp1, if_neg hp3, bS, reduceIte, Bool.false_eq_true]; done) | (simp [hp1, hp3]; done) | (simp_all; done)) (lc rfl (lc rfl (lc rfl (lc rfl (lc rfl (lc rfl ln)))))))) (fun _ h => h)
      · refine xq_then ?_
        refine xw_bool 20 rfl (fun hc4 => ?_) (fun hc4 => ?_)
        · have hq4 : ((decide (x16 = 0)) || (decide (tx1 < 1))) = true := hc4
          have hp4 : ((decide (x16 = 0)) || (decide (tx1 < 1))) = true := hq4
          rw [if_pos hp4] at h
          refine xw_cond_t rfl rfl (xw_exit (xq_blk_ne rfl ?_))
          refine xq_blk_eq ?_
          refine xq_then (xw_region ?_)
          obtain ⟨ho5, h⟩ := h
          refine xq rfl trivial (o_add rfl rfl rfl ho5) ?_
          refine xq rfl trivial (o_mv rfl) ?_
          refine xo_nil ?_
          exact xq_next (s' := ((whose6, x16 + 1) : Int × Int)) (e' := [(1, .int .i64 tx1), (6, .int .i64 whose6), (15, AG 27 (mv (kPA 0 3 (kS [2])) (fun i => c0 (1 + i)))), (16, .int .i64 (x16 + 1))]) ((p0, BK 28 (mv (kPA 1 3 (kS [2])) c0) 61) :: ([])) (lc rfl (lc rfl (lc rfl (lc rfl ln)))) (Kp.st (Kp.new hb8 (Kp.keep Kp.nil))) h ⟨rfl, rfl⟩
        · have hq4 : ((decide (x16 = 0)) || (decide (tx1 < 1))) = false := hc4
          have hp4 : ¬ (((decide (x16 = 0)) || (decide (tx1 < 1))) = true) := bne' hq4
          rw [if_neg hp4] at h
          refine xw_cond_f rfl rfl (xw_seq (xw_region ?_))
          first | refine xq rfl trivial (o_fa0 fl58_0 rfl) ?_ | refine xq rfl trivial (o_fa fl58_0 rfl) ?_
          refine xq rfl trivial (o_ld (v := .int .i64 (c0 (1 + (x16.toNat * 3)))) rfl ts3 (List.Mem.head _) (by omega) (mv_i rfl)) ?_
          refine xq rfl trivial (o_mv rfl) ?_
          refine xq rfl trivial (o_eql rfl rfl) ?_
          refine xq rfl trivial (o_as rfl) ?_
          refine xo_nil (xq_then ?_)
          refine xw_bool 27 rfl (fun hc6 => ?_) (fun hc6 => ?_)
          · have hq6 : (decide (c0 (1 + (x16.toNat * 3)) = tx1)) = true := hc6
            have hp6 : c0 (1 + (x16.toNat * 3)) = tx1 := of_decide_eq_true hq6
            rw [if_pos hp6] at h
            refine xw_cond_t rfl rfl (xw_seq (xw_region ?_))
            refine xq rfl trivial (o_mv rfl) ?_
            refine xq rfl trivial (o_as rfl) ?_
            refine xo_nil (xq_then (xw_exit (xq_blk_ne rfl (xq_blk_ne rfl (xq_then_exit ?_)))))
            exact xq_out (r := (x16 : Int)) (e' := [(6, .int .i64 x16)]) ((p0, BK 28 (mv (kPA 1 3 (kS [2])) c0) 61) :: ([])) (lc rfl ln) (Kp.st (Kp.new hb8 (Kp.keep Kp.nil))) h (by intro hh; cases hh) ⟨rfl, rfl, rfl⟩
          · have hq6 : (decide (c0 (1 + (x16.toNat * 3)) = tx1)) = false := hc6
            have hp6 : ¬ (c0 (1 + (x16.toNat * 3)) = tx1) := of_decide_eq_false hq6
            rw [if_neg hp6] at h
            refine xw_cond_f rfl rfl (xw_skip ?_)
            refine xq_blk 2 ?_
            refine xq_blk 1 ?_
            refine xq_then (xw_region ?_)
            obtain ⟨ho7, h⟩ := h
            refine xq rfl trivial (o_add rfl rfl rfl ho7) ?_
            refine xq rfl trivial (o_mv rfl) ?_
            refine xo_nil ?_
            exact xq_next (s' := ((whose6, x16 + 1) : Int × Int)) (e' := [(1, .int .i64 tx1), (6, .int .i64 whose6), (15, AG 27 (mv (kPA 0 3 (kS [2])) (fun i => c0 (1 + i)))), (16, .int .i64 (x16 + 1))]) ((p0, BK 28 (mv (kPA 1 3 (kS [2])) c0) 61) :: ([])) (lc rfl (lc rfl (lc rfl (lc rfl ln)))) (Kp.st (Kp.new hb8 (Kp.keep Kp.nil))) h ⟨rfl, rfl⟩
    · have hq1 : (decide (x16 < 9)) = false := hc1
      have hp1 : ¬ (x16 < 9) := of_decide_eq_false hq1
      rw [if_neg hp1] at h
      refine xw_cond_f rfl rfl (xw_exit (xq_then_exit ?_))
      exact xq_out (r := (whose6 : Int)) (e' := [(6, .int .i64 whose6)]) ((p0, BK 28 (mv (kPA 1 3 (kS [2])) c0) 61) :: ([])) (lc rfl ln) (fun _ h => h) h (by intro hh; cases hh) ⟨rfl, rfl, rfl⟩
  · rintro _ _ _ ⟨rfl, rfl, rfl⟩
    replace h : cof_k1a whose6 r := h
    unfold cof_k1a at h
    refine xq_blk_eq ?_
    refine xq_then (xw_seq (xw_seq (xw_region ?_)))
    refine xq rfl trivial (o_mv rfl) ?_
    refine xq rfl trivial (o_eql rfl rfl) ?_
    refine xo_nil (xq_then ?_)
    refine xw_bool 35 rfl (fun hc8 => ?_) (fun hc8 => ?_)
    · have hq8 : (decide (whose6 = 0)) = true := hc8
      have hp8 : whose6 = 0 := of_decide_eq_true hq8
      rw [if_pos hp8] at h
      refine xw_cond_t rfl rfl (xw_seq (xw_region ?_))
      refine xq rfl trivial (o_mki rfl Try.underlying56 rfl) ?_
      refine xq rfl trivial (o_as rfl) ?_
      refine xq rfl trivial (o_as rfl) ?_
      refine xo_nil (xq_then (xw_ret (xq_then_ret ?_)))
      refine xq_scope_r ?_
      subst h
      exact con_ret2 (.inl rfl) Try.results10 rfl rfl (cat [[(p0, BK 28 (mv (kPA 1 3 (kS [2])) c0) 61)]]) (fun _ h => h) (⟨_, rfl, (Cov.cons Cov.nil), rfl, rfl⟩)
    · have hq8 : (decide (whose6 = 0)) = false := hc8
      have hp8 : ¬ (whose6 = 0) := of_decide_eq_false hq8
      rw [if_neg hp8] at h
      refine xw_cond_f rfl rfl (xw_skip (xq_then (xw_seq (xw_region ?_))))
      refine xq rfl trivial (o_mv rfl) ?_
      refine xq rfl trivial (o_as rfl) ?_
      refine xq rfl trivial (o_as rfl) ?_
      refine xo_nil (xq_then (xw_ret ?_))
      refine xq_scope_r ?_
      subst h
      exact con_ret2 (.inl rfl) Try.results10 rfl rfl (cat [[(p0, BK 28 (mv (kPA 1 3 (kS [2])) c0) 61)]]) (fun _ h => h) (⟨_, rfl, (Cov.cons Cov.nil), rfl, rfl⟩)

theorem ofR_con (l0 : (List (Nat → Int))) (tx1 : Int) (v0 : Value) (w : World) (hs0 : SL w 3 (mv (kS [1])) v0 l0) (r : Int) (h : ofR_S l0 tx1 r) : Con Try.prog 20 #[v0, .int .i64 tx1] w (Is (.int .i64 r) []) := by
  unfold ofR_S at h
  refine con_enter (n := 25) [(0, _), (1, _)] Try.func20 rfl Try.ntmps20 rfl (lac rfl (lac rfl lan)) ?_
  refine xw_seq (xw_region ?_)
  refine xq rfl trivial (o_as rfl) ?_
  refine xo_nil (xq_then (xw_seq (xw_seq (xw_region ?_))))
  refine xq rfl trivial (o_as rfl) ?_
  refine xo_nil (xq_then ?_)
  refine xw_block ?_
  obtain ⟨x1, hx1, h⟩ := h
  refine xw_wh (fun (i5 : Int) e H => e = [(0, v0), (1, .int .i64 tx1), (5, .int .i64 i5)] ∧ H = []) (fun x ex e H => match x with | .inl _ => ex = .exit 0 ∧ e = [] ∧ H = [] | .inr x4 => ex = .ret ∧ e = [(4, .int .i64 x4)] ∧ H = []) hx1 ⟨[(0, v0), (1, .int .i64 tx1), (5, .int .i64 0)], [], (lc rfl (lc rfl (lc rfl ln))), fun _ h => h, ⟨rfl, rfl⟩⟩ ?_ ?_
  · rintro i5 o _ _ ⟨rfl, rfl⟩ hb
    have h : ofR_l1 l0 tx1 i5 o := hb
    clear hb
    unfold ofR_l1 at h
    refine xw_seq (xw_seq (xw_region ?_))
    refine xq rfl trivial (o_mv rfl) ?_
    refine xq rfl trivial (o_mv rfl) ?_
    refine xq rfl trivial (o_lenL rfl Try.underlying41 rfl (SL.val hs0)) ?_
    refine xq rfl trivial (o_lss rfl rfl) ?_
    refine xo_nil (xq_then ?_)
    refine xw_bool 9 rfl (fun hc1 => ?_) (fun hc1 => ?_)
    · have hq1 : (decide (i5 < (l0.length : Int))) = true := hc1
      have hp1 : i5 < (l0.length : Int) := of_decide_eq_true hq1
      rw [if_pos hp1] at h
      refine xw_cond_t rfl rfl (xw_skip (xq_then (xw_seq ?_)))
      refine xw_block ?_
      refine xw_seq ?_
      obtain ⟨ho2, h⟩ := h
      refine xw_cut [(0, _), (1, _), (5, _)] (lc rfl (lc rfl (lc rfl ln))) [(22, .bool ((decide (0 < tx1)) && (decide ((l0[i5.toNat]!) 0 = tx1))))] ?_ ?_
      · refine xw_region ?_
        refine xq rfl trivial (o_mv rfl) ?_
        refine xq rfl trivial (o_gtr rfl rfl) ?_
        refine xq rfl trivial (o_mv rfl) ?_
        refine xo_bool 14 rfl (fun hg3 => ?_) (fun hg3 => ?_)
        · have hq3 : (decide (0 < tx1)) = true := hg3
          have hp3 : 0 < tx1 := of_decide_eq_true hq3
          refine xq rfl ⟨_, rfl, rfl⟩ (o_mv rfl) ?_
          refine xq rfl ⟨_, rfl, rfl⟩ (o_mv rfl) ?_
          refine xq rfl ⟨_, rfl, rfl⟩ (o_ixL el41 rfl rfl (fun w hw => (hs0.keep hw Fr.nil)) rfl (ho2 (by first | exact hg3 | (simp only [hq1, hq3, if_pos hp1, if_pos hp3, bS]; done) | (simp only [hq1, hq3, if_pos hp1, if_pos hp3, bS, reduceIte, Bool.false_eq_true]; done) | (simp [hp1, hp3]; done) | (simp_all; done)))) ?_
          refine xq rfl ⟨_, rfl, rfl⟩ (o_faL fl48_0 rfl rfl (fun w hw => (hs0.keep hw Fr.nil)) (toNat_lt (ho2 (by first | exact hg3 | (simp only [hq1, hq3, if_pos hp1, if_pos hp3, bS]; done) | (simp only [hq1, hq3, if_pos hp1, if_pos hp3, bS, reduceIte, Bool.false_eq_true]; done) | (simp [hp1, hp3]; done) | (simp_all; done))))) ?_
          refine xq rfl ⟨_, rfl, rfl⟩ (o_ldL1 (off := 0) (u := .int .i64 ((l0[i5.toNat]!) 0)) rfl ts3 rfl (fun w hw => (hs0.keep hw Fr.nil)) (toNat_lt (ho2 (by first | exact hg3 | (simp only [hq1, hq3, if_pos hp1, if_pos hp3, bS]; done) | (simp only [hq1, hq3, if_pos hp1, if_pos hp3, bS, reduceIte, Bool.false_eq_true]; done) | (simp [hp1, hp3]; done) | (simp_all; done)))) rfl rfl) ?_
          refine xq rfl ⟨_, rfl, rfl⟩ (o_mv rfl) ?_
          refine xq rfl ⟨_, rfl, rfl⟩ (o_eql rfl rfl) ?_
          refine xq rfl trivial (o_pick_t rfl rfl) ?_
          refine xo_nil ?_
          exact xq_cut ((lce rfl (by first | rfl | (simp only [hq1, hq3, if_pos hp1, if_pos hp3, bS]; done) | (simp only [hq1, hq3, if_pos hp1, if_pos hp3, bS, reduceIte, Bool.false_eq_true]; done) | (simp [hp1, hp3]; done) | (simp_all; done)) (lc rfl (lc rfl (lc rfl ln))))) (fun _ h => h)
        · have hq3 : (decide (0 < tx1)) = false := hg3
          have hp3 : ¬ (0 < tx1) := of_decide_eq_false hq3
          refine xs rfl ⟨_, _, rfl, rfl, rfl⟩ (xs rfl ⟨_, _, rfl, rfl, rfl⟩ (xs rfl ⟨_, _, rfl, rfl, rfl⟩ (xs rfl ⟨_, _, rfl, rfl, rfl⟩ (xs rfl ⟨_, _, rfl, rfl, rfl⟩ (xs rfl ⟨_, _, rfl, rfl, rfl⟩ (xs rfl ⟨_, _, rfl, rfl, rfl⟩ ?_))))))
          refine xq rfl trivial (o_pick_f rfl rfl) ?_
          refine xo_nil ?_
          exact xq_cut ((lce rfl (by first | rfl | (simp only [hq1, hq3, if_pos hp1, if_neg hp3, bS]; done) | (simp only [hq1, hq3, if_pos hp1, if_neg hp3, bS, reduceIte, Bool.false_eq_true]; done) | (simp [hp1, hp3]; done) | (simp_all; done)) (lc rfl (lc rfl (lc rfl ln))))) (fun _ h => h)
      · refine xq_then ?_
        refine xw_bool 22 rfl (fun hc4 => ?_) (fun hc4 => ?_)
        · have hq4 : ((decide (0 < tx1)) && (decide ((l0[i5.toNat]!) 0 = tx1))) = true := hc4
          have hp4 : ((decide (0 < tx1)) && (decide ((l0[i5.toNat]!) 0 = tx1))) = true := hq4
          rw [if_pos hp4] at h
          refine xw_cond_t rfl rfl (xw_seq (xw_region ?_))
          refine xq rfl trivial (o_mv rfl) ?_
          obtain ⟨ho5, h⟩ := h
          refine xq rfl trivial (o_add rfl rfl rfl ho5) ?_
          refine xq rfl trivial (o_as rfl) ?_
          refine xo_nil (xq_then (xw_ret (xq_blk_ret (xq_then_ret ?_))))
          exact xq_out (r := (.inr (i5 + 1) : (Unit) ⊕ (Int))) (e' := [(4, .int .i64 (i5 + 1))]) ([]) (lc rfl ln) (fun _ h => h) h (by intro hh; cases hh) ⟨rfl, rfl, rfl⟩
        · have hq4 : ((decide (0 < tx1)) && (decide ((l0[i5.toNat]!) 0 = tx1))) = false := hc4
          have hp4 : ¬ (((decide (0 < tx1)) && (decide ((l0[i5.toNat]!) 0 = tx1))) = true) := bne' hq4
          rw [if_neg hp4] at h
          refine xw_cond_f rfl rfl (xw_skip ?_)
          refine xq_blk 1 ?_
          refine xq_then (xw_region ?_)
          refine xq rfl trivial (o_mv rfl) ?_
          obtain ⟨ho6, h⟩ := h
          refine xq rfl trivial (o_add rfl rfl rfl ho6) ?_
          refine xq rfl trivial (o_as rfl) ?_
          refine xo_nil ?_
          exact xq_next (s' := (i5 + 1 : Int)) (e' := [(0, v0), (1, .int .i64 tx1), (5, .int .i64 (i5 + 1))]) ([]) (lc rfl (lc rfl (lc rfl ln))) (fun _ h => h) h ⟨rfl, rfl⟩
    · have hq1 : (decide (i5 < (l0.length : Int))) = false := hc1
      have hp1 : ¬ (i5 < (l0.length : Int)) := of_decide_eq_false hq1
      rw [if_neg hp1] at h
      refine xw_cond_f rfl rfl (xw_exit (xq_then_exit ?_))
      exact xq_out (r := (.inl () : (Unit) ⊕ (Int))) (e' := []) ([]) ln (fun _ h => h) h (by intro hh; cases hh) ⟨rfl, rfl, rfl⟩
  · rcases x1 with _ | x4
    · rintro _ _ _ ⟨rfl, rfl, rfl⟩
      replace h : ofR_k1a r := h
      unfold ofR_k1a at h
      refine xq_blk_eq ?_
      refine xq_then (xw_seq (xw_region ?_))
      refine xq rfl trivial (o_as rfl) ?_
      refine xo_nil (xq_then (xw_ret ?_))
      subst h
      exact con_ret1 (.inl rfl) Try.results20 rfl [] (fun _ h => h) (⟨rfl, rfl⟩)
    rintro _ _ _ ⟨rfl, rfl, rfl⟩
    replace h : ofR_k1b x4 r := h
    unfold ofR_k1b at h
    refine xq_blk_ret (xq_then_ret ?_)
    subst h
    exact con_ret1 (.inl rfl) Try.results20 rfl [] (fun _ h => h) (⟨rfl, rfl⟩)

end Go.Proofs.Yteomcjiiiilhmaa
