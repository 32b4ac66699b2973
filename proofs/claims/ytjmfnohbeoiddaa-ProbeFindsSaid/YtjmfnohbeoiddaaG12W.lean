/- The code answers as the relations say. -/
import Derived.Test.YtjmfnohbeoiddaaTab
import Derived.Test.YtjmfnohbeoiddaaG12S
import Derived.Test.YtjmfnohbeoiddaaC12W
set_option maxHeartbeats 1000000
set_option linter.unusedVariables false
set_option linter.unusedSimpArgs false
set_option maxRecDepth 100000
namespace Go.Proofs.Ytjmfnohbeoiddaa
open Go Go.E

theorem risingR_con (l0 : (List Int)) (v0 : Value) (w : World) (hs0 : SL w 1 ic v0 l0) (r : (List Int)) (h : risingR_S l0 r) : Con Try.prog 46 #[v0] w (fun v F => ∃ (u0 : Value) (C0 : GH), v = u0 ∧ F = (C0 ++ []) ∧ OJ 3 1 ic C0 u0 r ∧ Cov w [] C0) := by
  unfold risingR_S at h
  refine con_enter (n := 60) [(0, _)] Try.func46 rfl Try.ntmps46 rfl (lac rfl lan) ?_
  refine xw_seq (xw_region ?_)
  refine xq rfl trivial (o_as rfl) ?_
  refine xo_nil (xq_then (xw_seq (xw_region ?_)))
  refine xq rfl trivial (o_as rfl) ?_
  refine xo_nil (xq_then (xw_seq (xw_seq (xw_region ?_))))
  refine xq rfl trivial (o_as rfl) ?_
  refine xo_nil (xq_then ?_)
  refine xw_block ?_
  obtain ⟨out3, hx1, h⟩ := h
  refine xw_wh (fun s e H => match s with | (out3, i4) => ∃ (v3_1 : Value) (B3_1 : GH), e = [(0, v0), (3, v3_1), (4, .int .i64 i4)] ∧ H = B3_1 ++ ([]) ∧ OJ 3 1 ic B3_1 v3_1 out3 ∧ Cov w [] B3_1) (fun (out3 : (List Int)) ex e H => ∃ (v3_1o : Value) (B3_1o : GH), ex = .exit 0 ∧ e = [(3, v3_1o)] ∧ H = B3_1o ++ ([]) ∧ OJ 3 1 ic B3_1o v3_1o out3 ∧ Cov w [] B3_1o) hx1 ⟨[(0, v0), (3, .slice none 0 0), (4, .int .i64 0)], [] ++ ([]), (lc rfl (lc rfl (lc rfl ln))), fun _ h => h, ⟨_, [], rfl, rfl, OJ.nil, (Cov.refl _)⟩⟩ ?_ ?_
  · rintro ⟨out3, i4⟩ o _ _ ⟨v3_1, B3_1, rfl, rfl, hJ3_1, hcB3_1⟩ hb
    have h : risingR_l1 l0 out3 i4 o := hb
    clear hb
    unfold risingR_l1 at h
    refine xw_seq (xw_seq (xw_region ?_))
    refine xq rfl trivial (o_mv rfl) ?_
    refine xq rfl trivial (o_mv rfl) ?_
    refine xq rfl trivial (o_lenL rfl Try.underlying57 rfl (SL.val hs0)) ?_
    refine xq rfl trivial (o_lss rfl rfl) ?_
    refine xo_nil (xq_then ?_)
    refine xw_bool 9 rfl (fun hc1 => ?_) (fun hc1 => ?_)
    · have hq1 : (decide (i4 < (l0.length : Int))) = true := hc1
      have hp1 : i4 < (l0.length : Int) := of_decide_eq_true hq1
      rw [if_pos hp1] at h
      refine xw_cond_t rfl rfl (xw_skip (xq_then (xw_seq ?_)))
      refine xw_block ?_
      refine xw_seq (xw_region ?_)
      refine xq rfl trivial (o_as rfl) ?_
      refine xo_nil (xq_then (xw_seq ?_))
      refine xw_block ?_
      obtain ⟨at5, hx2, h⟩ := h
      refine xw_wh (fun (at5 : Int) e H => e = [(0, v0), (3, v3_1), (4, .int .i64 i4), (5, .int .i64 at5)] ∧ H = B3_1 ++ ([])) (fun (at5 : Int) ex e H => ex = .exit 2 ∧ e = [(0, v0), (3, v3_1), (4, .int .i64 i4), (5, .int .i64 at5)] ∧ H = B3_1 ++ ([])) hx2 ⟨[(0, v0), (3, v3_1), (4, .int .i64 i4), (5, .int .i64 0)], B3_1 ++ ([]), (lc rfl (lc rfl (lc rfl (lc rfl ln)))), fun _ h => h, ⟨rfl, rfl⟩⟩ ?_ ?_
      · rintro at5 o _ _ ⟨rfl, rfl⟩ hb
        have h : risingR_l2 l0 out3 i4 at5 o := hb
        clear hb
        unfold risingR_l2 at h
        refine xw_seq (xw_seq ?_)
        obtain ⟨ho2, ho3, h⟩ := h
        refine xw_cut [(0, _), (3, _), (4, _), (5, _)] (lc rfl (lc rfl (lc rfl (lc rfl ln)))) [(26, .bool ((decide (at5 < (out3.length : Int))) && (decide (out3[at5.toNat]! < l0[i4.toNat]!))))] ?_ ?_
        · refine xd_start (by kernel_rfl) (by kernel_rfl) (fun hok => ?_)
          refine xd_b hok 0 [(5, _)] ([]) rsN rfl rfl rfl (lc rfl ln) (by kernel_rfl) trivial (fun H' hy hK => o_mv rfl) ?_
          refine xd_b hok 1 [(3, _)] ([]) rsN rfl rfl rfl (lc rfl ln) (by kernel_rfl) trivial (fun H' hy hK => o_mv rfl) ?_
          refine xd_b hok 2 [(13, _)] ([]) rsN rfl rfl rfl (lc rfl ln) (by kernel_rfl) trivial (fun H' hy hK => o_lenL rfl Try.underlying57 rfl (OJ.val hJ3_1)) ?_
          refine xd_b hok 3 [(12, _), (14, _)] ([]) rsN rfl rfl rfl (lc rfl (lc rfl ln)) (by kernel_rfl) trivial (fun H' hy hK => o_lss rfl rfl) ?_
          refine xd_b hok 4 [(15, _)] ([]) rsN rfl rfl rfl (lc rfl ln) (by kernel_rfl) trivial (fun H' hy hK => o_mv rfl) ?_
          refine xd_bool 16 rfl (fun hg4 => ?_) (fun hg4 => ?_)
          · have hq4 : (decide (at5 < (out3.length : Int))) = true := hg4
            have hp4 : at5 < (out3.length : Int) := of_decide_eq_true hq4
            refine xd_b hok 5 [(3, _), (16, _)] ([]) rsN rfl rfl rfl (lc rfl (lc rfl ln)) (by kernel_rfl) ⟨_, rfl, rfl⟩ (fun H' hy hK => o_mv rfl) ?_
            refine xd_b hok 6 [(5, _), (16, _)] ([]) rsN rfl rfl rfl (lc rfl (lc rfl ln)) (by kernel_rfl) ⟨_, rfl, rfl⟩ (fun H' hy hK => o_mv rfl) ?_
            refine xd_b hok 7 [(17, _), (18, _), (16, _)] (B3_1 ++ ([])) (rsA (Pull.sub (.here _ _)) rsN) rfl rfl rfl (lc rfl (lc rfl (lc rfl ln))) (by kernel_rfl) ⟨_, rfl, rfl⟩ (fun H' hy hK => o_ixL el57 rfl rfl (fun w hw => (hJ3_1.sl hw (fun x hx => hy x (Pull.sub (.here _ _) x hx)))) rfl (ho2 (by first | exact hg4 | (simp only [hq4, if_pos hp4, bS]; done) | (simp only [hq4, if_pos hp4, bS, reduceIte, Bool.false_eq_true]; done) | (simp [hp4]; done) | (simp_all; done)))) ?_
            refine xd_b hok 8 [(19, _), (16, _)] (B3_1 ++ ([])) (rsA (Pull.sub (.here _ _)) rsN) rfl rfl rfl (lc rfl (lc rfl ln)) (by kernel_rfl) ⟨_, rfl, rfl⟩ (fun H' hy hK => o_ldL1 (off := 0) (u := .int .i64 (out3[at5.toNat]!)) rfl ts3 rfl (fun w hw => (hJ3_1.sl hw (fun x hx => hy x (Pull.sub (.here _ _) x hx)))) (toNat_lt (ho2 (by first | exact hg4 | (simp only [hq4, if_pos hp4, bS]; done) | (simp only [hq4, if_pos hp4, bS, reduceIte, Bool.false_eq_true]; done) | (simp [hp4]; done) | (simp_all; done)))) rfl rfl) ?_
            refine xd_b hok 9 [(0, _), (16, _)] ([]) rsN rfl rfl rfl (lc rfl (lc rfl ln)) (by kernel_rfl) ⟨_, rfl, rfl⟩ (fun H' hy hK => o_mv rfl) ?_
            refine xd_b hok 10 [(4, _), (16, _)] ([]) rsN rfl rfl rfl (lc rfl (lc rfl ln)) (by kernel_rfl) ⟨_, rfl, rfl⟩ (fun H' hy hK => o_mv rfl) ?_
            refine xd_b hok 11 [(21, _), (22, _), (16, _)] ([]) rsN rfl rfl rfl (lc rfl (lc rfl (lc rfl ln))) (by kernel_rfl) ⟨_, rfl, rfl⟩ (fun H' hy hK => o_ixL el57 rfl rfl (fun w hw => (hs0.keep hw (fun k hk => (hK k hk).elim (fun h => (Fr.seg hcB3_1 Fr.nil) k h) id))) rfl (ho3 (by first | exact hg4 | (simp only [hq4, if_pos hp4, bS]; done) | (simp only [hq4, if_pos hp4, bS, reduceIte, Bool.false_eq_true]; done) | (simp [hp4]; done) | (simp_all; done)))) ?_
            refine xd_b hok 12 [(23, _), (16, _)] ([]) rsN rfl rfl rfl (lc rfl (lc rfl ln)) (by kernel_rfl) ⟨_, rfl, rfl⟩ (fun H' hy hK => o_ldL1 (off := 0) (u := .int .i64 (l0[i4.toNat]!)) rfl ts3 rfl (fun w hw => (hs0.keep hw (fun k hk => (hK k hk).elim (fun h => (Fr.seg hcB3_1 Fr.nil) k h) id))) (toNat_lt (ho3 (by first | exact hg4 | (simp only [hq4, if_pos hp4, bS]; done) | (simp only [hq4, if_pos hp4, bS, reduceIte, Bool.false_eq_true]; done) | (simp [hp4]; done) | (simp_all; done)))) rfl rfl) ?_
            refine xd_b hok 13 [(20, _), (24, _), (16, _)] ([]) rsN rfl rfl rfl (lc rfl (lc rfl (lc rfl ln))) (by kernel_rfl) ⟨_, rfl, rfl⟩ (fun H' hy hK => o_lss rfl rfl) ?_
            refine xd_b hok 14 [(16, _), (25, _)] ([]) rsN rfl rfl rfl (lc rfl (lc rfl ln)) (by kernel_rfl) trivial (fun H' hy hK => o_pick_t rfl rfl) ?_
            refine xd_end hok (by kernel_rfl) ?_
            exact xq_cut ((lce rfl (by first | rfl | (simp only [hq4, if_pos hp4, bS]; done) | (simp only [hq4, if_pos hp4, bS, reduceIte, Bool.false_eq_true]; done) | (simp [hp4]; done) | (simp_all; done)) (lc rfl (lc rfl (lc rfl (lc rfl ln)))))) (fun _ h => h)
          · have hq4 : (decide (at5 < (out3.length : Int))) = false := hg4
            have hp4 : ¬ (at5 < (out3.length : Int)) := of_decide_eq_false hq4
            refine xd_skip hok 5 [(3, _), (16, _)] rfl rfl rfl (lc rfl (lc rfl ln)) (by kernel_rfl) ⟨_, _, rfl, rfl, rfl⟩ ?_
            refine xd_skip hok 6 [(5, _), (16, _)] rfl rfl rfl (lc rfl (lc rfl ln)) (by kernel_rfl) ⟨_, _, rfl, rfl, rfl⟩ ?_
            refine xd_skip hok 7 [(17, _), (18, _), (16, _)] rfl rfl rfl (lc rfl (lc rfl (lc rfl ln))) (by kernel_rfl) ⟨_, _, rfl, rfl, rfl⟩ ?_
            refine xd_skip hok 8 [(19, _), (16, _)] rfl rfl rfl (lc rfl (lc rfl ln)) (by kernel_rfl) ⟨_, _, rfl, rfl, rfl⟩ ?_
            refine xd_skip hok 9 [(0, _), (16, _)] rfl rfl rfl (lc rfl (lc rfl ln)) (by kernel_rfl) ⟨_, _, rfl, rfl, rfl⟩ ?_
            refine xd_skip hok 10 [(4, _), (16, _)] rfl rfl rfl (lc rfl (lc rfl ln)) (by kernel_rfl) ⟨_, _, rfl, rfl, rfl⟩ ?_
            refine xd_skip hok 11 [(21, _), (22, _), (16, _)] rfl rfl rfl (lc rfl (lc rfl (lc rfl ln))) (by kernel_rfl) ⟨_, _, rfl, rfl, rfl⟩ ?_
            refine xd_skip hok 12 [(23, _), (16, _)] rfl rfl rfl (lc rfl (lc rfl ln)) (by kernel_rfl) ⟨_, _, rfl, rfl, rfl⟩ ?_
            refine xd_skip hok 13 [(20, _), (24, _), (16, _)] rfl rfl rfl (lc rfl (lc rfl (lc rfl ln))) (by kernel_rfl) ⟨_, _, rfl, rfl, rfl⟩ ?_
            refine xd_b hok 14 [(16, _), (25, _)] ([]) rsN rfl rfl rfl (lc rfl (lc rfl ln)) (by kernel_rfl) trivial (fun H' hy hK => o_pick_f rfl rfl) ?_
            refine xd_end hok (by kernel_rfl) ?_
            exact xq_cut ((lce rfl (by first | rfl | (simp only [hq4, if_neg hp4, bS]; done) | (simp only [hq4, if_neg hp4, bS, reduceIte, Bool.false_eq_true]; done) | (simp [hp4]; done) | (simp_all; done)) (lc rfl (lc rfl (lc rfl (lc rfl ln)))))) (fun _ h => h)
        · refine xq_then ?_
          refine xw_bool 26 rfl (fun hc5 => ?_) (fun hc5 => ?_)
          · have hq5 : ((decide (at5 < (out3.length : Int))) && (decide (out3[at5.toNat]! < l0[i4.toNat]!))) = true := hc5
            have hp5 : ((decide (at5 < (out3.length : Int))) && (decide (out3[at5.toNat]! < l0[i4.toNat]!))) = true := hq5
            rw [if_pos hp5] at h
            refine xw_cond_t rfl rfl (xw_skip (xq_then ?_))
            refine xw_block ?_
            refine xw_region ?_
            refine xq rfl trivial (o_mv rfl) ?_
            obtain ⟨ho6, h⟩ := h
            refine xq rfl trivial (o_add rfl rfl rfl ho6) ?_
            refine xq rfl trivial (o_as rfl) ?_
            refine xo_nil ?_
            refine xq_blk 3 ?_
            exact xq_next (s' := (at5 + 1 : Int)) (e' := [(0, v0), (3, v3_1), (4, .int .i64 i4), (5, .int .i64 (at5 + 1))]) (B3_1 ++ ([])) (lc rfl (lc rfl (lc rfl (lc rfl ln)))) (fun _ h => h) h ⟨rfl, rfl⟩
          · have hq5 : ((decide (at5 < (out3.length : Int))) && (decide (out3[at5.toNat]! < l0[i4.toNat]!))) = false := hc5
            have hp5 : ¬ (((decide (at5 < (out3.length : Int))) && (decide (out3[at5.toNat]! < l0[i4.toNat]!))) = true) := bne' hq5
            rw [if_neg hp5] at h
            refine xw_cond_f rfl rfl (xw_exit (xq_then_exit ?_))
            exact xq_out (r := (at5 : Int)) (e' := [(0, v0), (3, v3_1), (4, .int .i64 i4), (5, .int .i64 at5)]) (B3_1 ++ ([])) (lc rfl (lc rfl (lc rfl (lc rfl ln)))) (fun _ h => h) h (by intro hh; cases hh) ⟨rfl, rfl, rfl⟩
      · rintro _ _ _ ⟨rfl, rfl, rfl⟩
        replace h : risingR_k2a l0 out3 i4 at5 o := h
        unfold risingR_k2a at h
        refine xq_blk_eq ?_
        refine xq_then (xw_seq (xw_seq ?_))
        obtain ⟨ho7, ho8, h⟩ := h
        refine xw_cut [(0, _), (3, _), (4, _), (5, _)] (lc rfl (lc rfl (lc rfl (lc rfl ln)))) [(43, .bool ((decide (at5 < (out3.length : Int))) && (decide (out3[at5.toNat]! = l0[i4.toNat]!))))] ?_ ?_
        · refine xd_start (by kernel_rfl) (by kernel_rfl) (fun hok => ?_)
          refine xd_b hok 0 [(5, _)] ([]) rsN rfl rfl rfl (lc rfl ln) (by kernel_rfl) trivial (fun H' hy hK => o_mv rfl) ?_
          refine xd_b hok 1 [(3, _)] ([]) rsN rfl rfl rfl (lc rfl ln) (by kernel_rfl) trivial (fun H' hy hK => o_mv rfl) ?_
          refine xd_b hok 2 [(30, _)] ([]) rsN rfl rfl rfl (lc rfl ln) (by kernel_rfl) trivial (fun H' hy hK => o_lenL rfl Try.underlying57 rfl (OJ.val hJ3_1)) ?_
          refine xd_b hok 3 [(29, _), (31, _)] ([]) rsN rfl rfl rfl (lc rfl (lc rfl ln)) (by kernel_rfl) trivial (fun H' hy hK => o_lss rfl rfl) ?_
          refine xd_b hok 4 [(32, _)] ([]) rsN rfl rfl rfl (lc rfl ln) (by kernel_rfl) trivial (fun H' hy hK => o_mv rfl) ?_
          refine xd_bool 33 rfl (fun hg9 => ?_) (fun hg9 => ?_)
          · have hq9 : (decide (at5 < (out3.length : Int))) = true := hg9
            have hp9 : at5 < (out3.length : Int) := of_decide_eq_true hq9
            refine xd_b hok 5 [(3, _), (33, _)] ([]) rsN rfl rfl rfl (lc rfl (lc rfl ln)) (by kernel_rfl) ⟨_, rfl, rfl⟩ (fun H' hy hK => o_mv rfl) ?_
            refine xd_b hok 6 [(5, _), (33, _)] ([]) rsN rfl rfl rfl (lc rfl (lc rfl ln)) (by kernel_rfl) ⟨_, rfl, rfl⟩ (fun H' hy hK => o_mv rfl) ?_
            refine xd_b hok 7 [(34, _), (35, _), (33, _)] (B3_1 ++ ([])) (rsA (Pull.sub (.here _ _)) rsN) rfl rfl rfl (lc rfl (lc rfl (lc rfl ln))) (by kernel_rfl) ⟨_, rfl, rfl⟩ (fun H' hy hK => o_ixL el57 rfl rfl (fun w hw => (hJ3_1.sl hw (fun x hx => hy x (Pull.sub (.here _ _) x hx)))) rfl (ho7 (by first | exact hg9 | (simp only [hq9, if_pos hp9, bS]; done) | (simp only [hq9, if_pos hp9, bS, reduceIte, Bool.false_eq_true]; done) | (simp [hp9]; done) | (simp_all; done)))) ?_
            refine xd_b hok 8 [(36, _), (33, _)] (B3_1 ++ ([])) (rsA (Pull.sub (.here _ _)) rsN) rfl rfl rfl (lc rfl (lc rfl ln)) (by kernel_rfl) ⟨_, rfl, rfl⟩ (fun H' hy hK => o_ldL1 (off := 0) (u := .int .i64 (out3[at5.toNat]!)) rfl ts3 rfl (fun w hw => (hJ3_1.sl hw (fun x hx => hy x (Pull.sub (.here _ _) x hx)))) (toNat_lt (ho7 (by first | exact hg9 | (simp only [hq9, if_pos hp9, bS]; done) | (simp only [hq9, if_pos hp9, bS, reduceIte, Bool.false_eq_true]; done) | (simp [hp9]; done) | (simp_all; done)))) rfl rfl) ?_
            refine xd_b hok 9 [(0, _), (33, _)] ([]) rsN rfl rfl rfl (lc rfl (lc rfl ln)) (by kernel_rfl) ⟨_, rfl, rfl⟩ (fun H' hy hK => o_mv rfl) ?_
            refine xd_b hok 10 [(4, _), (33, _)] ([]) rsN rfl rfl rfl (lc rfl (lc rfl ln)) (by kernel_rfl) ⟨_, rfl, rfl⟩ (fun H' hy hK => o_mv rfl) ?_
            refine xd_b hok 11 [(38, _), (39, _), (33, _)] ([]) rsN rfl rfl rfl (lc rfl (lc rfl (lc rfl ln))) (by kernel_rfl) ⟨_, rfl, rfl⟩ (fun H' hy hK => o_ixL el57 rfl rfl (fun w hw => (hs0.keep hw (fun k hk => (hK k hk).elim (fun h => (Fr.seg hcB3_1 Fr.nil) k h) id))) rfl (ho8 (by first | exact hg9 | (simp only [hq9, if_pos hp9, bS]; done) | (simp only [hq9, if_pos hp9, bS, reduceIte, Bool.false_eq_true]; done) | (simp [hp9]; done) | (simp_all; done)))) ?_
            refine xd_b hok 12 [(40, _), (33, _)] ([]) rsN rfl rfl rfl (lc rfl (lc rfl ln)) (by kernel_rfl) ⟨_, rfl, rfl⟩ (fun H' hy hK => o_ldL1 (off := 0) (u := .int .i64 (l0[i4.toNat]!)) rfl ts3 rfl (fun w hw => (hs0.keep hw (fun k hk => (hK k hk).elim (fun h => (Fr.seg hcB3_1 Fr.nil) k h) id))) (toNat_lt (ho8 (by first | exact hg9 | (simp only [hq9, if_pos hp9, bS]; done) | (simp only [hq9, if_pos hp9, bS, reduceIte, Bool.false_eq_true]; done) | (simp [hp9]; done) | (simp_all; done)))) rfl rfl) ?_
            refine xd_b hok 13 [(37, _), (41, _), (33, _)] ([]) rsN rfl rfl rfl (lc rfl (lc rfl (lc rfl ln))) (by kernel_rfl) ⟨_, rfl, rfl⟩ (fun H' hy hK => o_eql rfl rfl) ?_
            refine xd_b hok 14 [(33, _), (42, _)] ([]) rsN rfl rfl rfl (lc rfl (lc rfl ln)) (by kernel_rfl) trivial (fun H' hy hK => o_pick_t rfl rfl) ?_
            refine xd_end hok (by kernel_rfl) ?_
            exact xq_cut ((lce rfl (by first | rfl | (simp only [hq9, if_pos hp9, bS]; done) | (simp only [hq9, if_pos hp9, bS, reduceIte, Bool.false_eq_true]; done) | (simp [hp9]; done) | (simp_all; done)) (lc rfl (lc rfl (lc rfl (lc rfl ln)))))) (fun _ h => h)
          · have hq9 : (decide (at5 < (out3.length : Int))) = false := hg9
            have hp9 : ¬ (at5 < (out3.length : Int)) := of_decide_eq_false hq9
            refine xd_skip hok 5 [(3, _), (33, _)] rfl rfl rfl (lc rfl (lc rfl ln)) (by kernel_rfl) ⟨_, _, rfl, rfl, rfl⟩ ?_
            refine xd_skip hok 6 [(5, _), (33, _)] rfl rfl rfl (lc rfl (lc rfl ln)) (by kernel_rfl) ⟨_, _, rfl, rfl, rfl⟩ ?_
            refine xd_skip hok 7 [(34, _), (35, _), (33, _)] rfl rfl rfl (lc rfl (lc rfl (lc rfl ln))) (by kernel_rfl) ⟨_, _, rfl, rfl, rfl⟩ ?_
            refine xd_skip hok 8 [(36, _), (33, _)] rfl rfl rfl (lc rfl (lc rfl ln)) (by kernel_rfl) ⟨_, _, rfl, rfl, rfl⟩ ?_
            refine xd_skip hok 9 [(0, _), (33, _)] rfl rfl rfl (lc rfl (lc rfl ln)) (by kernel_rfl) ⟨_, _, rfl, rfl, rfl⟩ ?_
            refine xd_skip hok 10 [(4, _), (33, _)] rfl rfl rfl (lc rfl (lc rfl ln)) (by kernel_rfl) ⟨_, _, rfl, rfl, rfl⟩ ?_
            refine xd_skip hok 11 [(38, _), (39, _), (33, _)] rfl rfl rfl (lc rfl (lc rfl (lc rfl ln))) (by kernel_rfl) ⟨_, _, rfl, rfl, rfl⟩ ?_
            refine xd_skip hok 12 [(40, _), (33, _)] rfl rfl rfl (lc rfl (lc rfl ln)) (by kernel_rfl) ⟨_, _, rfl, rfl, rfl⟩ ?_
            refine xd_skip hok 13 [(37, _), (41, _), (33, _)] rfl rfl rfl (lc rfl (lc rfl (lc rfl ln))) (by kernel_rfl) ⟨_, _, rfl, rfl, rfl⟩ ?_
            refine xd_b hok 14 [(33, _), (42, _)] ([]) rsN rfl rfl rfl (lc rfl (lc rfl ln)) (by kernel_rfl) trivial (fun H' hy hK => o_pick_f rfl rfl) ?_
            refine xd_end hok (by kernel_rfl) ?_
            exact xq_cut ((lce rfl (by first | rfl | (simp only [hq9, if_neg hp9, bS]; done) | (simp only [hq9, if_neg hp9, bS, reduceIte, Bool.false_eq_true]; done) | (simp [hp9]; done) | (simp_all; done)) (lc rfl (lc rfl (lc rfl (lc rfl ln)))))) (fun _ h => h)
        · refine xq_then ?_
          refine xw_bool 43 rfl (fun hc10 => ?_) (fun hc10 => ?_)
          · have hq10 : ((decide (at5 < (out3.length : Int))) && (decide (out3[at5.toNat]! = l0[i4.toNat]!))) = true := hc10
            have hp10 : ((decide (at5 < (out3.length : Int))) && (decide (out3[at5.toNat]! = l0[i4.toNat]!))) = true := hq10
            rw [if_pos hp10] at h
            refine xw_cond_t rfl rfl (xw_exit (xq_then_exit ?_))
            refine xq_blk_eq ?_
            refine xq_then (xw_region ?_)
            refine xq rfl trivial (o_mv rfl) ?_
            obtain ⟨ho11, h⟩ := h
            refine xq rfl trivial (o_add rfl rfl rfl ho11) ?_
            refine xq rfl trivial (o_as rfl) ?_
            refine xo_nil ?_
            exact xq_next (s' := ((out3, i4 + 1) : (List Int) × Int)) (e' := [(0, v0), (3, v3_1), (4, .int .i64 (i4 + 1))]) (B3_1 ++ ([])) (lc rfl (lc rfl (lc rfl ln))) (fun _ h => h) h ⟨v3_1, B3_1, rfl, rfl, hJ3_1, hcB3_1⟩
          · have hq10 : ((decide (at5 < (out3.length : Int))) && (decide (out3[at5.toNat]! = l0[i4.toNat]!))) = false := hc10
            have hp10 : ¬ (((decide (at5 < (out3.length : Int))) && (decide (out3[at5.toNat]! = l0[i4.toNat]!))) = true) := bne' hq10
            rw [if_neg hp10] at h
            refine xw_cond_f rfl rfl (xw_skip (xq_then ?_))
            refine xd_start (by kernel_rfl) (by kernel_rfl) (fun hok => ?_)
            refine xd_b hok 1 [(3, _)] ([]) rsN rfl rfl rfl (lc rfl ln) (by kernel_rfl) trivial (fun H' hy hK => o_mv rfl) ?_
            refine xd_b hok 2 [(5, _)] ([]) rsN rfl rfl rfl (lc rfl ln) (by kernel_rfl) trivial (fun H' hy hK => o_mv rfl) ?_
            obtain ⟨ho12, h⟩ := h
            refine xd_b hok 3 [(45, _), (46, _)] (B3_1 ++ ([])) (rsA (Pull.sub (.here _ _)) rsN) rfl rfl rfl (lc rfl (lc rfl ln)) (by kernel_rfl) trivial (fun H' hy hK => o_cutH el57 rfl (fun w hw => (hJ3_1.sl hw (fun x hx => hy x (Pull.sub (.here _ _) x hx)))) rfl ho12) ?_
            refine xd_b hok 5 [(0, _)] ([]) rsN rfl rfl rfl (lc rfl ln) (by kernel_rfl) trivial (fun H' hy hK => o_mv rfl) ?_
            refine xd_b hok 6 [(4, _)] ([]) rsN rfl rfl rfl (lc rfl ln) (by kernel_rfl) trivial (fun H' hy hK => o_mv rfl) ?_
            obtain ⟨ho13, h⟩ := h
            refine xd_b hok 7 [(49, _), (50, _)] ([]) rsN rfl rfl rfl (lc rfl (lc rfl ln)) (by kernel_rfl) trivial (fun H' hy hK => o_ixL el57 rfl rfl (fun w hw => (hs0.keep hw (fun k hk => (hK k hk).elim (fun h => (Fr.seg hcB3_1 Fr.nil) k h) id))) rfl ho13) ?_
            refine xd_b hok 8 [(51, _)] ([]) rsN rfl rfl rfl (lc rfl ln) (by kernel_rfl) trivial (fun H' hy hK => o_ldL1 (off := 0) (u := .int .i64 (l0[i4.toNat]!)) rfl ts3 rfl (fun w hw => (hs0.keep hw (fun k hk => (hK k hk).elim (fun h => (Fr.seg hcB3_1 Fr.nil) k h) id))) (toNat_lt ho13) rfl rfl) ?_
            refine xd_b hok 11 [(3, _)] ([]) rsN rfl rfl rfl (lc rfl ln) (by kernel_rfl) trivial (fun H' hy hK => o_mv rfl) ?_
            refine xd_b hok 12 [(5, _)] ([]) rsN rfl rfl rfl (lc rfl ln) (by kernel_rfl) trivial (fun H' hy hK => o_mv rfl) ?_
            obtain ⟨ho14, h⟩ := h
            refine xd_b hok 13 [(55, _), (56, _)] (B3_1 ++ ([])) (rsA (Pull.sub (.here _ _)) rsN) rfl rfl rfl (lc rfl (lc rfl ln)) (by kernel_rfl) trivial (fun H' hy hK => o_cutL el57 rfl (fun w hw => (hJ3_1.sl hw (fun x hx => hy x (Pull.sub (.here _ _) x hx)))) rfl ho14) ?_
            refine xd_step2 hok 0 9 [] [(52, _)] rfl rfl rfl rfl (by kernel_rfl) ln (lc rfl ln) (by kernel_rfl) (by kernel_rfl) trivial trivial (o_bsl el57 ze3 (cells_one rfl) rfl rfl (.nil _)) (o_bsl el57 ze3 (cells_one rfl) rfl rfl (.int rfl rfl (.nil _))) ?_ ?_
            · rintro _ _ ⟨b44, hb44, rfl, rfl⟩
              refine ⟨(rsA (rsA (Pull.sub (.thereC _ (.here _ _))) rsN) (rsA rsN (rsA rsN (rsA rsN (rsA rsN (rsA rsN (rsA rsN (rsA (rsA (Pull.sub (.thereC _ (.here _ _))) rsN) (rsA rsN (rsA rsN rsN)))))))))), (Ks.consN hb44 (Ks.segK (fun k hk => by simp [hk]) Ks.nil)), ?_⟩
              obtain ⟨ho16, h⟩ := h
              refine xd_step2 hok 4 9 [(44, _), (47, _)] [(52, _)] rfl rfl rfl rfl (by kernel_rfl) (lc rfl (lc rfl ln)) (lc rfl ln) (by kernel_rfl) (by kernel_rfl) trivial trivial (OT.st (fun _ h => Pull.st (.hereC _ _) h) (o_appJ (l := []) (l' := (out3.take at5.toNat).drop 0) (B := [_]) ap57 rfl rfl (OJ.lit (l := []) (List.Mem.head _) rfl (by omega) (by simp [maxLen]) (by exact (fun i hi => match i, hi with  | q + 0, h => absurd h (by omega)))) (fun w2 hw2 => ((hJ3_1.cut (Nat.zero_le _) (toNat_le ho12) (by decide)).sl hw2 (Pull.sub (.there _ (.here _ _))))) (fun _ _ => rfl) ho16 (len_max ho16 (by decide)))) (o_bsl el57 ze3 (cells_one rfl) rfl rfl (.int rfl rfl (.nil _))) ?_ ?_
              · rintro vs15 _ ⟨Bs15, rfl, hns15, hJs15⟩
                have hcBs15 := Cov.trans (Cov.new hb44) hns15
                refine ⟨(rsA (rsA (Pull.sub (.there _ (.here _ _))) rsN) (rsA rsN (rsA rsN (rsA rsN (rsA rsN (rsA rsN (rsA rsN (rsA (rsA (Pull.sub (.there _ (.here _ _))) rsN) (rsA rsN (rsA rsN rsN)))))))))), (Ks.segN hcBs15 (Ks.segK (fun k hk => by simp [hk]) Ks.nil)), ?_⟩
                refine xd_step hok 9 [(52, _)] rfl rfl (by kernel_rfl) (lc rfl ln) (by kernel_rfl) trivial (o_bsl el57 ze3 (cells_one rfl) rfl rfl (.int rfl rfl (.nil _))) ?_
                rintro _ _ ⟨b53, hb53, rfl, rfl⟩
                refine ⟨(rsA (rsA (Pull.sub (.thereC _ (.there _ (.here _ _)))) rsN) (rsA rsN (rsA rsN (rsA rsN (rsA rsN (rsA rsN (rsA rsN (rsA (rsA (Pull.sub (.thereC _ (.there _ (.here _ _)))) rsN) (rsA rsN (rsA rsN rsN)))))))))), (Ks.consN hb53 (Ks.segN hcBs15 (Ks.segK (fun k hk => by simp [hk]) Ks.nil))), ?_⟩
                obtain ⟨ho18, h⟩ := h
                refine xd_step hok 10 [(48, _), (53, _)] rfl rfl (by kernel_rfl) (lc rfl (lc rfl ln)) (by kernel_rfl) trivial (OT.push (fun q_ => (b53, BK 1 _ 3) :: (q_ ++ (B3_1 ++ ([])))) (fun _ => (.thereC _ (.here _ _))) (OT.st (fun _ h => Pull.st (.thereC _ (.here _ _)) h) (o_appJ (l := ([] ++ (out3.take at5.toNat).drop 0)) (l' := [l0[i4.toNat]!]) (B := Bs15) ap57 rfl rfl hJs15 (fun w2 hw2 => (SL.lit (l := [l0[i4.toNat]!]) hw2 (List.mem_append_right _ (List.Mem.head _)) rfl (by omega) (by simp [maxLen]) (by exact (fun i hi => match i, hi with | 0, _ => rfl | q + 1, h => absurd h (by omega))))) (fun _ _ => rfl) ho18 (len_max ho18 (by decide))))) ?_
                rintro vs17 _ ⟨Bs17, rfl, hns17, hJs17⟩
                have hcBs17 := Cov.trans hcBs15 hns17
                refine ⟨(rsA (rsA (Pull.sub (.thereC _ (.there _ (.here _ _)))) rsN) (rsA rsN (rsA rsN (rsA rsN (rsA rsN (rsA rsN (rsA rsN (rsA (rsA (Pull.sub (.thereC _ (.there _ (.here _ _)))) rsN) (rsA rsN (rsA rsN rsN)))))))))), (Ks.consN hb53 (Ks.segN hcBs17 (Ks.segK (fun k hk => by simp [hk]) Ks.nil))), ?_⟩
                refine xd_show (H' := (b53, BK 1 _ 3) :: (Bs17 ++ (B3_1 ++ ([])))) rfl ?_
                obtain ⟨ho20, h⟩ := h
                refine xd_fl hok 4 14 [(54, _), (57, _)] rfl rfl (by kernel_rfl) (by kernel_rfl) (lc rfl (lc rfl ln)) (by kernel_rfl) trivial (OT.push (fun q_ => (b53, BK 1 _ 3) :: (q_ ++ (B3_1 ++ ([])))) (fun _ => (.thereC _ (.here _ _))) (OT.st (fun _ h => Pull.st (.thereC _ (.here _ _)) h) (o_appJ (l := (([] ++ (out3.take at5.toNat).drop 0) ++ [l0[i4.toNat]!])) (l' := (out3.take out3.length).drop at5.toNat) (B := Bs17) ap57 rfl rfl hJs17 (fun w2 hw2 => ((hJ3_1.cut (toNat_le ho14) (Nat.le_refl _) (by decide)).sl hw2 (Pull.sub (.there _ (.thereC _ (.here _ _)))))) (fun _ _ => rfl) ho20 (len_max ho20 (by decide))))) ?_
                rintro vs19 _ ⟨Bs19, rfl, hns19, hJs19⟩
                have hcBs19 := Cov.trans hcBs17 hns19
                refine ⟨(Ks.consN hb53 (Ks.segN hcBs19 (Ks.segK (fun k hk => by simp [hk]) Ks.nil))), ?_⟩
                refine xd_show (H' := (b53, BK 1 _ 3) :: (Bs19 ++ (B3_1 ++ ([])))) rfl ?_
                refine xd_b hok 15 [(58, _)] ([]) rsN rfl rfl rfl (lc rfl ln) (by kernel_rfl) trivial (fun H' hy hK => o_as rfl) ?_
                refine xd_end hok (by kernel_rfl) ?_
                refine xq_blk 1 ?_
                refine xq_then (xw_region ?_)
                refine xq rfl trivial (o_mv rfl) ?_
                obtain ⟨ho21, h⟩ := h
                refine xq rfl trivial (o_add rfl rfl rfl ho21) ?_
                refine xq rfl trivial (o_as rfl) ?_
                refine xo_nil ?_
                exact xq_next (s' := ((((([] ++ (out3.take at5.toNat).drop 0) ++ [l0[i4.toNat]!]) ++ (out3.take out3.length).drop at5.toNat), i4 + 1) : (List Int) × Int)) (e' := [(0, v0), (3, vs19), (4, .int .i64 (i4 + 1))]) (Bs19 ++ ([])) (lc rfl (lc rfl (lc rfl ln))) (Kp.st (Kp.new hb53 (Kp.segKeep (Kp.segNew (Cov.fresh hcB3_1) Kp.nil)))) h ⟨vs19, Bs19, rfl, rfl, hJs19, hcBs19⟩
              · rintro _ _ ⟨b53, hb53, rfl, rfl⟩
                refine ⟨(rsA (rsA (Pull.sub (.thereC _ (.thereC _ (.here _ _)))) rsN) (rsA rsN (rsA rsN (rsA rsN (rsA rsN (rsA rsN (rsA rsN (rsA (rsA (Pull.sub (.thereC _ (.thereC _ (.here _ _)))) rsN) (rsA rsN (rsA rsN rsN)))))))))), (Ks.consN hb53 (Ks.consN hb44 (Ks.segK (fun k hk => by simp [hk]) Ks.nil))), ?_⟩
                refine xd_step hok 4 [(44, _), (47, _)] rfl rfl (by kernel_rfl) (lc rfl (lc rfl ln)) (by kernel_rfl) trivial (OT.push (fun q_ => (b53, BK 1 _ 3) :: (q_ ++ (B3_1 ++ ([])))) (fun _ => (.thereC _ (.here _ _))) (OT.st (fun _ h => Pull.st (.thereC _ (.hereC _ _)) h) (o_appJ (l := []) (l' := (out3.take at5.toNat).drop 0) (B := [_]) ap57 rfl rfl (OJ.lit (l := []) (List.Mem.head _) rfl (by omega) (by simp [maxLen]) (by exact (fun i hi => match i, hi with  | q + 0, h => absurd h (by omega)))) (fun w2 hw2 => ((hJ3_1.cut (Nat.zero_le _) (toNat_le ho12) (by decide)).sl hw2 (Pull.sub (.there _ (.thereC _ (.here _ _)))))) (fun _ _ => rfl) ho16 (len_max ho16 (by decide))))) ?_
                rintro vs22 _ ⟨Bs22, rfl, hns22, hJs22⟩
                have hcBs22 := Cov.trans (Cov.new hb44) hns22
                refine ⟨(rsA (rsA (Pull.sub (.thereC _ (.there _ (.here _ _)))) rsN) (rsA rsN (rsA rsN (rsA rsN (rsA rsN (rsA rsN (rsA rsN (rsA (rsA (Pull.sub (.thereC _ (.there _ (.here _ _)))) rsN) (rsA rsN (rsA rsN rsN)))))))))), (Ks.consN hb53 (Ks.segN hcBs22 (Ks.segK (fun k hk => by simp [hk]) Ks.nil))), ?_⟩
                refine xd_show (H' := (b53, BK 1 _ 3) :: (Bs22 ++ (B3_1 ++ ([])))) rfl ?_
                obtain ⟨ho24, h⟩ := h
                refine xd_step hok 10 [(48, _), (53, _)] rfl rfl (by kernel_rfl) (lc rfl (lc rfl ln)) (by kernel_rfl) trivial (OT.push (fun q_ => (b53, BK 1 _ 3) :: (q_ ++ (B3_1 ++ ([])))) (fun _ => (.thereC _ (.here _ _))) (OT.st (fun _ h => Pull.st (.thereC _ (.here _ _)) h) (o_appJ (l := ([] ++ (out3.take at5.toNat).drop 0)) (l' := [l0[i4.toNat]!]) (B := Bs22) ap57 rfl rfl hJs22 (fun w2 hw2 => (SL.lit (l := [l0[i4.toNat]!]) hw2 (List.mem_append_right _ (List.Mem.head _)) rfl (by omega) (by simp [maxLen]) (by exact (fun i hi => match i, hi with | 0, _ => rfl | q + 1, h => absurd h (by omega))))) (fun _ _ => rfl) ho24 (len_max ho24 (by decide))))) ?_
                rintro vs23 _ ⟨Bs23, rfl, hns23, hJs23⟩
                have hcBs23 := Cov.trans hcBs22 hns23
                refine ⟨(rsA (rsA (Pull.sub (.thereC _ (.there _ (.here _ _)))) rsN) (rsA rsN (rsA rsN (rsA rsN (rsA rsN (rsA rsN (rsA rsN (rsA (rsA (Pull.sub (.thereC _ (.there _ (.here _ _)))) rsN) (rsA rsN (rsA rsN rsN)))))))))), (Ks.consN hb53 (Ks.segN hcBs23 (Ks.segK (fun k hk => by simp [hk]) Ks.nil))), ?_⟩
                refine xd_show (H' := (b53, BK 1 _ 3) :: (Bs23 ++ (B3_1 ++ ([])))) rfl ?_
                obtain ⟨ho26, h⟩ := h
                refine xd_fl hok 4 14 [(54, _), (57, _)] rfl rfl (by kernel_rfl) (by kernel_rfl) (lc rfl (lc rfl ln)) (by kernel_rfl) trivial (OT.push (fun q_ => (b53, BK 1 _ 3) :: (q_ ++ (B3_1 ++ ([])))) (fun _ => (.thereC _ (.here _ _))) (OT.st (fun _ h => Pull.st (.thereC _ (.here _ _)) h) (o_appJ (l := (([] ++ (out3.take at5.toNat).drop 0) ++ [l0[i4.toNat]!])) (l' := (out3.take out3.length).drop at5.toNat) (B := Bs23) ap57 rfl rfl hJs23 (fun w2 hw2 => ((hJ3_1.cut (toNat_le ho14) (Nat.le_refl _) (by decide)).sl hw2 (Pull.sub (.there _ (.thereC _ (.here _ _)))))) (fun _ _ => rfl) ho26 (len_max ho26 (by decide))))) ?_
                rintro vs25 _ ⟨Bs25, rfl, hns25, hJs25⟩
                have hcBs25 := Cov.trans hcBs23 hns25
                refine ⟨(Ks.consN hb53 (Ks.segN hcBs25 (Ks.segK (fun k hk => by simp [hk]) Ks.nil))), ?_⟩
                refine xd_show (H' := (b53, BK 1 _ 3) :: (Bs25 ++ (B3_1 ++ ([])))) rfl ?_
                refine xd_b hok 15 [(58, _)] ([]) rsN rfl rfl rfl (lc rfl ln) (by kernel_rfl) trivial (fun H' hy hK => o_as rfl) ?_
                refine xd_end hok (by kernel_rfl) ?_
                refine xq_blk 1 ?_
                refine xq_then (xw_region ?_)
                refine xq rfl trivial (o_mv rfl) ?_
                obtain ⟨ho27, h⟩ := h
                refine xq rfl trivial (o_add rfl rfl rfl ho27) ?_
                refine xq rfl trivial (o_as rfl) ?_
                refine xo_nil ?_
                exact xq_next (s' := ((((([] ++ (out3.take at5.toNat).drop 0) ++ [l0[i4.toNat]!]) ++ (out3.take out3.length).drop at5.toNat), i4 + 1) : (List Int) × Int)) (e' := [(0, v0), (3, vs25), (4, .int .i64 (i4 + 1))]) (Bs25 ++ ([])) (lc rfl (lc rfl (lc rfl ln))) (Kp.st (Kp.new hb53 (Kp.segKeep (Kp.segNew (Cov.fresh hcB3_1) Kp.nil)))) h ⟨vs25, Bs25, rfl, rfl, hJs25, hcBs25⟩
            · rintro _ _ ⟨b53, hb53, rfl, rfl⟩
              refine ⟨(rsA (rsA (Pull.sub (.thereC _ (.here _ _))) rsN) (rsA rsN (rsA rsN (rsA rsN (rsA rsN (rsA rsN (rsA rsN (rsA (rsA (Pull.sub (.thereC _ (.here _ _))) rsN) (rsA rsN (rsA rsN rsN)))))))))), (Ks.consN hb53 (Ks.segK (fun k hk => by simp [hk]) Ks.nil)), ?_⟩
              refine xd_step hok 0 [] rfl rfl (by kernel_rfl) ln (by kernel_rfl) trivial (o_bsl el57 ze3 (cells_one rfl) rfl rfl (.nil _)) ?_
              rintro _ _ ⟨b44, hb44, rfl, rfl⟩
              refine ⟨(rsA (rsA (Pull.sub (.thereC _ (.thereC _ (.here _ _)))) rsN) (rsA rsN (rsA rsN (rsA rsN (rsA rsN (rsA rsN (rsA rsN (rsA (rsA (Pull.sub (.thereC _ (.thereC _ (.here _ _)))) rsN) (rsA rsN (rsA rsN rsN)))))))))), (Ks.consN hb44 (Ks.consN hb53 (Ks.segK (fun k hk => by simp [hk]) Ks.nil))), ?_⟩
              obtain ⟨ho29, h⟩ := h
              refine xd_step hok 4 [(44, _), (47, _)] rfl rfl (by kernel_rfl) (lc rfl (lc rfl ln)) (by kernel_rfl) trivial (OT.st (fun _ h => Pull.st (.hereC _ _) h) (o_appJ (l := []) (l' := (out3.take at5.toNat).drop 0) (B := [_]) ap57 rfl rfl (OJ.lit (l := []) (List.Mem.head _) rfl (by omega) (by simp [maxLen]) (by exact (fun i hi => match i, hi with  | q + 0, h => absurd h (by omega)))) (fun w2 hw2 => ((hJ3_1.cut (Nat.zero_le _) (toNat_le ho12) (by decide)).sl hw2 (Pull.sub (.there _ (.thereC _ (.here _ _)))))) (fun _ _ => rfl) ho29 (len_max ho29 (by decide)))) ?_
              rintro vs28 _ ⟨Bs28, rfl, hns28, hJs28⟩
              have hcBs28 := Cov.trans (Cov.new hb44) hns28
              refine ⟨(rsA (rsA (Pull.sub (.there _ (.thereC _ (.here _ _)))) rsN) (rsA rsN (rsA rsN (rsA rsN (rsA rsN (rsA rsN (rsA rsN (rsA (rsA (Pull.sub (.there _ (.thereC _ (.here _ _)))) rsN) (rsA rsN (rsA rsN rsN)))))))))), (Ks.segN hcBs28 (Ks.consN hb53 (Ks.segK (fun k hk => by simp [hk]) Ks.nil))), ?_⟩
              obtain ⟨ho31, h⟩ := h
              refine xd_step hok 10 [(48, _), (53, _)] rfl rfl (by kernel_rfl) (lc rfl (lc rfl ln)) (by kernel_rfl) trivial (OT.st (fun _ h => Pull.st (.here _ _) h) (o_appJ (l := ([] ++ (out3.take at5.toNat).drop 0)) (l' := [l0[i4.toNat]!]) (B := Bs28) ap57 rfl rfl hJs28 (fun w2 hw2 => (SL.lit (l := [l0[i4.toNat]!]) hw2 (List.mem_append_right _ (List.Mem.head _)) rfl (by omega) (by simp [maxLen]) (by exact (fun i hi => match i, hi with | 0, _ => rfl | q + 1, h => absurd h (by omega))))) (fun _ _ => rfl) ho31 (len_max ho31 (by decide)))) ?_
              rintro vs30 _ ⟨Bs30, rfl, hns30, hJs30⟩
              have hcBs30 := Cov.trans hcBs28 hns30
              refine ⟨(rsA (rsA (Pull.sub (.there _ (.thereC _ (.here _ _)))) rsN) (rsA rsN (rsA rsN (rsA rsN (rsA rsN (rsA rsN (rsA rsN (rsA (rsA (Pull.sub (.there _ (.thereC _ (.here _ _)))) rsN) (rsA rsN (rsA rsN rsN)))))))))), (Ks.segN hcBs30 (Ks.consN hb53 (Ks.segK (fun k hk => by simp [hk]) Ks.nil))), ?_⟩
              obtain ⟨ho33, h⟩ := h
              refine xd_fl hok 4 14 [(54, _), (57, _)] rfl rfl (by kernel_rfl) (by kernel_rfl) (lc rfl (lc rfl ln)) (by kernel_rfl) trivial (OT.st (fun _ h => Pull.st (.here _ _) h) (o_appJ (l := (([] ++ (out3.take at5.toNat).drop 0) ++ [l0[i4.toNat]!])) (l' := (out3.take out3.length).drop at5.toNat) (B := Bs30) ap57 rfl rfl hJs30 (fun w2 hw2 => ((hJ3_1.cut (toNat_le ho14) (Nat.le_refl _) (by decide)).sl hw2 (Pull.sub (.there _ (.thereC _ (.here _ _)))))) (fun _ _ => rfl) ho33 (len_max ho33 (by decide)))) ?_
              rintro vs32 _ ⟨Bs32, rfl, hns32, hJs32⟩
              have hcBs32 := Cov.trans hcBs30 hns32
              refine ⟨(Ks.segN hcBs32 (Ks.consN hb53 (Ks.segK (fun k hk => by simp [hk]) Ks.nil))), ?_⟩
              refine xd_b hok 15 [(58, _)] ([]) rsN rfl rfl rfl (lc rfl ln) (by kernel_rfl) trivial (fun H' hy hK => o_as rfl) ?_
              refine xd_end hok (by kernel_rfl) ?_
              refine xq_blk 1 ?_
              refine xq_then (xw_region ?_)
              refine xq rfl trivial (o_mv rfl) ?_
              obtain ⟨ho34, h⟩ := h
              refine xq rfl trivial (o_add rfl rfl rfl ho34) ?_
              refine xq rfl trivial (o_as rfl) ?_
              refine xo_nil ?_
              exact xq_next (s' := ((((([] ++ (out3.take at5.toNat).drop 0) ++ [l0[i4.toNat]!]) ++ (out3.take out3.length).drop at5.toNat), i4 + 1) : (List Int) × Int)) (e' := [(0, v0), (3, vs32), (4, .int .i64 (i4 + 1))]) (Bs32 ++ ([])) (lc rfl (lc rfl (lc rfl ln))) (Kp.st (Kp.segKeep (Kp.new hb53 (Kp.segNew (Cov.fresh hcB3_1) Kp.nil)))) h ⟨vs32, Bs32, rfl, rfl, hJs32, hcBs32⟩
    · have hq1 : (decide (i4 < (l0.length : Int))) = false := hc1
      have hp1 : ¬ (i4 < (l0.length : Int)) := of_decide_eq_false hq1
      rw [if_neg hp1] at h
      refine xw_cond_f rfl rfl (xw_exit (xq_then_exit ?_))
      exact xq_out (r := (out3 : (List Int))) (e' := [(3, v3_1)]) (B3_1 ++ ([])) (lc rfl ln) (fun _ h => h) h (by intro hh; cases hh) ⟨v3_1, B3_1, rfl, rfl, rfl, hJ3_1, hcB3_1⟩
  · rintro _ _ _ ⟨v3_1o, B3_1o, rfl, rfl, rfl, hJ3_1o, hcB3_1o⟩
    replace h : risingR_k1a out3 r := h
    unfold risingR_k1a at h
    refine xq_blk_eq ?_
    refine xq_then (xw_seq (xw_region ?_))
    refine xq rfl trivial (o_mv rfl) ?_
    refine xq rfl trivial (o_as rfl) ?_
    refine xo_nil (xq_then (xw_ret ?_))
    subst h
    exact con_ret1 (.inl rfl) Try.results46 rfl (B3_1o ++ []) (fun _ h => h) (⟨_, B3_1o, rfl, rfl, hJ3_1o, hcB3_1o⟩)

theorem hasR_con (l0 : (List Int)) (n1 : Int) (v0 : Value) (w : World) (hs0 : SL w 1 ic v0 l0) (r : Bool) (h : hasR_S l0 n1 r) : Con Try.prog 35 #[v0, .int .i64 n1] w (Is (.bool r) []) := by
  unfold hasR_S at h
  refine con_enter (n := 18) [(0, _), (1, _)] Try.func35 rfl Try.ntmps35 rfl (lac rfl (lac rfl lan)) ?_
  refine xw_seq (xw_region ?_)
  refine xq rfl trivial (o_as rfl) ?_
  refine xo_nil (xq_then (xw_seq (xw_seq (xw_region ?_))))
  refine xq rfl trivial (o_as rfl) ?_
  refine xo_nil (xq_then ?_)
  refine xw_block ?_
  obtain ⟨x1, hx1, h⟩ := h
  refine xw_wh (fun (i5 : Int) e H => e = [(0, v0), (1, .int .i64 n1), (5, .int .i64 i5)] ∧ H = []) (fun x ex e H => match x with | .inl _ => ex = .exit 0 ∧ e = [] ∧ H = [] | .inr _ => ex = .ret ∧ e = [(4, .bool true)] ∧ H = []) hx1 ⟨[(0, v0), (1, .int .i64 n1), (5, .int .i64 0)], [], (lc rfl (lc rfl (lc rfl ln))), fun _ h => h, ⟨rfl, rfl⟩⟩ ?_ ?_
  · rintro i5 o _ _ ⟨rfl, rfl⟩ hb
    have h : hasR_l1 l0 n1 i5 o := hb
    clear hb
    unfold hasR_l1 at h
    refine xw_seq (xw_seq (xw_region ?_))
    refine xq rfl trivial (o_mv rfl) ?_
    refine xq rfl trivial (o_mv rfl) ?_
    refine xq rfl trivial (o_lenL rfl Try.underlying57 rfl (SL.val hs0)) ?_
    refine xq rfl trivial (o_lss rfl rfl) ?_
    refine xo_nil (xq_then ?_)
    refine xw_bool 9 rfl (fun hc1 => ?_) (fun hc1 => ?_)
    · have hq1 : (decide (i5 < (l0.length : Int))) = true := hc1
      have hp1 : i5 < (l0.length : Int) := of_decide_eq_true hq1
      rw [if_pos hp1] at h
      refine xw_cond_t rfl rfl (xw_skip (xq_then (xw_seq ?_)))
      refine xw_block ?_
      refine xw_seq (xw_region ?_)
      refine xq rfl trivial (o_mv rfl) ?_
      refine xq rfl trivial (o_mv rfl) ?_
      obtain ⟨ho2, h⟩ := h
      refine xq rfl trivial (o_ixL el57 rfl rfl (fun w hw => (hs0.keep hw Fr.nil)) rfl ho2) ?_
      refine xq rfl trivial (o_ldL1 (off := 0) (u := .int .i64 (l0[i5.toNat]!)) rfl ts3 rfl (fun w hw => (hs0.keep hw Fr.nil)) (toNat_lt ho2) rfl rfl) ?_
      refine xq rfl trivial (o_mv rfl) ?_
      refine xq rfl trivial (o_eql rfl rfl) ?_
      refine xo_nil (xq_then ?_)
      refine xw_bool 17 rfl (fun hc3 => ?_) (fun hc3 => ?_)
      · have hq3 : (decide (l0[i5.toNat]! = n1)) = true := hc3
        have hp3 : l0[i5.toNat]! = n1 := of_decide_eq_true hq3
        rw [if_pos hp3] at h
        refine xw_cond_t rfl rfl (xw_seq (xw_region ?_))
        refine xq rfl trivial (o_as rfl) ?_
        refine xo_nil (xq_then (xw_ret (xq_blk_ret (xq_then_ret ?_))))
        exact xq_out (r := (.inr () : (Unit) ⊕ (Unit))) (e' := [(4, .bool true)]) ([]) (lc rfl ln) (fun _ h => h) h (by intro hh; cases hh) ⟨rfl, rfl, rfl⟩
      · have hq3 : (decide (l0[i5.toNat]! = n1)) = false := hc3
        have hp3 : ¬ (l0[i5.toNat]! = n1) := of_decide_eq_false hq3
        rw [if_neg hp3] at h
        refine xw_cond_f rfl rfl (xw_skip ?_)
        refine xq_blk 1 ?_
        refine xq_then (xw_region ?_)
        refine xq rfl trivial (o_mv rfl) ?_
        obtain ⟨ho4, h⟩ := h
        refine xq rfl trivial (o_add rfl rfl rfl ho4) ?_
        refine xq rfl trivial (o_as rfl) ?_
        refine xo_nil ?_
        exact xq_next (s' := (i5 + 1 : Int)) (e' := [(0, v0), (1, .int .i64 n1), (5, .int .i64 (i5 + 1))]) ([]) (lc rfl (lc rfl (lc rfl ln))) (fun _ h => h) h ⟨rfl, rfl⟩
    · have hq1 : (decide (i5 < (l0.length : Int))) = false := hc1
      have hp1 : ¬ (i5 < (l0.length : Int)) := of_decide_eq_false hq1
      rw [if_neg hp1] at h
      refine xw_cond_f rfl rfl (xw_exit (xq_then_exit ?_))
      exact xq_out (r := (.inl () : (Unit) ⊕ (Unit))) (e' := []) ([]) ln (fun _ h => h) h (by intro hh; cases hh) ⟨rfl, rfl, rfl⟩
  · rcases x1 with _ | x1
    · rintro _ _ _ ⟨rfl, rfl, rfl⟩
      replace h : hasR_k1a r := h
      unfold hasR_k1a at h
      refine xq_blk_eq ?_
      refine xq_then (xw_seq (xw_region ?_))
      refine xq rfl trivial (o_as rfl) ?_
      refine xo_nil (xq_then (xw_ret ?_))
      subst h
      exact con_ret1 (.inl rfl) Try.results35 rfl [] (fun _ h => h) (⟨rfl, rfl⟩)
    cases x1
    rintro _ _ _ ⟨rfl, rfl, rfl⟩
    replace h : hasR_k1b r := h
    unfold hasR_k1b at h
    refine xq_blk_ret (xq_then_ret ?_)
    subst h
    exact con_ret1 (.inl rfl) Try.results35 rfl [] (fun _ h => h) (⟨rfl, rfl⟩)

end Go.Proofs.Ytjmfnohbeoiddaa
