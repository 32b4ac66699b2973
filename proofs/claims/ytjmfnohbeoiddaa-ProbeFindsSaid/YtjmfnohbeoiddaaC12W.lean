/- The code answers as the relations say. -/
import Derived.Test.YtjmfnohbeoiddaaTab
import Derived.Test.YtjmfnohbeoiddaaC12S
import Derived.Test.YtjmfnohbeoiddaaB12W
set_option maxHeartbeats 1000000
set_option linter.unusedVariables false
set_option linter.unusedSimpArgs false
set_option maxRecDepth 100000
namespace Go.Proofs.Ytjmfnohbeoiddaa
open Go Go.E

theorem same12_con (shard0 : Int) (m1 : (Nat → Int)) (seq2 : Int) (l3 : (List (Nat → Int))) (open4 : (List (Nat → Int))) (v3 : Value) (v4 : Value) (w : World) (hs3 : SL w 4 iv v3 l3) (hs4 : SL w 2 iv v4 open4) (r : Bool) (h : same12_S shard0 m1 seq2 l3 open4 r) : Con Try.prog 3 #[.int .u8 shard0, AI 28 m1, .int .i64 seq2, v3, v4] w (Is (.bool r) []) := by
  unfold same12_S at h
  refine con_enter (n := 149) [(0, _), (1, _), (2, _), (3, _), (4, _)] Try.func3 rfl Try.ntmps3 rfl (lac rfl (lac rfl (lac rfl (lac rfl (lac rfl lan))))) ?_
  refine xw_seq (xw_region ?_)
  refine xo rfl trivial (o_boxA rfl) ?_
  rintro _ _ ⟨b6, hb6, rfl, rfl⟩
  refine xq rfl trivial (o_as rfl) ?_
  refine xo_nil (xq_then (xw_seq (xw_seq (xw_region ?_))))
  obtain ⟨ho1, h⟩ := h
  refine xcallq rfl trivial kf8 rfl (fun w1 hw1 => alive12_c w1 ho1) ?_
  refine xq rfl trivial (o_not rfl) ?_
  refine xo_nil (xq_then ?_)
  refine xw_bool 23 rfl (fun hc2 => ?_) (fun hc2 => ?_)
  · have hq2 : (alive12_F) = false := (bnT hc2)
    have hp2 : ¬ ((alive12_F) = true) := bne' hq2
    rw [if_neg hp2] at h
    refine xw_cond_t rfl rfl (xw_seq (xw_region ?_))
    refine xq rfl trivial (o_as rfl) ?_
    refine xo_nil (xq_then (xw_ret (xq_then_ret ?_)))
    subst h
    exact con_ret1 (.inl rfl) Try.results3 rfl [] (Kp.st (Kp.new hb6 Kp.nil)) (⟨rfl, rfl⟩)
  · have hq2 : (alive12_F) = true := (bnF hc2)
    have hp2 : (alive12_F) = true := hq2
    rw [if_pos hp2] at h
    refine xw_cond_f rfl rfl (xw_skip (xq_then (xw_seq (xw_seq ?_))))
    refine xw_cut [(0, _), (2, _), (3, _), (4, _), (6, _)] (lc rfl (lc rfl (lc rfl (lc rfl (lc rfl ln))))) [(31, .bool ((decide (60 < (l3.length : Int))) || (decide (60 < (open4.length : Int)))))] ?_ ?_
    · refine xw_region ?_
      refine xq rfl trivial (o_mv rfl) ?_
      refine xq rfl trivial (o_lenL rfl Try.underlying30 rfl (SL.val hs3)) ?_
      refine xq rfl trivial (o_gtr rfl rfl) ?_
      refine xq rfl trivial (o_mv rfl) ?_
      refine xo_bool 27 rfl (fun hg3 => ?_) (fun hg3 => ?_)
      · have hq3 : (decide (60 < (l3.length : Int))) = true := hg3
        have hp3 : 60 < (l3.length : Int) := of_decide_eq_true hq3
        refine xs rfl ⟨_, _, rfl, rfl, rfl⟩ (xs rfl ⟨_, _, rfl, rfl, rfl⟩ (xs rfl ⟨_, _, rfl, rfl, rfl⟩ ?_))
        refine xq rfl trivial (o_pick_t rfl rfl) ?_
        refine xo_nil ?_
        exact xq_cut ((lce rfl (by first | rfl | (simp only [hq2, hq3, if_pos hp2, if_pos hp3, bS]; done) | (simp only [hq2, hq3, if_pos hp2, if_pos hp3, bS, reduceIte, Bool.false_eq_true]; done) | (simp [hp2, hp3]; done) | (simp_all; done)) (lc rfl (lc rfl (lc rfl (lc rfl (lc rfl ln))))))) (fun _ h => h)
      · have hq3 : (decide (60 < (l3.length : Int))) = false := hg3
        have hp3 : ¬ (60 < (l3.length : Int)) := of_decide_eq_false hq3
        refine xq rfl ⟨_, rfl, rfl⟩ (o_mv rfl) ?_
        refine xq rfl ⟨_, rfl, rfl⟩ (o_lenL rfl Try.underlying31 rfl (SL.val hs4)) ?_
        refine xq rfl ⟨_, rfl, rfl⟩ (o_gtr rfl rfl) ?_
        refine xq rfl trivial (o_pick_f rfl rfl) ?_
        refine xo_nil ?_
        exact xq_cut ((lce rfl (by first | rfl | (simp only [hq2, hq3, if_pos hp2, if_neg hp3, bS]; done) | (simp only [hq2, hq3, if_pos hp2, if_neg hp3, bS, reduceIte, Bool.false_eq_true]; done) | (simp [hp2, hp3]; done) | (simp_all; done)) (lc rfl (lc rfl (lc rfl (lc rfl (lc rfl ln))))))) (fun _ h => h)
    · refine xq_then ?_
      refine xw_bool 31 rfl (fun hc4 => ?_) (fun hc4 => ?_)
      · have hq4 : ((decide (60 < (l3.length : Int))) || (decide (60 < (open4.length : Int)))) = true := hc4
        have hp4 : ((decide (60 < (l3.length : Int))) || (decide (60 < (open4.length : Int)))) = true := hq4
        rw [if_pos hp4] at h
        refine xw_cond_t rfl rfl (xw_seq (xw_region ?_))
        refine xq rfl trivial (o_as rfl) ?_
        refine xo_nil (xq_then (xw_ret (xq_then_ret ?_)))
        subst h
        exact con_ret1 (.inl rfl) Try.results3 rfl [] (Kp.st (Kp.new hb6 Kp.nil)) (⟨rfl, rfl⟩)
      · have hq4 : ((decide (60 < (l3.length : Int))) || (decide (60 < (open4.length : Int)))) = false := hc4
        have hp4 : ¬ (((decide (60 < (l3.length : Int))) || (decide (60 < (open4.length : Int)))) = true) := bne' hq4
        rw [if_neg hp4] at h
        refine xw_cond_f rfl rfl (xw_skip (xq_then (xw_seq (xw_region ?_))))
        refine xq rfl trivial (o_mv rfl) ?_
        refine xq rfl trivial (o_conv rfl Try.underlying5 Try.underlying3) ?_
        refine xq rfl trivial (o_rem rfl rfl (by decide) rfl) ?_
        obtain ⟨ho5, h⟩ := h
        refine xq rfl trivial (o_add rfl rfl rfl ho5) ?_
        refine xq rfl trivial (o_ldW rfl ts29 (List.Mem.head _)) ?_
        refine xcallq rfl trivial kf9 rfl (fun w1 hw1 => onward_c _ _ w1) ?_
        refine xq rfl trivial (o_mv rfl) ?_
        refine xq rfl trivial (o_ext rfl rfl) ?_
        refine xq rfl trivial (o_ext rfl rfl) ?_
        refine xo rfl trivial (o_alloc ze29 rfl) ?_
        rintro _ _ ⟨b11, hb11, rfl, rfl⟩
        refine xq0 trivial (o_stWI rfl rfl ts29 (List.Mem.head _) (.here _ _ _ _)) ?_
        refine xq rfl trivial (o_as rfl) ?_
        refine xo_nil (xq_then (xw_seq (xw_seq (xw_region ?_))))
        refine xq rfl trivial (o_mv rfl) ?_
        refine xq rfl trivial (o_neE Try.underlying34 rfl (fun _ => rfl) rfl rfl) ?_
        refine xo_nil (xq_then ?_)
        refine xw_bool 42 rfl (fun hc6 => ?_) (fun hc6 => ?_)
        · have hq6 : (decide ((onward_F (1 + ((IntKind.i64.wrap shard0).tmod 64)) m1).2 = 0)) = false := (bnT hc6)
          have hp6 : ¬ ((onward_F (1 + ((IntKind.i64.wrap shard0).tmod 64)) m1).2 = 0) := of_decide_eq_false hq6
          rw [if_neg hp6] at h
          refine xw_cond_t rfl rfl (xw_seq (xw_region ?_))
          refine xq rfl trivial (o_ldW rfl ts29 (List.Mem.head _)) ?_
          refine xq rfl trivial (o_build fk29 ze29 (.nil _)) ?_
          refine xq rfl trivial (o_eqlA eq29 rfl rfl) ?_
          refine xq rfl trivial (o_as rfl) ?_
          refine xo_nil (xq_then (xw_ret (xq_then_ret ?_)))
          subst h
          exact con_ret1 (.inl rfl) Try.results3 rfl [] (Kp.st (Kp.new hb11 (Kp.new hb6 Kp.nil))) (⟨rfl, rfl⟩)
        · have hq6 : (decide ((onward_F (1 + ((IntKind.i64.wrap shard0).tmod 64)) m1).2 = 0)) = true := (bnF hc6)
          have hp6 : (onward_F (1 + ((IntKind.i64.wrap shard0).tmod 64)) m1).2 = 0 := of_decide_eq_true hq6
          rw [if_pos hp6] at h
          refine xw_cond_f rfl rfl (xw_skip (xq_then (xw_seq (xw_region ?_))))
          refine xq rfl trivial (o_ldW rfl ts29 (List.Mem.tail _ (List.Mem.head _))) ?_
          refine xcallq rfl trivial kf10 rfl (fun w1 hw1 => victim_c _ w1) ?_
          refine xq rfl trivial (o_mv rfl) ?_
          refine xq rfl trivial (o_ext rfl rfl) ?_
          refine xq rfl trivial (o_ext rfl rfl) ?_
          refine xq rfl trivial (o_as rfl) ?_
          refine xq rfl trivial (o_as rfl) ?_
          refine xo_nil (xq_then (xw_seq (xw_region ?_)))
          refine xq rfl trivial (o_ldW rfl ts29 (List.Mem.head _)) ?_
          refine xcallq rfl trivial kf10 rfl (fun w1 hw1 => victim_c _ w1) ?_
          refine xq rfl trivial (o_mv rfl) ?_
          refine xq rfl trivial (o_ext rfl rfl) ?_
          refine xq rfl trivial (o_ext rfl rfl) ?_
          refine xq rfl trivial (o_as rfl) ?_
          refine xq rfl trivial (o_as rfl) ?_
          refine xo_nil (xq_then (xw_seq (xw_seq ?_)))
          obtain ⟨ho7, ho8, h⟩ := h
          refine xw_cut [(0, _), (2, _), (3, _), (6, _)] (lc rfl (lc rfl (lc rfl (lc rfl ln)))) [(82, .bool (((((!(decide ((victim_F m1).2 = 0))) || (!(decide ((victim_F ((onward_F (1 + ((IntKind.i64.wrap shard0).tmod 64)) m1).1)).2 = 0)))) || (!(decide ((victim_F m1).1 = (victim_F ((onward_F (1 + ((IntKind.i64.wrap shard0).tmod 64)) m1).1)).1)))) || (!((((back_F m1)) == ((back_F ((onward_F (1 + ((IntKind.i64.wrap shard0).tmod 64)) m1).1))))))) || (!((((live_F m1 open4)) == ((live_F ((onward_F (1 + ((IntKind.i64.wrap shard0).tmod 64)) m1).1) open4)))))))] ?_ ?_
          · refine xd_start (by kernel_rfl) (by kernel_rfl) (fun hok => ?_)
            refine xd_b hok 0 [(14, _)] ([]) rsN rfl rfl rfl (lc rfl ln) (by kernel_rfl) trivial (fun H' hy hK => o_mv rfl) ?_
            refine xd_b hok 1 [(56, _)] ([]) rsN rfl rfl rfl (lc rfl ln) (by kernel_rfl) trivial (fun H' hy hK => o_neE Try.underlying34 rfl (fun _ => rfl) rfl rfl) ?_
            refine xd_b hok 2 [(57, _)] ([]) rsN rfl rfl rfl (lc rfl ln) (by kernel_rfl) trivial (fun H' hy hK => o_mv rfl) ?_
            refine xd_bool 58 rfl (fun hg9 => ?_) (fun hg9 => ?_)
            · have hq9 : (decide ((victim_F m1).2 = 0)) = false := (bnT hg9)
              have hp9 : ¬ ((victim_F m1).2 = 0) := of_decide_eq_false hq9
              refine xd_skip hok 3 [(16, _), (58, _)] rfl rfl rfl (lc rfl (lc rfl ln)) (by kernel_rfl) ⟨_, _, rfl, rfl, rfl⟩ ?_
              refine xd_skip hok 4 [(59, _), (58, _)] rfl rfl rfl (lc rfl (lc rfl ln)) (by kernel_rfl) ⟨_, _, rfl, rfl, rfl⟩ ?_
              refine xd_b hok 5 [(58, _), (60, _)] ([]) rsN rfl rfl rfl (lc rfl (lc rfl ln)) (by kernel_rfl) trivial (fun H' hy hK => o_pick_t rfl rfl) ?_
              refine xd_b hok 6 [(61, _)] ([]) rsN rfl rfl rfl (lc rfl ln) (by kernel_rfl) trivial (fun H' hy hK => o_mv rfl) ?_
              refine xd_skip hok 7 [(13, _), (62, _)] rfl rfl rfl (lc rfl (lc rfl ln)) (by kernel_rfl) ⟨_, _, rfl, rfl, rfl⟩ ?_
              refine xd_skip hok 8 [(15, _), (62, _)] rfl rfl rfl (lc rfl (lc rfl ln)) (by kernel_rfl) ⟨_, _, rfl, rfl, rfl⟩ ?_
              refine xd_skip hok 9 [(63, _), (64, _), (62, _)] rfl rfl rfl (lc rfl (lc rfl (lc rfl ln))) (by kernel_rfl) ⟨_, _, rfl, rfl, rfl⟩ ?_
              refine xd_b hok 10 [(62, _), (65, _)] ([]) rsN rfl rfl rfl (lc rfl (lc rfl ln)) (by kernel_rfl) trivial (fun H' hy hK => o_pick_t rfl rfl) ?_
              refine xd_b hok 11 [(66, _)] ([]) rsN rfl rfl rfl (lc rfl ln) (by kernel_rfl) trivial (fun H' hy hK => o_mv rfl) ?_
              refine xd_skip hok 12 [(6, _), (67, _)] rfl rfl rfl (lc rfl (lc rfl ln)) (by kernel_rfl) ⟨_, _, rfl, rfl, rfl⟩ ?_
              refine xd_skip hok 13 [(68, _), (67, _)] rfl rfl rfl (lc rfl (lc rfl ln)) (by kernel_rfl) ⟨_, _, rfl, rfl, rfl⟩ ?_
              refine xd_skip hok 14 [(11, _), (67, _)] rfl rfl rfl (lc rfl (lc rfl ln)) (by kernel_rfl) ⟨_, _, rfl, rfl, rfl⟩ ?_
              refine xd_skip hok 15 [(70, _), (67, _)] rfl rfl rfl (lc rfl (lc rfl ln)) (by kernel_rfl) ⟨_, _, rfl, rfl, rfl⟩ ?_
              refine xd_skip hok 16 [(69, _), (71, _), (67, _)] rfl rfl rfl (lc rfl (lc rfl (lc rfl ln))) (by kernel_rfl) ⟨_, _, rfl, rfl, rfl⟩ ?_
              refine xd_b hok 17 [(67, _), (72, _)] ([]) rsN rfl rfl rfl (lc rfl (lc rfl ln)) (by kernel_rfl) trivial (fun H' hy hK => o_pick_t rfl rfl) ?_
              refine xd_b hok 18 [(73, _)] ([]) rsN rfl rfl rfl (lc rfl ln) (by kernel_rfl) trivial (fun H' hy hK => o_mv rfl) ?_
              refine xd_skip hok 19 [(6, _), (74, _)] rfl rfl rfl (lc rfl (lc rfl ln)) (by kernel_rfl) ⟨_, _, rfl, rfl, rfl⟩ ?_
              refine xd_skip hok 20 [(4, _), (74, _)] rfl rfl rfl (lc rfl (lc rfl ln)) (by kernel_rfl) ⟨_, _, rfl, rfl, rfl⟩ ?_
              refine xd_skip hok 21 [(75, _), (76, _), (74, _)] rfl rfl rfl (lc rfl (lc rfl (lc rfl ln))) (by kernel_rfl) ⟨_, _, rfl, rfl, rfl⟩ ?_
              refine xd_skip hok 22 [(11, _), (74, _)] rfl rfl rfl (lc rfl (lc rfl ln)) (by kernel_rfl) ⟨_, _, rfl, rfl, rfl⟩ ?_
              refine xd_skip hok 23 [(4, _), (74, _)] rfl rfl rfl (lc rfl (lc rfl ln)) (by kernel_rfl) ⟨_, _, rfl, rfl, rfl⟩ ?_
              refine xd_skip hok 24 [(78, _), (79, _), (74, _)] rfl rfl rfl (lc rfl (lc rfl (lc rfl ln))) (by kernel_rfl) ⟨_, _, rfl, rfl, rfl⟩ ?_
              refine xd_skip hok 25 [(77, _), (80, _), (74, _)] rfl rfl rfl (lc rfl (lc rfl (lc rfl ln))) (by kernel_rfl) ⟨_, _, rfl, rfl, rfl⟩ ?_
              refine xd_b hok 26 [(74, _), (81, _)] ([]) rsN rfl rfl rfl (lc rfl (lc rfl ln)) (by kernel_rfl) trivial (fun H' hy hK => o_pick_t rfl rfl) ?_
              refine xd_end hok (by kernel_rfl) ?_
              exact xq_cut ((lce rfl (by first | rfl | (simp only [hq2, hq4, hq6, hq9, if_pos hp2, if_neg hp4, if_pos hp6, if_neg hp9, bS]; done) | (simp only [hq2, hq4, hq6, hq9, if_pos hp2, if_neg hp4, if_pos hp6, if_neg hp9, bS, reduceIte, Bool.false_eq_true]; done) | (simp [hp2, hp4, hp6, hp9]; done) | (simp_all; done)) (lc rfl (lc rfl (lc rfl (lc rfl ln)))))) (fun _ h => h)
            · have hq9 : (decide ((victim_F m1).2 = 0)) = true := (bnF hg9)
              have hp9 : (victim_F m1).2 = 0 := of_decide_eq_true hq9
              refine xd_b hok 3 [(16, _), (58, _)] ([]) rsN rfl rfl rfl (lc rfl (lc rfl ln)) (by kernel_rfl) ⟨_, rfl, rfl⟩ (fun H' hy hK => o_mv rfl) ?_
              refine xd_b hok 4 [(59, _), (58, _)] ([]) rsN rfl rfl rfl (lc rfl (lc rfl ln)) (by kernel_rfl) ⟨_, rfl, rfl⟩ (fun H' hy hK => o_neE Try.underlying34 rfl (fun _ => rfl) rfl rfl) ?_
              refine xd_b hok 5 [(58, _), (60, _)] ([]) rsN rfl rfl rfl (lc rfl (lc rfl ln)) (by kernel_rfl) trivial (fun H' hy hK => o_pick_f rfl rfl) ?_
              refine xd_b hok 6 [(61, _)] ([]) rsN rfl rfl rfl (lc rfl ln) (by kernel_rfl) trivial (fun H' hy hK => o_mv rfl) ?_
              refine xd_bool 62 rfl (fun hg10 => ?_) (fun hg10 => ?_)
              · have hq10 : (decide ((victim_F ((onward_F (1 + ((IntKind.i64.wrap shard0).tmod 64)) m1).1)).2 = 0)) = false := (bnT hg10)
                have hp10 : ¬ ((victim_F ((onward_F (1 + ((IntKind.i64.wrap shard0).tmod 64)) m1).1)).2 = 0) := of_decide_eq_false hq10
                refine xd_skip hok 7 [(13, _), (62, _)] rfl rfl rfl (lc rfl (lc rfl ln)) (by kernel_rfl) ⟨_, _, rfl, rfl, rfl⟩ ?_
                refine xd_skip hok 8 [(15, _), (62, _)] rfl rfl rfl (lc rfl (lc rfl ln)) (by kernel_rfl) ⟨_, _, rfl, rfl, rfl⟩ ?_
                refine xd_skip hok 9 [(63, _), (64, _), (62, _)] rfl rfl rfl (lc rfl (lc rfl (lc rfl ln))) (by kernel_rfl) ⟨_, _, rfl, rfl, rfl⟩ ?_
                refine xd_b hok 10 [(62, _), (65, _)] ([]) rsN rfl rfl rfl (lc rfl (lc rfl ln)) (by kernel_rfl) trivial (fun H' hy hK => o_pick_t rfl rfl) ?_
                refine xd_b hok 11 [(66, _)] ([]) rsN rfl rfl rfl (lc rfl ln) (by kernel_rfl) trivial (fun H' hy hK => o_mv rfl) ?_
                refine xd_skip hok 12 [(6, _), (67, _)] rfl rfl rfl (lc rfl (lc rfl ln)) (by kernel_rfl) ⟨_, _, rfl, rfl, rfl⟩ ?_
                refine xd_skip hok 13 [(68, _), (67, _)] rfl rfl rfl (lc rfl (lc rfl ln)) (by kernel_rfl) ⟨_, _, rfl, rfl, rfl⟩ ?_
                refine xd_skip hok 14 [(11, _), (67, _)] rfl rfl rfl (lc rfl (lc rfl ln)) (by kernel_rfl) ⟨_, _, rfl, rfl, rfl⟩ ?_
                refine xd_skip hok 15 [(70, _), (67, _)] rfl rfl rfl (lc rfl (lc rfl ln)) (by kernel_rfl) ⟨_, _, rfl, rfl, rfl⟩ ?_
                refine xd_skip hok 16 [(69, _), (71, _), (67, _)] rfl rfl rfl (lc rfl (lc rfl (lc rfl ln))) (by kernel_rfl) ⟨_, _, rfl, rfl, rfl⟩ ?_
                refine xd_b hok 17 [(67, _), (72, _)] ([]) rsN rfl rfl rfl (lc rfl (lc rfl ln)) (by kernel_rfl) trivial (fun H' hy hK => o_pick_t rfl rfl) ?_
                refine xd_b hok 18 [(73, _)] ([]) rsN rfl rfl rfl (lc rfl ln) (by kernel_rfl) trivial (fun H' hy hK => o_mv rfl) ?_
                refine xd_skip hok 19 [(6, _), (74, _)] rfl rfl rfl (lc rfl (lc rfl ln)) (by kernel_rfl) ⟨_, _, rfl, rfl, rfl⟩ ?_
                refine xd_skip hok 20 [(4, _), (74, _)] rfl rfl rfl (lc rfl (lc rfl ln)) (by kernel_rfl) ⟨_, _, rfl, rfl, rfl⟩ ?_
                refine xd_skip hok 21 [(75, _), (76, _), (74, _)] rfl rfl rfl (lc rfl (lc rfl (lc rfl ln))) (by kernel_rfl) ⟨_, _, rfl, rfl, rfl⟩ ?_
                refine xd_skip hok 22 [(11, _), (74, _)] rfl rfl rfl (lc rfl (lc rfl ln)) (by kernel_rfl) ⟨_, _, rfl, rfl, rfl⟩ ?_
                refine xd_skip hok 23 [(4, _), (74, _)] rfl rfl rfl (lc rfl (lc rfl ln)) (by kernel_rfl) ⟨_, _, rfl, rfl, rfl⟩ ?_
                refine xd_skip hok 24 [(78, _), (79, _), (74, _)] rfl rfl rfl (lc rfl (lc rfl (lc rfl ln))) (by kernel_rfl) ⟨_, _, rfl, rfl, rfl⟩ ?_
                refine xd_skip hok 25 [(77, _), (80, _), (74, _)] rfl rfl rfl (lc rfl (lc rfl (lc rfl ln))) (by kernel_rfl) ⟨_, _, rfl, rfl, rfl⟩ ?_
                refine xd_b hok 26 [(74, _), (81, _)] ([]) rsN rfl rfl rfl (lc rfl (lc rfl ln)) (by kernel_rfl) trivial (fun H' hy hK => o_pick_t rfl rfl) ?_
                refine xd_end hok (by kernel_rfl) ?_
                exact xq_cut ((lce rfl (by first | rfl | (simp only [hq2, hq4, hq6, hq9, hq10, if_pos hp2, if_neg hp4, if_pos hp6, if_pos hp9, if_neg hp10, bS]; done) | (simp only [hq2, hq4, hq6, hq9, hq10, if_pos hp2, if_neg hp4, if_pos hp6, if_pos hp9, if_neg hp10, bS, reduceIte, Bool.false_eq_true]; done) | (simp [hp2, hp4, hp6, hp9, hp10]; done) | (simp_all; done)) (lc rfl (lc rfl (lc rfl (lc rfl ln)))))) (fun _ h => h)
              · have hq10 : (decide ((victim_F ((onward_F (1 + ((IntKind.i64.wrap shard0).tmod 64)) m1).1)).2 = 0)) = true := (bnF hg10)
                have hp10 : (victim_F ((onward_F (1 + ((IntKind.i64.wrap shard0).tmod 64)) m1).1)).2 = 0 := of_decide_eq_true hq10
                refine xd_b hok 7 [(13, _), (62, _)] ([]) rsN rfl rfl rfl (lc rfl (lc rfl ln)) (by kernel_rfl) ⟨_, rfl, rfl⟩ (fun H' hy hK => o_mv rfl) ?_
                refine xd_b hok 8 [(15, _), (62, _)] ([]) rsN rfl rfl rfl (lc rfl (lc rfl ln)) (by kernel_rfl) ⟨_, rfl, rfl⟩ (fun H' hy hK => o_mv rfl) ?_
                refine xd_b hok 9 [(63, _), (64, _), (62, _)] ([]) rsN rfl rfl rfl (lc rfl (lc rfl (lc rfl ln))) (by kernel_rfl) ⟨_, rfl, rfl⟩ (fun H' hy hK => o_neq rfl rfl) ?_
                refine xd_b hok 10 [(62, _), (65, _)] ([]) rsN rfl rfl rfl (lc rfl (lc rfl ln)) (by kernel_rfl) trivial (fun H' hy hK => o_pick_f rfl rfl) ?_
                refine xd_b hok 11 [(66, _)] ([]) rsN rfl rfl rfl (lc rfl ln) (by kernel_rfl) trivial (fun H' hy hK => o_mv rfl) ?_
                refine xd_bool 67 rfl (fun hg11 => ?_) (fun hg11 => ?_)
                · have hq11 : (decide ((victim_F m1).1 = (victim_F ((onward_F (1 + ((IntKind.i64.wrap shard0).tmod 64)) m1).1)).1)) = false := (bnT hg11)
                  have hp11 : ¬ ((victim_F m1).1 = (victim_F ((onward_F (1 + ((IntKind.i64.wrap shard0).tmod 64)) m1).1)).1) := of_decide_eq_false hq11
                  refine xd_skip hok 12 [(6, _), (67, _)] rfl rfl rfl (lc rfl (lc rfl ln)) (by kernel_rfl) ⟨_, _, rfl, rfl, rfl⟩ ?_
                  refine xd_skip hok 13 [(68, _), (67, _)] rfl rfl rfl (lc rfl (lc rfl ln)) (by kernel_rfl) ⟨_, _, rfl, rfl, rfl⟩ ?_
                  refine xd_skip hok 14 [(11, _), (67, _)] rfl rfl rfl (lc rfl (lc rfl ln)) (by kernel_rfl) ⟨_, _, rfl, rfl, rfl⟩ ?_
                  refine xd_skip hok 15 [(70, _), (67, _)] rfl rfl rfl (lc rfl (lc rfl ln)) (by kernel_rfl) ⟨_, _, rfl, rfl, rfl⟩ ?_
                  refine xd_skip hok 16 [(69, _), (71, _), (67, _)] rfl rfl rfl (lc rfl (lc rfl (lc rfl ln))) (by kernel_rfl) ⟨_, _, rfl, rfl, rfl⟩ ?_
                  refine xd_b hok 17 [(67, _), (72, _)] ([]) rsN rfl rfl rfl (lc rfl (lc rfl ln)) (by kernel_rfl) trivial (fun H' hy hK => o_pick_t rfl rfl) ?_
                  refine xd_b hok 18 [(73, _)] ([]) rsN rfl rfl rfl (lc rfl ln) (by kernel_rfl) trivial (fun H' hy hK => o_mv rfl) ?_
                  refine xd_skip hok 19 [(6, _), (74, _)] rfl rfl rfl (lc rfl (lc rfl ln)) (by kernel_rfl) ⟨_, _, rfl, rfl, rfl⟩ ?_
                  refine xd_skip hok 20 [(4, _), (74, _)] rfl rfl rfl (lc rfl (lc rfl ln)) (by kernel_rfl) ⟨_, _, rfl, rfl, rfl⟩ ?_
                  refine xd_skip hok 21 [(75, _), (76, _), (74, _)] rfl rfl rfl (lc rfl (lc rfl (lc rfl ln))) (by kernel_rfl) ⟨_, _, rfl, rfl, rfl⟩ ?_
                  refine xd_skip hok 22 [(11, _), (74, _)] rfl rfl rfl (lc rfl (lc rfl ln)) (by kernel_rfl) ⟨_, _, rfl, rfl, rfl⟩ ?_
                  refine xd_skip hok 23 [(4, _), (74, _)] rfl rfl rfl (lc rfl (lc rfl ln)) (by kernel_rfl) ⟨_, _, rfl, rfl, rfl⟩ ?_
                  refine xd_skip hok 24 [(78, _), (79, _), (74, _)] rfl rfl rfl (lc rfl (lc rfl (lc rfl ln))) (by kernel_rfl) ⟨_, _, rfl, rfl, rfl⟩ ?_
                  refine xd_skip hok 25 [(77, _), (80, _), (74, _)] rfl rfl rfl (lc rfl (lc rfl (lc rfl ln))) (by kernel_rfl) ⟨_, _, rfl, rfl, rfl⟩ ?_
                  refine xd_b hok 26 [(74, _), (81, _)] ([]) rsN rfl rfl rfl (lc rfl (lc rfl ln)) (by kernel_rfl) trivial (fun H' hy hK => o_pick_t rfl rfl) ?_
                  refine xd_end hok (by kernel_rfl) ?_
                  exact xq_cut ((lce rfl (by first | rfl | (simp only [hq2, hq4, hq6, hq9, hq10, hq11, if_pos hp2, if_neg hp4, if_pos hp6, if_pos hp9, if_pos hp10, if_neg hp11, bS]; done) | (simp only [hq2, hq4, hq6, hq9, hq10, hq11, if_pos hp2, if_neg hp4, if_pos hp6, if_pos hp9, if_pos hp10, if_neg hp11, bS, reduceIte, Bool.false_eq_true]; done) | (simp [hp2, hp4, hp6, hp9, hp10, hp11]; done) | (simp_all; done)) (lc rfl (lc rfl (lc rfl (lc rfl ln)))))) (fun _ h => h)
                · have hq11 : (decide ((victim_F m1).1 = (victim_F ((onward_F (1 + ((IntKind.i64.wrap shard0).tmod 64)) m1).1)).1)) = true := (bnF hg11)
                  have hp11 : (victim_F m1).1 = (victim_F ((onward_F (1 + ((IntKind.i64.wrap shard0).tmod 64)) m1).1)).1 := of_decide_eq_true hq11
                  refine xd_b hok 12 [(6, _), (67, _)] ((b6, BK 28 (iv m1) 29) :: ([])) (rsC (List.Mem.tail _ (List.Mem.head _)) rsN) rfl rfl rfl (lc rfl (lc rfl ln)) (by kernel_rfl) ⟨_, rfl, rfl⟩ (fun H' hy hK => o_ldW rfl ts29 (hy _ (List.Mem.head _))) ?_
                  refine xd_b hok 13 [(68, _), (67, _)] ([]) rsN rfl rfl rfl (lc rfl (lc rfl ln)) (by kernel_rfl) ⟨_, rfl, rfl⟩ (fun H' hy hK => o_callq kf11 rfl (fun w1 hw1 => back_c _ w1)) ?_
                  refine xd_b hok 14 [(11, _), (67, _)] ((b11, BK 28 (iv ((onward_F (1 + ((IntKind.i64.wrap shard0).tmod 64)) m1).1)) 29) :: ([])) (rsC (List.Mem.head _) rsN) rfl rfl rfl (lc rfl (lc rfl ln)) (by kernel_rfl) ⟨_, rfl, rfl⟩ (fun H' hy hK => o_ldW rfl ts29 (hy _ (List.Mem.head _))) ?_
                  refine xd_b hok 15 [(70, _), (67, _)] ([]) rsN rfl rfl rfl (lc rfl (lc rfl ln)) (by kernel_rfl) ⟨_, rfl, rfl⟩ (fun H' hy hK => o_callq kf11 rfl (fun w1 hw1 => back_c _ w1)) ?_
                  refine xd_b hok 16 [(69, _), (71, _), (67, _)] ([]) rsN rfl rfl rfl (lc rfl (lc rfl (lc rfl ln))) (by kernel_rfl) ⟨_, rfl, rfl⟩ (fun H' hy hK => o_neqB Try.underlying4 rfl rfl) ?_
                  refine xd_b hok 17 [(67, _), (72, _)] ([]) rsN rfl rfl rfl (lc rfl (lc rfl ln)) (by kernel_rfl) trivial (fun H' hy hK => o_pick_f rfl rfl) ?_
                  refine xd_b hok 18 [(73, _)] ([]) rsN rfl rfl rfl (lc rfl ln) (by kernel_rfl) trivial (fun H' hy hK => o_mv rfl) ?_
                  refine xd_bool 74 rfl (fun hg12 => ?_) (fun hg12 => ?_)
                  · have hq12 : ((((back_F m1)) == ((back_F ((onward_F (1 + ((IntKind.i64.wrap shard0).tmod 64)) m1).1))))) = false := (bnT hg12)
                    have hp12 : ¬ (((((back_F m1)) == ((back_F ((onward_F (1 + ((IntKind.i64.wrap shard0).tmod 64)) m1).1))))) = true) := bne' hq12
                    refine xd_skip hok 19 [(6, _), (74, _)] rfl rfl rfl (lc rfl (lc rfl ln)) (by kernel_rfl) ⟨_, _, rfl, rfl, rfl⟩ ?_
                    refine xd_skip hok 20 [(4, _), (74, _)] rfl rfl rfl (lc rfl (lc rfl ln)) (by kernel_rfl) ⟨_, _, rfl, rfl, rfl⟩ ?_
                    refine xd_skip hok 21 [(75, _), (76, _), (74, _)] rfl rfl rfl (lc rfl (lc rfl (lc rfl ln))) (by kernel_rfl) ⟨_, _, rfl, rfl, rfl⟩ ?_
                    refine xd_skip hok 22 [(11, _), (74, _)] rfl rfl rfl (lc rfl (lc rfl ln)) (by kernel_rfl) ⟨_, _, rfl, rfl, rfl⟩ ?_
                    refine xd_skip hok 23 [(4, _), (74, _)] rfl rfl rfl (lc rfl (lc rfl ln)) (by kernel_rfl) ⟨_, _, rfl, rfl, rfl⟩ ?_
                    refine xd_skip hok 24 [(78, _), (79, _), (74, _)] rfl rfl rfl (lc rfl (lc rfl (lc rfl ln))) (by kernel_rfl) ⟨_, _, rfl, rfl, rfl⟩ ?_
                    refine xd_skip hok 25 [(77, _), (80, _), (74, _)] rfl rfl rfl (lc rfl (lc rfl (lc rfl ln))) (by kernel_rfl) ⟨_, _, rfl, rfl, rfl⟩ ?_
                    refine xd_b hok 26 [(74, _), (81, _)] ([]) rsN rfl rfl rfl (lc rfl (lc rfl ln)) (by kernel_rfl) trivial (fun H' hy hK => o_pick_t rfl rfl) ?_
                    refine xd_end hok (by kernel_rfl) ?_
                    exact xq_cut ((lce rfl (by first | rfl | (simp only [hq2, hq4, hq6, hq9, hq10, hq11, hq12, if_pos hp2, if_neg hp4, if_pos hp6, if_pos hp9, if_pos hp10, if_pos hp11, if_neg hp12, bS]; done) | (simp only [hq2, hq4, hq6, hq9, hq10, hq11, hq12, if_pos hp2, if_neg hp4, if_pos hp6, if_pos hp9, if_pos hp10, if_pos hp11, if_neg hp12, bS, reduceIte, Bool.false_eq_true]; done) | (simp [hp2, hp4, hp6, hp9, hp10, hp11, hp12]; done) | (simp_all; done)) (lc rfl (lc rfl (lc rfl (lc rfl ln)))))) (fun _ h => h)
                  · have hq12 : ((((back_F m1)) == ((back_F ((onward_F (1 + ((IntKind.i64.wrap shard0).tmod 64)) m1).1))))) = true := (bnF hg12)
                    have hp12 : ((((back_F m1)) == ((back_F ((onward_F (1 + ((IntKind.i64.wrap shard0).tmod 64)) m1).1))))) = true := hq12
                    refine xd_b hok 19 [(6, _), (74, _)] ((b6, BK 28 (iv m1) 29) :: ([])) (rsC (List.Mem.tail _ (List.Mem.head _)) rsN) rfl rfl rfl (lc rfl (lc rfl ln)) (by kernel_rfl) ⟨_, rfl, rfl⟩ (fun H' hy hK => o_ldW rfl ts29 (hy _ (List.Mem.head _))) ?_
                    refine xd_b hok 20 [(4, _), (74, _)] ([]) rsN rfl rfl rfl (lc rfl (lc rfl ln)) (by kernel_rfl) ⟨_, rfl, rfl⟩ (fun H' hy hK => o_mv rfl) ?_
                    refine xd_b hok 21 [(75, _), (76, _), (74, _)] ([]) rsN rfl rfl rfl (lc rfl (lc rfl (lc rfl ln))) (by kernel_rfl) ⟨_, rfl, rfl⟩ (fun H' hy hK => o_callq kf12 rfl (fun w1 hw1 => live_c _ _ _ w1 (hs4.keep hw1 (fun k hk => (hK k hk).elim (fun h => (Fr.cons hb11 (Fr.cons hb6 Fr.nil)) k h) id)) (ho7 (by first | exact hg12 | (simp only [hq2, hq4, hq6, hq9, hq10, hq11, hq12, if_pos hp2, if_neg hp4, if_pos hp6, if_pos hp9, if_pos hp10, if_pos hp11, if_pos hp12, bS]; done) | (simp only [hq2, hq4, hq6, hq9, hq10, hq11, hq12, if_pos hp2, if_neg hp4, if_pos hp6, if_pos hp9, if_pos hp10, if_pos hp11, if_pos hp12, bS, reduceIte, Bool.false_eq_true]; done) | (simp [hp2, hp4, hp6, hp9, hp10, hp11, hp12]; done) | (simp_all; done))))) ?_
                    refine xd_b hok 22 [(11, _), (74, _)] ((b11, BK 28 (iv ((onward_F (1 + ((IntKind.i64.wrap shard0).tmod 64)) m1).1)) 29) :: ([])) (rsC (List.Mem.head _) rsN) rfl rfl rfl (lc rfl (lc rfl ln)) (by kernel_rfl) ⟨_, rfl, rfl⟩ (fun H' hy hK => o_ldW rfl ts29 (hy _ (List.Mem.head _))) ?_
                    refine xd_b hok 23 [(4, _), (74, _)] ([]) rsN rfl rfl rfl (lc rfl (lc rfl ln)) (by kernel_rfl) ⟨_, rfl, rfl⟩ (fun H' hy hK => o_mv rfl) ?_
                    refine xd_b hok 24 [(78, _), (79, _), (74, _)] ([]) rsN rfl rfl rfl (lc rfl (lc rfl (lc rfl ln))) (by kernel_rfl) ⟨_, rfl, rfl⟩ (fun H' hy hK => o_callq kf12 rfl (fun w1 hw1 => live_c _ _ _ w1 (hs4.keep hw1 (fun k hk => (hK k hk).elim (fun h => (Fr.cons hb11 (Fr.cons hb6 Fr.nil)) k h) id)) (ho8 (by first | exact hg12 | (simp only [hq2, hq4, hq6, hq9, hq10, hq11, hq12, if_pos hp2, if_neg hp4, if_pos hp6, if_pos hp9, if_pos hp10, if_pos hp11, if_pos hp12, bS]; done) | (simp only [hq2, hq4, hq6, hq9, hq10, hq11, hq12, if_pos hp2, if_neg hp4, if_pos hp6, if_pos hp9, if_pos hp10, if_pos hp11, if_pos hp12, bS, reduceIte, Bool.false_eq_true]; done) | (simp [hp2, hp4, hp6, hp9, hp10, hp11, hp12]; done) | (simp_all; done))))) ?_
                    refine xd_b hok 25 [(77, _), (80, _), (74, _)] ([]) rsN rfl rfl rfl (lc rfl (lc rfl (lc rfl ln))) (by kernel_rfl) ⟨_, rfl, rfl⟩ (fun H' hy hK => o_neqB Try.underlying4 rfl rfl) ?_
                    refine xd_b hok 26 [(74, _), (81, _)] ([]) rsN rfl rfl rfl (lc rfl (lc rfl ln)) (by kernel_rfl) trivial (fun H' hy hK => o_pick_f rfl rfl) ?_
                    refine xd_end hok (by kernel_rfl) ?_
                    exact xq_cut ((lce rfl (by first | rfl | (simp only [hq2, hq4, hq6, hq9, hq10, hq11, hq12, if_pos hp2, if_neg hp4, if_pos hp6, if_pos hp9, if_pos hp10, if_pos hp11, if_pos hp12, bS]; done) | (simp only [hq2, hq4, hq6, hq9, hq10, hq11, hq12, if_pos hp2, if_neg hp4, if_pos hp6, if_pos hp9, if_pos hp10, if_pos hp11, if_pos hp12, bS, reduceIte, Bool.false_eq_true]; done) | (simp [hp2, hp4, hp6, hp9, hp10, hp11, hp12]; done) | (simp_all; done)) (lc rfl (lc rfl (lc rfl (lc rfl ln)))))) (fun _ h => h)
          · refine xq_then ?_
            refine xw_bool 82 rfl (fun hc13 => ?_) (fun hc13 => ?_)
            · have hq13 : (((((!(decide ((victim_F m1).2 = 0))) || (!(decide ((victim_F ((onward_F (1 + ((IntKind.i64.wrap shard0).tmod 64)) m1).1)).2 = 0)))) || (!(decide ((victim_F m1).1 = (victim_F ((onward_F (1 + ((IntKind.i64.wrap shard0).tmod 64)) m1).1)).1)))) || (!((((back_F m1)) == ((back_F ((onward_F (1 + ((IntKind.i64.wrap shard0).tmod 64)) m1).1))))))) || (!((((live_F m1 open4)) == ((live_F ((onward_F (1 + ((IntKind.i64.wrap shard0).tmod 64)) m1).1) open4)))))) = true := hc13
              have hp13 : (((((!(decide ((victim_F m1).2 = 0))) || (!(decide ((victim_F ((onward_F (1 + ((IntKind.i64.wrap shard0).tmod 64)) m1).1)).2 = 0)))) || (!(decide ((victim_F m1).1 = (victim_F ((onward_F (1 + ((IntKind.i64.wrap shard0).tmod 64)) m1).1)).1)))) || (!((((back_F m1)) == ((back_F ((onward_F (1 + ((IntKind.i64.wrap shard0).tmod 64)) m1).1))))))) || (!((((live_F m1 open4)) == ((live_F ((onward_F (1 + ((IntKind.i64.wrap shard0).tmod 64)) m1).1) open4)))))) = true := hq13
              rw [if_pos hp13] at h
              refine xw_cond_t rfl rfl (xw_seq (xw_region ?_))
              refine xq rfl trivial (o_as rfl) ?_
              refine xo_nil (xq_then (xw_ret (xq_then_ret ?_)))
              subst h
              exact con_ret1 (.inl rfl) Try.results3 rfl [] (Kp.st (Kp.new hb11 (Kp.new hb6 Kp.nil))) (⟨rfl, rfl⟩)
            · have hq13 : (((((!(decide ((victim_F m1).2 = 0))) || (!(decide ((victim_F ((onward_F (1 + ((IntKind.i64.wrap shard0).tmod 64)) m1).1)).2 = 0)))) || (!(decide ((victim_F m1).1 = (victim_F ((onward_F (1 + ((IntKind.i64.wrap shard0).tmod 64)) m1).1)).1)))) || (!((((back_F m1)) == ((back_F ((onward_F (1 + ((IntKind.i64.wrap shard0).tmod 64)) m1).1))))))) || (!((((live_F m1 open4)) == ((live_F ((onward_F (1 + ((IntKind.i64.wrap shard0).tmod 64)) m1).1) open4)))))) = false := hc13
              have hp13 : ¬ ((((((!(decide ((victim_F m1).2 = 0))) || (!(decide ((victim_F ((onward_F (1 + ((IntKind.i64.wrap shard0).tmod 64)) m1).1)).2 = 0)))) || (!(decide ((victim_F m1).1 = (victim_F ((onward_F (1 + ((IntKind.i64.wrap shard0).tmod 64)) m1).1)).1)))) || (!((((back_F m1)) == ((back_F ((onward_F (1 + ((IntKind.i64.wrap shard0).tmod 64)) m1).1))))))) || (!((((live_F m1 open4)) == ((live_F ((onward_F (1 + ((IntKind.i64.wrap shard0).tmod 64)) m1).1) open4)))))) = true) := bne' hq13
              rw [if_neg hp13] at h
              refine xw_cond_f rfl rfl (xw_skip (xq_then (xw_seq (xw_region ?_))))
              refine xq rfl trivial (o_mv rfl) ?_
              refine xq rfl trivial (o_conv rfl Try.underlying5 Try.underlying3) ?_
              refine xq rfl trivial (o_rem rfl rfl (by decide) rfl) ?_
              obtain ⟨ho14, h⟩ := h
              refine xq rfl trivial (o_add rfl rfl rfl ho14) ?_
              refine xq rfl trivial (o_ldW rfl ts29 (List.Mem.tail _ (List.Mem.head _))) ?_
              refine xq rfl trivial (o_mv rfl) ?_
              refine xq rfl trivial (o_mv rfl) ?_
              obtain ⟨ho15, h⟩ := h
              refine xcall rfl trivial kf13 rfl (fun w1 hw1 => goP_c _ _ _ _ _ w1 (hs3.keep hw1 (Fr.cons hb11 (Fr.cons hb6 Fr.nil))) ho15) ?_
              rintro w1 _ _ hw1 ⟨vs16, Bs16, rfl, rfl, hJs16, hcBs16⟩
              refine ⟨_, Mg.news (Cov.fresh hcBs16) (.nil _), ?_⟩
              replace hcBs16 := Cov.base (w0 := w) hcBs16 hw1.size
              refine xq rfl trivial (o_mv rfl) ?_
              refine xq rfl trivial (o_ext rfl rfl) ?_
              refine xq rfl trivial (o_ext rfl rfl) ?_
              refine xq rfl trivial (o_as rfl) ?_
              refine xq rfl trivial (o_as rfl) ?_
              refine xo_nil (xq_then (xw_seq (xw_seq (xw_region ?_))))
              refine xq rfl trivial (o_as rfl) ?_
              refine xo_nil (xq_then ?_)
              refine xw_block ?_
              obtain ⟨x1, hx1, h⟩ := h
              refine xw_wh (fun (i19 : Int) e H => e = [(2, .int .i64 seq2), (6, .pointer (some ⟨b6, 0, none⟩)), (17, vs16), (18, errV 63 ((goP_F (1 + ((IntKind.i64.wrap shard0).tmod 64)) m1 seq2 l3).2)), (19, .int .i64 i19)] ∧ H = Bs16 ++ ((b6, BK 28 (iv m1) 29) :: ([]))) (fun x ex e H => match x with | .inl _ => ex = .exit 0 ∧ e = [(17, vs16), (18, errV 63 ((goP_F (1 + ((IntKind.i64.wrap shard0).tmod 64)) m1 seq2 l3).2))] ∧ H = Bs16 ++ ((b6, BK 28 (iv m1) 29) :: ([])) | .inr _ => ex = .ret ∧ e = [(10, .bool false)] ∧ H = Bs16 ++ ((b6, BK 28 (iv m1) 29) :: ([]))) hx1 ⟨[(2, .int .i64 seq2), (6, .pointer (some ⟨b6, 0, none⟩)), (17, vs16), (18, errV 63 ((goP_F (1 + ((IntKind.i64.wrap shard0).tmod 64)) m1 seq2 l3).2)), (19, .int .i64 0)], Bs16 ++ ((b6, BK 28 (iv m1) 29) :: ([])), (lc rfl (lc rfl (lc rfl (lc rfl (lc rfl ln))))), Kp.st (Kp.segKeep (Kp.new hb11 (Kp.keep Kp.nil))), ⟨rfl, rfl⟩⟩ ?_ ?_
              · rintro i19 o _ _ ⟨rfl, rfl⟩ hb
                have h : same12_l1 shard0 m1 seq2 l3 i19 o := hb
                clear hb
                unfold same12_l1 at h
                refine xw_seq (xw_seq (xw_region ?_))
                refine xq rfl trivial (o_mv rfl) ?_
                refine xq rfl trivial (o_mv rfl) ?_
                refine xq rfl trivial (o_lenL rfl Try.underlying41 rfl (OJ.val hJs16)) ?_
                refine xq rfl trivial (o_lss rfl rfl) ?_
                refine xo_nil (xq_then ?_)
                refine xw_bool 97 rfl (fun hc17 => ?_) (fun hc17 => ?_)
                · have hq17 : (decide (i19 < (((goP_F (1 + ((IntKind.i64.wrap shard0).tmod 64)) m1 seq2 l3).1).length : Int))) = true := hc17
                  have hp17 : i19 < (((goP_F (1 + ((IntKind.i64.wrap shard0).tmod 64)) m1 seq2 l3).1).length : Int) := of_decide_eq_true hq17
                  rw [if_pos hp17] at h
                  refine xw_cond_t rfl rfl (xw_skip (xq_then (xw_seq ?_)))
                  refine xw_block ?_
                  refine xw_seq (xw_region ?_)
                  refine xq rfl trivial (o_mv rfl) ?_
                  refine xq rfl trivial (o_mv rfl) ?_
                  obtain ⟨ho18, h⟩ := h
                  refine xq rfl trivial (o_ixL el41 rfl rfl (fun w hw => (hJs16.sl hw (Pull.sub (.here _ _)))) rfl ho18) ?_
                  refine xq rfl trivial (o_ldLI rfl ts29 rfl (fun w hw => (hJs16.sl hw (Pull.sub (.here _ _)))) (toNat_lt ho18) rfl) ?_
                  refine xo rfl trivial (o_alloc ze29 rfl) ?_
                  rintro _ _ ⟨b20, hb20, rfl, rfl⟩
                  refine xq0 trivial (o_stWI rfl rfl ts29 (List.Mem.head _) (.here _ _ _ _)) ?_
                  refine xo_nil (xq_then (xw_seq (xw_seq ?_)))
                  obtain ⟨ho19, ho20, h⟩ := h
                  refine xw_cut [(2, _), (6, _), (17, _), (18, _), (19, _), (20, _)] (lc rfl (lc rfl (lc rfl (lc rfl (lc rfl (lc rfl ln)))))) [(126, .bool (((!(decide ((((goP_F (1 + ((IntKind.i64.wrap shard0).tmod 64)) m1 seq2 l3).1)[i19.toNat]!) 11 = (m1 11) + 1))) || (decide (8 < (((goP_F (1 + ((IntKind.i64.wrap shard0).tmod 64)) m1 seq2 l3).1)[i19.toNat]!) 11))) || (!((eqN 2 (fun i => (((goP_F (1 + ((IntKind.i64.wrap shard0).tmod 64)) m1 seq2 l3).1)[i19.toNat]!) ((12 + ((m1 11).toNat * 2)) + i)) (updI (updI (fun _ => 0) 0 (m1 9)) 1 seq2))))))] ?_ ?_
                  · refine xd_start (by kernel_rfl) (by kernel_rfl) (fun hok => ?_)
                    first | refine xd_b hok 0 [(20, _)] ([]) rsN rfl rfl rfl (lc rfl ln) (by kernel_rfl) trivial (fun H' hy hK => o_fa0 fl29_10 rfl) ?_ | refine xd_b hok 0 [(20, _)] ([]) rsN rfl rfl rfl (lc rfl ln) (by kernel_rfl) trivial (fun H' hy hK => o_fa fl29_10 rfl) ?_
                    refine xd_b hok 1 [(104, _)] ((b20, BK 28 (iv (((goP_F (1 + ((IntKind.i64.wrap shard0).tmod 64)) m1 seq2 l3).1)[i19.toNat]!)) 29) :: ([])) (rsC (List.Mem.head _) rsN) rfl rfl rfl (lc rfl ln) (by kernel_rfl) trivial (fun H' hy hK => o_ldI (v := (((goP_F (1 + ((IntKind.i64.wrap shard0).tmod 64)) m1 seq2 l3).1)[i19.toNat]!) 11) rfl ts3 (hy _ (List.Mem.head _)) (by omega) rfl) ?_
                    first | refine xd_b hok 2 [(6, _)] ([]) rsN rfl rfl rfl (lc rfl ln) (by kernel_rfl) trivial (fun H' hy hK => o_fa0 fl29_10 rfl) ?_ | refine xd_b hok 2 [(6, _)] ([]) rsN rfl rfl rfl (lc rfl ln) (by kernel_rfl) trivial (fun H' hy hK => o_fa fl29_10 rfl) ?_
                    refine xd_b hok 3 [(106, _)] ((b6, BK 28 (iv m1) 29) :: ([])) (rsC (List.Mem.tail _ (List.mem_append_right _ (List.Mem.head _))) rsN) rfl rfl rfl (lc rfl ln) (by kernel_rfl) trivial (fun H' hy hK => o_ldI (v := m1 11) rfl ts3 (hy _ (List.Mem.head _)) (by omega) rfl) ?_
                    refine xd_b hok 4 [(107, _)] ([]) rsN rfl rfl rfl (lc rfl ln) (by kernel_rfl) trivial (fun H' hy hK => o_add rfl rfl rfl (ho19)) ?_
                    refine xd_b hok 5 [(105, _), (108, _)] ([]) rsN rfl rfl rfl (lc rfl (lc rfl ln)) (by kernel_rfl) trivial (fun H' hy hK => o_neq rfl rfl) ?_
                    refine xd_b hok 6 [(109, _)] ([]) rsN rfl rfl rfl (lc rfl ln) (by kernel_rfl) trivial (fun H' hy hK => o_mv rfl) ?_
                    refine xd_bool 110 rfl (fun hg21 => ?_) (fun hg21 => ?_)
                    · have hq21 : (decide ((((goP_F (1 + ((IntKind.i64.wrap shard0).tmod 64)) m1 seq2 l3).1)[i19.toNat]!) 11 = (m1 11) + 1)) = false := (bnT hg21)
                      have hp21 : ¬ ((((goP_F (1 + ((IntKind.i64.wrap shard0).tmod 64)) m1 seq2 l3).1)[i19.toNat]!) 11 = (m1 11) + 1) := of_decide_eq_false hq21
                      refine xd_skip hok 7 [(20, _), (110, _)] rfl rfl rfl (lc rfl (lc rfl ln)) (by kernel_rfl) ⟨_, _, rfl, rfl, rfl⟩ ?_
                      refine xd_skip hok 8 [(111, _), (110, _)] rfl rfl rfl (lc rfl (lc rfl ln)) (by kernel_rfl) ⟨_, _, rfl, rfl, rfl⟩ ?_
                      refine xd_skip hok 9 [(112, _), (110, _)] rfl rfl rfl (lc rfl (lc rfl ln)) (by kernel_rfl) ⟨_, _, rfl, rfl, rfl⟩ ?_
                      refine xd_b hok 10 [(110, _), (113, _)] ([]) rsN rfl rfl rfl (lc rfl (lc rfl ln)) (by kernel_rfl) trivial (fun H' hy hK => o_pick_t rfl rfl) ?_
                      refine xd_b hok 11 [(114, _)] ([]) rsN rfl rfl rfl (lc rfl ln) (by kernel_rfl) trivial (fun H' hy hK => o_mv rfl) ?_
                      refine xd_skip hok 12 [(6, _), (115, _)] rfl rfl rfl (lc rfl (lc rfl ln)) (by kernel_rfl) ⟨_, _, rfl, rfl, rfl⟩ ?_
                      refine xd_skip hok 13 [(116, _), (115, _)] rfl rfl rfl (lc rfl (lc rfl ln)) (by kernel_rfl) ⟨_, _, rfl, rfl, rfl⟩ ?_
                      refine xd_skip hok 14 [(20, _), (115, _)] rfl rfl rfl (lc rfl (lc rfl ln)) (by kernel_rfl) ⟨_, _, rfl, rfl, rfl⟩ ?_
                      refine xd_skip hok 15 [(118, _), (117, _), (115, _)] rfl rfl rfl (lc rfl (lc rfl (lc rfl ln))) (by kernel_rfl) ⟨_, _, rfl, rfl, rfl⟩ ?_
                      refine xd_skip hok 16 [(119, _), (115, _)] rfl rfl rfl (lc rfl (lc rfl ln)) (by kernel_rfl) ⟨_, _, rfl, rfl, rfl⟩ ?_
                      refine xd_skip hok 17 [(6, _), (115, _)] rfl rfl rfl (lc rfl (lc rfl ln)) (by kernel_rfl) ⟨_, _, rfl, rfl, rfl⟩ ?_
                      refine xd_skip hok 18 [(121, _), (115, _)] rfl rfl rfl (lc rfl (lc rfl ln)) (by kernel_rfl) ⟨_, _, rfl, rfl, rfl⟩ ?_
                      refine xd_skip hok 19 [(2, _), (115, _)] rfl rfl rfl (lc rfl (lc rfl ln)) (by kernel_rfl) ⟨_, _, rfl, rfl, rfl⟩ ?_
                      refine xd_skip hok 20 [(122, _), (123, _), (115, _)] rfl rfl rfl (lc rfl (lc rfl (lc rfl ln))) (by kernel_rfl) ⟨_, _, rfl, rfl, rfl⟩ ?_
                      refine xd_skip hok 21 [(120, _), (124, _), (115, _)] rfl rfl rfl (lc rfl (lc rfl (lc rfl ln))) (by kernel_rfl) ⟨_, _, rfl, rfl, rfl⟩ ?_
                      refine xd_b hok 22 [(115, _), (125, _)] ([]) rsN rfl rfl rfl (lc rfl (lc rfl ln)) (by kernel_rfl) trivial (fun H' hy hK => o_pick_t rfl rfl) ?_
                      refine xd_end hok (by kernel_rfl) ?_
                      exact xq_cut ((lce rfl (by first | rfl | (simp only [hq17, hq21, if_pos hp17, if_neg hp21, bS]; done) | (simp only [hq17, hq21, if_pos hp17, if_neg hp21, bS, reduceIte, Bool.false_eq_true]; done) | (simp [hp17, hp21]; done) | (simp_all; done)) (lc rfl (lc rfl (lc rfl (lc rfl (lc rfl (lc rfl ln)))))))) (fun _ h => h)
                    · have hq21 : (decide ((((goP_F (1 + ((IntKind.i64.wrap shard0).tmod 64)) m1 seq2 l3).1)[i19.toNat]!) 11 = (m1 11) + 1)) = true := (bnF hg21)
                      have hp21 : (((goP_F (1 + ((IntKind.i64.wrap shard0).tmod 64)) m1 seq2 l3).1)[i19.toNat]!) 11 = (m1 11) + 1 := of_decide_eq_true hq21
                      first | refine xd_b hok 7 [(20, _), (110, _)] ([]) rsN rfl rfl rfl (lc rfl (lc rfl ln)) (by kernel_rfl) ⟨_, rfl, rfl⟩ (fun H' hy hK => o_fa0 fl29_10 rfl) ?_ | refine xd_b hok 7 [(20, _), (110, _)] ([]) rsN rfl rfl rfl (lc rfl (lc rfl ln)) (by kernel_rfl) ⟨_, rfl, rfl⟩ (fun H' hy hK => o_fa fl29_10 rfl) ?_
                      refine xd_b hok 8 [(111, _), (110, _)] ((b20, BK 28 (iv (((goP_F (1 + ((IntKind.i64.wrap shard0).tmod 64)) m1 seq2 l3).1)[i19.toNat]!)) 29) :: ([])) (rsC (List.Mem.head _) rsN) rfl rfl rfl (lc rfl (lc rfl ln)) (by kernel_rfl) ⟨_, rfl, rfl⟩ (fun H' hy hK => o_ldI (v := (((goP_F (1 + ((IntKind.i64.wrap shard0).tmod 64)) m1 seq2 l3).1)[i19.toNat]!) 11) rfl ts3 (hy _ (List.Mem.head _)) (by omega) rfl) ?_
                      refine xd_b hok 9 [(112, _), (110, _)] ([]) rsN rfl rfl rfl (lc rfl (lc rfl ln)) (by kernel_rfl) ⟨_, rfl, rfl⟩ (fun H' hy hK => o_gtr rfl rfl) ?_
                      refine xd_b hok 10 [(110, _), (113, _)] ([]) rsN rfl rfl rfl (lc rfl (lc rfl ln)) (by kernel_rfl) trivial (fun H' hy hK => o_pick_f rfl rfl) ?_
                      refine xd_b hok 11 [(114, _)] ([]) rsN rfl rfl rfl (lc rfl ln) (by kernel_rfl) trivial (fun H' hy hK => o_mv rfl) ?_
                      refine xd_bool 115 rfl (fun hg22 => ?_) (fun hg22 => ?_)
                      · have hq22 : (decide (8 < (((goP_F (1 + ((IntKind.i64.wrap shard0).tmod 64)) m1 seq2 l3).1)[i19.toNat]!) 11)) = true := hg22
                        have hp22 : 8 < (((goP_F (1 + ((IntKind.i64.wrap shard0).tmod 64)) m1 seq2 l3).1)[i19.toNat]!) 11 := of_decide_eq_true hq22
                        refine xd_skip hok 12 [(6, _), (115, _)] rfl rfl rfl (lc rfl (lc rfl ln)) (by kernel_rfl) ⟨_, _, rfl, rfl, rfl⟩ ?_
                        refine xd_skip hok 13 [(116, _), (115, _)] rfl rfl rfl (lc rfl (lc rfl ln)) (by kernel_rfl) ⟨_, _, rfl, rfl, rfl⟩ ?_
                        refine xd_skip hok 14 [(20, _), (115, _)] rfl rfl rfl (lc rfl (lc rfl ln)) (by kernel_rfl) ⟨_, _, rfl, rfl, rfl⟩ ?_
                        refine xd_skip hok 15 [(118, _), (117, _), (115, _)] rfl rfl rfl (lc rfl (lc rfl (lc rfl ln))) (by kernel_rfl) ⟨_, _, rfl, rfl, rfl⟩ ?_
                        refine xd_skip hok 16 [(119, _), (115, _)] rfl rfl rfl (lc rfl (lc rfl ln)) (by kernel_rfl) ⟨_, _, rfl, rfl, rfl⟩ ?_
                        refine xd_skip hok 17 [(6, _), (115, _)] rfl rfl rfl (lc rfl (lc rfl ln)) (by kernel_rfl) ⟨_, _, rfl, rfl, rfl⟩ ?_
                        refine xd_skip hok 18 [(121, _), (115, _)] rfl rfl rfl (lc rfl (lc rfl ln)) (by kernel_rfl) ⟨_, _, rfl, rfl, rfl⟩ ?_
                        refine xd_skip hok 19 [(2, _), (115, _)] rfl rfl rfl (lc rfl (lc rfl ln)) (by kernel_rfl) ⟨_, _, rfl, rfl, rfl⟩ ?_
                        refine xd_skip hok 20 [(122, _), (123, _), (115, _)] rfl rfl rfl (lc rfl (lc rfl (lc rfl ln))) (by kernel_rfl) ⟨_, _, rfl, rfl, rfl⟩ ?_
                        refine xd_skip hok 21 [(120, _), (124, _), (115, _)] rfl rfl rfl (lc rfl (lc rfl (lc rfl ln))) (by kernel_rfl) ⟨_, _, rfl, rfl, rfl⟩ ?_
                        refine xd_b hok 22 [(115, _), (125, _)] ([]) rsN rfl rfl rfl (lc rfl (lc rfl ln)) (by kernel_rfl) trivial (fun H' hy hK => o_pick_t rfl rfl) ?_
                        refine xd_end hok (by kernel_rfl) ?_
                        exact xq_cut ((lce rfl (by first | rfl | (simp only [hq17, hq21, hq22, if_pos hp17, if_pos hp21, if_pos hp22, bS]; done) | (simp only [hq17, hq21, hq22, if_pos hp17, if_pos hp21, if_pos hp22, bS, reduceIte, Bool.false_eq_true]; done) | (simp [hp17, hp21, hp22]; done) | (simp_all; done)) (lc rfl (lc rfl (lc rfl (lc rfl (lc rfl (lc rfl ln)))))))) (fun _ h => h)
                      · have hq22 : (decide (8 < (((goP_F (1 + ((IntKind.i64.wrap shard0).tmod 64)) m1 seq2 l3).1)[i19.toNat]!) 11)) = false := hg22
                        have hp22 : ¬ (8 < (((goP_F (1 + ((IntKind.i64.wrap shard0).tmod 64)) m1 seq2 l3).1)[i19.toNat]!) 11) := of_decide_eq_false hq22
                        first | refine xd_b hok 12 [(6, _), (115, _)] ([]) rsN rfl rfl rfl (lc rfl (lc rfl ln)) (by kernel_rfl) ⟨_, rfl, rfl⟩ (fun H' hy hK => o_fa0 fl29_10 rfl) ?_ | refine xd_b hok 12 [(6, _), (115, _)] ([]) rsN rfl rfl rfl (lc rfl (lc rfl ln)) (by kernel_rfl) ⟨_, rfl, rfl⟩ (fun H' hy hK => o_fa fl29_10 rfl) ?_
                        refine xd_b hok 13 [(116, _), (115, _)] ((b6, BK 28 (iv m1) 29) :: ([])) (rsC (List.Mem.tail _ (List.mem_append_right _ (List.Mem.head _))) rsN) rfl rfl rfl (lc rfl (lc rfl ln)) (by kernel_rfl) ⟨_, rfl, rfl⟩ (fun H' hy hK => o_ldI (v := m1 11) rfl ts3 (hy _ (List.Mem.head _)) (by omega) rfl) ?_
                        first | refine xd_b hok 14 [(20, _), (115, _)] ([]) rsN rfl rfl rfl (lc rfl (lc rfl ln)) (by kernel_rfl) ⟨_, rfl, rfl⟩ (fun H' hy hK => o_fa0 fl29_11 rfl) ?_ | refine xd_b hok 14 [(20, _), (115, _)] ([]) rsN rfl rfl rfl (lc rfl (lc rfl ln)) (by kernel_rfl) ⟨_, rfl, rfl⟩ (fun H' hy hK => o_fa fl29_11 rfl) ?_
                        refine xd_b hok 15 [(118, _), (117, _), (115, _)] ([]) rsN rfl rfl rfl (lc rfl (lc rfl (lc rfl ln))) (by kernel_rfl) ⟨_, rfl, rfl⟩ (fun H' hy hK => o_ixa ea27 rfl rfl (ho20 (by first | exact hg22 | (simp only [hq17, hq21, hq22, if_pos hp17, if_pos hp21, if_neg hp22, bS]; done) | (simp only [hq17, hq21, hq22, if_pos hp17, if_pos hp21, if_neg hp22, bS, reduceIte, Bool.false_eq_true]; done) | (simp [hp17, hp21, hp22]; done) | (simp_all; done))) rfl) ?_
                        refine xd_b hok 16 [(119, _), (115, _)] ((b20, BK 28 (iv (((goP_F (1 + ((IntKind.i64.wrap shard0).tmod 64)) m1 seq2 l3).1)[i19.toNat]!)) 29) :: ([])) (rsC (List.Mem.head _) rsN) rfl rfl rfl (lc rfl (lc rfl ln)) (by kernel_rfl) ⟨_, rfl, rfl⟩ (fun H' hy hK => o_ldSI rfl ts26 (hy _ (List.Mem.head _)) (by have := (ho20 (by first | exact hg22 | (simp only [hq17, hq21, hq22, if_pos hp17, if_pos hp21, if_neg hp22, bS]; done) | (simp only [hq17, hq21, hq22, if_pos hp17, if_pos hp21, if_neg hp22, bS, reduceIte, Bool.false_eq_true]; done) | (simp [hp17, hp21, hp22]; done) | (simp_all; done))); omega) (fun _ _ => rfl)) ?_
                        first | refine xd_b hok 17 [(6, _), (115, _)] ([]) rsN rfl rfl rfl (lc rfl (lc rfl ln)) (by kernel_rfl) ⟨_, rfl, rfl⟩ (fun H' hy hK => o_fa0 fl29_8 rfl) ?_ | refine xd_b hok 17 [(6, _), (115, _)] ([]) rsN rfl rfl rfl (lc rfl (lc rfl ln)) (by kernel_rfl) ⟨_, rfl, rfl⟩ (fun H' hy hK => o_fa fl29_8 rfl) ?_
                        refine xd_b hok 18 [(121, _), (115, _)] ((b6, BK 28 (iv m1) 29) :: ([])) (rsC (List.Mem.tail _ (List.mem_append_right _ (List.Mem.head _))) rsN) rfl rfl rfl (lc rfl (lc rfl ln)) (by kernel_rfl) ⟨_, rfl, rfl⟩ (fun H' hy hK => o_ldI (v := m1 9) rfl ts3 (hy _ (List.Mem.head _)) (by omega) rfl) ?_
                        refine xd_b hok 19 [(2, _), (115, _)] ([]) rsN rfl rfl rfl (lc rfl (lc rfl ln)) (by kernel_rfl) ⟨_, rfl, rfl⟩ (fun H' hy hK => o_mv rfl) ?_
                        refine xd_b hok 20 [(122, _), (123, _), (115, _)] ([]) rsN rfl rfl rfl (lc rfl (lc rfl (lc rfl ln))) (by kernel_rfl) ⟨_, rfl, rfl⟩ (fun H' hy hK => o_build fk26 ze26 (.int fl26_0 rfl rfl (.int fl26_1 rfl rfl (.nil _)))) ?_
                        refine xd_b hok 21 [(120, _), (124, _), (115, _)] ([]) rsN rfl rfl rfl (lc rfl (lc rfl (lc rfl ln))) (by kernel_rfl) ⟨_, rfl, rfl⟩ (fun H' hy hK => o_neqA eq26 rfl rfl) ?_
                        refine xd_b hok 22 [(115, _), (125, _)] ([]) rsN rfl rfl rfl (lc rfl (lc rfl ln)) (by kernel_rfl) trivial (fun H' hy hK => o_pick_f rfl rfl) ?_
                        refine xd_end hok (by kernel_rfl) ?_
                        exact xq_cut ((lce rfl (by first | rfl | (simp only [hq17, hq21, hq22, if_pos hp17, if_pos hp21, if_neg hp22, bS]; done) | (simp only [hq17, hq21, hq22, if_pos hp17, if_pos hp21, if_neg hp22, bS, reduceIte, Bool.false_eq_true]; done) | (simp [hp17, hp21, hp22]; done) | (simp_all; done)) (lc rfl (lc rfl (lc rfl (lc rfl (lc rfl (lc rfl ln)))))))) (fun _ h => h)
                  · refine xq_then ?_
                    refine xw_bool 126 rfl (fun hc23 => ?_) (fun hc23 => ?_)
                    · have hq23 : (((!(decide ((((goP_F (1 + ((IntKind.i64.wrap shard0).tmod 64)) m1 seq2 l3).1)[i19.toNat]!) 11 = (m1 11) + 1))) || (decide (8 < (((goP_F (1 + ((IntKind.i64.wrap shard0).tmod 64)) m1 seq2 l3).1)[i19.toNat]!) 11))) || (!((eqN 2 (fun i => (((goP_F (1 + ((IntKind.i64.wrap shard0).tmod 64)) m1 seq2 l3).1)[i19.toNat]!) ((12 + ((m1 11).toNat * 2)) + i)) (updI (updI (fun _ => 0) 0 (m1 9)) 1 seq2))))) = true := hc23
                      have hp23 : (((!(decide ((((goP_F (1 + ((IntKind.i64.wrap shard0).tmod 64)) m1 seq2 l3).1)[i19.toNat]!) 11 = (m1 11) + 1))) || (decide (8 < (((goP_F (1 + ((IntKind.i64.wrap shard0).tmod 64)) m1 seq2 l3).1)[i19.toNat]!) 11))) || (!((eqN 2 (fun i => (((goP_F (1 + ((IntKind.i64.wrap shard0).tmod 64)) m1 seq2 l3).1)[i19.toNat]!) ((12 + ((m1 11).toNat * 2)) + i)) (updI (updI (fun _ => 0) 0 (m1 9)) 1 seq2))))) = true := hq23
                      rw [if_pos hp23] at h
                      refine xw_cond_t rfl rfl (xw_seq (xw_region ?_))
                      refine xq rfl trivial (o_as rfl) ?_
                      refine xo_nil (xq_then (xw_ret (xq_then_ret (xq_blk_ret (xq_then_ret ?_)))))
                      exact xq_out (r := (.inr () : (Unit) ⊕ (Unit))) (e' := [(10, .bool false)]) (Bs16 ++ ((b6, BK 28 (iv m1) 29) :: ([]))) (lc rfl ln) (Kp.st (Kp.new hb20 (Kp.segKeep (Kp.keep Kp.nil)))) h (by intro hh; cases hh) ⟨rfl, rfl, rfl⟩
                    · have hq23 : (((!(decide ((((goP_F (1 + ((IntKind.i64.wrap shard0).tmod 64)) m1 seq2 l3).1)[i19.toNat]!) 11 = (m1 11) + 1))) || (decide (8 < (((goP_F (1 + ((IntKind.i64.wrap shard0).tmod 64)) m1 seq2 l3).1)[i19.toNat]!) 11))) || (!((eqN 2 (fun i => (((goP_F (1 + ((IntKind.i64.wrap shard0).tmod 64)) m1 seq2 l3).1)[i19.toNat]!) ((12 + ((m1 11).toNat * 2)) + i)) (updI (updI (fun _ => 0) 0 (m1 9)) 1 seq2))))) = false := hc23
                      have hp23 : ¬ ((((!(decide ((((goP_F (1 + ((IntKind.i64.wrap shard0).tmod 64)) m1 seq2 l3).1)[i19.toNat]!) 11 = (m1 11) + 1))) || (decide (8 < (((goP_F (1 + ((IntKind.i64.wrap shard0).tmod 64)) m1 seq2 l3).1)[i19.toNat]!) 11))) || (!((eqN 2 (fun i => (((goP_F (1 + ((IntKind.i64.wrap shard0).tmod 64)) m1 seq2 l3).1)[i19.toNat]!) ((12 + ((m1 11).toNat * 2)) + i)) (updI (updI (fun _ => 0) 0 (m1 9)) 1 seq2))))) = true) := bne' hq23
                      rw [if_neg hp23] at h
                      refine xw_cond_f rfl rfl (xw_skip (xq_then (xw_seq (xw_region ?_))))
                      refine xq rfl trivial (o_as rfl) ?_
                      refine xo_nil (xq_then ?_)
                      refine xw_block ?_
                      obtain ⟨x2, hx2, h⟩ := h
                      refine xw_wh (fun (k21 : Int) e H => e = [(2, .int .i64 seq2), (6, .pointer (some ⟨b6, 0, none⟩)), (17, vs16), (18, errV 63 ((goP_F (1 + ((IntKind.i64.wrap shard0).tmod 64)) m1 seq2 l3).2)), (19, .int .i64 i19), (20, .pointer (some ⟨b20, 0, none⟩)), (21, .int .i64 k21)] ∧ H = (b20, BK 28 (iv (((goP_F (1 + ((IntKind.i64.wrap shard0).tmod 64)) m1 seq2 l3).1)[i19.toNat]!)) 29) :: (Bs16 ++ ((b6, BK 28 (iv m1) 29) :: ([])))) (fun x ex e H => match x with | .inl _ => ex = .exit 2 ∧ e = [(2, .int .i64 seq2), (6, .pointer (some ⟨b6, 0, none⟩)), (17, vs16), (18, errV 63 ((goP_F (1 + ((IntKind.i64.wrap shard0).tmod 64)) m1 seq2 l3).2)), (19, .int .i64 i19)] ∧ H = (b20, BK 28 (iv (((goP_F (1 + ((IntKind.i64.wrap shard0).tmod 64)) m1 seq2 l3).1)[i19.toNat]!)) 29) :: (Bs16 ++ ((b6, BK 28 (iv m1) 29) :: ([]))) | .inr _ => ex = .ret ∧ e = [(10, .bool false)] ∧ H = (b20, BK 28 (iv (((goP_F (1 + ((IntKind.i64.wrap shard0).tmod 64)) m1 seq2 l3).1)[i19.toNat]!)) 29) :: (Bs16 ++ ((b6, BK 28 (iv m1) 29) :: ([])))) hx2 ⟨[(2, .int .i64 seq2), (6, .pointer (some ⟨b6, 0, none⟩)), (17, vs16), (18, errV 63 ((goP_F (1 + ((IntKind.i64.wrap shard0).tmod 64)) m1 seq2 l3).2)), (19, .int .i64 i19), (20, .pointer (some ⟨b20, 0, none⟩)), (21, .int .i64 0)], (b20, BK 28 (iv (((goP_F (1 + ((IntKind.i64.wrap shard0).tmod 64)) m1 seq2 l3).1)[i19.toNat]!)) 29) :: (Bs16 ++ ((b6, BK 28 (iv m1) 29) :: ([]))), (lc rfl (lc rfl (lc rfl (lc rfl (lc rfl (lc rfl (lc rfl ln))))))), fun _ h => h, ⟨rfl, rfl⟩⟩ ?_ ?_
                      · rintro k21 o _ _ ⟨rfl, rfl⟩ hb
                        have h : same12_l2 shard0 m1 seq2 l3 i19 k21 o := hb
                        clear hb
                        unfold same12_l2 at h
                        refine xw_seq (xw_seq (xw_region ?_))
                        refine xq rfl trivial (o_mv rfl) ?_
                        first | refine xq rfl trivial (o_fa0 fl29_10 rfl) ?_ | refine xq rfl trivial (o_fa fl29_10 rfl) ?_
                        refine xq rfl trivial (o_ldI (v := m1 11) rfl ts3 (List.Mem.tail _ (List.mem_append_right _ (List.Mem.head _))) (by omega) rfl) ?_
                        refine xq rfl trivial (o_lss rfl rfl) ?_
                        refine xo_nil (xq_then ?_)
                        refine xw_bool 130 rfl (fun hc24 => ?_) (fun hc24 => ?_)
                        · have hq24 : (decide (k21 < m1 11)) = true := hc24
                          have hp24 : k21 < m1 11 := of_decide_eq_true hq24
                          rw [if_pos hp24] at h
                          refine xw_cond_t rfl rfl (xw_skip (xq_then (xw_seq ?_)))
                          refine xw_block ?_
                          refine xw_seq ?_
                          refine xd_start (by kernel_rfl) (by kernel_rfl) (fun hok => ?_)
                          refine xd_b hok 0 [(21, _)] ([]) rsN rfl rfl rfl (lc rfl ln) (by kernel_rfl) trivial (fun H' hy hK => o_mv rfl) ?_
                          first | refine xd_b hok 1 [(20, _)] ([]) rsN rfl rfl rfl (lc rfl ln) (by kernel_rfl) trivial (fun H' hy hK => o_fa0 fl29_11 rfl) ?_ | refine xd_b hok 1 [(20, _)] ([]) rsN rfl rfl rfl (lc rfl ln) (by kernel_rfl) trivial (fun H' hy hK => o_fa fl29_11 rfl) ?_
                          obtain ⟨ho25, h⟩ := h
                          refine xd_b hok 2 [(134, _), (133, _)] ([]) rsN rfl rfl rfl (lc rfl (lc rfl ln)) (by kernel_rfl) trivial (fun H' hy hK => o_ixa ea27 rfl rfl ho25 rfl) ?_
                          refine xd_b hok 3 [(135, _)] ((b20, BK 28 (iv (((goP_F (1 + ((IntKind.i64.wrap shard0).tmod 64)) m1 seq2 l3).1)[i19.toNat]!)) 29) :: ([])) (rsC (List.Mem.head _) rsN) rfl rfl rfl (lc rfl ln) (by kernel_rfl) trivial (fun H' hy hK => o_ldSI rfl ts26 (hy _ (List.Mem.head _)) (by have := ho25; omega) (fun _ _ => rfl)) ?_
                          refine xd_b hok 4 [(21, _)] ([]) rsN rfl rfl rfl (lc rfl ln) (by kernel_rfl) trivial (fun H' hy hK => o_mv rfl) ?_
                          first | refine xd_b hok 5 [(6, _)] ([]) rsN rfl rfl rfl (lc rfl ln) (by kernel_rfl) trivial (fun H' hy hK => o_fa0 fl29_11 rfl) ?_ | refine xd_b hok 5 [(6, _)] ([]) rsN rfl rfl rfl (lc rfl ln) (by kernel_rfl) trivial (fun H' hy hK => o_fa fl29_11 rfl) ?_
                          obtain ⟨ho26, h⟩ := h
                          refine xd_b hok 6 [(138, _), (137, _)] ([]) rsN rfl rfl rfl (lc rfl (lc rfl ln)) (by kernel_rfl) trivial (fun H' hy hK => o_ixa ea27 rfl rfl ho26 rfl) ?_
                          refine xd_b hok 7 [(139, _)] ((b6, BK 28 (iv m1) 29) :: ([])) (rsC (List.Mem.tail _ (List.mem_append_right _ (List.Mem.head _))) rsN) rfl rfl rfl (lc rfl ln) (by kernel_rfl) trivial (fun H' hy hK => o_ldSI rfl ts26 (hy _ (List.Mem.head _)) (by have := ho26; omega) (fun _ _ => rfl)) ?_
                          refine xd_b hok 8 [(136, _), (140, _)] ([]) rsN rfl rfl rfl (lc rfl (lc rfl ln)) (by kernel_rfl) trivial (fun H' hy hK => o_neqA eq26 rfl rfl) ?_
                          refine xd_end hok (by kernel_rfl) ?_
                          refine xq_then ?_
                          refine xw_bool 141 rfl (fun hc27 => ?_) (fun hc27 => ?_)
                          · have hq27 : ((eqN 2 (fun i => (((goP_F (1 + ((IntKind.i64.wrap shard0).tmod 64)) m1 seq2 l3).1)[i19.toNat]!) ((12 + (k21.toNat * 2)) + i)) (fun i => m1 ((12 + (k21.toNat * 2)) + i)))) = false := (bnT hc27)
                            have hp27 : ¬ (((eqN 2 (fun i => (((goP_F (1 + ((IntKind.i64.wrap shard0).tmod 64)) m1 seq2 l3).1)[i19.toNat]!) ((12 + (k21.toNat * 2)) + i)) (fun i => m1 ((12 + (k21.toNat * 2)) + i)))) = true) := bne' hq27
                            rw [if_neg hp27] at h
                            refine xw_cond_t rfl rfl (xw_seq (xw_region ?_))
                            refine xq rfl trivial (o_as rfl) ?_
                            refine xo_nil (xq_then (xw_ret (xq_blk_ret (xq_then_ret ?_))))
                            exact xq_out (r := (.inr () : (Unit) ⊕ (Unit))) (e' := [(10, .bool false)]) ((b20, BK 28 (iv (((goP_F (1 + ((IntKind.i64.wrap shard0).tmod 64)) m1 seq2 l3).1)[i19.toNat]!)) 29) :: (Bs16 ++ ((b6, BK 28 (iv m1) 29) :: ([])))) (lc rfl ln) (fun _ h => h) h (by intro hh; cases hh) ⟨rfl, rfl, rfl⟩
                          · have hq27 : ((eqN 2 (fun i => (((goP_F (1 + ((IntKind.i64.wrap shard0).tmod 64)) m1 seq2 l3).1)[i19.toNat]!) ((12 + (k21.toNat * 2)) + i)) (fun i => m1 ((12 + (k21.toNat * 2)) + i)))) = true := (bnF hc27)
                            have hp27 : ((eqN 2 (fun i => (((goP_F (1 + ((IntKind.i64.wrap shard0).tmod 64)) m1 seq2 l3).1)[i19.toNat]!) ((12 + (k21.toNat * 2)) + i)) (fun i => m1 ((12 + (k21.toNat * 2)) + i)))) = true := hq27
                            rw [if_pos hp27] at h
                            refine xw_cond_f rfl rfl (xw_skip ?_)
                            refine xq_blk 3 ?_
                            refine xq_then (xw_region ?_)
                            refine xq rfl trivial (o_mv rfl) ?_
                            obtain ⟨ho28, h⟩ := h
                            refine xq rfl trivial (o_add rfl rfl rfl ho28) ?_
                            refine xq rfl trivial (o_as rfl) ?_
                            refine xo_nil ?_
                            exact xq_next (s' := (k21 + 1 : Int)) (e' := [(2, .int .i64 seq2), (6, .pointer (some ⟨b6, 0, none⟩)), (17, vs16), (18, errV 63 ((goP_F (1 + ((IntKind.i64.wrap shard0).tmod 64)) m1 seq2 l3).2)), (19, .int .i64 i19), (20, .pointer (some ⟨b20, 0, none⟩)), (21, .int .i64 (k21 + 1))]) ((b20, BK 28 (iv (((goP_F (1 + ((IntKind.i64.wrap shard0).tmod 64)) m1 seq2 l3).1)[i19.toNat]!)) 29) :: (Bs16 ++ ((b6, BK 28 (iv m1) 29) :: ([])))) (lc rfl (lc rfl (lc rfl (lc rfl (lc rfl (lc rfl (lc rfl ln))))))) (fun _ h => h) h ⟨rfl, rfl⟩
                        · have hq24 : (decide (k21 < m1 11)) = false := hc24
                          have hp24 : ¬ (k21 < m1 11) := of_decide_eq_false hq24
                          rw [if_neg hp24] at h
                          refine xw_cond_f rfl rfl (xw_exit (xq_then_exit ?_))
                          exact xq_out (r := (.inl () : (Unit) ⊕ (Unit))) (e' := [(2, .int .i64 seq2), (6, .pointer (some ⟨b6, 0, none⟩)), (17, vs16), (18, errV 63 ((goP_F (1 + ((IntKind.i64.wrap shard0).tmod 64)) m1 seq2 l3).2)), (19, .int .i64 i19)]) ((b20, BK 28 (iv (((goP_F (1 + ((IntKind.i64.wrap shard0).tmod 64)) m1 seq2 l3).1)[i19.toNat]!)) 29) :: (Bs16 ++ ((b6, BK 28 (iv m1) 29) :: ([])))) (lc rfl (lc rfl (lc rfl (lc rfl (lc rfl ln))))) (fun _ h => h) h (by intro hh; cases hh) ⟨rfl, rfl, rfl⟩
                      · rcases x2 with _ | x2
                        · rintro _ _ _ ⟨rfl, rfl, rfl⟩
                          replace h : same12_k2a i19 o := h
                          unfold same12_k2a at h
                          refine xq_blk_eq ?_
                          refine xq_blk 1 ?_
                          refine xq_then (xw_region ?_)
                          refine xq rfl trivial (o_mv rfl) ?_
                          obtain ⟨ho29, h⟩ := h
                          refine xq rfl trivial (o_add rfl rfl rfl ho29) ?_
                          refine xq rfl trivial (o_as rfl) ?_
                          refine xo_nil ?_
                          exact xq_next (s' := (i19 + 1 : Int)) (e' := [(2, .int .i64 seq2), (6, .pointer (some ⟨b6, 0, none⟩)), (17, vs16), (18, errV 63 ((goP_F (1 + ((IntKind.i64.wrap shard0).tmod 64)) m1 seq2 l3).2)), (19, .int .i64 (i19 + 1))]) (Bs16 ++ ((b6, BK 28 (iv m1) 29) :: ([]))) (lc rfl (lc rfl (lc rfl (lc rfl (lc rfl ln))))) (Kp.st (Kp.new hb20 (Kp.segKeep (Kp.keep Kp.nil)))) h ⟨rfl, rfl⟩
                        cases x2
                        rintro _ _ _ ⟨rfl, rfl, rfl⟩
                        replace h : same12_k2b o := h
                        unfold same12_k2b at h
                        refine xq_blk_ret (xq_blk_ret (xq_then_ret ?_))
                        exact xq_out (r := (.inr () : (Unit) ⊕ (Unit))) (e' := [(10, .bool false)]) (Bs16 ++ ((b6, BK 28 (iv m1) 29) :: ([]))) (lc rfl ln) (Kp.st (Kp.new hb20 (Kp.segKeep (Kp.keep Kp.nil)))) h (by intro hh; cases hh) ⟨rfl, rfl, rfl⟩
                · have hq17 : (decide (i19 < (((goP_F (1 + ((IntKind.i64.wrap shard0).tmod 64)) m1 seq2 l3).1).length : Int))) = false := hc17
                  have hp17 : ¬ (i19 < (((goP_F (1 + ((IntKind.i64.wrap shard0).tmod 64)) m1 seq2 l3).1).length : Int)) := of_decide_eq_false hq17
                  rw [if_neg hp17] at h
                  refine xw_cond_f rfl rfl (xw_exit (xq_then_exit ?_))
                  exact xq_out (r := (.inl () : (Unit) ⊕ (Unit))) (e' := [(17, vs16), (18, errV 63 ((goP_F (1 + ((IntKind.i64.wrap shard0).tmod 64)) m1 seq2 l3).2))]) (Bs16 ++ ((b6, BK 28 (iv m1) 29) :: ([]))) (lc rfl (lc rfl ln)) (fun _ h => h) h (by intro hh; cases hh) ⟨rfl, rfl, rfl⟩
              · rcases x1 with _ | x1
                · rintro _ _ _ ⟨rfl, rfl, rfl⟩
                  replace h : same12_k1a shard0 m1 seq2 l3 r := h
                  unfold same12_k1a at h
                  refine xq_blk_eq ?_
                  refine xq_then (xw_seq ?_)
                  refine xw_cut [] ln [(10, .bool ((decide ((goP_F (1 + ((IntKind.i64.wrap shard0).tmod 64)) m1 seq2 l3).2 = 0)) || (decide ((((goP_F (1 + ((IntKind.i64.wrap shard0).tmod 64)) m1 seq2 l3).1).length : Int) = 0))))] ?_ ?_
                  · refine xw_region ?_
                    refine xq rfl trivial (o_mv rfl) ?_
                    refine xq rfl trivial (o_eqE Try.underlying34 rfl (fun _ => rfl) rfl rfl) ?_
                    refine xq rfl trivial (o_mv rfl) ?_
                    refine xo_bool 144 rfl (fun hg30 => ?_) (fun hg30 => ?_)
                    · have hq30 : (decide ((goP_F (1 + ((IntKind.i64.wrap shard0).tmod 64)) m1 seq2 l3).2 = 0)) = true := hg30
                      have hp30 : (goP_F (1 + ((IntKind.i64.wrap shard0).tmod 64)) m1 seq2 l3).2 = 0 := of_decide_eq_true hq30
                      refine xs rfl ⟨_, _, rfl, rfl, rfl⟩ (xs rfl ⟨_, _, rfl, rfl, rfl⟩ (xs rfl ⟨_, _, rfl, rfl, rfl⟩ ?_))
                      refine xq rfl trivial (o_pick_t rfl rfl) ?_
                      refine xq rfl trivial (o_as rfl) ?_
                      refine xo_nil ?_
                      exact xq_cut ((lce rfl (by first | rfl | (simp only [hq30, if_pos hp30, bS]; done) | (simp only [hq30, if_pos hp30, bS, reduceIte, Bool.false_eq_true]; done) | (simp [hp30]; done) | (simp_all; done)) ln)) (fun _ h => h)
                    · have hq30 : (decide ((goP_F (1 + ((IntKind.i64.wrap shard0).tmod 64)) m1 seq2 l3).2 = 0)) = false := hg30
                      have hp30 : ¬ ((goP_F (1 + ((IntKind.i64.wrap shard0).tmod 64)) m1 seq2 l3).2 = 0) := of_decide_eq_false hq30
                      refine xq rfl ⟨_, rfl, rfl⟩ (o_mv rfl) ?_
                      refine xq rfl ⟨_, rfl, rfl⟩ (o_lenL rfl Try.underlying41 rfl (OJ.val hJs16)) ?_
                      refine xq rfl ⟨_, rfl, rfl⟩ (o_eql rfl rfl) ?_
                      refine xq rfl trivial (o_pick_f rfl rfl) ?_
                      refine xq rfl trivial (o_as rfl) ?_
                      refine xo_nil ?_
                      exact xq_cut ((lce rfl (by first | rfl | (simp only [hq30, if_neg hp30, bS]; done) | (simp only [hq30, if_neg hp30, bS, reduceIte, Bool.false_eq_true]; done) | (simp [hp30]; done) | (simp_all; done)) ln)) (fun _ h => h)
                  · refine xq_then (xw_ret ?_)
                    subst h
                    exact con_ret1 (.inl rfl) Try.results3 rfl [] (Kp.st (Kp.segNew (Cov.fresh hcBs16) (Kp.new hb6 Kp.nil))) (⟨rfl, rfl⟩)
                cases x1
                rintro _ _ _ ⟨rfl, rfl, rfl⟩
                replace h : same12_k1b r := h
                unfold same12_k1b at h
                refine xq_blk_ret (xq_then_ret ?_)
                subst h
                exact con_ret1 (.inl rfl) Try.results3 rfl [] (Kp.st (Kp.segNew (Cov.fresh hcBs16) (Kp.new hb6 Kp.nil))) (⟨rfl, rfl⟩)

end Go.Proofs.Ytjmfnohbeoiddaa
