/- The code answers as the relations say. -/
import Derived.Test.YteomcjiiiilhmaaTab
import Derived.Test.YteomcjiiiilhmaaB16S
import Derived.Test.YteomcjiiiilhmaaA16W
set_option maxHeartbeats 1000000
set_option linter.unusedVariables false
set_option linter.unusedSimpArgs false
set_option maxRecDepth 100000
namespace Go.Proofs.Yteomcjiiiilhmaa
open Go Go.E

theorem ints_c (a0 : (List Int)) (b1 : (List Int)) (v0 : Value) (v1 : Value) (w : World) (hs0 : SL w 1 ic v0 a0) (hs1 : SL w 1 ic v1 b1) (hP : ints_P a0 b1) : Con Try.prog 17 #[v0, v1] w (Is (.bool (ints_F a0 b1)) []) :=
  ints_con a0 b1 v0 v1 w hs0 hs1 _ (ints_ok a0 b1 hP)

theorem risingR_c (l0 : (List Int)) (v0 : Value) (w : World) (hs0 : SL w 1 ic v0 l0) (hP : rising_P l0) : Con Try.prog 28 #[v0] w (fun v F => ∃ (u0 : Value) (C0 : GH), v = u0 ∧ F = (C0 ++ []) ∧ OJ 3 1 ic C0 u0 (rising_F l0) ∧ Cov w [] C0) :=
  risingR_con l0 v0 w hs0 _ (risingR_ok l0 hP)

theorem cof_c (c0 : (Nat → Int)) (tx1 : Int) (p0 : Nat) (w : World) (hC : Has w (cat [[(p0, BK 28 (mv (kPA 1 3 (kS [2])) c0) 61)]])) : Con Try.prog 10 #[.pointer (some ⟨p0, 0, none⟩), .int .i64 tx1] w (CatG fun v Ls => Cov w (cat [[(p0, BK 28 (mv (kPA 1 3 (kS [2])) c0) 61)]]) (cat Ls) ∧ v = .tuple #[.int .i64 ((cof_F c0 tx1).1), errV 56 ((cof_F c0 tx1).2)] ∧ Ls = [[(p0, BK 28 (mv (kPA 1 3 (kS [2])) c0) 61)]]) :=
  cof_con c0 tx1 p0 w hC _ (cof_ok c0 tx1)

theorem ofR_c (l0 : (List (Nat → Int))) (tx1 : Int) (v0 : Value) (w : World) (hs0 : SL w 3 (mv (kS [1])) v0 l0) (hP : ofR_P l0 tx1) : Con Try.prog 20 #[v0, .int .i64 tx1] w (Is (.int .i64 (ofR_F l0 tx1)) []) :=
  ofR_con l0 tx1 v0 w hs0 _ (ofR_ok l0 tx1 hP)

theorem cbegin_con (c0 : (Nat → Int)) (id1 : Int) (tx2 : Int) (p0 : Nat) (w : World) (hC : Has w (cat [[(p0, BK 28 (mv (kPA 1 3 (kS [2])) c0) 61)]])) (r : Int × (Nat → Int)) (h : cbegin_S c0 id1 tx2 r) : Con Try.prog 21 #[.pointer (some ⟨p0, 0, none⟩), .int .i64 id1, .int .i64 tx2] w (CatG fun v Ls => Cov w (cat [[(p0, BK 28 (mv (kPA 1 3 (kS [2])) c0) 61)]]) (cat Ls) ∧ v = errV 56 r.1 ∧ Ls = [[(p0, BK 28 (mv (kPA 1 3 (kS [2])) r.2) 61)]]) := by
  unfold cbegin_S at h
  refine con_enter (n := 57) [(0, _), (1, _), (2, _)] Try.func21 rfl Try.ntmps21 rfl (lac rfl (lac rfl (lac rfl lan))) ?_
  refine xw_has hC ?_
  refine xw_st ((p0, BK 28 (mv (kPA 1 3 (kS [2])) c0) 61) :: ([])) (fun _ h => h) ?_
  refine xw_seq (xw_region ?_)
  refine xq rfl trivial (o_as rfl) ?_
  refine xo_nil (xq_then (xw_seq (xw_region ?_)))
  refine xq rfl trivial (o_mv rfl) ?_
  refine xq rfl trivial (o_mv rfl) ?_
  refine xoR rfl trivial (ot_in (l := [(0, _), (1, _)]) kf24 rfl Try.func24 rfl Try.ntmps24 rfl (lac rfl (lac rfl lan)) ?_)
  refine xw_seq (xw_region ?_)
  refine xq rfl trivial (o_as rfl) ?_
  refine xq rfl trivial (o_as rfl) ?_
  refine xo_nil (xq_then (xw_seq (xw_seq (xw_region ?_))))
  refine xq rfl trivial (o_mv rfl) ?_
  refine xq rfl trivial (o_eqn Try.underlying25 rfl rfl rfl rfl) ?_
  refine xo_nil (xq_then (xw_cond_f rfl rfl (xw_skip (xq_then (xw_seq (xw_seq ?_))))))
  refine xw_cut [(0, _), (1, _)] (lc rfl (lc rfl ln)) [(18, .bool ((decide (id1 < 1)) || (decide (c0 0 < id1))))] ?_ ?_
  · refine xw_region ?_
    refine xq rfl trivial (o_mv rfl) ?_
    refine xq rfl trivial (o_lss rfl rfl) ?_
    refine xq rfl trivial (o_mv rfl) ?_
    refine xo_bool 11 rfl (fun hg1 => ?_) (fun hg1 => ?_)
    · have hq1 : (decide (id1 < 1)) = true := hg1
      have hp1 : id1 < 1 := of_decide_eq_true hq1
      refine xs rfl ⟨_, _, rfl, rfl, rfl⟩ (xs rfl ⟨_, _, rfl, rfl, rfl⟩ (xs rfl ⟨_, _, rfl, rfl, rfl⟩ (xs rfl ⟨_, _, rfl, rfl, rfl⟩ (xs rfl ⟨_, _, rfl, rfl, rfl⟩ (xs rfl ⟨_, _, rfl, rfl, rfl⟩ ?_)))))
      refine xq rfl trivial (o_pick_t rfl rfl) ?_
      refine xo_nil ?_
      exact xq_cut ((lce rfl (by first | rfl | (simp only [hq1, if_pos hp1, bS]; done) | (simp only [hq1, if_pos hp1, bS, reduceIte, Bool.false_eq_true]; done) | (simp [hp1]; done) | (simp_all; done)) (lc rfl (lc rfl ln)))) (fun _ h => h)
    · have hq1 : (decide (id1 < 1)) = false := hg1
      have hp1 : ¬ (id1 < 1) := of_decide_eq_false hq1
      refine xq rfl ⟨_, rfl, rfl⟩ (o_mv rfl) ?_
      refine xq rfl ⟨_, rfl, rfl⟩ (o_mv rfl) ?_
      refine xq rfl ⟨_, rfl, rfl⟩ (o_nilp rfl) ?_
      first | refine xq rfl ⟨_, rfl, rfl⟩ (o_fa0 fl61_0 rfl) ?_ | refine xq rfl ⟨_, rfl, rfl⟩ (o_fa fl61_0 rfl) ?_
      refine xq rfl ⟨_, rfl, rfl⟩ (o_ld (v := .int .i64 (c0 0)) rfl ts3 (List.Mem.head _) (by omega) (mv_i rfl)) ?_
      refine xq rfl ⟨_, rfl, rfl⟩ (o_gtr rfl rfl) ?_
      refine xq rfl trivial (o_pick_f rfl rfl) ?_
      refine xo_nil ?_
      exact xq_cut ((lce rfl (by first | rfl | (simp only [hq1, if_neg hp1, bS]; done) | (simp only [hq1, if_neg hp1, bS, reduceIte, Bool.false_eq_true]; done) | (simp [hp1]; done) | (simp_all; done)) (lc rfl (lc rfl ln)))) (fun _ h => h)
  · refine xq_then ?_
    refine xw_bool 18 rfl (fun hc2 => ?_) (fun hc2 => ?_)
    · have hq2 : ((decide (id1 < 1)) || (decide (c0 0 < id1))) = true := hc2
      have hp2 : ((decide (id1 < 1)) || (decide (c0 0 < id1))) = true := hq2
      rw [if_pos hp2] at h
      refine xw_cond_t rfl rfl (xw_seq (xw_region ?_))
      refine xq rfl trivial (o_mki rfl Try.underlying56 rfl) ?_
      refine xq rfl trivial (o_as rfl) ?_
      refine xq rfl trivial (o_as rfl) ?_
      refine xo_nil (xq_then (xw_ret (xq_then_ret ?_)))
      refine con_ret2 (.inl rfl) Try.results24 rfl rfl _ (fun _ h => h) (?_)
      refine xq rfl trivial (o_mv rfl) ?_
      refine xq rfl trivial (o_ext rfl rfl) ?_
      refine xq rfl trivial (o_ext rfl rfl) ?_
      refine xq rfl trivial (o_as rfl) ?_
      refine xq rfl trivial (o_as rfl) ?_
      refine xo_nil (xq_then (xw_seq (xw_seq (xw_region ?_))))
      refine xq rfl trivial (o_mv rfl) ?_
      refine xq rfl trivial (o_nen Try.underlying27 rfl rfl rfl rfl) ?_
      refine xo_nil (xq_then (xw_cond_t rfl rfl (xw_seq (xw_region ?_))))
      refine xq rfl trivial (o_mv rfl) ?_
      refine xq rfl trivial (o_as rfl) ?_
      refine xo_nil (xq_then (xw_ret (xq_then_ret ?_)))
      subst h
      exact con_ret1 (.inl rfl) Try.results21 rfl (cat [[(p0, BK 28 (mv (kPA 1 3 (kS [2])) c0) 61)]]) (fun _ h => h) (⟨_, rfl, (Cov.cons Cov.nil), rfl, rfl⟩)
    · have hq2 : ((decide (id1 < 1)) || (decide (c0 0 < id1))) = false := hc2
      have hp2 : ¬ (((decide (id1 < 1)) || (decide (c0 0 < id1))) = true) := bne' hq2
      rw [if_neg hp2] at h
      refine xw_cond_f rfl rfl (xw_skip (xq_then (xw_seq (xw_region ?_))))
      refine xq rfl trivial (o_mv rfl) ?_
      refine xq rfl trivial (o_mv rfl) ?_
      refine xq rfl trivial (o_nilp rfl) ?_
      first | refine xq rfl trivial (o_fa0 fl61_1 rfl) ?_ | refine xq rfl trivial (o_fa fl61_1 rfl) ?_
      obtain ⟨ho3, h⟩ := h
      refine xq rfl trivial (o_ixa ea59 rfl rfl ho3 rfl) ?_
      refine xq rfl trivial (o_as rfl) ?_
      refine xq rfl trivial (o_as rfl) ?_
      refine xo_nil (xq_then (xw_ret ?_))
      refine con_ret2 (.inl rfl) Try.results24 rfl rfl _ (fun _ h => h) (?_)
      refine xq rfl trivial (o_mv rfl) ?_
      refine xq rfl trivial (o_ext rfl rfl) ?_
      refine xq rfl trivial (o_ext rfl rfl) ?_
      refine xq rfl trivial (o_as rfl) ?_
      refine xq rfl trivial (o_as rfl) ?_
      refine xo_nil (xq_then (xw_seq (xw_seq (xw_region ?_))))
      refine xq rfl trivial (o_mv rfl) ?_
      refine xq rfl trivial (o_nen Try.underlying27 rfl rfl rfl rfl) ?_
      refine xo_nil (xq_then (xw_cond_f rfl rfl (xw_skip (xq_then (xw_seq (xw_region ?_))))))
      refine xq rfl trivial (o_mv rfl) ?_
      refine xq rfl trivial (o_mv rfl) ?_
      refine xo rfl trivial (OT.st (fun _ h => h) (ot_callF (Cs := [[(p0, _)]]) (Rs := []) kf10 rfl (fun w1 hw1 => cof_c _ _ _ w1 (St.hasC hw1)) (fun _ _ _ h => h.1))) ?_
      rintro _ _ ⟨w1, _, rfl, hle, -, rfl, rfl⟩
      refine xo_st ((p0, BK 28 (mv (kPA 1 3 (kS [2])) c0) 61) :: ([])) (fun _ h => h) ?_
      refine xq rfl trivial (o_mv rfl) ?_
      refine xq rfl trivial (o_ext rfl rfl) ?_
      refine xq rfl trivial (o_ext rfl rfl) ?_
      refine xq rfl trivial (o_as rfl) ?_
      refine xq rfl trivial (o_as rfl) ?_
      refine xo_nil (xq_then (xw_seq ?_))
      refine xw_block ?_
      refine xw_seq ?_
      refine xw_cut [(2, _), (7, _), (10, _)] (lc rfl (lc rfl (lc rfl ln))) [(26, .bool ((decide (tx2 < 1)) || (decide (1048576 < tx2))))] ?_ ?_
      · refine xw_region ?_
        refine xq rfl trivial (o_mv rfl) ?_
        refine xq rfl trivial (o_lss rfl rfl) ?_
        refine xq rfl trivial (o_mv rfl) ?_
        refine xo_bool 29 rfl (fun hg6 => ?_) (fun hg6 => ?_)
        · have hq6 : (decide (tx2 < 1)) = true := hg6
          have hp6 : tx2 < 1 := of_decide_eq_true hq6
          refine xs rfl ⟨_, _, rfl, rfl, rfl⟩ (xs rfl ⟨_, _, rfl, rfl, rfl⟩ ?_)
          refine xq rfl trivial (o_pick_t rfl rfl) ?_
          refine xq rfl trivial (o_as rfl) ?_
          refine xo_nil ?_
          exact xq_cut ((lce rfl (by first | rfl | (simp only [hq2, hq6, if_neg hp2, if_pos hp6, bS]; done) | (simp only [hq2, hq6, if_neg hp2, if_pos hp6, bS, reduceIte, Bool.false_eq_true]; done) | (simp [hp2, hp6]; done) | (simp_all; done)) (lc rfl (lc rfl (lc rfl ln))))) (fun _ h => h)
        · have hq6 : (decide (tx2 < 1)) = false := hg6
          have hp6 : ¬ (tx2 < 1) := of_decide_eq_false hq6
          refine xq rfl ⟨_, rfl, rfl⟩ (o_mv rfl) ?_
          refine xq rfl ⟨_, rfl, rfl⟩ (o_gtr rfl rfl) ?_
          refine xq rfl trivial (o_pick_f rfl rfl) ?_
          refine xq rfl trivial (o_as rfl) ?_
          refine xo_nil ?_
          exact xq_cut ((lce rfl (by first | rfl | (simp only [hq2, hq6, if_neg hp2, if_neg hp6, bS]; done) | (simp only [hq2, hq6, if_neg hp2, if_neg hp6, bS, reduceIte, Bool.false_eq_true]; done) | (simp [hp2, hp6]; done) | (simp_all; done)) (lc rfl (lc rfl (lc rfl ln))))) (fun _ h => h)
      · refine xq_then ?_
        refine xw_bool 26 rfl (fun hc7 => ?_) (fun hc7 => ?_)
        · have hq7 : ((decide (tx2 < 1)) || (decide (1048576 < tx2))) = true := hc7
          have hp7 : ((decide (tx2 < 1)) || (decide (1048576 < tx2))) = true := hq7
          rw [if_pos hp7] at h
          refine xw_cond_t rfl rfl (xw_seq (xw_region ?_))
          refine xq rfl trivial (o_mki rfl Try.underlying56 rfl) ?_
          refine xq rfl trivial (o_as rfl) ?_
          refine xo_nil (xq_then (xw_ret (xq_blk_ret (xq_then_ret ?_))))
          subst h
          exact con_ret1 (.inl rfl) Try.results21 rfl (cat [[(p0, BK 28 (mv (kPA 1 3 (kS [2])) c0) 61)]]) (fun _ h => h) (⟨_, rfl, (Cov.cons Cov.nil), rfl, rfl⟩)
        · have hq7 : ((decide (tx2 < 1)) || (decide (1048576 < tx2))) = false := hc7
          have hp7 : ¬ (((decide (tx2 < 1)) || (decide (1048576 < tx2))) = true) := bne' hq7
          rw [if_neg hp7] at h
          refine xw_cond_f rfl rfl (xw_seq (xw_region ?_))
          refine xq rfl trivial (o_mv rfl) ?_
          refine xq rfl trivial (o_nilp rfl) ?_
          first | refine xq rfl trivial (o_fa0 fl58_2 rfl) ?_ | refine xq rfl trivial (o_fa fl58_2 rfl) ?_
          refine xq rfl trivial (o_ld (v := .bool (nz (c0 ((1 + (id1.toNat * 3)) + 2)))) rfl ts4 (List.Mem.head _) (by have := ho3; omega) (mv_b (kpaE (j := id1.toNat) (r := 2) (by omega) (by decide) rfl))) ?_
          refine xq rfl trivial (o_as rfl) ?_
          refine xo_nil (xq_then ?_)
          refine xw_bool 34 rfl (fun hc8 => ?_) (fun hc8 => ?_)
          · have hq8 : ((nz (c0 ((1 + (id1.toNat * 3)) + 2)))) = true := hc8
            have hp8 : ((nz (c0 ((1 + (id1.toNat * 3)) + 2)))) = true := hq8
            rw [if_pos hp8] at h
            refine xw_cond_t rfl rfl (xw_seq (xw_region ?_))
            refine xq rfl trivial (o_mki rfl Try.underlying56 rfl) ?_
            refine xq rfl trivial (o_as rfl) ?_
            refine xo_nil (xq_then (xw_ret (xq_blk_ret (xq_then_ret ?_))))
            subst h
            exact con_ret1 (.inl rfl) Try.results21 rfl (cat [[(p0, BK 28 (mv (kPA 1 3 (kS [2])) c0) 61)]]) (fun _ h => h) (⟨_, rfl, (Cov.cons Cov.nil), rfl, rfl⟩)
          · have hq8 : ((nz (c0 ((1 + (id1.toNat * 3)) + 2)))) = false := hc8
            have hp8 : ¬ (((nz (c0 ((1 + (id1.toNat * 3)) + 2)))) = true) := bne' hq8
            rw [if_neg hp8] at h
            refine xw_cond_f rfl rfl (xw_seq (xw_region ?_))
            refine xq rfl trivial (o_mv rfl) ?_
            refine xq rfl trivial (o_nilp rfl) ?_
            first | refine xq rfl trivial (o_fa0 fl58_0 rfl) ?_ | refine xq rfl trivial (o_fa fl58_0 rfl) ?_
            refine xq rfl trivial (o_ld (v := .int .i64 (c0 (1 + (id1.toNat * 3)))) rfl ts3 (List.Mem.head _) (by have := ho3; omega) (mv_i (kpaE (j := id1.toNat) (r := 0) (by omega) (by decide) rfl))) ?_
            refine xq rfl trivial (o_neq rfl rfl) ?_
            refine xq rfl trivial (o_as rfl) ?_
            refine xo_nil (xq_then ?_)
            refine xw_bool 40 rfl (fun hc9 => ?_) (fun hc9 => ?_)
            · have hq9 : (decide (c0 (1 + (id1.toNat * 3)) = 0)) = false := (bnT hc9)
              have hp9 : ¬ (c0 (1 + (id1.toNat * 3)) = 0) := of_decide_eq_false hq9
              rw [if_neg hp9] at h
              refine xw_cond_t rfl rfl (xw_seq (xw_region ?_))
              refine xq rfl trivial (o_mki rfl Try.underlying56 rfl) ?_
              refine xq rfl trivial (o_as rfl) ?_
              refine xo_nil (xq_then (xw_ret (xq_blk_ret (xq_then_ret ?_))))
              subst h
              exact con_ret1 (.inl rfl) Try.results21 rfl (cat [[(p0, BK 28 (mv (kPA 1 3 (kS [2])) c0) 61)]]) (fun _ h => h) (⟨_, rfl, (Cov.cons Cov.nil), rfl, rfl⟩)
            · have hq9 : (decide (c0 (1 + (id1.toNat * 3)) = 0)) = true := (bnF hc9)
              have hp9 : c0 (1 + (id1.toNat * 3)) = 0 := of_decide_eq_true hq9
              rw [if_pos hp9] at h
              refine xw_cond_f rfl rfl (xw_seq (xw_region ?_))
              refine xq rfl trivial (o_mv rfl) ?_
              refine xq rfl trivial (o_mki rfl Try.underlying56 rfl) ?_
              obtain ⟨ho10, h⟩ := h
              refine xcallq rfl trivial kf25 rfl (fun w1 hw1 => errIs_c2 _ 10 w1 ho10) ?_
              refine xq rfl trivial (o_not rfl) ?_
              refine xq rfl trivial (o_as rfl) ?_
              refine xo_nil (xq_then ?_)
              refine xw_bool 47 rfl (fun hc11 => ?_) (fun hc11 => ?_)
              · have hq11 : ((errIs_F ((cof_F c0 tx2).2) 10)) = false := (bnT hc11)
                have hp11 : ¬ (((errIs_F ((cof_F c0 tx2).2) 10)) = true) := bne' hq11
                rw [if_neg hp11] at h
                refine xw_cond_t rfl rfl (xw_seq (xw_region ?_))
                refine xq rfl trivial (o_mki rfl Try.underlying56 rfl) ?_
                refine xq rfl trivial (o_as rfl) ?_
                refine xo_nil (xq_then (xw_ret (xq_blk_ret (xq_then_ret ?_))))
                subst h
                exact con_ret1 (.inl rfl) Try.results21 rfl (cat [[(p0, BK 28 (mv (kPA 1 3 (kS [2])) c0) 61)]]) (fun _ h => h) (⟨_, rfl, (Cov.cons Cov.nil), rfl, rfl⟩)
              · have hq11 : ((errIs_F ((cof_F c0 tx2).2) 10)) = true := (bnF hc11)
                have hp11 : ((errIs_F ((cof_F c0 tx2).2) 10)) = true := hq11
                rw [if_pos hp11] at h
                refine xw_cond_f rfl rfl (xw_skip ?_)
                refine xq_blk 0 ?_
                refine xq_then (xw_seq (xw_region ?_))
                refine xq rfl trivial (o_mv rfl) ?_
                refine xq rfl trivial (o_mv rfl) ?_
                refine xq rfl trivial (o_nilp rfl) ?_
                first | refine xq rfl trivial (o_fa0 fl58_0 rfl) ?_ | refine xq rfl trivial (o_fa fl58_0 rfl) ?_
                refine xq0 trivial (o_stMI rfl rfl ts3 (List.Mem.head _) (by have := ho3; omega) (kpaE (j := id1.toNat) (r := 0) (by omega) (by decide) rfl) (.here _ _ _ _)) ?_
                refine xo_nil (xq_then (xw_seq (xw_region ?_)))
                refine xq rfl trivial (o_as rfl) ?_
                refine xo_nil (xq_then (xw_ret ?_))
                subst h
                exact con_ret1 (.inl rfl) Try.results21 rfl (cat [[(p0, BK 28 (mv (kPA 1 3 (kS [2])) (updI c0 (1 + (id1.toNat * 3)) tx2)) 61)]]) (fun _ h => h) (⟨_, rfl, (Cov.cons Cov.nil), rfl, rfl⟩)

theorem cbegin_c (c0 : (Nat → Int)) (id1 : Int) (tx2 : Int) (p0 : Nat) (w : World) (hC : Has w (cat [[(p0, BK 28 (mv (kPA 1 3 (kS [2])) c0) 61)]])) (hP : cbegin_P c0 id1 tx2) : Con Try.prog 21 #[.pointer (some ⟨p0, 0, none⟩), .int .i64 id1, .int .i64 tx2] w (CatG fun v Ls => Cov w (cat [[(p0, BK 28 (mv (kPA 1 3 (kS [2])) c0) 61)]]) (cat Ls) ∧ v = errV 56 ((cbegin_F c0 id1 tx2).1) ∧ Ls = [[(p0, BK 28 (mv (kPA 1 3 (kS [2])) ((cbegin_F c0 id1 tx2).2)) 61)]]) :=
  cbegin_con c0 id1 tx2 p0 w hC _ (cbegin_ok c0 id1 tx2 hP)

theorem cend_con (c0 : (Nat → Int)) (tx1 : Int) (p0 : Nat) (w : World) (hC : Has w (cat [[(p0, BK 28 (mv (kPA 1 3 (kS [2])) c0) 61)]])) (r : Int × (Nat → Int)) (h : cend_S c0 tx1 r) : Con Try.prog 12 #[.pointer (some ⟨p0, 0, none⟩), .int .i64 tx1] w (CatG fun v Ls => Cov w (cat [[(p0, BK 28 (mv (kPA 1 3 (kS [2])) c0) 61)]]) (cat Ls) ∧ v = errV 56 r.1 ∧ Ls = [[(p0, BK 28 (mv (kPA 1 3 (kS [2])) r.2) 61)]]) := by
  unfold cend_S at h
  refine con_enter (n := 22) [(0, _), (1, _)] Try.func12 rfl Try.ntmps12 rfl (lac rfl (lac rfl lan)) ?_
  refine xw_has hC ?_
  refine xw_st ((p0, BK 28 (mv (kPA 1 3 (kS [2])) c0) 61) :: ([])) (fun _ h => h) ?_
  refine xw_seq (xw_region ?_)
  refine xq rfl trivial (o_as rfl) ?_
  refine xo_nil (xq_then (xw_seq (xw_region ?_)))
  refine xq rfl trivial (o_mv rfl) ?_
  refine xq rfl trivial (o_mv rfl) ?_
  refine xo rfl trivial (OT.st (fun _ h => h) (ot_callF (Cs := [[(p0, _)]]) (Rs := []) kf10 rfl (fun w1 hw1 => cof_c _ _ _ w1 (St.hasC hw1)) (fun _ _ _ h => h.1))) ?_
  rintro _ _ ⟨w1, _, rfl, hle, -, rfl, rfl⟩
  refine xo_st ((p0, BK 28 (mv (kPA 1 3 (kS [2])) c0) 61) :: ([])) (fun _ h => h) ?_
  refine xq rfl trivial (o_mv rfl) ?_
  refine xq rfl trivial (o_ext rfl rfl) ?_
  refine xq rfl trivial (o_ext rfl rfl) ?_
  refine xq rfl trivial (o_as rfl) ?_
  refine xq rfl trivial (o_as rfl) ?_
  refine xo_nil (xq_then (xw_seq (xw_seq (xw_region ?_))))
  refine xq rfl trivial (o_mv rfl) ?_
  refine xq rfl trivial (o_neE Try.underlying27 rfl (fun _ => rfl) rfl rfl) ?_
  refine xo_nil (xq_then ?_)
  refine xw_bool 14 rfl (fun hc3 => ?_) (fun hc3 => ?_)
  · have hq3 : (decide ((cof_F c0 tx1).2 = 0)) = false := (bnT hc3)
    have hp3 : ¬ ((cof_F c0 tx1).2 = 0) := of_decide_eq_false hq3
    rw [if_neg hp3] at h
    refine xw_cond_t rfl rfl (xw_seq (xw_region ?_))
    refine xq rfl trivial (o_mv rfl) ?_
    refine xq rfl trivial (o_as rfl) ?_
    refine xo_nil (xq_then (xw_ret (xq_then_ret ?_)))
    subst h
    exact con_ret1 (.inl rfl) Try.results12 rfl (cat [[(p0, BK 28 (mv (kPA 1 3 (kS [2])) c0) 61)]]) (fun _ h => h) (⟨_, rfl, (Cov.cons Cov.nil), rfl, rfl⟩)
  · have hq3 : (decide ((cof_F c0 tx1).2 = 0)) = true := (bnF hc3)
    have hp3 : (cof_F c0 tx1).2 = 0 := of_decide_eq_true hq3
    rw [if_pos hp3] at h
    refine xw_cond_f rfl rfl (xw_skip (xq_then (xw_seq (xw_region ?_))))
    refine xq rfl trivial (o_mv rfl) ?_
    refine xq rfl trivial (o_mv rfl) ?_
    refine xq rfl trivial (o_nilp rfl) ?_
    first | refine xq rfl trivial (o_fa0 fl61_1 rfl) ?_ | refine xq rfl trivial (o_fa fl61_1 rfl) ?_
    obtain ⟨ho4, h⟩ := h
    refine xq rfl trivial (o_ixa ea59 rfl rfl ho4 rfl) ?_
    first | refine xq rfl trivial (o_fa0 fl58_0 rfl) ?_ | refine xq rfl trivial (o_fa fl58_0 rfl) ?_
    refine xq0 trivial (o_stMI rfl rfl ts3 (List.Mem.head _) (by have := ho4; omega) (kpaE (j := (((cof_F c0 tx1).1).toNat)) (r := 0) (by omega) (by decide) rfl) (.here _ _ _ _)) ?_
    refine xo_nil (xq_then (xw_seq (xw_region ?_)))
    refine xq rfl trivial (o_as rfl) ?_
    refine xo_nil (xq_then (xw_ret ?_))
    subst h
    exact con_ret1 (.inl rfl) Try.results12 rfl (cat [[(p0, BK 28 (mv (kPA 1 3 (kS [2])) (updI c0 (1 + (((cof_F c0 tx1).1).toNat * 3)) 0)) 61)]]) (fun _ h => h) (⟨_, rfl, (Cov.cons Cov.nil), rfl, rfl⟩)

theorem cend_c (c0 : (Nat → Int)) (tx1 : Int) (p0 : Nat) (w : World) (hC : Has w (cat [[(p0, BK 28 (mv (kPA 1 3 (kS [2])) c0) 61)]])) (hP : cend_P c0 tx1) : Con Try.prog 12 #[.pointer (some ⟨p0, 0, none⟩), .int .i64 tx1] w (CatG fun v Ls => Cov w (cat [[(p0, BK 28 (mv (kPA 1 3 (kS [2])) c0) 61)]]) (cat Ls) ∧ v = errV 56 ((cend_F c0 tx1).1) ∧ Ls = [[(p0, BK 28 (mv (kPA 1 3 (kS [2])) ((cend_F c0 tx1).2)) 61)]]) :=
  cend_con c0 tx1 p0 w hC _ (cend_ok c0 tx1 hP)

theorem cnow_con (c0 : (Nat → Int)) (id1 : Int) (p0 : Nat) (w : World) (hC : Has w (cat [[(p0, BK 28 (mv (kPA 1 3 (kS [2])) c0) 61)]])) (r : Int × Int) (h : cnow_S c0 id1 r) : Con Try.prog 19 #[.pointer (some ⟨p0, 0, none⟩), .int .i64 id1] w (CatG fun v Ls => Cov w (cat [[(p0, BK 28 (mv (kPA 1 3 (kS [2])) c0) 61)]]) (cat Ls) ∧ v = .tuple #[.int .i64 r.1, errV 56 r.2] ∧ Ls = [[(p0, BK 28 (mv (kPA 1 3 (kS [2])) c0) 61)]]) := by
  unfold cnow_S at h
  refine con_enter (n := 27) [(0, _), (1, _)] Try.func19 rfl Try.ntmps19 rfl (lac rfl (lac rfl lan)) ?_
  refine xw_has hC ?_
  refine xw_st ((p0, BK 28 (mv (kPA 1 3 (kS [2])) c0) 61) :: ([])) (fun _ h => h) ?_
  refine xw_seq (xw_region ?_)
  refine xq rfl trivial (o_as rfl) ?_
  refine xq rfl trivial (o_as rfl) ?_
  refine xo_nil (xq_then (xw_seq (xw_region ?_)))
  refine xq rfl trivial (o_mv rfl) ?_
  refine xq rfl trivial (o_mv rfl) ?_
  refine xoR rfl trivial (ot_in (l := [(0, _), (1, _)]) kf24 rfl Try.func24 rfl Try.ntmps24 rfl (lac rfl (lac rfl lan)) ?_)
  refine xw_seq (xw_region ?_)
  refine xq rfl trivial (o_as rfl) ?_
  refine xq rfl trivial (o_as rfl) ?_
  refine xo_nil (xq_then (xw_seq (xw_seq (xw_region ?_))))
  refine xq rfl trivial (o_mv rfl) ?_
  refine xq rfl trivial (o_eqn Try.underlying25 rfl rfl rfl rfl) ?_
  refine xo_nil (xq_then (xw_cond_f rfl rfl (xw_skip (xq_then (xw_seq (xw_seq ?_))))))
  refine xw_cut [(0, _), (1, _)] (lc rfl (lc rfl ln)) [(18, .bool ((decide (id1 < 1)) || (decide (c0 0 < id1))))] ?_ ?_
  · refine xw_region ?_
    refine xq rfl trivial (o_mv rfl) ?_
    refine xq rfl trivial (o_lss rfl rfl) ?_
    refine xq rfl trivial (o_mv rfl) ?_
    refine xo_bool 11 rfl (fun hg1 => ?_) (fun hg1 => ?_)
    · have hq1 : (decide (id1 < 1)) = true := hg1
      have hp1 : id1 < 1 := of_decide_eq_true hq1
      refine xs rfl ⟨_, _, rfl, rfl, rfl⟩ (xs rfl ⟨_, _, rfl, rfl, rfl⟩ (xs rfl ⟨_, _, rfl, rfl, rfl⟩ (xs rfl ⟨_, _, rfl, rfl, rfl⟩ (xs rfl ⟨_, _, rfl, rfl, rfl⟩ (xs rfl ⟨_, _, rfl, rfl, rfl⟩ ?_)))))
      refine xq rfl trivial (o_pick_t rfl rfl) ?_
      refine xo_nil ?_
      exact xq_cut ((lce rfl (by first | rfl | (simp only [hq1, if_pos hp1, bS]; done) | (simp only [hq1, if_pos hp1, bS, reduceIte, Bool.false_eq_true]; done) | (simp [hp1]; done) | (simp_all; done)) (lc rfl (lc rfl ln)))) (fun _ h => h)
    · have hq1 : (decide (id1 < 1)) = false := hg1
      have hp1 : ¬ (id1 < 1) := of_decide_eq_false hq1
      refine xq rfl ⟨_, rfl, rfl⟩ (o_mv rfl) ?_
      refine xq rfl ⟨_, rfl, rfl⟩ (o_mv rfl) ?_
      refine xq rfl ⟨_, rfl, rfl⟩ (o_nilp rfl) ?_
      first | refine xq rfl ⟨_, rfl, rfl⟩ (o_fa0 fl61_0 rfl) ?_ | refine xq rfl ⟨_, rfl, rfl⟩ (o_fa fl61_0 rfl) ?_
      refine xq rfl ⟨_, rfl, rfl⟩ (o_ld (v := .int .i64 (c0 0)) rfl ts3 (List.Mem.head _) (by omega) (mv_i rfl)) ?_
      refine xq rfl ⟨_, rfl, rfl⟩ (o_gtr rfl rfl) ?_
      refine xq rfl trivial (o_pick_f rfl rfl) ?_
      refine xo_nil ?_
      exact xq_cut ((lce rfl (by first | rfl | (simp only [hq1, if_neg hp1, bS]; done) | (simp only [hq1, if_neg hp1, bS, reduceIte, Bool.false_eq_true]; done) | (simp [hp1]; done) | (simp_all; done)) (lc rfl (lc rfl ln)))) (fun _ h => h)
  · refine xq_then ?_
    refine xw_bool 18 rfl (fun hc2 => ?_) (fun hc2 => ?_)
    · have hq2 : ((decide (id1 < 1)) || (decide (c0 0 < id1))) = true := hc2
      have hp2 : ((decide (id1 < 1)) || (decide (c0 0 < id1))) = true := hq2
      rw [if_pos hp2] at h
      refine xw_cond_t rfl rfl (xw_seq (xw_region ?_))
      refine xq rfl trivial (o_mki rfl Try.underlying56 rfl) ?_
      refine xq rfl trivial (o_as rfl) ?_
      refine xq rfl trivial (o_as rfl) ?_
      refine xo_nil (xq_then (xw_ret (xq_then_ret ?_)))
      refine con_ret2 (.inl rfl) Try.results24 rfl rfl _ (fun _ h => h) (?_)
      refine xq rfl trivial (o_mv rfl) ?_
      refine xq rfl trivial (o_ext rfl rfl) ?_
      refine xq rfl trivial (o_ext rfl rfl) ?_
      refine xq rfl trivial (o_as rfl) ?_
      refine xq rfl trivial (o_as rfl) ?_
      refine xo_nil (xq_then (xw_seq (xw_seq (xw_region ?_))))
      refine xq rfl trivial (o_mv rfl) ?_
      refine xq rfl trivial (o_nen Try.underlying27 rfl rfl rfl rfl) ?_
      refine xo_nil (xq_then (xw_cond_t rfl rfl (xw_seq (xw_region ?_))))
      refine xq rfl trivial (o_mv rfl) ?_
      refine xq rfl trivial (o_as rfl) ?_
      refine xq rfl trivial (o_as rfl) ?_
      refine xo_nil (xq_then (xw_ret (xq_then_ret ?_)))
      subst h
      exact con_ret2 (.inl rfl) Try.results19 rfl rfl (cat [[(p0, BK 28 (mv (kPA 1 3 (kS [2])) c0) 61)]]) (fun _ h => h) (⟨_, rfl, (Cov.cons Cov.nil), rfl, rfl⟩)
    · have hq2 : ((decide (id1 < 1)) || (decide (c0 0 < id1))) = false := hc2
      have hp2 : ¬ (((decide (id1 < 1)) || (decide (c0 0 < id1))) = true) := bne' hq2
      rw [if_neg hp2] at h
      refine xw_cond_f rfl rfl (xw_skip (xq_then (xw_seq (xw_region ?_))))
      refine xq rfl trivial (o_mv rfl) ?_
      refine xq rfl trivial (o_mv rfl) ?_
      refine xq rfl trivial (o_nilp rfl) ?_
      first | refine xq rfl trivial (o_fa0 fl61_1 rfl) ?_ | refine xq rfl trivial (o_fa fl61_1 rfl) ?_
      obtain ⟨ho3, h⟩ := h
      refine xq rfl trivial (o_ixa ea59 rfl rfl ho3 rfl) ?_
      refine xq rfl trivial (o_as rfl) ?_
      refine xq rfl trivial (o_as rfl) ?_
      refine xo_nil (xq_then (xw_ret ?_))
      refine con_ret2 (.inl rfl) Try.results24 rfl rfl _ (fun _ h => h) (?_)
      refine xq rfl trivial (o_mv rfl) ?_
      refine xq rfl trivial (o_ext rfl rfl) ?_
      refine xq rfl trivial (o_ext rfl rfl) ?_
      refine xq rfl trivial (o_as rfl) ?_
      refine xq rfl trivial (o_as rfl) ?_
      refine xo_nil (xq_then (xw_seq (xw_seq (xw_region ?_))))
      refine xq rfl trivial (o_mv rfl) ?_
      refine xq rfl trivial (o_nen Try.underlying27 rfl rfl rfl rfl) ?_
      refine xo_nil (xq_then (xw_cond_f rfl rfl (xw_skip (xq_then (xw_seq (xw_seq (xw_region ?_)))))))
      refine xq rfl trivial (o_mv rfl) ?_
      refine xq rfl trivial (o_nilp rfl) ?_
      first | refine xq rfl trivial (o_fa0 fl58_0 rfl) ?_ | refine xq rfl trivial (o_fa fl58_0 rfl) ?_
      refine xq rfl trivial (o_ld (v := .int .i64 (c0 (1 + (id1.toNat * 3)))) rfl ts3 (List.Mem.head _) (by have := ho3; omega) (mv_i (kpaE (j := id1.toNat) (r := 0) (by omega) (by decide) rfl))) ?_
      refine xq rfl trivial (o_eql rfl rfl) ?_
      refine xo_nil (xq_then ?_)
      refine xw_bool 21 rfl (fun hc4 => ?_) (fun hc4 => ?_)
      · have hq4 : (decide (c0 (1 + (id1.toNat * 3)) = 0)) = true := hc4
        have hp4 : c0 (1 + (id1.toNat * 3)) = 0 := of_decide_eq_true hq4
        rw [if_pos hp4] at h
        refine xw_cond_t rfl rfl (xw_seq (xw_region ?_))
        refine xq rfl trivial (o_mki rfl Try.underlying56 rfl) ?_
        refine xq rfl trivial (o_as rfl) ?_
        refine xq rfl trivial (o_as rfl) ?_
        refine xo_nil (xq_then (xw_ret (xq_then_ret ?_)))
        subst h
        exact con_ret2 (.inl rfl) Try.results19 rfl rfl (cat [[(p0, BK 28 (mv (kPA 1 3 (kS [2])) c0) 61)]]) (fun _ h => h) (⟨_, rfl, (Cov.cons Cov.nil), rfl, rfl⟩)
      · have hq4 : (decide (c0 (1 + (id1.toNat * 3)) = 0)) = false := hc4
        have hp4 : ¬ (c0 (1 + (id1.toNat * 3)) = 0) := of_decide_eq_false hq4
        rw [if_neg hp4] at h
        refine xw_cond_f rfl rfl (xw_skip (xq_then (xw_seq (xw_region ?_))))
        refine xq rfl trivial (o_mv rfl) ?_
        refine xq rfl trivial (o_nilp rfl) ?_
        first | refine xq rfl trivial (o_fa0 fl58_0 rfl) ?_ | refine xq rfl trivial (o_fa fl58_0 rfl) ?_
        refine xq rfl trivial (o_ld (v := .int .i64 (c0 (1 + (id1.toNat * 3)))) rfl ts3 (List.Mem.head _) (by have := ho3; omega) (mv_i (kpaE (j := id1.toNat) (r := 0) (by omega) (by decide) rfl))) ?_
        refine xq rfl trivial (o_as rfl) ?_
        refine xq rfl trivial (o_as rfl) ?_
        refine xo_nil (xq_then (xw_ret ?_))
        subst h
        exact con_ret2 (.inl rfl) Try.results19 rfl rfl (cat [[(p0, BK 28 (mv (kPA 1 3 (kS [2])) c0) 61)]]) (fun _ h => h) (⟨_, rfl, (Cov.cons Cov.nil), rfl, rfl⟩)

theorem cnow_c (c0 : (Nat → Int)) (id1 : Int) (p0 : Nat) (w : World) (hC : Has w (cat [[(p0, BK 28 (mv (kPA 1 3 (kS [2])) c0) 61)]])) (hP : cnow_P c0 id1) : Con Try.prog 19 #[.pointer (some ⟨p0, 0, none⟩), .int .i64 id1] w (CatG fun v Ls => Cov w (cat [[(p0, BK 28 (mv (kPA 1 3 (kS [2])) c0) 61)]]) (cat Ls) ∧ v = .tuple #[.int .i64 ((cnow_F c0 id1).1), errV 56 ((cnow_F c0 id1).2)] ∧ Ls = [[(p0, BK 28 (mv (kPA 1 3 (kS [2])) c0) 61)]]) :=
  cnow_con c0 id1 p0 w hC _ (cnow_ok c0 id1 hP)

theorem ccrash_con (c0 : (Nat → Int)) (id1 : Int) (now2 : Int) (p0 : Nat) (w : World) (hC : Has w (cat [[(p0, BK 28 (mv (kPA 1 3 (kS [2])) c0) 61)]])) (r : Int × (Nat → Int)) (h : ccrash_S c0 id1 now2 r) : Con Try.prog 22 #[.pointer (some ⟨p0, 0, none⟩), .int .i64 id1, .int .i64 now2] w (CatG fun v Ls => Cov w (cat [[(p0, BK 28 (mv (kPA 1 3 (kS [2])) c0) 61)]]) (cat Ls) ∧ v = errV 56 r.1 ∧ Ls = [[(p0, BK 28 (mv (kPA 1 3 (kS [2])) r.2) 61)]]) := by
  unfold ccrash_S at h
  refine con_enter (n := 40) [(0, _), (1, _), (2, _)] Try.func22 rfl Try.ntmps22 rfl (lac rfl (lac rfl (lac rfl lan))) ?_
  refine xw_has hC ?_
  refine xw_st ((p0, BK 28 (mv (kPA 1 3 (kS [2])) c0) 61) :: ([])) (fun _ h => h) ?_
  refine xw_seq (xw_region ?_)
  refine xq rfl trivial (o_as rfl) ?_
  refine xo_nil (xq_then (xw_seq (xw_region ?_)))
  refine xq rfl trivial (o_mv rfl) ?_
  refine xq rfl trivial (o_mv rfl) ?_
  refine xoR rfl trivial (ot_in (l := [(0, _), (1, _)]) kf24 rfl Try.func24 rfl Try.ntmps24 rfl (lac rfl (lac rfl lan)) ?_)
  refine xw_seq (xw_region ?_)
  refine xq rfl trivial (o_as rfl) ?_
  refine xq rfl trivial (o_as rfl) ?_
  refine xo_nil (xq_then (xw_seq (xw_seq (xw_region ?_))))
  refine xq rfl trivial (o_mv rfl) ?_
  refine xq rfl trivial (o_eqn Try.underlying25 rfl rfl rfl rfl) ?_
  refine xo_nil (xq_then (xw_cond_f rfl rfl (xw_skip (xq_then (xw_seq (xw_seq ?_))))))
  refine xw_cut [(0, _), (1, _)] (lc rfl (lc rfl ln)) [(18, .bool ((decide (id1 < 1)) || (decide (c0 0 < id1))))] ?_ ?_
  · refine xw_region ?_
    refine xq rfl trivial (o_mv rfl) ?_
    refine xq rfl trivial (o_lss rfl rfl) ?_
    refine xq rfl trivial (o_mv rfl) ?_
    refine xo_bool 11 rfl (fun hg1 => ?_) (fun hg1 => ?_)
    · have hq1 : (decide (id1 < 1)) = true := hg1
      have hp1 : id1 < 1 := of_decide_eq_true hq1
      refine xs rfl ⟨_, _, rfl, rfl, rfl⟩ (xs rfl ⟨_, _, rfl, rfl, rfl⟩ (xs rfl ⟨_, _, rfl, rfl, rfl⟩ (xs rfl ⟨_, _, rfl, rfl, rfl⟩ (xs rfl ⟨_, _, rfl, rfl, rfl⟩ (xs rfl ⟨_, _, rfl, rfl, rfl⟩ ?_)))))
      refine xq rfl trivial (o_pick_t rfl rfl) ?_
      refine xo_nil ?_
      exact xq_cut ((lce rfl (by first | rfl | (simp only [hq1, if_pos hp1, bS]; done) | (simp only [hq1, if_pos hp1, bS, reduceIte, Bool.false_eq_true]; done) | (simp [hp1]; done) | (simp_all; done)) (lc rfl (lc rfl ln)))) (fun _ h => h)
    · have hq1 : (decide (id1 < 1)) = false := hg1
      have hp1 : ¬ (id1 < 1) := of_decide_eq_false hq1
      refine xq rfl ⟨_, rfl, rfl⟩ (o_mv rfl) ?_
      refine xq rfl ⟨_, rfl, rfl⟩ (o_mv rfl) ?_
      refine xq rfl ⟨_, rfl, rfl⟩ (o_nilp rfl) ?_
      first | refine xq rfl ⟨_, rfl, rfl⟩ (o_fa0 fl61_0 rfl) ?_ | refine xq rfl ⟨_, rfl, rfl⟩ (o_fa fl61_0 rfl) ?_
      refine xq rfl ⟨_, rfl, rfl⟩ (o_ld (v := .int .i64 (c0 0)) rfl ts3 (List.Mem.head _) (by omega) (mv_i rfl)) ?_
      refine xq rfl ⟨_, rfl, rfl⟩ (o_gtr rfl rfl) ?_
      refine xq rfl trivial (o_pick_f rfl rfl) ?_
      refine xo_nil ?_
      exact xq_cut ((lce rfl (by first | rfl | (simp only [hq1, if_neg hp1, bS]; done) | (simp only [hq1, if_neg hp1, bS, reduceIte, Bool.false_eq_true]; done) | (simp [hp1]; done) | (simp_all; done)) (lc rfl (lc rfl ln)))) (fun _ h => h)
  · refine xq_then ?_
    refine xw_bool 18 rfl (fun hc2 => ?_) (fun hc2 => ?_)
    · have hq2 : ((decide (id1 < 1)) || (decide (c0 0 < id1))) = true := hc2
      have hp2 : ((decide (id1 < 1)) || (decide (c0 0 < id1))) = true := hq2
      rw [if_pos hp2] at h
      refine xw_cond_t rfl rfl (xw_seq (xw_region ?_))
      refine xq rfl trivial (o_mki rfl Try.underlying56 rfl) ?_
      refine xq rfl trivial (o_as rfl) ?_
      refine xq rfl trivial (o_as rfl) ?_
      refine xo_nil (xq_then (xw_ret (xq_then_ret ?_)))
      refine con_ret2 (.inl rfl) Try.results24 rfl rfl _ (fun _ h => h) (?_)
      refine xq rfl trivial (o_mv rfl) ?_
      refine xq rfl trivial (o_ext rfl rfl) ?_
      refine xq rfl trivial (o_ext rfl rfl) ?_
      refine xq rfl trivial (o_as rfl) ?_
      refine xq rfl trivial (o_as rfl) ?_
      refine xo_nil (xq_then (xw_seq ?_))
      refine xw_block ?_
      refine xw_seq (xw_region ?_)
      refine xq rfl trivial (o_mv rfl) ?_
      refine xq rfl trivial (o_nen Try.underlying27 rfl rfl rfl rfl) ?_
      refine xq rfl trivial (o_as rfl) ?_
      refine xo_nil (xq_then (xw_cond_t rfl rfl (xw_seq (xw_region ?_))))
      refine xq rfl trivial (o_mv rfl) ?_
      refine xq rfl trivial (o_as rfl) ?_
      refine xo_nil (xq_then (xw_ret (xq_blk_ret (xq_then_ret ?_))))
      subst h
      exact con_ret1 (.inl rfl) Try.results22 rfl (cat [[(p0, BK 28 (mv (kPA 1 3 (kS [2])) c0) 61)]]) (fun _ h => h) (⟨_, rfl, (Cov.cons Cov.nil), rfl, rfl⟩)
    · have hq2 : ((decide (id1 < 1)) || (decide (c0 0 < id1))) = false := hc2
      have hp2 : ¬ (((decide (id1 < 1)) || (decide (c0 0 < id1))) = true) := bne' hq2
      rw [if_neg hp2] at h
      refine xw_cond_f rfl rfl (xw_skip (xq_then (xw_seq (xw_region ?_))))
      refine xq rfl trivial (o_mv rfl) ?_
      refine xq rfl trivial (o_mv rfl) ?_
      refine xq rfl trivial (o_nilp rfl) ?_
      first | refine xq rfl trivial (o_fa0 fl61_1 rfl) ?_ | refine xq rfl trivial (o_fa fl61_1 rfl) ?_
      obtain ⟨ho3, h⟩ := h
      refine xq rfl trivial (o_ixa ea59 rfl rfl ho3 rfl) ?_
      refine xq rfl trivial (o_as rfl) ?_
      refine xq rfl trivial (o_as rfl) ?_
      refine xo_nil (xq_then (xw_ret ?_))
      refine con_ret2 (.inl rfl) Try.results24 rfl rfl _ (fun _ h => h) (?_)
      refine xq rfl trivial (o_mv rfl) ?_
      refine xq rfl trivial (o_ext rfl rfl) ?_
      refine xq rfl trivial (o_ext rfl rfl) ?_
      refine xq rfl trivial (o_as rfl) ?_
      refine xq rfl trivial (o_as rfl) ?_
      refine xo_nil (xq_then (xw_seq ?_))
      refine xw_block ?_
      refine xw_seq (xw_region ?_)
      refine xq rfl trivial (o_mv rfl) ?_
      refine xq rfl trivial (o_nen Try.underlying27 rfl rfl rfl rfl) ?_
      refine xq rfl trivial (o_as rfl) ?_
      refine xo_nil (xq_then (xw_cond_f rfl rfl (xw_seq ?_)))
      refine xw_cut [(2, _), (7, _)] (lc rfl (lc rfl ln)) [(19, .bool ((decide (now2 < 0)) || (decide (1099511627776 < now2))))] ?_ ?_
      · refine xw_region ?_
        refine xq rfl trivial (o_mv rfl) ?_
        refine xq rfl trivial (o_lss rfl rfl) ?_
        refine xq rfl trivial (o_mv rfl) ?_
        refine xo_bool 22 rfl (fun hg4 => ?_) (fun hg4 => ?_)
        · have hq4 : (decide (now2 < 0)) = true := hg4
          have hp4 : now2 < 0 := of_decide_eq_true hq4
          refine xs rfl ⟨_, _, rfl, rfl, rfl⟩ (xs rfl ⟨_, _, rfl, rfl, rfl⟩ ?_)
          refine xq rfl trivial (o_pick_t rfl rfl) ?_
          refine xq rfl trivial (o_as rfl) ?_
          refine xo_nil ?_
          exact xq_cut ((lce rfl (by first | rfl | (simp only [hq2, hq4, if_neg hp2, if_pos hp4, bS]; done) | (simp only [hq2, hq4, if_neg hp2, if_pos hp4, bS, reduceIte, Bool.false_eq_true]; done) | (simp [hp2, hp4]; done) | (simp_all; done)) (lc rfl (lc rfl ln)))) (fun _ h => h)
        · have hq4 : (decide (now2 < 0)) = false := hg4
          have hp4 : ¬ (now2 < 0) := of_decide_eq_false hq4
          refine xq rfl ⟨_, rfl, rfl⟩ (o_mv rfl) ?_
          refine xq rfl ⟨_, rfl, rfl⟩ (o_gtr rfl rfl) ?_
          refine xq rfl trivial (o_pick_f rfl rfl) ?_
          refine xq rfl trivial (o_as rfl) ?_
          refine xo_nil ?_
          exact xq_cut ((lce rfl (by first | rfl | (simp only [hq2, hq4, if_neg hp2, if_neg hp4, bS]; done) | (simp only [hq2, hq4, if_neg hp2, if_neg hp4, bS, reduceIte, Bool.false_eq_true]; done) | (simp [hp2, hp4]; done) | (simp_all; done)) (lc rfl (lc rfl ln)))) (fun _ h => h)
      · refine xq_then ?_
        refine xw_bool 19 rfl (fun hc5 => ?_) (fun hc5 => ?_)
        · have hq5 : ((decide (now2 < 0)) || (decide (1099511627776 < now2))) = true := hc5
          have hp5 : ((decide (now2 < 0)) || (decide (1099511627776 < now2))) = true := hq5
          rw [if_pos hp5] at h
          refine xw_cond_t rfl rfl (xw_seq (xw_region ?_))
          refine xq rfl trivial (o_mki rfl Try.underlying56 rfl) ?_
          refine xq rfl trivial (o_as rfl) ?_
          refine xo_nil (xq_then (xw_ret (xq_blk_ret (xq_then_ret ?_))))
          subst h
          exact con_ret1 (.inl rfl) Try.results22 rfl (cat [[(p0, BK 28 (mv (kPA 1 3 (kS [2])) c0) 61)]]) (fun _ h => h) (⟨_, rfl, (Cov.cons Cov.nil), rfl, rfl⟩)
        · have hq5 : ((decide (now2 < 0)) || (decide (1099511627776 < now2))) = false := hc5
          have hp5 : ¬ (((decide (now2 < 0)) || (decide (1099511627776 < now2))) = true) := bne' hq5
          rw [if_neg hp5] at h
          refine xw_cond_f rfl rfl (xw_seq (xw_region ?_))
          refine xq rfl trivial (o_mv rfl) ?_
          refine xq rfl trivial (o_nilp rfl) ?_
          first | refine xq rfl trivial (o_fa0 fl58_2 rfl) ?_ | refine xq rfl trivial (o_fa fl58_2 rfl) ?_
          refine xq rfl trivial (o_ld (v := .bool (nz (c0 ((1 + (id1.toNat * 3)) + 2)))) rfl ts4 (List.Mem.head _) (by have := ho3; omega) (mv_b (kpaE (j := id1.toNat) (r := 2) (by omega) (by decide) rfl))) ?_
          refine xq rfl trivial (o_as rfl) ?_
          refine xo_nil (xq_then ?_)
          refine xw_bool 27 rfl (fun hc6 => ?_) (fun hc6 => ?_)
          · have hq6 : ((nz (c0 ((1 + (id1.toNat * 3)) + 2)))) = true := hc6
            have hp6 : ((nz (c0 ((1 + (id1.toNat * 3)) + 2)))) = true := hq6
            rw [if_pos hp6] at h
            refine xw_cond_t rfl rfl (xw_seq (xw_region ?_))
            refine xq rfl trivial (o_mki rfl Try.underlying56 rfl) ?_
            refine xq rfl trivial (o_as rfl) ?_
            refine xo_nil (xq_then (xw_ret (xq_blk_ret (xq_then_ret ?_))))
            subst h
            exact con_ret1 (.inl rfl) Try.results22 rfl (cat [[(p0, BK 28 (mv (kPA 1 3 (kS [2])) c0) 61)]]) (fun _ h => h) (⟨_, rfl, (Cov.cons Cov.nil), rfl, rfl⟩)
          · have hq6 : ((nz (c0 ((1 + (id1.toNat * 3)) + 2)))) = false := hc6
            have hp6 : ¬ (((nz (c0 ((1 + (id1.toNat * 3)) + 2)))) = true) := bne' hq6
            rw [if_neg hp6] at h
            refine xw_cond_f rfl rfl (xw_skip ?_)
            refine xq_blk 0 ?_
            refine xq_then (xw_seq (xw_region ?_))
            refine xq rfl trivial (o_mv rfl) ?_
            refine xq rfl trivial (o_mv rfl) ?_
            refine xq rfl trivial (o_mv rfl) ?_
            refine xq rfl trivial (o_nilp rfl) ?_
            first | refine xq rfl trivial (o_fa0 fl58_2 rfl) ?_ | refine xq rfl trivial (o_fa fl58_2 rfl) ?_
            refine xq0 trivial (o_stMB rfl rfl ts4 (List.Mem.head _) (by have := ho3; omega) (kpaE (j := id1.toNat) (r := 2) (by omega) (by decide) rfl) (.here _ _ _ _)) ?_
            refine xq rfl trivial (o_nilp rfl) ?_
            first | refine xq rfl trivial (o_fa0 fl58_1 rfl) ?_ | refine xq rfl trivial (o_fa fl58_1 rfl) ?_
            refine xq0 trivial (o_stMI rfl rfl ts3 (List.Mem.head _) (by have := ho3; omega) (kpaE (j := id1.toNat) (r := 1) (by omega) (by decide) rfl) (.here _ _ _ _)) ?_
            refine xo_nil (xq_then (xw_seq (xw_region ?_)))
            refine xq rfl trivial (o_as rfl) ?_
            refine xo_nil (xq_then (xw_ret ?_))
            subst h
            exact con_ret1 (.inl rfl) Try.results22 rfl (cat [[(p0, BK 28 (mv (kPA 1 3 (kS [2])) (updI (updI c0 ((1 + (id1.toNat * 3)) + 2) (bI true)) ((1 + (id1.toNat * 3)) + 1) now2)) 61)]]) (fun _ h => h) (⟨_, rfl, (Cov.cons Cov.nil), rfl, rfl⟩)

theorem ccrash_c (c0 : (Nat → Int)) (id1 : Int) (now2 : Int) (p0 : Nat) (w : World) (hC : Has w (cat [[(p0, BK 28 (mv (kPA 1 3 (kS [2])) c0) 61)]])) (hP : ccrash_P c0 id1 now2) : Con Try.prog 22 #[.pointer (some ⟨p0, 0, none⟩), .int .i64 id1, .int .i64 now2] w (CatG fun v Ls => Cov w (cat [[(p0, BK 28 (mv (kPA 1 3 (kS [2])) c0) 61)]]) (cat Ls) ∧ v = errV 56 ((ccrash_F c0 id1 now2).1) ∧ Ls = [[(p0, BK 28 (mv (kPA 1 3 (kS [2])) ((ccrash_F c0 id1 now2).2)) 61)]]) :=
  ccrash_con c0 id1 now2 p0 w hC _ (ccrash_ok c0 id1 now2 hP)

theorem calive_con (c0 : (Nat → Int)) (id1 : Int) (p0 : Nat) (w : World) (hC : Has w (cat [[(p0, BK 28 (mv (kPA 1 3 (kS [2])) c0) 61)]])) (r : Bool) (h : calive_S c0 id1 r) : Con Try.prog 11 #[.pointer (some ⟨p0, 0, none⟩), .int .i64 id1] w (CatG fun v Ls => Cov w (cat [[(p0, BK 28 (mv (kPA 1 3 (kS [2])) c0) 61)]]) (cat Ls) ∧ v = .bool r ∧ Ls = [[(p0, BK 28 (mv (kPA 1 3 (kS [2])) c0) 61)]]) := by
  unfold calive_S at h
  refine con_enter (n := 22) [(0, _), (1, _)] Try.func11 rfl Try.ntmps11 rfl (lac rfl (lac rfl lan)) ?_
  refine xw_has hC ?_
  refine xw_st ((p0, BK 28 (mv (kPA 1 3 (kS [2])) c0) 61) :: ([])) (fun _ h => h) ?_
  refine xw_seq (xw_region ?_)
  refine xq rfl trivial (o_as rfl) ?_
  refine xo_nil (xq_then (xw_seq (xw_region ?_)))
  refine xq rfl trivial (o_mv rfl) ?_
  refine xq rfl trivial (o_mv rfl) ?_
  refine xoR rfl trivial (ot_in (l := [(0, _), (1, _)]) kf24 rfl Try.func24 rfl Try.ntmps24 rfl (lac rfl (lac rfl lan)) ?_)
  refine xw_seq (xw_region ?_)
  refine xq rfl trivial (o_as rfl) ?_
  refine xq rfl trivial (o_as rfl) ?_
  refine xo_nil (xq_then (xw_seq (xw_seq (xw_region ?_))))
  refine xq rfl trivial (o_mv rfl) ?_
  refine xq rfl trivial (o_eqn Try.underlying25 rfl rfl rfl rfl) ?_
  refine xo_nil (xq_then (xw_cond_f rfl rfl (xw_skip (xq_then (xw_seq (xw_seq ?_))))))
  refine xw_cut [(0, _), (1, _)] (lc rfl (lc rfl ln)) [(18, .bool ((decide (id1 < 1)) || (decide (c0 0 < id1))))] ?_ ?_
  · refine xw_region ?_
    refine xq rfl trivial (o_mv rfl) ?_
    refine xq rfl trivial (o_lss rfl rfl) ?_
    refine xq rfl trivial (o_mv rfl) ?_
    refine xo_bool 11 rfl (fun hg1 => ?_) (fun hg1 => ?_)
    · have hq1 : (decide (id1 < 1)) = true := hg1
      have hp1 : id1 < 1 := of_decide_eq_true hq1
      refine xs rfl ⟨_, _, rfl, rfl, rfl⟩ (xs rfl ⟨_, _, rfl, rfl, rfl⟩ (xs rfl ⟨_, _, rfl, rfl, rfl⟩ (xs rfl ⟨_, _, rfl, rfl, rfl⟩ (xs rfl ⟨_, _, rfl, rfl, rfl⟩ (xs rfl ⟨_, _, rfl, rfl, rfl⟩ ?_)))))
      refine xq rfl trivial (o_pick_t rfl rfl) ?_
      refine xo_nil ?_
      exact xq_cut ((lce rfl (by first | rfl | (simp only [hq1, if_pos hp1, bS]; done) | (simp only [hq1, if_pos hp1, bS, reduceIte, Bool.false_eq_true]; done) | (simp [hp1]; done) | (simp_all; done)) (lc rfl (lc rfl ln)))) (fun _ h => h)
    · have hq1 : (decide (id1 < 1)) = false := hg1
      have hp1 : ¬ (id1 < 1) := of_decide_eq_false hq1
      refine xq rfl ⟨_, rfl, rfl⟩ (o_mv rfl) ?_
      refine xq rfl ⟨_, rfl, rfl⟩ (o_mv rfl) ?_
      refine xq rfl ⟨_, rfl, rfl⟩ (o_nilp rfl) ?_
      first | refine xq rfl ⟨_, rfl, rfl⟩ (o_fa0 fl61_0 rfl) ?_ | refine xq rfl ⟨_, rfl, rfl⟩ (o_fa fl61_0 rfl) ?_
      refine xq rfl ⟨_, rfl, rfl⟩ (o_ld (v := .int .i64 (c0 0)) rfl ts3 (List.Mem.head _) (by omega) (mv_i rfl)) ?_
      refine xq rfl ⟨_, rfl, rfl⟩ (o_gtr rfl rfl) ?_
      refine xq rfl trivial (o_pick_f rfl rfl) ?_
      refine xo_nil ?_
      exact xq_cut ((lce rfl (by first | rfl | (simp only [hq1, if_neg hp1, bS]; done) | (simp only [hq1, if_neg hp1, bS, reduceIte, Bool.false_eq_true]; done) | (simp [hp1]; done) | (simp_all; done)) (lc rfl (lc rfl ln)))) (fun _ h => h)
  · refine xq_then ?_
    refine xw_bool 18 rfl (fun hc2 => ?_) (fun hc2 => ?_)
    · have hq2 : ((decide (id1 < 1)) || (decide (c0 0 < id1))) = true := hc2
      have hp2 : ((decide (id1 < 1)) || (decide (c0 0 < id1))) = true := hq2
      rw [if_pos hp2] at h
      refine xw_cond_t rfl rfl (xw_seq (xw_region ?_))
      refine xq rfl trivial (o_mki rfl Try.underlying56 rfl) ?_
      refine xq rfl trivial (o_as rfl) ?_
      refine xq rfl trivial (o_as rfl) ?_
      refine xo_nil (xq_then (xw_ret (xq_then_ret ?_)))
      refine con_ret2 (.inl rfl) Try.results24 rfl rfl _ (fun _ h => h) (?_)
      refine xq rfl trivial (o_mv rfl) ?_
      refine xq rfl trivial (o_ext rfl rfl) ?_
      refine xq rfl trivial (o_ext rfl rfl) ?_
      refine xq rfl trivial (o_as rfl) ?_
      refine xq rfl trivial (o_as rfl) ?_
      refine xo_nil (xq_then (xw_seq ?_))
      refine xw_cut [(4, _)] (lc rfl ln) [] ?_ ?_
      · refine xw_region ?_
        refine xq rfl trivial (o_mv rfl) ?_
        refine xq rfl trivial (o_eqn Try.underlying27 rfl rfl rfl rfl) ?_
        refine xq rfl trivial (o_mv rfl) ?_
        refine xs rfl ⟨_, _, rfl, rfl, rfl⟩ (xs rfl ⟨_, _, rfl, rfl, rfl⟩ (xs rfl ⟨_, _, rfl, rfl, rfl⟩ (xs rfl ⟨_, _, rfl, rfl, rfl⟩ (xs rfl ⟨_, _, rfl, rfl, rfl⟩ ?_))))
        refine xq rfl trivial (o_pick_f rfl rfl) ?_
        refine xq rfl trivial (o_as rfl) ?_
        refine xo_nil ?_
        exact xq_cut ((lc rfl ln)) (fun _ h => h)
      · refine xq_then (xw_ret ?_)
        subst h
        exact con_ret1 (.inl rfl) Try.results11 rfl (cat [[(p0, BK 28 (mv (kPA 1 3 (kS [2])) c0) 61)]]) (fun _ h => h) (⟨_, rfl, (Cov.cons Cov.nil), rfl, rfl⟩)
    · have hq2 : ((decide (id1 < 1)) || (decide (c0 0 < id1))) = false := hc2
      have hp2 : ¬ (((decide (id1 < 1)) || (decide (c0 0 < id1))) = true) := bne' hq2
      rw [if_neg hp2] at h
      refine xw_cond_f rfl rfl (xw_skip (xq_then (xw_seq (xw_region ?_))))
      refine xq rfl trivial (o_mv rfl) ?_
      refine xq rfl trivial (o_mv rfl) ?_
      refine xq rfl trivial (o_nilp rfl) ?_
      first | refine xq rfl trivial (o_fa0 fl61_1 rfl) ?_ | refine xq rfl trivial (o_fa fl61_1 rfl) ?_
      obtain ⟨ho3, h⟩ := h
      refine xq rfl trivial (o_ixa ea59 rfl rfl ho3 rfl) ?_
      refine xq rfl trivial (o_as rfl) ?_
      refine xq rfl trivial (o_as rfl) ?_
      refine xo_nil (xq_then (xw_ret ?_))
      refine con_ret2 (.inl rfl) Try.results24 rfl rfl _ (fun _ h => h) (?_)
      refine xq rfl trivial (o_mv rfl) ?_
      refine xq rfl trivial (o_ext rfl rfl) ?_
      refine xq rfl trivial (o_ext rfl rfl) ?_
      refine xq rfl trivial (o_as rfl) ?_
      refine xq rfl trivial (o_as rfl) ?_
      refine xo_nil (xq_then (xw_seq ?_))
      refine xw_cut [] ln [(4, .bool (!((nz (c0 ((1 + (id1.toNat * 3)) + 2))))))] ?_ ?_
      · refine xw_region ?_
        refine xq rfl trivial (o_mv rfl) ?_
        refine xq rfl trivial (o_eqn Try.underlying27 rfl rfl rfl rfl) ?_
        refine xq rfl trivial (o_mv rfl) ?_
        refine xq rfl ⟨_, rfl, rfl⟩ (o_mv rfl) ?_
        refine xq rfl ⟨_, rfl, rfl⟩ (o_nilp rfl) ?_
        first | refine xq rfl ⟨_, rfl, rfl⟩ (o_fa0 fl58_2 rfl) ?_ | refine xq rfl ⟨_, rfl, rfl⟩ (o_fa fl58_2 rfl) ?_
        refine xq rfl ⟨_, rfl, rfl⟩ (o_ld (v := .bool (nz (c0 ((1 + (id1.toNat * 3)) + 2)))) rfl ts4 (List.Mem.head _) (by have := ho3; omega) (mv_b (kpaE (j := id1.toNat) (r := 2) (by omega) (by decide) rfl))) ?_
        refine xq rfl ⟨_, rfl, rfl⟩ (o_not rfl) ?_
        refine xq rfl trivial (o_pick_t rfl rfl) ?_
        refine xq rfl trivial (o_as rfl) ?_
        refine xo_nil ?_
        exact xq_cut ((lce rfl (by first | rfl | (simp only [hq2, if_neg hp2, bS]; done) | (simp only [hq2, if_neg hp2, bS, reduceIte, Bool.false_eq_true]; done) | (simp [hp2]; done) | (simp_all; done)) ln)) (fun _ h => h)
      · refine xq_then (xw_ret ?_)
        subst h
        exact con_ret1 (.inl rfl) Try.results11 rfl (cat [[(p0, BK 28 (mv (kPA 1 3 (kS [2])) c0) 61)]]) (fun _ h => h) (⟨_, rfl, (Cov.cons Cov.nil), rfl, rfl⟩)

theorem calive_c (c0 : (Nat → Int)) (id1 : Int) (p0 : Nat) (w : World) (hC : Has w (cat [[(p0, BK 28 (mv (kPA 1 3 (kS [2])) c0) 61)]])) (hP : calive_P c0 id1) : Con Try.prog 11 #[.pointer (some ⟨p0, 0, none⟩), .int .i64 id1] w (CatG fun v Ls => Cov w (cat [[(p0, BK 28 (mv (kPA 1 3 (kS [2])) c0) 61)]]) (cat Ls) ∧ v = .bool (calive_F c0 id1) ∧ Ls = [[(p0, BK 28 (mv (kPA 1 3 (kS [2])) c0) 61)]]) :=
  calive_con c0 id1 p0 w hC _ (calive_ok c0 id1 hP)

theorem clost_con (c0 : (Nat → Int)) (now1 : Int) (span2 : Int) (p0 : Nat) (w : World) (hC : Has w (cat [[(p0, BK 28 (mv (kPA 1 3 (kS [2])) c0) 61)]])) (r : (List Int)) (h : clost_S c0 now1 span2 r) : Con Try.prog 9 #[.pointer (some ⟨p0, 0, none⟩), .int .i64 now1, .int .i64 span2] w (CatG fun v Ls => Cov w (cat [[(p0, BK 28 (mv (kPA 1 3 (kS [2])) c0) 61)]]) (cat Ls) ∧ ∃ (u0 : Value) (C0 : GH), v = u0 ∧ Ls = [[(p0, BK 28 (mv (kPA 1 3 (kS [2])) c0) 61)], C0] ∧ OJ 3 1 ic C0 u0 r ∧ Cov w [] C0) := by
  unfold clost_S at h
  refine con_enter (n := 55) [(0, _), (1, _), (2, _)] Try.func9 rfl Try.ntmps9 rfl (lac rfl (lac rfl (lac rfl lan))) ?_
  refine xw_has hC ?_
  refine xw_st ((p0, BK 28 (mv (kPA 1 3 (kS [2])) c0) 61) :: ([])) (fun _ h => h) ?_
  refine xw_seq (xw_region ?_)
  refine xq rfl trivial (o_as rfl) ?_
  refine xo_nil (xq_then (xw_seq (xw_region ?_)))
  refine xq rfl trivial (o_as rfl) ?_
  refine xo_nil (xq_then (xw_seq (xw_seq ?_)))
  refine xw_cut [(0, _), (1, _), (2, _), (7, _)] (lc rfl (lc rfl (lc rfl (lc rfl ln)))) [(23, .bool (((decide (now1 < 0)) || (decide (1099511627776 < now1))) || (decide (span2 < 0))))] ?_ ?_
  · refine xw_region ?_
    refine xq rfl trivial (o_mv rfl) ?_
    refine xq rfl trivial (o_eqn Try.underlying25 rfl rfl rfl rfl) ?_
    refine xq rfl trivial (o_mv rfl) ?_
    refine xq rfl ⟨_, rfl, rfl⟩ (o_mv rfl) ?_
    refine xq rfl ⟨_, rfl, rfl⟩ (o_lss rfl rfl) ?_
    refine xq rfl trivial (o_pick_f rfl rfl) ?_
    refine xq rfl trivial (o_mv rfl) ?_
    refine xo_bool 16 rfl (fun hg1 => ?_) (fun hg1 => ?_)
    · have hq1 : (decide (now1 < 0)) = true := hg1
      have hp1 : now1 < 0 := of_decide_eq_true hq1
      refine xs rfl ⟨_, _, rfl, rfl, rfl⟩ (xs rfl ⟨_, _, rfl, rfl, rfl⟩ ?_)
      refine xq rfl trivial (o_pick_t rfl rfl) ?_
      refine xq rfl trivial (o_mv rfl) ?_
      refine xs rfl ⟨_, _, rfl, rfl, rfl⟩ (xs rfl ⟨_, _, rfl, rfl, rfl⟩ ?_)
      refine xq rfl trivial (o_pick_t rfl rfl) ?_
      refine xo_nil ?_
      exact xq_cut ((lce rfl (by first | rfl | (simp only [hq1, if_pos hp1, bS]; done) | (simp only [hq1, if_pos hp1, bS, reduceIte, Bool.false_eq_true]; done) | (simp [hp1]; done) | (simp_all; done)) (lc rfl (lc rfl (lc rfl (lc rfl ln)))))) (fun _ h => h)
    · have hq1 : (decide (now1 < 0)) = false := hg1
      have hp1 : ¬ (now1 < 0) := of_decide_eq_false hq1
      refine xq rfl ⟨_, rfl, rfl⟩ (o_mv rfl) ?_
      refine xq rfl ⟨_, rfl, rfl⟩ (o_gtr rfl rfl) ?_
      refine xq rfl trivial (o_pick_f rfl rfl) ?_
      refine xq rfl trivial (o_mv rfl) ?_
      refine xo_bool 20 rfl (fun hg2 => ?_) (fun hg2 => ?_)
      · have hq2 : (decide (1099511627776 < now1)) = true := hg2
        have hp2 : 1099511627776 < now1 := of_decide_eq_true hq2
        refine xs rfl ⟨_, _, rfl, rfl, rfl⟩ (xs rfl ⟨_, _, rfl, rfl, rfl⟩ ?_)
        refine xq rfl trivial (o_pick_t rfl rfl) ?_
        refine xo_nil ?_
        exact xq_cut ((lce rfl (by first | rfl | (simp only [hq1, hq2, if_neg hp1, if_pos hp2, bS]; done) | (simp only [hq1, hq2, if_neg hp1, if_pos hp2, bS, reduceIte, Bool.false_eq_true]; done) | (simp [hp1, hp2]; done) | (simp_all; done)) (lc rfl (lc rfl (lc rfl (lc rfl ln)))))) (fun _ h => h)
      · have hq2 : (decide (1099511627776 < now1)) = false := hg2
        have hp2 : ¬ (1099511627776 < now1) := of_decide_eq_false hq2
        refine xq rfl ⟨_, rfl, rfl⟩ (o_mv rfl) ?_
        refine xq rfl ⟨_, rfl, rfl⟩ (o_lss rfl rfl) ?_
        refine xq rfl trivial (o_pick_f rfl rfl) ?_
        refine xo_nil ?_
        exact xq_cut ((lce rfl (by first | rfl | (simp only [hq1, hq2, if_neg hp1, if_neg hp2, bS]; done) | (simp only [hq1, hq2, if_neg hp1, if_neg hp2, bS, reduceIte, Bool.false_eq_true]; done) | (simp [hp1, hp2]; done) | (simp_all; done)) (lc rfl (lc rfl (lc rfl (lc rfl ln)))))) (fun _ h => h)
  · refine xq_then ?_
    refine xw_bool 23 rfl (fun hc3 => ?_) (fun hc3 => ?_)
    · have hq3 : (((decide (now1 < 0)) || (decide (1099511627776 < now1))) || (decide (span2 < 0))) = true := hc3
      have hp3 : (((decide (now1 < 0)) || (decide (1099511627776 < now1))) || (decide (span2 < 0))) = true := hq3
      rw [if_pos hp3] at h
      refine xw_cond_t rfl rfl (xw_seq (xw_region ?_))
      refine xq rfl trivial (o_as rfl) ?_
      refine xo_nil (xq_then (xw_ret (xq_then_ret ?_)))
      subst h
      exact con_ret1 (.inl rfl) Try.results9 rfl (cat [[(p0, BK 28 (mv (kPA 1 3 (kS [2])) c0) 61)], []]) (fun _ h => h) (⟨_, rfl, (Cov.cons (Cov.app0 (N := []) (M := _) (Cov.refl _) Cov.nil)), _, [], rfl, rfl, OJ.nil, Cov.refl _⟩)
    · have hq3 : (((decide (now1 < 0)) || (decide (1099511627776 < now1))) || (decide (span2 < 0))) = false := hc3
      have hp3 : ¬ ((((decide (now1 < 0)) || (decide (1099511627776 < now1))) || (decide (span2 < 0))) = true) := bne' hq3
      rw [if_neg hp3] at h
      refine xw_cond_f rfl rfl (xw_skip (xq_then (xw_seq (xw_seq (xw_region ?_)))))
      refine xq rfl trivial (o_mv rfl) ?_
      refine xq rfl trivial (o_nilp rfl) ?_
      first | refine xq rfl trivial (o_fa0 fl61_1 rfl) ?_ | refine xq rfl trivial (o_fa fl61_1 rfl) ?_
      refine xq rfl trivial (o_ldS (f := mv (kPA 0 3 (kS [2])) (fun i => c0 (1 + i))) rfl ts59 (List.Mem.head _) (by omega) (mv_sub (by decide))) ?_
      refine xq rfl trivial (o_mv rfl) ?_
      refine xo_nil (xq_then ?_)
      refine xw_block ?_
      obtain ⟨out7, hx1, h⟩ := h
      refine xw_wh (fun s e H => match s with | (out7, x28) => ∃ (v7_1 : Value) (B7_1 : GH), e = [(1, .int .i64 now1), (2, .int .i64 span2), (7, v7_1), (27, AG 27 (mv (kPA 0 3 (kS [2])) (fun i => c0 (1 + i)))), (28, .int .i64 x28)] ∧ H = B7_1 ++ ((p0, BK 28 (mv (kPA 1 3 (kS [2])) c0) 61) :: ([])) ∧ OJ 3 1 ic B7_1 v7_1 out7 ∧ Cov w [] B7_1) (fun (out7 : (List Int)) ex e H => ∃ (v7_1o : Value) (B7_1o : GH), ex = .exit 0 ∧ e = [(7, v7_1o)] ∧ H = B7_1o ++ ((p0, BK 28 (mv (kPA 1 3 (kS [2])) c0) 61) :: ([])) ∧ OJ 3 1 ic B7_1o v7_1o out7 ∧ Cov w [] B7_1o) hx1 ⟨[(1, .int .i64 now1), (2, .int .i64 span2), (7, .slice none 0 0), (27, AG 27 (mv (kPA 0 3 (kS [2])) (fun i => c0 (1 + i)))), (28, .int .i64 0)], [] ++ ((p0, BK 28 (mv (kPA 1 3 (kS [2])) c0) 61) :: ([])), (lc rfl (lc rfl (lc rfl (lc rfl (lc rfl ln))))), fun _ h => h, ⟨_, [], rfl, rfl, OJ.nil, (Cov.refl _)⟩⟩ ?_ ?_
      · rintro ⟨out7, x28⟩ o _ _ ⟨v7_1, B7_1, rfl, rfl, hJ7_1, hcB7_1⟩ hb
        have h : clost_l1 c0 now1 span2 out7 x28 o := hb
        clear hb
        unfold clost_l1 at h
        refine xw_seq (xw_region ?_)
        refine xq rfl trivial (o_lss rfl rfl) ?_
        refine xo_nil (xq_then (xw_seq ?_))
        refine xw_bool 29 rfl (fun hc4 => ?_) (fun hc4 => ?_)
        · have hq4 : (decide (x28 < 9)) = true := hc4
          have hp4 : x28 < 9 := of_decide_eq_true hq4
          rw [if_pos hp4] at h
          refine xw_cond_t rfl rfl (xw_skip (xq_then (xw_seq ?_)))
          refine xw_block ?_
          refine xw_seq (xw_region ?_)
          obtain ⟨ho5, h⟩ := h
          refine xq rfl trivial (o_ixA (j := x28.toNat) (h := mv (kS [2]) (fun i => (fun i => c0 (1 + i)) ((x28.toNat * 3) + i))) ea59 rfl rfl ho5 rfl (by decide) (mv_sub (fun i hi => kpaE (j := x28.toNat) (r := i) (by omega) hi rfl))) ?_
          refine xo rfl trivial (o_alloc ze58 rfl) ?_
          rintro _ _ ⟨b9, hb9, rfl, rfl⟩
          refine xq0 trivial (o_stW rfl rfl ts58 (fun _ _ => mv_one) (List.Mem.head _) (.here _ _ _ _)) ?_
          refine xo_nil (xq_then (xw_seq ?_))
          obtain ⟨ho6, h⟩ := h
          refine xw_cut [(1, _), (2, _), (7, _), (9, _), (27, _), (28, _)] (lc rfl (lc rfl (lc rfl (lc rfl (lc rfl (lc rfl ln)))))) [(45, .bool ((((nz (c0 (1 + ((x28.toNat * 3) + 2))))) && (!(decide (c0 (1 + (x28.toNat * 3)) = 0)))) && (decide (span2 ≤ now1 - (c0 (1 + ((x28.toNat * 3) + 1)))))))] ?_ ?_
          · refine xw_region ?_
            first | refine xq rfl trivial (o_fa0 fl58_2 rfl) ?_ | refine xq rfl trivial (o_fa fl58_2 rfl) ?_
            refine xq rfl trivial (o_ld (v := .bool (nz (c0 (1 + ((x28.toNat * 3) + 2))))) rfl ts4 (List.Mem.head _) (by omega) (mv_b rfl)) ?_
            refine xq rfl trivial (o_mv rfl) ?_
            refine xo_bool 33 rfl (fun hg7 => ?_) (fun hg7 => ?_)
            · have hq7 : ((nz (c0 (1 + ((x28.toNat * 3) + 2))))) = true := hg7
              have hp7 : ((nz (c0 (1 + ((x28.toNat * 3) + 2))))) = true := hq7
              first | refine xq rfl ⟨_, rfl, rfl⟩ (o_fa0 fl58_0 rfl) ?_ | refine xq rfl ⟨_, rfl, rfl⟩ (o_fa fl58_0 rfl) ?_
              refine xq rfl ⟨_, rfl, rfl⟩ (o_ld (v := .int .i64 (c0 (1 + (x28.toNat * 3)))) rfl ts3 (List.Mem.head _) (by omega) (mv_i rfl)) ?_
              refine xq rfl ⟨_, rfl, rfl⟩ (o_neq rfl rfl) ?_
              refine xq rfl trivial (o_pick_t rfl rfl) ?_
              refine xq rfl trivial (o_mv rfl) ?_
              refine xo_bool 38 rfl (fun hg8 => ?_) (fun hg8 => ?_)
              · have hq8 : (decide (c0 (1 + (x28.toNat * 3)) = 0)) = false := (bnT hg8)
                have hp8 : ¬ (c0 (1 + (x28.toNat * 3)) = 0) := of_decide_eq_false hq8
                refine xq rfl ⟨_, rfl, rfl⟩ (o_mv rfl) ?_
                first | refine xq rfl ⟨_, rfl, rfl⟩ (o_fa0 fl58_1 rfl) ?_ | refine xq rfl ⟨_, rfl, rfl⟩ (o_fa fl58_1 rfl) ?_
                refine xq rfl ⟨_, rfl, rfl⟩ (o_ld (v := .int .i64 (c0 (1 + ((x28.toNat * 3) + 1)))) rfl ts3 (List.Mem.head _) (by omega) (mv_i rfl)) ?_
                refine xq rfl ⟨_, rfl, rfl⟩ (o_sub rfl rfl rfl (ho6 (by first | exact hg8 | (simp only [hq4, hq7, hq8, if_pos hp4, if_pos hp7, if_neg hp8, bS]; done) | (simp only [hq4, hq7, hq8, if_pos hp4, if_pos hp7, if_neg hp8, bS, reduceIte, Bool.false_eq_true]; done) | (simp [hp4, hp7, hp8]; done) | (simp_all; done)))) ?_
                refine xq rfl ⟨_, rfl, rfl⟩ (o_mv rfl) ?_
                refine xq rfl ⟨_, rfl, rfl⟩ (o_geq rfl rfl) ?_
                refine xq rfl trivial (o_pick_t rfl rfl) ?_
                refine xo_nil ?_
                exact xq_cut ((lce rfl (by first | rfl | (simp only [hq4, hq7, hq8, if_pos hp4, if_pos hp7, if_neg hp8, bS]; done) | (simp only [hq4, hq7, hq8, if_pos hp4, if_pos hp7, if_neg hp8, bS, reduceIte, Bool.false_eq_true]; done) | (simp [hp4, hp7, hp8]; done) | (simp_all; done)) (lc rfl (lc rfl (lc rfl (lc rfl (lc rfl (lc rfl ln)))))))) (fun _ h => h)
              · have hq8 : (decide (c0 (1 + (x28.toNat * 3)) = 0)) = true := (bnF hg8)
                have hp8 : c0 (1 + (x28.toNat * 3)) = 0 := of_decide_eq_true hq8
                refine xs rfl ⟨_, _, rfl, rfl, rfl⟩ (xs rfl ⟨_, _, rfl, rfl, rfl⟩ (xs rfl ⟨_, _, rfl, rfl, rfl⟩ (xs rfl ⟨_, _, rfl, rfl, rfl⟩ (xs rfl ⟨_, _, rfl, rfl, rfl⟩ (xs rfl ⟨_, _, rfl, rfl, rfl⟩ ?_)))))
                refine xq rfl trivial (o_pick_f rfl rfl) ?_
                refine xo_nil ?_
                exact xq_cut ((lce rfl (by first | rfl | (simp only [hq4, hq7, hq8, if_pos hp4, if_pos hp7, if_pos hp8, bS]; done) | (simp only [hq4, hq7, hq8, if_pos hp4, if_pos hp7, if_pos hp8, bS, reduceIte, Bool.false_eq_true]; done) | (simp [hp4, hp7, hp8]; done) | (simp_all; done)) (lc rfl (lc rfl (lc rfl (lc rfl (lc rfl (lc rfl ln)))))))) (fun _ h => h)
            · have hq7 : ((nz (c0 (1 + ((x28.toNat * 3) + 2))))) = false := hg7
              have hp7 : ¬ (((nz (c0 (1 + ((x28.toNat * 3) + 2))))) = true) := bne' hq7
              refine xs rfl ⟨_, _, rfl, rfl, rfl⟩ (xs rfl ⟨_, _, rfl, rfl, rfl⟩ (xs rfl ⟨_, _, rfl, rfl, rfl⟩ ?_))
              refine xq rfl trivial (o_pick_f rfl rfl) ?_
              refine xq rfl trivial (o_mv rfl) ?_
              refine xs rfl ⟨_, _, rfl, rfl, rfl⟩ (xs rfl ⟨_, _, rfl, rfl, rfl⟩ (xs rfl ⟨_, _, rfl, rfl, rfl⟩ (xs rfl ⟨_, _, rfl, rfl, rfl⟩ (xs rfl ⟨_, _, rfl, rfl, rfl⟩ (xs rfl ⟨_, _, rfl, rfl, rfl⟩ ?_)))))
              refine xq rfl trivial (o_pick_f rfl rfl) ?_
              refine xo_nil ?_
              exact xq_cut ((lce rfl (by first | rfl | (simp only [hq4, hq7, if_pos hp4, if_neg hp7, bS]; done) | (simp only [hq4, hq7, if_pos hp4, if_neg hp7, bS, reduceIte, Bool.false_eq_true]; done) | (simp [hp4, hp7]; done) | (simp_all; done)) (lc rfl (lc rfl (lc rfl (lc rfl (lc rfl (lc rfl ln)))))))) (fun _ h => h)
          · refine xq_then ?_
            refine xw_bool 45 rfl (fun hc9 => ?_) (fun hc9 => ?_)
            · have hq9 : ((((nz (c0 (1 + ((x28.toNat * 3) + 2))))) && (!(decide (c0 (1 + (x28.toNat * 3)) = 0)))) && (decide (span2 ≤ now1 - (c0 (1 + ((x28.toNat * 3) + 1)))))) = true := hc9
              have hp9 : ((((nz (c0 (1 + ((x28.toNat * 3) + 2))))) && (!(decide (c0 (1 + (x28.toNat * 3)) = 0)))) && (decide (span2 ≤ now1 - (c0 (1 + ((x28.toNat * 3) + 1)))))) = true := hq9
              rw [if_pos hp9] at h
              refine xw_cond_t rfl rfl (xw_region ?_)
              refine xq rfl trivial (o_mv rfl) ?_
              first | refine xq rfl trivial (o_fa0 fl58_0 rfl) ?_ | refine xq rfl trivial (o_fa fl58_0 rfl) ?_
              refine xq rfl trivial (o_ld (v := .int .i64 (c0 (1 + (x28.toNat * 3)))) rfl ts3 (List.Mem.head _) (by omega) (mv_i rfl)) ?_
              refine xo rfl trivial (o_bsl el33 ze3 (cells_one rfl) rfl rfl (.int rfl rfl (.nil _))) ?_
              rintro _ _ ⟨b49, hb49, rfl, rfl⟩
              obtain ⟨ho11, h⟩ := h
              refine xo rfl trivial (OT.st (fun _ h => Pull.st (.thereC _ (.thereC _ (.here _ _))) h) (o_appJ (l := out7) (l' := [c0 (1 + (x28.toNat * 3))]) (B := B7_1) ap33 rfl rfl hJ7_1 (fun w2 hw2 => (SL.lit (l := [c0 (1 + (x28.toNat * 3))]) hw2 (List.mem_append_right _ (List.Mem.head _)) rfl (by omega) (by simp [maxLen]) (by exact (fun i hi => match i, hi with | 0, _ => rfl | q + 1, h => absurd h (by omega))))) (fun _ _ => rfl) ho11 (len_max ho11 (by decide)))) ?_
              rintro vs10 _ ⟨Bs10, rfl, hns10, hJs10⟩
              have hcBs10 := Cov.trans hcB7_1 hns10
              refine xo_st ((b49, BK 1 _ 3) :: ((b9, BK 3 (mv (kS [2]) (fun i => (fun i => c0 (1 + i)) ((x28.toNat * 3) + i))) 58) :: (Bs10 ++ ((p0, BK 28 (mv (kPA 1 3 (kS [2])) c0) 61) :: ([]))))) (fun _ h => Pull.push (.thereC _ (.thereC _ (.here _ _))) h) ?_
              refine xq rfl trivial (o_as rfl) ?_
              refine xo_nil ?_
              refine xq_blk 1 ?_
              refine xq_then (xw_region ?_)
              obtain ⟨ho12, h⟩ := h
              refine xq rfl trivial (o_add rfl rfl rfl ho12) ?_
              refine xq rfl trivial (o_mv rfl) ?_
              refine xo_nil ?_
              exact xq_next (s' := (((out7 ++ [c0 (1 + (x28.toNat * 3))]), x28 + 1) : (List Int) × Int)) (e' := [(1, .int .i64 now1), (2, .int .i64 span2), (7, vs10), (27, AG 27 (mv (kPA 0 3 (kS [2])) (fun i => c0 (1 + i)))), (28, .int .i64 (x28 + 1))]) (Bs10 ++ ((p0, BK 28 (mv (kPA 1 3 (kS [2])) c0) 61) :: ([]))) (lc rfl (lc rfl (lc rfl (lc rfl (lc rfl ln))))) (Kp.st (Kp.new hb49 (Kp.new hb9 (Kp.segKeep (Kp.keep Kp.nil))))) h ⟨vs10, Bs10, rfl, rfl, hJs10, hcBs10⟩
            · have hq9 : ((((nz (c0 (1 + ((x28.toNat * 3) + 2))))) && (!(decide (c0 (1 + (x28.toNat * 3)) = 0)))) && (decide (span2 ≤ now1 - (c0 (1 + ((x28.toNat * 3) + 1)))))) = false := hc9
              have hp9 : ¬ (((((nz (c0 (1 + ((x28.toNat * 3) + 2))))) && (!(decide (c0 (1 + (x28.toNat * 3)) = 0)))) && (decide (span2 ≤ now1 - (c0 (1 + ((x28.toNat * 3) + 1)))))) = true) := bne' hq9
              rw [if_neg hp9] at h
              refine xw_cond_f rfl rfl (xw_skip ?_)
              refine xq_blk 1 ?_
              refine xq_then (xw_region ?_)
              obtain ⟨ho13, h⟩ := h
              refine xq rfl trivial (o_add rfl rfl rfl ho13) ?_
              refine xq rfl trivial (o_mv rfl) ?_
              refine xo_nil ?_
              exact xq_next (s' := ((out7, x28 + 1) : (List Int) × Int)) (e' := [(1, .int .i64 now1), (2, .int .i64 span2), (7, v7_1), (27, AG 27 (mv (kPA 0 3 (kS [2])) (fun i => c0 (1 + i)))), (28, .int .i64 (x28 + 1))]) (B7_1 ++ ((p0, BK 28 (mv (kPA 1 3 (kS [2])) c0) 61) :: ([]))) (lc rfl (lc rfl (lc rfl (lc rfl (lc rfl ln))))) (Kp.st (Kp.new hb9 (Kp.segKeep (Kp.keep Kp.nil)))) h ⟨v7_1, B7_1, rfl, rfl, hJ7_1, hcB7_1⟩
        · have hq4 : (decide (x28 < 9)) = false := hc4
          have hp4 : ¬ (x28 < 9) := of_decide_eq_false hq4
          rw [if_neg hp4] at h
          refine xw_cond_f rfl rfl (xw_exit (xq_then_exit ?_))
          exact xq_out (r := (out7 : (List Int))) (e' := [(7, v7_1)]) (B7_1 ++ ((p0, BK 28 (mv (kPA 1 3 (kS [2])) c0) 61) :: ([]))) (lc rfl ln) (fun _ h => h) h (by intro hh; cases hh) ⟨v7_1, B7_1, rfl, rfl, rfl, hJ7_1, hcB7_1⟩
      · rintro _ _ _ ⟨v7_1o, B7_1o, rfl, rfl, rfl, hJ7_1o, hcB7_1o⟩
        replace h : clost_k1a out7 r := h
        unfold clost_k1a at h
        refine xq_blk_eq ?_
        refine xq_then (xw_seq (xw_region ?_))
        refine xq rfl trivial (o_mv rfl) ?_
        obtain ⟨ho14, h⟩ := h
        refine xo rfl trivial (OT.st (fun _ h => h) (ot_callF (Cs := [B7_1o]) (Rs := [[(p0, _)]]) kf23 rfl (fun w1 hw1 => sort_c hJ7_1o (St.hasC hw1) ho14) (fun _ _ _ h => h.1))) ?_
        rintro _ _ ⟨w1, _, rfl, hle, -, rfl, Bs15, rfl, hJs15, hcBs15⟩
        replace hcBs15 := Cov.trans hcB7_1o (Cov.base (w0 := w) hcBs15 hle)
        refine xo_st (Bs15 ++ ((p0, BK 28 (mv (kPA 1 3 (kS [2])) c0) 61) :: ([]))) (fun _ h => h) ?_
        refine xo_nil (xq_then (xw_seq (xw_region ?_)))
        refine xq rfl trivial (o_mv rfl) ?_
        refine xq rfl trivial (o_as rfl) ?_
        refine xo_nil (xq_then (xw_ret ?_))
        subst h
        exact con_ret1 (.inl rfl) Try.results9 rfl (cat [[(p0, BK 28 (mv (kPA 1 3 (kS [2])) c0) 61)], Bs15]) (fun _ h => St.permI [1, 0] [Bs15, [(p0, _)]] rfl (h)) (⟨_, rfl, (Cov.cons (Cov.app0 (N := Bs15) (M := _) hcBs15 Cov.nil)), _, Bs15, rfl, rfl, hJs15, hcBs15⟩)

theorem lostR_con (l0 : (List (Nat → Int))) (now1 : Int) (span2 : Int) (v0 : Value) (w : World) (hs0 : SL w 3 (mv (kS [1])) v0 l0) (r : (List Int)) (h : lostR_S l0 now1 span2 r) : Con Try.prog 18 #[v0, .int .i64 now1, .int .i64 span2] w (fun v F => ∃ (u0 : Value) (C0 : GH), v = u0 ∧ F = (C0 ++ []) ∧ OJ 3 1 ic C0 u0 r ∧ Cov w [] C0) := by
  unfold lostR_S at h
  refine con_enter (n := 57) [(0, _), (1, _), (2, _)] Try.func18 rfl Try.ntmps18 rfl (lac rfl (lac rfl (lac rfl lan))) ?_
  refine xw_seq (xw_region ?_)
  refine xq rfl trivial (o_as rfl) ?_
  refine xo_nil (xq_then (xw_seq (xw_region ?_)))
  refine xq rfl trivial (o_as rfl) ?_
  refine xo_nil (xq_then (xw_seq (xw_seq (xw_region ?_))))
  refine xq rfl trivial (o_as rfl) ?_
  refine xo_nil (xq_then ?_)
  refine xw_block ?_
  obtain ⟨out7, hx1, h⟩ := h
  refine xw_wh (fun s e H => match s with | (out7, i8) => ∃ (v7_1 : Value) (B7_1 : GH), e = [(0, v0), (1, .int .i64 now1), (2, .int .i64 span2), (7, v7_1), (8, .int .i64 i8)] ∧ H = B7_1 ++ ([]) ∧ OJ 3 1 ic B7_1 v7_1 out7 ∧ Cov w [] B7_1) (fun (out7 : (List Int)) ex e H => ∃ (v7_1o : Value) (B7_1o : GH), ex = .exit 0 ∧ e = [(7, v7_1o)] ∧ H = B7_1o ++ ([]) ∧ OJ 3 1 ic B7_1o v7_1o out7 ∧ Cov w [] B7_1o) hx1 ⟨[(0, v0), (1, .int .i64 now1), (2, .int .i64 span2), (7, .slice none 0 0), (8, .int .i64 0)], [] ++ ([]), (lc rfl (lc rfl (lc rfl (lc rfl (lc rfl ln))))), fun _ h => h, ⟨_, [], rfl, rfl, OJ.nil, (Cov.refl _)⟩⟩ ?_ ?_
  · rintro ⟨out7, i8⟩ o _ _ ⟨v7_1, B7_1, rfl, rfl, hJ7_1, hcB7_1⟩ hb
    have h : lostR_l1 l0 now1 span2 out7 i8 o := hb
    clear hb
    unfold lostR_l1 at h
    refine xw_seq (xw_seq ?_)
    refine xw_cut [(0, _), (1, _), (2, _), (7, _), (8, _)] (lc rfl (lc rfl (lc rfl (lc rfl (lc rfl ln))))) [(20, .bool (((decide (i8 < (l0.length : Int))) && ((timeR_F now1))) && (decide (0 ≤ span2))))] ?_ ?_
    · refine xw_region ?_
      refine xq rfl trivial (o_mv rfl) ?_
      refine xq rfl trivial (o_mv rfl) ?_
      refine xq rfl trivial (o_lenL rfl Try.underlying41 rfl (SL.val hs0)) ?_
      refine xq rfl trivial (o_lss rfl rfl) ?_
      refine xq rfl trivial (o_mv rfl) ?_
      refine xo_bool 13 rfl (fun hg1 => ?_) (fun hg1 => ?_)
      · have hq1 : (decide (i8 < (l0.length : Int))) = true := hg1
        have hp1 : i8 < (l0.length : Int) := of_decide_eq_true hq1
        refine xq rfl ⟨_, rfl, rfl⟩ (o_mv rfl) ?_
        refine xcallq rfl ⟨_, rfl, rfl⟩ kf27 rfl (fun w1 hw1 => timeR_c _ w1) ?_
        refine xq rfl trivial (o_pick_t rfl rfl) ?_
        refine xq rfl trivial (o_mv rfl) ?_
        refine xo_bool 17 rfl (fun hg2 => ?_) (fun hg2 => ?_)
        · have hq2 : ((timeR_F now1)) = true := hg2
          have hp2 : ((timeR_F now1)) = true := hq2
          refine xq rfl ⟨_, rfl, rfl⟩ (o_mv rfl) ?_
          refine xq rfl ⟨_, rfl, rfl⟩ (o_geq rfl rfl) ?_
          refine xq rfl trivial (o_pick_t rfl rfl) ?_
          refine xo_nil ?_
          exact xq_cut ((lce rfl (by first | rfl | (simp only [hq1, hq2, if_pos hp1, if_pos hp2, bS]; done) | (simp only [hq1, hq2, if_pos hp1, if_pos hp2, bS, reduceIte, Bool.false_eq_true]; done) | (simp [hp1, hp2]; done) | (simp_all; done)) (lc rfl (lc rfl (lc rfl (lc rfl (lc rfl ln))))))) (fun _ h => h)
        · have hq2 : ((timeR_F now1)) = false := hg2
          have hp2 : ¬ (((timeR_F now1)) = true) := bne' hq2
          refine xs rfl ⟨_, _, rfl, rfl, rfl⟩ (xs rfl ⟨_, _, rfl, rfl, rfl⟩ ?_)
          refine xq rfl trivial (o_pick_f rfl rfl) ?_
          refine xo_nil ?_
          exact xq_cut ((lce rfl (by first | rfl | (simp only [hq1, hq2, if_pos hp1, if_neg hp2, bS]; done) | (simp only [hq1, hq2, if_pos hp1, if_neg hp2, bS, reduceIte, Bool.false_eq_true]; done) | (simp [hp1, hp2]; done) | (simp_all; done)) (lc rfl (lc rfl (lc rfl (lc rfl (lc rfl ln))))))) (fun _ h => h)
      · have hq1 : (decide (i8 < (l0.length : Int))) = false := hg1
        have hp1 : ¬ (i8 < (l0.length : Int)) := of_decide_eq_false hq1
        refine xs rfl ⟨_, _, rfl, rfl, rfl⟩ (xs rfl ⟨_, _, rfl, rfl, rfl⟩ ?_)
        refine xq rfl trivial (o_pick_f rfl rfl) ?_
        refine xq rfl trivial (o_mv rfl) ?_
        refine xs rfl ⟨_, _, rfl, rfl, rfl⟩ (xs rfl ⟨_, _, rfl, rfl, rfl⟩ ?_)
        refine xq rfl trivial (o_pick_f rfl rfl) ?_
        refine xo_nil ?_
        exact xq_cut ((lce rfl (by first | rfl | (simp only [hq1, if_neg hp1, bS]; done) | (simp only [hq1, if_neg hp1, bS, reduceIte, Bool.false_eq_true]; done) | (simp [hp1]; done) | (simp_all; done)) (lc rfl (lc rfl (lc rfl (lc rfl (lc rfl ln))))))) (fun _ h => h)
    · refine xq_then ?_
      refine xw_bool 20 rfl (fun hc3 => ?_) (fun hc3 => ?_)
      · have hq3 : (((decide (i8 < (l0.length : Int))) && ((timeR_F now1))) && (decide (0 ≤ span2))) = true := hc3
        have hp3 : (((decide (i8 < (l0.length : Int))) && ((timeR_F now1))) && (decide (0 ≤ span2))) = true := hq3
        rw [if_pos hp3] at h
        refine xw_cond_t rfl rfl (xw_skip (xq_then (xw_seq ?_)))
        refine xw_block ?_
        refine xw_seq ?_
        obtain ⟨ho4, ho5, ho6, ho7, h⟩ := h
        refine xw_cut [(0, _), (1, _), (2, _), (7, _), (8, _)] (lc rfl (lc rfl (lc rfl (lc rfl (lc rfl ln))))) [(46, .bool ((((nz ((l0[i8.toNat]!) 1))) && (decide (0 < (l0[i8.toNat]!) 0))) && (decide (span2 ≤ now1 - ((l0[i8.toNat]!) 2)))))] ?_ ?_
        · refine xw_region ?_
          refine xq rfl trivial (o_mv rfl) ?_
          refine xq rfl trivial (o_mv rfl) ?_
          refine xq rfl trivial (o_ixL el41 rfl rfl (fun w hw => (hs0.keep hw (Fr.seg hcB7_1 Fr.nil))) rfl (ho4)) ?_
          refine xq rfl trivial (o_faL fl48_1 rfl rfl (fun w hw => (hs0.keep hw (Fr.seg hcB7_1 Fr.nil))) (toNat_lt (ho4))) ?_
          refine xq rfl trivial (o_ldL1 (off := 1) (u := .bool (nz ((l0[i8.toNat]!) 1))) rfl ts4 rfl (fun w hw => (hs0.keep hw (Fr.seg hcB7_1 Fr.nil))) (toNat_lt (ho4)) rfl rfl) ?_
          refine xq rfl trivial (o_mv rfl) ?_
          refine xo_bool 28 rfl (fun hg8 => ?_) (fun hg8 => ?_)
          · have hq8 : ((nz ((l0[i8.toNat]!) 1))) = true := hg8
            have hp8 : ((nz ((l0[i8.toNat]!) 1))) = true := hq8
            refine xq rfl ⟨_, rfl, rfl⟩ (o_mv rfl) ?_
            refine xq rfl ⟨_, rfl, rfl⟩ (o_mv rfl) ?_
            refine xq rfl ⟨_, rfl, rfl⟩ (o_ixL el41 rfl rfl (fun w hw => (hs0.keep hw (Fr.seg hcB7_1 Fr.nil))) rfl (ho5 (by first | exact hg8 | (simp only [hq3, hq8, if_pos hp3, if_pos hp8, bS]; done) | (simp only [hq3, hq8, if_pos hp3, if_pos hp8, bS, reduceIte, Bool.false_eq_true]; done) | (simp [hp3, hp8]; done) | (simp_all; done)))) ?_
            refine xq rfl ⟨_, rfl, rfl⟩ (o_faL fl48_0 rfl rfl (fun w hw => (hs0.keep hw (Fr.seg hcB7_1 Fr.nil))) (toNat_lt (ho5 (by first | exact hg8 | (simp only [hq3, hq8, if_pos hp3, if_pos hp8, bS]; done) | (simp only [hq3, hq8, if_pos hp3, if_pos hp8, bS, reduceIte, Bool.false_eq_true]; done) | (simp [hp3, hp8]; done) | (simp_all; done))))) ?_
            refine xq rfl ⟨_, rfl, rfl⟩ (o_ldL1 (off := 0) (u := .int .i64 ((l0[i8.toNat]!) 0)) rfl ts3 rfl (fun w hw => (hs0.keep hw (Fr.seg hcB7_1 Fr.nil))) (toNat_lt (ho5 (by first | exact hg8 | (simp only [hq3, hq8, if_pos hp3, if_pos hp8, bS]; done) | (simp only [hq3, hq8, if_pos hp3, if_pos hp8, bS, reduceIte, Bool.false_eq_true]; done) | (simp [hp3, hp8]; done) | (simp_all; done)))) rfl rfl) ?_
            refine xq rfl ⟨_, rfl, rfl⟩ (o_gtr rfl rfl) ?_
            refine xq rfl trivial (o_pick_t rfl rfl) ?_
            refine xq rfl trivial (o_mv rfl) ?_
            refine xo_bool 36 rfl (fun hg9 => ?_) (fun hg9 => ?_)
            · have hq9 : (decide (0 < (l0[i8.toNat]!) 0)) = true := hg9
              have hp9 : 0 < (l0[i8.toNat]!) 0 := of_decide_eq_true hq9
              refine xq rfl ⟨_, rfl, rfl⟩ (o_mv rfl) ?_
              refine xq rfl ⟨_, rfl, rfl⟩ (o_mv rfl) ?_
              refine xq rfl ⟨_, rfl, rfl⟩ (o_mv rfl) ?_
              refine xq rfl ⟨_, rfl, rfl⟩ (o_ixL el41 rfl rfl (fun w hw => (hs0.keep hw (Fr.seg hcB7_1 Fr.nil))) rfl (ho6 (by first | exact hg9 | (simp only [hq3, hq8, hq9, if_pos hp3, if_pos hp8, if_pos hp9, bS]; done) | (simp only [hq3, hq8, hq9, if_pos hp3, if_pos hp8, if_pos hp9, bS, reduceIte, Bool.false_eq_true]; done) | (simp [hp3, hp8, hp9]; done) | (simp_all; done)))) ?_
              refine xq rfl ⟨_, rfl, rfl⟩ (o_faL fl48_2 rfl rfl (fun w hw => (hs0.keep hw (Fr.seg hcB7_1 Fr.nil))) (toNat_lt (ho6 (by first | exact hg9 | (simp only [hq3, hq8, hq9, if_pos hp3, if_pos hp8, if_pos hp9, bS]; done) | (simp only [hq3, hq8, hq9, if_pos hp3, if_pos hp8, if_pos hp9, bS, reduceIte, Bool.false_eq_true]; done) | (simp [hp3, hp8, hp9]; done) | (simp_all; done))))) ?_
              refine xq rfl ⟨_, rfl, rfl⟩ (o_ldL1 (off := 2) (u := .int .i64 ((l0[i8.toNat]!) 2)) rfl ts3 rfl (fun w hw => (hs0.keep hw (Fr.seg hcB7_1 Fr.nil))) (toNat_lt (ho6 (by first | exact hg9 | (simp only [hq3, hq8, hq9, if_pos hp3, if_pos hp8, if_pos hp9, bS]; done) | (simp only [hq3, hq8, hq9, if_pos hp3, if_pos hp8, if_pos hp9, bS, reduceIte, Bool.false_eq_true]; done) | (simp [hp3, hp8, hp9]; done) | (simp_all; done)))) rfl rfl) ?_
              refine xq rfl ⟨_, rfl, rfl⟩ (o_sub rfl rfl rfl (ho7 (by first | exact hg9 | (simp only [hq3, hq8, hq9, if_pos hp3, if_pos hp8, if_pos hp9, bS]; done) | (simp only [hq3, hq8, hq9, if_pos hp3, if_pos hp8, if_pos hp9, bS, reduceIte, Bool.false_eq_true]; done) | (simp [hp3, hp8, hp9]; done) | (simp_all; done)))) ?_
              refine xq rfl ⟨_, rfl, rfl⟩ (o_mv rfl) ?_
              refine xq rfl ⟨_, rfl, rfl⟩ (o_geq rfl rfl) ?_
              refine xq rfl trivial (o_pick_t rfl rfl) ?_
              refine xo_nil ?_
              exact xq_cut ((lce rfl (by first | rfl | (simp only [hq3, hq8, hq9, if_pos hp3, if_pos hp8, if_pos hp9, bS]; done) | (simp only [hq3, hq8, hq9, if_pos hp3, if_pos hp8, if_pos hp9, bS, reduceIte, Bool.false_eq_true]; done) | (simp [hp3, hp8, hp9]; done) | (simp_all; done)) (lc rfl (lc rfl (lc rfl (lc rfl (lc rfl ln))))))) (fun _ h => h)
            · have hq9 : (decide (0 < (l0[i8.toNat]!) 0)) = false := hg9
              have hp9 : ¬ (0 < (l0[i8.toNat]!) 0) := of_decide_eq_false hq9
              refine xs rfl ⟨_, _, rfl, rfl, rfl⟩ (xs rfl ⟨_, _, rfl, rfl, rfl⟩ (xs rfl ⟨_, _, rfl, rfl, rfl⟩ (xs rfl ⟨_, _, rfl, rfl, rfl⟩ (xs rfl ⟨_, _, rfl, rfl, rfl⟩ (xs rfl ⟨_, _, rfl, rfl, rfl⟩ (xs rfl ⟨_, _, rfl, rfl, rfl⟩ (xs rfl ⟨_, _, rfl, rfl, rfl⟩ ?_)))))))
              refine xs rfl ⟨_, _, rfl, rfl, rfl⟩ ?_
              refine xq rfl trivial (o_pick_f rfl rfl) ?_
              refine xo_nil ?_
              exact xq_cut ((lce rfl (by first | rfl | (simp only [hq3, hq8, hq9, if_pos hp3, if_pos hp8, if_neg hp9, bS]; done) | (simp only [hq3, hq8, hq9, if_pos hp3, if_pos hp8, if_neg hp9, bS, reduceIte, Bool.false_eq_true]; done) | (simp [hp3, hp8, hp9]; done) | (simp_all; done)) (lc rfl (lc rfl (lc rfl (lc rfl (lc rfl ln))))))) (fun _ h => h)
          · have hq8 : ((nz ((l0[i8.toNat]!) 1))) = false := hg8
            have hp8 : ¬ (((nz ((l0[i8.toNat]!) 1))) = true) := bne' hq8
            refine xs rfl ⟨_, _, rfl, rfl, rfl⟩ (xs rfl ⟨_, _, rfl, rfl, rfl⟩ (xs rfl ⟨_, _, rfl, rfl, rfl⟩ (xs rfl ⟨_, _, rfl, rfl, rfl⟩ (xs rfl ⟨_, _, rfl, rfl, rfl⟩ (xs rfl ⟨_, _, rfl, rfl, rfl⟩ ?_)))))
            refine xq rfl trivial (o_pick_f rfl rfl) ?_
            refine xq rfl trivial (o_mv rfl) ?_
            refine xs rfl ⟨_, _, rfl, rfl, rfl⟩ (xs rfl ⟨_, _, rfl, rfl, rfl⟩ (xs rfl ⟨_, _, rfl, rfl, rfl⟩ (xs rfl ⟨_, _, rfl, rfl, rfl⟩ (xs rfl ⟨_, _, rfl, rfl, rfl⟩ (xs rfl ⟨_, _, rfl, rfl, rfl⟩ (xs rfl ⟨_, _, rfl, rfl, rfl⟩ (xs rfl ⟨_, _, rfl, rfl, rfl⟩ ?_)))))))
            refine xs rfl ⟨_, _, rfl, rfl, rfl⟩ ?_
            refine xq rfl trivial (o_pick_f rfl rfl) ?_
            refine xo_nil ?_
            exact xq_cut ((lce rfl (by first | rfl | (simp only [hq3, hq8, if_pos hp3, if_neg hp8, bS]; done) | (simp only [hq3, hq8, if_pos hp3, if_neg hp8, bS, reduceIte, Bool.false_eq_true]; done) | (simp [hp3, hp8]; done) | (simp_all; done)) (lc rfl (lc rfl (lc rfl (lc rfl (lc rfl ln))))))) (fun _ h => h)
        · refine xq_then ?_
          refine xw_bool 46 rfl (fun hc10 => ?_) (fun hc10 => ?_)
          · have hq10 : ((((nz ((l0[i8.toNat]!) 1))) && (decide (0 < (l0[i8.toNat]!) 0))) && (decide (span2 ≤ now1 - ((l0[i8.toNat]!) 2)))) = true := hc10
            have hp10 : ((((nz ((l0[i8.toNat]!) 1))) && (decide (0 < (l0[i8.toNat]!) 0))) && (decide (span2 ≤ now1 - ((l0[i8.toNat]!) 2)))) = true := hq10
            rw [if_pos hp10] at h
            refine xw_cond_t rfl rfl (xw_region ?_)
            refine xq rfl trivial (o_mv rfl) ?_
            refine xq rfl trivial (o_mv rfl) ?_
            refine xq rfl trivial (o_mv rfl) ?_
            obtain ⟨ho11, h⟩ := h
            refine xq rfl trivial (o_ixL el41 rfl rfl (fun w hw => (hs0.keep hw (Fr.seg hcB7_1 Fr.nil))) rfl ho11) ?_
            refine xq rfl trivial (o_faL fl48_0 rfl rfl (fun w hw => (hs0.keep hw (Fr.seg hcB7_1 Fr.nil))) (toNat_lt ho11)) ?_
            refine xq rfl trivial (o_ldL1 (off := 0) (u := .int .i64 ((l0[i8.toNat]!) 0)) rfl ts3 rfl (fun w hw => (hs0.keep hw (Fr.seg hcB7_1 Fr.nil))) (toNat_lt ho11) rfl rfl) ?_
            refine xo rfl trivial (o_bsl el33 ze3 (cells_one rfl) rfl rfl (.int rfl rfl (.nil _))) ?_
            rintro _ _ ⟨b53, hb53, rfl, rfl⟩
            obtain ⟨ho13, h⟩ := h
            refine xo rfl trivial (OT.st (fun _ h => Pull.st (.thereC _ (.here _ _)) h) (o_appJ (l := out7) (l' := [(l0[i8.toNat]!) 0]) (B := B7_1) ap33 rfl rfl hJ7_1 (fun w2 hw2 => (SL.lit (l := [(l0[i8.toNat]!) 0]) hw2 (List.mem_append_right _ (List.Mem.head _)) rfl (by omega) (by simp [maxLen]) (by exact (fun i hi => match i, hi with | 0, _ => rfl | q + 1, h => absurd h (by omega))))) (fun _ _ => rfl) ho13 (len_max ho13 (by decide)))) ?_
            rintro vs12 _ ⟨Bs12, rfl, hns12, hJs12⟩
            have hcBs12 := Cov.trans hcB7_1 hns12
            refine xo_st ((b53, BK 1 _ 3) :: (Bs12 ++ ([]))) (fun _ h => Pull.push (.thereC _ (.here _ _)) h) ?_
            refine xq rfl trivial (o_as rfl) ?_
            refine xo_nil ?_
            refine xq_blk 1 ?_
            refine xq_then (xw_region ?_)
            refine xq rfl trivial (o_mv rfl) ?_
            obtain ⟨ho14, h⟩ := h
            refine xq rfl trivial (o_add rfl rfl rfl ho14) ?_
            refine xq rfl trivial (o_as rfl) ?_
            refine xo_nil ?_
            exact xq_next (s' := (((out7 ++ [(l0[i8.toNat]!) 0]), i8 + 1) : (List Int) × Int)) (e' := [(0, v0), (1, .int .i64 now1), (2, .int .i64 span2), (7, vs12), (8, .int .i64 (i8 + 1))]) (Bs12 ++ ([])) (lc rfl (lc rfl (lc rfl (lc rfl (lc rfl ln))))) (Kp.st (Kp.new hb53 (Kp.segKeep Kp.nil))) h ⟨vs12, Bs12, rfl, rfl, hJs12, hcBs12⟩
          · have hq10 : ((((nz ((l0[i8.toNat]!) 1))) && (decide (0 < (l0[i8.toNat]!) 0))) && (decide (span2 ≤ now1 - ((l0[i8.toNat]!) 2)))) = false := hc10
            have hp10 : ¬ (((((nz ((l0[i8.toNat]!) 1))) && (decide (0 < (l0[i8.toNat]!) 0))) && (decide (span2 ≤ now1 - ((l0[i8.toNat]!) 2)))) = true) := bne' hq10
            rw [if_neg hp10] at h
            refine xw_cond_f rfl rfl (xw_skip ?_)
            refine xq_blk 1 ?_
            refine xq_then (xw_region ?_)
            refine xq rfl trivial (o_mv rfl) ?_
            obtain ⟨ho15, h⟩ := h
            refine xq rfl trivial (o_add rfl rfl rfl ho15) ?_
            refine xq rfl trivial (o_as rfl) ?_
            refine xo_nil ?_
            exact xq_next (s' := ((out7, i8 + 1) : (List Int) × Int)) (e' := [(0, v0), (1, .int .i64 now1), (2, .int .i64 span2), (7, v7_1), (8, .int .i64 (i8 + 1))]) (B7_1 ++ ([])) (lc rfl (lc rfl (lc rfl (lc rfl (lc rfl ln))))) (fun _ h => h) h ⟨v7_1, B7_1, rfl, rfl, hJ7_1, hcB7_1⟩
      · have hq3 : (((decide (i8 < (l0.length : Int))) && ((timeR_F now1))) && (decide (0 ≤ span2))) = false := hc3
        have hp3 : ¬ ((((decide (i8 < (l0.length : Int))) && ((timeR_F now1))) && (decide (0 ≤ span2))) = true) := bne' hq3
        rw [if_neg hp3] at h
        refine xw_cond_f rfl rfl (xw_exit (xq_then_exit ?_))
        exact xq_out (r := (out7 : (List Int))) (e' := [(7, v7_1)]) (B7_1 ++ ([])) (lc rfl ln) (fun _ h => h) h (by intro hh; cases hh) ⟨v7_1, B7_1, rfl, rfl, rfl, hJ7_1, hcB7_1⟩
  · rintro _ _ _ ⟨v7_1o, B7_1o, rfl, rfl, rfl, hJ7_1o, hcB7_1o⟩
    replace h : lostR_k1a out7 r := h
    unfold lostR_k1a at h
    refine xq_blk_eq ?_
    refine xq_then (xw_seq (xw_region ?_))
    refine xq rfl trivial (o_mv rfl) ?_
    obtain ⟨ho16, h⟩ := h
    refine xcall rfl trivial kf28 rfl (fun w1 hw1 => risingR_c _ _ w1 (hJ7_1o.sl hw1 (Pull.sub (.here _ _))) ho16) ?_
    rintro w1 vs17 _ hw1 ⟨_, Bs17, rfl, rfl, hJs17, hcBs17⟩
    refine ⟨_, Mg.news (Cov.fresh hcBs17) (.nil _), ?_⟩
    replace hcBs17 := Cov.base (w0 := w) hcBs17 hw1.size
    refine xq rfl trivial (o_as rfl) ?_
    refine xo_nil (xq_then (xw_ret ?_))
    subst h
    exact con_ret1 (.inl rfl) Try.results18 rfl (Bs17 ++ []) (Kp.st (Kp.segKeep (Kp.segNew (Cov.fresh hcB7_1o) Kp.nil))) (⟨_, Bs17, rfl, rfl, hJs17, hcBs17⟩)

end Go.Proofs.Yteomcjiiiilhmaa
