/- The code answers as the relations say. -/
import Derived.Test.YtjmfnohbeoiddaaTab
import Derived.Test.YtjmfnohbeoiddaaMBS
import Derived.Test.YtjmfnohbeoiddaaMAW
set_option maxHeartbeats 1000000
set_option linter.unusedVariables false
set_option linter.unusedSimpArgs false
set_option maxRecDepth 100000
namespace Go.Proofs.Ytjmfnohbeoiddaa
open Go Go.E

theorem path_c (m0 : (Nat → Int)) (w : World) : Con Try.prog 55 #[AI 28 m0] w (Is (.bool (path_F m0)) []) :=
  path_con m0 w _ (path_ok m0)

theorem may_con (m0 : (Nat → Int)) (p0 : Nat) (w : World) (hC : Has w (cat [[(p0, BK 28 (iv m0) 29)]])) (r : Bool × (Nat → Int)) (h : may_S m0 r) : Con Try.prog 50 #[.pointer (some ⟨p0, 0, none⟩)] w (CatG fun v Ls => Cov w (cat [[(p0, BK 28 (iv m0) 29)]]) (cat Ls) ∧ v = .bool r.1 ∧ Ls = [[(p0, BK 28 (iv r.2) 29)]]) := by
  unfold may_S at h
  refine con_enter (n := 151) [(0, _)] Try.func50 rfl Try.ntmps50 rfl (lac rfl lan) ?_
  refine xw_has hC ?_
  refine xw_st ((p0, BK 28 (iv m0) 29) :: ([])) (fun _ h => h) ?_
  refine xw_seq (xw_region ?_)
  refine xq rfl trivial (o_as rfl) ?_
  refine xo_nil (xq_then (xw_seq (xw_region ?_)))
  refine xq rfl trivial (o_as rfl) ?_
  refine xo_nil (xq_then (xw_seq (xw_seq (xw_region ?_))))
  refine xq rfl trivial (o_mv rfl) ?_
  refine xq rfl trivial (o_nilp rfl) ?_
  first | refine xq rfl trivial (o_fa0 fl29_0 rfl) ?_ | refine xq rfl trivial (o_fa fl29_0 rfl) ?_
  refine xq rfl trivial (o_ldI (v := m0 0) rfl ts3 (List.Mem.head _) (by omega) rfl) ?_
  refine xo_nil (xq_then ?_)
  refine xw_block ?_
  refine xw_seq ?_
  refine xw_block ?_
  refine xw_seq ?_
  refine xw_block ?_
  refine xw_seq ?_
  refine xw_block ?_
  refine xw_seq ?_
  refine xw_block ?_
  refine xw_seq ?_
  refine xw_block ?_
  refine xw_seq ?_
  refine xw_block ?_
  refine xw_seq ?_
  refine xw_block ?_
  refine xw_seq (xw_seq (xw_seq (xw_seq (xw_region ?_))))
  refine xq rfl trivial (o_eql rfl rfl) ?_
  refine xq rfl trivial (o_as rfl) ?_
  refine xo_nil (xq_then ?_)
  refine xw_cut [(0, _), (3, _), (7, _)] (lc rfl (lc rfl (lc rfl ln))) [(8, .bool ((decide (m0 0 = 1)) || (decide (m0 0 = 2))))] ?_ ?_
  · refine xw_bool 8 rfl (fun hc1 => ?_) (fun hc1 => ?_)
    · have hq1 : (decide (m0 0 = 1)) = true := hc1
      have hp1 : m0 0 = 1 := of_decide_eq_true hq1
      refine xw_cond_t rfl rfl (xw_skip ?_)
      exact xq_cut (lce rfl (by first | rfl | (simp only [hq1, if_pos hp1, bS]; done) | (simp only [hq1, if_pos hp1, bS, reduceIte, Bool.false_eq_true]; done) | (simp [hp1]; done) | (simp_all; done)) (lc rfl (lc rfl (lc rfl ln)))) (fun _ hh => hh)
    · have hq1 : (decide (m0 0 = 1)) = false := hc1
      have hp1 : ¬ (m0 0 = 1) := of_decide_eq_false hq1
      refine xw_cond_f rfl rfl (xw_region ?_)
      refine xq rfl trivial (o_eql rfl rfl) ?_
      refine xq rfl trivial (o_as rfl) ?_
      refine xo_nil ?_
      exact xq_cut (lce rfl (by first | rfl | (simp only [hq1, if_neg hp1, bS]; done) | (simp only [hq1, if_neg hp1, bS, reduceIte, Bool.false_eq_true]; done) | (simp [hp1]; done) | (simp_all; done)) (lc rfl (lc rfl (lc rfl ln)))) (fun _ hh => hh)
  · refine xq_then ?_
    refine xw_bool 8 rfl (fun hc2 => ?_) (fun hc2 => ?_)
    · have hq2 : ((decide (m0 0 = 1)) || (decide (m0 0 = 2))) = true := hc2
      have hp2 : ((decide (m0 0 = 1)) || (decide (m0 0 = 2))) = true := hq2
      rw [if_pos hp2] at h
      refine xw_cond_t rfl rfl (xw_exit (xq_then_exit (xq_then_exit ?_)))
      refine xq_blk_eq ?_
      refine xq_then (xw_seq (xw_seq ?_))
      refine xw_cut [(0, _)] (lc rfl ln) [(3, .bool (((((resOk_F (fun i => m0 (5 + i)))) && ((inn_F (m0 7) 1 4))) && ((inn_F (m0 4) 1 1048576))) && ((tx_F (m0 3)))))] ?_ ?_
      · refine xw_region ?_
        refine xq rfl trivial (o_mv rfl) ?_
        refine xq rfl trivial (o_nilp rfl) ?_
        first | refine xq rfl trivial (o_fa0 fl29_5 rfl) ?_ | refine xq rfl trivial (o_fa fl29_5 rfl) ?_
        refine xq rfl trivial (o_ldSI rfl ts23 (List.Mem.head _) (by omega) (fun _ _ => rfl)) ?_
        refine xcallq rfl trivial kf52 rfl (fun w1 hw1 => resOk_c _ w1) ?_
        refine xq rfl trivial (o_mv rfl) ?_
        refine xo_bool 30 rfl (fun hg3 => ?_) (fun hg3 => ?_)
        · have hq3 : ((resOk_F (fun i => m0 (5 + i)))) = true := hg3
          have hp3 : ((resOk_F (fun i => m0 (5 + i)))) = true := hq3
          refine xq rfl ⟨_, rfl, rfl⟩ (o_mv rfl) ?_
          refine xq rfl ⟨_, rfl, rfl⟩ (o_nilp rfl) ?_
          first | refine xq rfl ⟨_, rfl, rfl⟩ (o_fa0 fl29_6 rfl) ?_ | refine xq rfl ⟨_, rfl, rfl⟩ (o_fa fl29_6 rfl) ?_
          refine xq rfl ⟨_, rfl, rfl⟩ (o_ldI (v := m0 7) rfl ts24 (List.Mem.head _) (by omega) rfl) ?_
          refine xcallq rfl ⟨_, rfl, rfl⟩ kf53 rfl (fun w1 hw1 => inn_c _ _ _ w1) ?_
          refine xq rfl trivial (o_pick_t rfl rfl) ?_
          refine xq rfl trivial (o_mv rfl) ?_
          refine xo_bool 37 rfl (fun hg4 => ?_) (fun hg4 => ?_)
          · have hq4 : ((inn_F (m0 7) 1 4)) = true := hg4
            have hp4 : ((inn_F (m0 7) 1 4)) = true := hq4
            refine xq rfl ⟨_, rfl, rfl⟩ (o_mv rfl) ?_
            refine xq rfl ⟨_, rfl, rfl⟩ (o_nilp rfl) ?_
            first | refine xq rfl ⟨_, rfl, rfl⟩ (o_fa0 fl29_4 rfl) ?_ | refine xq rfl ⟨_, rfl, rfl⟩ (o_fa fl29_4 rfl) ?_
            refine xq rfl ⟨_, rfl, rfl⟩ (o_ldI (v := m0 4) rfl ts3 (List.Mem.head _) (by omega) rfl) ?_
            refine xcallq rfl ⟨_, rfl, rfl⟩ kf53 rfl (fun w1 hw1 => inn_c _ _ _ w1) ?_
            refine xq rfl trivial (o_pick_t rfl rfl) ?_
            refine xq rfl trivial (o_mv rfl) ?_
            refine xo_bool 44 rfl (fun hg5 => ?_) (fun hg5 => ?_)
            · have hq5 : ((inn_F (m0 4) 1 1048576)) = true := hg5
              have hp5 : ((inn_F (m0 4) 1 1048576)) = true := hq5
              refine xq rfl ⟨_, rfl, rfl⟩ (o_mv rfl) ?_
              refine xq rfl ⟨_, rfl, rfl⟩ (o_nilp rfl) ?_
              first | refine xq rfl ⟨_, rfl, rfl⟩ (o_fa0 fl29_3 rfl) ?_ | refine xq rfl ⟨_, rfl, rfl⟩ (o_fa fl29_3 rfl) ?_
              refine xq rfl ⟨_, rfl, rfl⟩ (o_ldI (v := m0 3) rfl ts3 (List.Mem.head _) (by omega) rfl) ?_
              refine xcallq rfl ⟨_, rfl, rfl⟩ kf54 rfl (fun w1 hw1 => tx_c _ w1) ?_
              refine xq rfl trivial (o_pick_t rfl rfl) ?_
              refine xq rfl trivial (o_as rfl) ?_
              refine xo_nil ?_
              exact xq_cut ((lce rfl (by first | rfl | (simp only [hq2, hq3, hq4, hq5, if_pos hp2, if_pos hp3, if_pos hp4, if_pos hp5, bS]; done) | (simp only [hq2, hq3, hq4, hq5, if_pos hp2, if_pos hp3, if_pos hp4, if_pos hp5, bS, reduceIte, Bool.false_eq_true]; done) | (simp [hp2, hp3, hp4, hp5]; done) | (simp_all; done)) (lc rfl ln))) (fun _ h => h)
            · have hq5 : ((inn_F (m0 4) 1 1048576)) = false := hg5
              have hp5 : ¬ (((inn_F (m0 4) 1 1048576)) = true) := bne' hq5
              refine xs rfl ⟨_, _, rfl, rfl, rfl⟩ (xs rfl ⟨_, _, rfl, rfl, rfl⟩ (xs rfl ⟨_, _, rfl, rfl, rfl⟩ (xs rfl ⟨_, _, rfl, rfl, rfl⟩ (xs rfl ⟨_, _, rfl, rfl, rfl⟩ ?_))))
              refine xq rfl trivial (o_pick_f rfl rfl) ?_
              refine xq rfl trivial (o_as rfl) ?_
              refine xo_nil ?_
              exact xq_cut ((lce rfl (by first | rfl | (simp only [hq2, hq3, hq4, hq5, if_pos hp2, if_pos hp3, if_pos hp4, if_neg hp5, bS]; done) | (simp only [hq2, hq3, hq4, hq5, if_pos hp2, if_pos hp3, if_pos hp4, if_neg hp5, bS, reduceIte, Bool.false_eq_true]; done) | (simp [hp2, hp3, hp4, hp5]; done) | (simp_all; done)) (lc rfl ln))) (fun _ h => h)
          · have hq4 : ((inn_F (m0 7) 1 4)) = false := hg4
            have hp4 : ¬ (((inn_F (m0 7) 1 4)) = true) := bne' hq4
            refine xs rfl ⟨_, _, rfl, rfl, rfl⟩ (xs rfl ⟨_, _, rfl, rfl, rfl⟩ (xs rfl ⟨_, _, rfl, rfl, rfl⟩ (xs rfl ⟨_, _, rfl, rfl, rfl⟩ (xs rfl ⟨_, _, rfl, rfl, rfl⟩ ?_))))
            refine xq rfl trivial (o_pick_f rfl rfl) ?_
            refine xq rfl trivial (o_mv rfl) ?_
            refine xs rfl ⟨_, _, rfl, rfl, rfl⟩ (xs rfl ⟨_, _, rfl, rfl, rfl⟩ (xs rfl ⟨_, _, rfl, rfl, rfl⟩ (xs rfl ⟨_, _, rfl, rfl, rfl⟩ (xs rfl ⟨_, _, rfl, rfl, rfl⟩ ?_))))
            refine xq rfl trivial (o_pick_f rfl rfl) ?_
            refine xq rfl trivial (o_as rfl) ?_
            refine xo_nil ?_
            exact xq_cut ((lce rfl (by first | rfl | (simp only [hq2, hq3, hq4, if_pos hp2, if_pos hp3, if_neg hp4, bS]; done) | (simp only [hq2, hq3, hq4, if_pos hp2, if_pos hp3, if_neg hp4, bS, reduceIte, Bool.false_eq_true]; done) | (simp [hp2, hp3, hp4]; done) | (simp_all; done)) (lc rfl ln))) (fun _ h => h)
        · have hq3 : ((resOk_F (fun i => m0 (5 + i)))) = false := hg3
          have hp3 : ¬ (((resOk_F (fun i => m0 (5 + i)))) = true) := bne' hq3
          refine xs rfl ⟨_, _, rfl, rfl, rfl⟩ (xs rfl ⟨_, _, rfl, rfl, rfl⟩ (xs rfl ⟨_, _, rfl, rfl, rfl⟩ (xs rfl ⟨_, _, rfl, rfl, rfl⟩ (xs rfl ⟨_, _, rfl, rfl, rfl⟩ ?_))))
          refine xq rfl trivial (o_pick_f rfl rfl) ?_
          refine xq rfl trivial (o_mv rfl) ?_
          refine xs rfl ⟨_, _, rfl, rfl, rfl⟩ (xs rfl ⟨_, _, rfl, rfl, rfl⟩ (xs rfl ⟨_, _, rfl, rfl, rfl⟩ (xs rfl ⟨_, _, rfl, rfl, rfl⟩ (xs rfl ⟨_, _, rfl, rfl, rfl⟩ ?_))))
          refine xq rfl trivial (o_pick_f rfl rfl) ?_
          refine xq rfl trivial (o_mv rfl) ?_
          refine xs rfl ⟨_, _, rfl, rfl, rfl⟩ (xs rfl ⟨_, _, rfl, rfl, rfl⟩ (xs rfl ⟨_, _, rfl, rfl, rfl⟩ (xs rfl ⟨_, _, rfl, rfl, rfl⟩ (xs rfl ⟨_, _, rfl, rfl, rfl⟩ ?_))))
          refine xq rfl trivial (o_pick_f rfl rfl) ?_
          refine xq rfl trivial (o_as rfl) ?_
          refine xo_nil ?_
          exact xq_cut ((lce rfl (by first | rfl | (simp only [hq2, hq3, if_pos hp2, if_neg hp3, bS]; done) | (simp only [hq2, hq3, if_pos hp2, if_neg hp3, bS, reduceIte, Bool.false_eq_true]; done) | (simp [hp2, hp3]; done) | (simp_all; done)) (lc rfl ln))) (fun _ h => h)
      · refine xq_then (xw_region ?_)
        refine xq rfl trivial (o_mv rfl) ?_
        refine xq rfl trivial (o_mv rfl) ?_
        refine xq rfl trivial (o_mv rfl) ?_
        refine xq rfl trivial (o_mv rfl) ?_
        refine xq rfl trivial (o_build fk23 ze23 (.nil _)) ?_
        refine xq rfl trivial (o_nilp rfl) ?_
        first | refine xq rfl trivial (o_fa0 fl29_5 rfl) ?_ | refine xq rfl trivial (o_fa fl29_5 rfl) ?_
        refine xq0 trivial (o_stSI rfl rfl ts23 (List.Mem.head _) (by omega) (.here _ _ _ _)) ?_
        refine xq rfl trivial (o_nilp rfl) ?_
        first | refine xq rfl trivial (o_fa0 fl29_6 rfl) ?_ | refine xq rfl trivial (o_fa fl29_6 rfl) ?_
        refine xq0 trivial (o_stI rfl rfl ts24 (List.Mem.head _) (by omega) (.here _ _ _ _)) ?_
        refine xq rfl trivial (o_nilp rfl) ?_
        first | refine xq rfl trivial (o_fa0 fl29_4 rfl) ?_ | refine xq rfl trivial (o_fa fl29_4 rfl) ?_
        refine xq0 trivial (o_stI rfl rfl ts3 (List.Mem.head _) (by omega) (.here _ _ _ _)) ?_
        refine xq rfl trivial (o_nilp rfl) ?_
        first | refine xq rfl trivial (o_fa0 fl29_3 rfl) ?_ | refine xq rfl trivial (o_fa fl29_3 rfl) ?_
        refine xq0 trivial (o_stI rfl rfl ts3 (List.Mem.head _) (by omega) (.here _ _ _ _)) ?_
        refine xo_nil (xq_then (xw_exit (xq_blk_ne rfl (xq_then_exit (xq_blk_ne rfl (xq_then_exit (xq_blk_ne rfl ?_)))))))
        refine xq_then_exit (xq_blk_ne rfl (xq_then_exit (xq_blk_ne rfl (xq_then_exit (xq_blk_ne rfl (xq_then_exit ?_))))))
        refine xq_blk_eq ?_
        refine xq_then (xw_seq (xw_region ?_))
        refine xq rfl trivial (o_mv rfl) ?_
        refine xq rfl trivial (o_as rfl) ?_
        refine xo_nil (xq_then (xw_ret ?_))
        subst h
        exact con_ret1 (.inl rfl) Try.results50 rfl (cat [[(p0, BK 28 (iv (updI (updI (updI (updRI m0 5 2 (fun _ => 0)) 7 0) 4 0) 3 0)) 29)]]) (fun _ h => h) (⟨_, rfl, (Cov.cons Cov.nil), rfl, rfl⟩)
    · have hq2 : ((decide (m0 0 = 1)) || (decide (m0 0 = 2))) = false := hc2
      have hp2 : ¬ (((decide (m0 0 = 1)) || (decide (m0 0 = 2))) = true) := bne' hq2
      rw [if_neg hp2] at h
      refine xw_cond_f rfl rfl (xw_skip (xq_then (xw_seq (xw_seq (xw_region ?_)))))
      refine xq rfl trivial (o_eql rfl rfl) ?_
      refine xq rfl trivial (o_as rfl) ?_
      refine xo_nil (xq_then ?_)
      refine xw_bool 11 rfl (fun hc6 => ?_) (fun hc6 => ?_)
      · have hq6 : (decide (m0 0 = 3)) = true := hc6
        have hp6 : m0 0 = 3 := of_decide_eq_true hq6
        rw [if_pos hp6] at h
        refine xw_cond_t rfl rfl (xw_exit (xq_then_exit (xq_then_exit (xq_blk_ne rfl (xq_then_exit ?_)))))
        refine xq_blk_eq ?_
        refine xq_then (xw_seq ?_)
        refine xw_cut [(0, _)] (lc rfl ln) [(3, .bool (((inn_F (m0 4) 1 1048576)) && ((inn_F (m0 8) 1 15))))] ?_ ?_
        · refine xw_region ?_
          refine xq rfl trivial (o_mv rfl) ?_
          refine xq rfl trivial (o_nilp rfl) ?_
          first | refine xq rfl trivial (o_fa0 fl29_4 rfl) ?_ | refine xq rfl trivial (o_fa fl29_4 rfl) ?_
          refine xq rfl trivial (o_ldI (v := m0 4) rfl ts3 (List.Mem.head _) (by omega) rfl) ?_
          refine xcallq rfl trivial kf53 rfl (fun w1 hw1 => inn_c _ _ _ w1) ?_
          refine xq rfl trivial (o_mv rfl) ?_
          refine xo_bool 69 rfl (fun hg7 => ?_) (fun hg7 => ?_)
          · have hq7 : ((inn_F (m0 4) 1 1048576)) = true := hg7
            have hp7 : ((inn_F (m0 4) 1 1048576)) = true := hq7
            refine xq rfl ⟨_, rfl, rfl⟩ (o_mv rfl) ?_
            refine xq rfl ⟨_, rfl, rfl⟩ (o_nilp rfl) ?_
            first | refine xq rfl ⟨_, rfl, rfl⟩ (o_fa0 fl29_7 rfl) ?_ | refine xq rfl ⟨_, rfl, rfl⟩ (o_fa fl29_7 rfl) ?_
            refine xq rfl ⟨_, rfl, rfl⟩ (o_ldI (v := m0 8) rfl ts3 (List.Mem.head _) (by omega) rfl) ?_
            refine xcallq rfl ⟨_, rfl, rfl⟩ kf53 rfl (fun w1 hw1 => inn_c _ _ _ w1) ?_
            refine xq rfl trivial (o_pick_t rfl rfl) ?_
            refine xq rfl trivial (o_as rfl) ?_
            refine xo_nil ?_
            exact xq_cut ((lce rfl (by first | rfl | (simp only [hq2, hq6, hq7, if_neg hp2, if_pos hp6, if_pos hp7, bS]; done) | (simp only [hq2, hq6, hq7, if_neg hp2, if_pos hp6, if_pos hp7, bS, reduceIte, Bool.false_eq_true]; done) | (simp [hp2, hp6, hp7]; done) | (simp_all; done)) (lc rfl ln))) (fun _ h => h)
          · have hq7 : ((inn_F (m0 4) 1 1048576)) = false := hg7
            have hp7 : ¬ (((inn_F (m0 4) 1 1048576)) = true) := bne' hq7
            refine xs rfl ⟨_, _, rfl, rfl, rfl⟩ (xs rfl ⟨_, _, rfl, rfl, rfl⟩ (xs rfl ⟨_, _, rfl, rfl, rfl⟩ (xs rfl ⟨_, _, rfl, rfl, rfl⟩ (xs rfl ⟨_, _, rfl, rfl, rfl⟩ ?_))))
            refine xq rfl trivial (o_pick_f rfl rfl) ?_
            refine xq rfl trivial (o_as rfl) ?_
            refine xo_nil ?_
            exact xq_cut ((lce rfl (by first | rfl | (simp only [hq2, hq6, hq7, if_neg hp2, if_pos hp6, if_neg hp7, bS]; done) | (simp only [hq2, hq6, hq7, if_neg hp2, if_pos hp6, if_neg hp7, bS, reduceIte, Bool.false_eq_true]; done) | (simp [hp2, hp6, hp7]; done) | (simp_all; done)) (lc rfl ln))) (fun _ h => h)
        · refine xq_then (xw_region ?_)
          refine xq rfl trivial (o_mv rfl) ?_
          refine xq rfl trivial (o_mv rfl) ?_
          refine xq rfl trivial (o_nilp rfl) ?_
          first | refine xq rfl trivial (o_fa0 fl29_4 rfl) ?_ | refine xq rfl trivial (o_fa fl29_4 rfl) ?_
          refine xq0 trivial (o_stI rfl rfl ts3 (List.Mem.head _) (by omega) (.here _ _ _ _)) ?_
          refine xq rfl trivial (o_nilp rfl) ?_
          first | refine xq rfl trivial (o_fa0 fl29_7 rfl) ?_ | refine xq rfl trivial (o_fa fl29_7 rfl) ?_
          refine xq0 trivial (o_stI rfl rfl ts3 (List.Mem.head _) (by omega) (.here _ _ _ _)) ?_
          refine xo_nil ?_
          refine xq_blk 3 ?_
          refine xq_then (xw_seq ?_)
          refine xw_cut [(0, _)] (lc rfl ln) [(3, .bool ((((inn_F (m0 4) 1 1048576)) && ((inn_F (m0 8) 1 15))) && ((inn_F 0 0 1))))] ?_ ?_
          · refine xw_region ?_
            refine xq rfl trivial (o_mv rfl) ?_
            refine xq rfl trivial (o_mv rfl) ?_
            refine xo_bool 83 rfl (fun hg8 => ?_) (fun hg8 => ?_)
            · have hq8 : (((inn_F (m0 4) 1 1048576)) && ((inn_F (m0 8) 1 15))) = true := hg8
              have hp8 : (((inn_F (m0 4) 1 1048576)) && ((inn_F (m0 8) 1 15))) = true := hq8
              refine xq rfl ⟨_, rfl, rfl⟩ (o_mv rfl) ?_
              refine xq rfl ⟨_, rfl, rfl⟩ (o_nilp rfl) ?_
              first | refine xq rfl ⟨_, rfl, rfl⟩ (o_fa0 fl29_7 rfl) ?_ | refine xq rfl ⟨_, rfl, rfl⟩ (o_fa fl29_7 rfl) ?_
              refine xq rfl ⟨_, rfl, rfl⟩ (o_ldI (v := 0) rfl ts3 (List.Mem.head _) (by omega) rfl) ?_
              refine xcallq rfl ⟨_, rfl, rfl⟩ kf53 rfl (fun w1 hw1 => inn_c _ _ _ w1) ?_
              refine xq rfl trivial (o_pick_t rfl rfl) ?_
              refine xq rfl trivial (o_as rfl) ?_
              refine xo_nil ?_
              exact xq_cut ((lce rfl (by first | rfl | (simp only [hq2, hq6, hq8, if_neg hp2, if_pos hp6, if_pos hp8, bS]; done) | (simp only [hq2, hq6, hq8, if_neg hp2, if_pos hp6, if_pos hp8, bS, reduceIte, Bool.false_eq_true]; done) | (simp [hp2, hp6, hp8]; done) | (simp_all; done)) (lc rfl ln))) (fun _ h => h)
            · have hq8 : (((inn_F (m0 4) 1 1048576)) && ((inn_F (m0 8) 1 15))) = false := hg8
              have hp8 : ¬ ((((inn_F (m0 4) 1 1048576)) && ((inn_F (m0 8) 1 15))) = true) := bne' hq8
              refine xs rfl ⟨_, _, rfl, rfl, rfl⟩ (xs rfl ⟨_, _, rfl, rfl, rfl⟩ (xs rfl ⟨_, _, rfl, rfl, rfl⟩ (xs rfl ⟨_, _, rfl, rfl, rfl⟩ (xs rfl ⟨_, _, rfl, rfl, rfl⟩ ?_))))
              refine xq rfl trivial (o_pick_f rfl rfl) ?_
              refine xq rfl trivial (o_as rfl) ?_
              refine xo_nil ?_
              exact xq_cut ((lce rfl (by first | rfl | (simp only [hq2, hq6, hq8, if_neg hp2, if_pos hp6, if_neg hp8, bS]; done) | (simp only [hq2, hq6, hq8, if_neg hp2, if_pos hp6, if_neg hp8, bS, reduceIte, Bool.false_eq_true]; done) | (simp [hp2, hp6, hp8]; done) | (simp_all; done)) (lc rfl ln))) (fun _ h => h)
          · refine xq_then (xw_region ?_)
            refine xq rfl trivial (o_mv rfl) ?_
            refine xq rfl trivial (o_nilp rfl) ?_
            first | refine xq rfl trivial (o_fa0 fl29_7 rfl) ?_ | refine xq rfl trivial (o_fa fl29_7 rfl) ?_
            refine xq0 trivial (o_stI rfl rfl ts3 (List.Mem.head _) (by omega) (.here _ _ _ _)) ?_
            refine xo_nil ?_
            refine xq_blk 4 ?_
            refine xq_then (xw_seq (xw_seq ?_))
            refine xw_cut [(0, _)] (lc rfl ln) [(3, .bool (((((inn_F (m0 4) 1 1048576)) && ((inn_F (m0 8) 1 15))) && ((inn_F 0 0 1))) && ((tx_F (m0 3)))))] ?_ ?_
            · refine xw_region ?_
              refine xq rfl trivial (o_mv rfl) ?_
              refine xq rfl trivial (o_mv rfl) ?_
              refine xo_bool 94 rfl (fun hg9 => ?_) (fun hg9 => ?_)
              · have hq9 : ((((inn_F (m0 4) 1 1048576)) && ((inn_F (m0 8) 1 15))) && ((inn_F 0 0 1))) = true := hg9
                have hp9 : ((((inn_F (m0 4) 1 1048576)) && ((inn_F (m0 8) 1 15))) && ((inn_F 0 0 1))) = true := hq9
                refine xq rfl ⟨_, rfl, rfl⟩ (o_mv rfl) ?_
                refine xq rfl ⟨_, rfl, rfl⟩ (o_nilp rfl) ?_
                first | refine xq rfl ⟨_, rfl, rfl⟩ (o_fa0 fl29_3 rfl) ?_ | refine xq rfl ⟨_, rfl, rfl⟩ (o_fa fl29_3 rfl) ?_
                refine xq rfl ⟨_, rfl, rfl⟩ (o_ldI (v := m0 3) rfl ts3 (List.Mem.head _) (by omega) rfl) ?_
                refine xcallq rfl ⟨_, rfl, rfl⟩ kf54 rfl (fun w1 hw1 => tx_c _ w1) ?_
                refine xq rfl trivial (o_pick_t rfl rfl) ?_
                refine xq rfl trivial (o_as rfl) ?_
                refine xo_nil ?_
                exact xq_cut ((lce rfl (by first | rfl | (simp only [hq2, hq6, hq9, if_neg hp2, if_pos hp6, if_pos hp9, bS]; done) | (simp only [hq2, hq6, hq9, if_neg hp2, if_pos hp6, if_pos hp9, bS, reduceIte, Bool.false_eq_true]; done) | (simp [hp2, hp6, hp9]; done) | (simp_all; done)) (lc rfl ln))) (fun _ h => h)
              · have hq9 : ((((inn_F (m0 4) 1 1048576)) && ((inn_F (m0 8) 1 15))) && ((inn_F 0 0 1))) = false := hg9
                have hp9 : ¬ (((((inn_F (m0 4) 1 1048576)) && ((inn_F (m0 8) 1 15))) && ((inn_F 0 0 1))) = true) := bne' hq9
                refine xs rfl ⟨_, _, rfl, rfl, rfl⟩ (xs rfl ⟨_, _, rfl, rfl, rfl⟩ (xs rfl ⟨_, _, rfl, rfl, rfl⟩ (xs rfl ⟨_, _, rfl, rfl, rfl⟩ (xs rfl ⟨_, _, rfl, rfl, rfl⟩ ?_))))
                refine xq rfl trivial (o_pick_f rfl rfl) ?_
                refine xq rfl trivial (o_as rfl) ?_
                refine xo_nil ?_
                exact xq_cut ((lce rfl (by first | rfl | (simp only [hq2, hq6, hq9, if_neg hp2, if_pos hp6, if_neg hp9, bS]; done) | (simp only [hq2, hq6, hq9, if_neg hp2, if_pos hp6, if_neg hp9, bS, reduceIte, Bool.false_eq_true]; done) | (simp [hp2, hp6, hp9]; done) | (simp_all; done)) (lc rfl ln))) (fun _ h => h)
            · refine xq_then (xw_region ?_)
              refine xq rfl trivial (o_mv rfl) ?_
              refine xq rfl trivial (o_nilp rfl) ?_
              first | refine xq rfl trivial (o_fa0 fl29_3 rfl) ?_ | refine xq rfl trivial (o_fa fl29_3 rfl) ?_
              refine xq0 trivial (o_stI rfl rfl ts3 (List.Mem.head _) (by omega) (.here _ _ _ _)) ?_
              refine xo_nil (xq_then (xw_exit (xq_blk_ne rfl (xq_then_exit (xq_blk_ne rfl (xq_then_exit (xq_blk_ne rfl ?_)))))))
              refine xq_then_exit ?_
              refine xq_blk_eq ?_
              refine xq_then (xw_seq (xw_region ?_))
              refine xq rfl trivial (o_mv rfl) ?_
              refine xq rfl trivial (o_as rfl) ?_
              refine xo_nil (xq_then (xw_ret ?_))
              subst h
              exact con_ret1 (.inl rfl) Try.results50 rfl (cat [[(p0, BK 28 (iv (updI (updI (updI (updI m0 4 0) 8 0) 8 0) 3 0)) 29)]]) (fun _ h => h) (⟨_, rfl, (Cov.cons Cov.nil), rfl, rfl⟩)
      · have hq6 : (decide (m0 0 = 3)) = false := hc6
        have hp6 : ¬ (m0 0 = 3) := of_decide_eq_false hq6
        rw [if_neg hp6] at h
        refine xw_cond_f rfl rfl (xw_skip (xq_then (xw_seq (xw_seq (xw_seq (xw_region ?_))))))
        refine xq rfl trivial (o_eql rfl rfl) ?_
        refine xq rfl trivial (o_as rfl) ?_
        refine xo_nil (xq_then ?_)
        refine xw_cut [(0, _), (3, _), (7, _)] (lc rfl (lc rfl (lc rfl ln))) [(13, .bool ((decide (m0 0 = 5)) || (decide (m0 0 = 6))))] ?_ ?_
        · refine xw_bool 13 rfl (fun hc10 => ?_) (fun hc10 => ?_)
          · have hq10 : (decide (m0 0 = 5)) = true := hc10
            have hp10 : m0 0 = 5 := of_decide_eq_true hq10
            refine xw_cond_t rfl rfl (xw_skip ?_)
            exact xq_cut (lce rfl (by first | rfl | (simp only [hq2, hq6, hq10, if_neg hp2, if_neg hp6, if_pos hp10, bS]; done) | (simp only [hq2, hq6, hq10, if_neg hp2, if_neg hp6, if_pos hp10, bS, reduceIte, Bool.false_eq_true]; done) | (simp [hp2, hp6, hp10]; done) | (simp_all; done)) (lc rfl (lc rfl (lc rfl ln)))) (fun _ hh => hh)
          · have hq10 : (decide (m0 0 = 5)) = false := hc10
            have hp10 : ¬ (m0 0 = 5) := of_decide_eq_false hq10
            refine xw_cond_f rfl rfl (xw_region ?_)
            refine xq rfl trivial (o_eql rfl rfl) ?_
            refine xq rfl trivial (o_as rfl) ?_
            refine xo_nil ?_
            exact xq_cut (lce rfl (by first | rfl | (simp only [hq2, hq6, hq10, if_neg hp2, if_neg hp6, if_neg hp10, bS]; done) | (simp only [hq2, hq6, hq10, if_neg hp2, if_neg hp6, if_neg hp10, bS, reduceIte, Bool.false_eq_true]; done) | (simp [hp2, hp6, hp10]; done) | (simp_all; done)) (lc rfl (lc rfl (lc rfl ln)))) (fun _ hh => hh)
        · refine xq_then ?_
          refine xw_bool 13 rfl (fun hc11 => ?_) (fun hc11 => ?_)
          · have hq11 : ((decide (m0 0 = 5)) || (decide (m0 0 = 6))) = true := hc11
            have hp11 : ((decide (m0 0 = 5)) || (decide (m0 0 = 6))) = true := hq11
            rw [if_pos hp11] at h
            refine xw_cond_t rfl rfl (xw_exit (xq_then_exit (xq_then_exit (xq_blk_ne rfl (xq_then_exit (xq_blk_ne rfl (xq_then_exit ?_)))))))
            refine xq_blk_eq ?_
            refine xq_then (xw_seq ?_)
            refine xw_cut [(0, _)] (lc rfl ln) [(3, .bool ((inn_F (m0 8) 0 1)))] ?_ ?_
            · refine xw_region ?_
              refine xq rfl trivial (o_mv rfl) ?_
              refine xq rfl trivial (o_mv rfl) ?_
              refine xq rfl ⟨_, rfl, rfl⟩ (o_mv rfl) ?_
              refine xq rfl ⟨_, rfl, rfl⟩ (o_nilp rfl) ?_
              first | refine xq rfl ⟨_, rfl, rfl⟩ (o_fa0 fl29_7 rfl) ?_ | refine xq rfl ⟨_, rfl, rfl⟩ (o_fa fl29_7 rfl) ?_
              refine xq rfl ⟨_, rfl, rfl⟩ (o_ldI (v := m0 8) rfl ts3 (List.Mem.head _) (by omega) rfl) ?_
              refine xcallq rfl ⟨_, rfl, rfl⟩ kf53 rfl (fun w1 hw1 => inn_c _ _ _ w1) ?_
              refine xq rfl trivial (o_pick_t rfl rfl) ?_
              refine xq rfl trivial (o_as rfl) ?_
              refine xo_nil ?_
              exact xq_cut ((lce rfl (by first | rfl | (simp only [hq2, hq6, hq11, if_neg hp2, if_neg hp6, if_pos hp11, bS]; done) | (simp only [hq2, hq6, hq11, if_neg hp2, if_neg hp6, if_pos hp11, bS, reduceIte, Bool.false_eq_true]; done) | (simp [hp2, hp6, hp11]; done) | (simp_all; done)) (lc rfl ln))) (fun _ h => h)
            · refine xq_then (xw_region ?_)
              refine xq rfl trivial (o_mv rfl) ?_
              refine xq rfl trivial (o_nilp rfl) ?_
              first | refine xq rfl trivial (o_fa0 fl29_7 rfl) ?_ | refine xq rfl trivial (o_fa fl29_7 rfl) ?_
              refine xq0 trivial (o_stI rfl rfl ts3 (List.Mem.head _) (by omega) (.here _ _ _ _)) ?_
              refine xo_nil ?_
              refine xq_blk 4 ?_
              refine xq_then (xw_seq (xw_seq ?_))
              refine xw_cut [(0, _)] (lc rfl ln) [(3, .bool (((inn_F (m0 8) 0 1)) && ((tx_F (m0 3)))))] ?_ ?_
              · refine xw_region ?_
                refine xq rfl trivial (o_mv rfl) ?_
                refine xq rfl trivial (o_mv rfl) ?_
                refine xo_bool 94 rfl (fun hg12 => ?_) (fun hg12 => ?_)
                · have hq12 : ((inn_F (m0 8) 0 1)) = true := hg12
                  have hp12 : ((inn_F (m0 8) 0 1)) = true := hq12
                  refine xq rfl ⟨_, rfl, rfl⟩ (o_mv rfl) ?_
                  refine xq rfl ⟨_, rfl, rfl⟩ (o_nilp rfl) ?_
                  first | refine xq rfl ⟨_, rfl, rfl⟩ (o_fa0 fl29_3 rfl) ?_ | refine xq rfl ⟨_, rfl, rfl⟩ (o_fa fl29_3 rfl) ?_
                  refine xq rfl ⟨_, rfl, rfl⟩ (o_ldI (v := m0 3) rfl ts3 (List.Mem.head _) (by omega) rfl) ?_
                  refine xcallq rfl ⟨_, rfl, rfl⟩ kf54 rfl (fun w1 hw1 => tx_c _ w1) ?_
                  refine xq rfl trivial (o_pick_t rfl rfl) ?_
                  refine xq rfl trivial (o_as rfl) ?_
                  refine xo_nil ?_
                  exact xq_cut ((lce rfl (by first | rfl | (simp only [hq2, hq6, hq11, hq12, if_neg hp2, if_neg hp6, if_pos hp11, if_pos hp12, bS]; done) | (simp only [hq2, hq6, hq11, hq12, if_neg hp2, if_neg hp6, if_pos hp11, if_pos hp12, bS, reduceIte, Bool.false_eq_true]; done) | (simp [hp2, hp6, hp11, hp12]; done) | (simp_all; done)) (lc rfl ln))) (fun _ h => h)
                · have hq12 : ((inn_F (m0 8) 0 1)) = false := hg12
                  have hp12 : ¬ (((inn_F (m0 8) 0 1)) = true) := bne' hq12
                  refine xs rfl ⟨_, _, rfl, rfl, rfl⟩ (xs rfl ⟨_, _, rfl, rfl, rfl⟩ (xs rfl ⟨_, _, rfl, rfl, rfl⟩ (xs rfl ⟨_, _, rfl, rfl, rfl⟩ (xs rfl ⟨_, _, rfl, rfl, rfl⟩ ?_))))
                  refine xq rfl trivial (o_pick_f rfl rfl) ?_
                  refine xq rfl trivial (o_as rfl) ?_
                  refine xo_nil ?_
                  exact xq_cut ((lce rfl (by first | rfl | (simp only [hq2, hq6, hq11, hq12, if_neg hp2, if_neg hp6, if_pos hp11, if_neg hp12, bS]; done) | (simp only [hq2, hq6, hq11, hq12, if_neg hp2, if_neg hp6, if_pos hp11, if_neg hp12, bS, reduceIte, Bool.false_eq_true]; done) | (simp [hp2, hp6, hp11, hp12]; done) | (simp_all; done)) (lc rfl ln))) (fun _ h => h)
              · refine xq_then (xw_region ?_)
                refine xq rfl trivial (o_mv rfl) ?_
                refine xq rfl trivial (o_nilp rfl) ?_
                first | refine xq rfl trivial (o_fa0 fl29_3 rfl) ?_ | refine xq rfl trivial (o_fa fl29_3 rfl) ?_
                refine xq0 trivial (o_stI rfl rfl ts3 (List.Mem.head _) (by omega) (.here _ _ _ _)) ?_
                refine xo_nil (xq_then (xw_exit (xq_blk_ne rfl (xq_then_exit (xq_blk_ne rfl (xq_then_exit (xq_blk_ne rfl ?_)))))))
                refine xq_then_exit ?_
                refine xq_blk_eq ?_
                refine xq_then (xw_seq (xw_region ?_))
                refine xq rfl trivial (o_mv rfl) ?_
                refine xq rfl trivial (o_as rfl) ?_
                refine xo_nil (xq_then (xw_ret ?_))
                subst h
                exact con_ret1 (.inl rfl) Try.results50 rfl (cat [[(p0, BK 28 (iv (updI (updI m0 8 0) 3 0)) 29)]]) (fun _ h => h) (⟨_, rfl, (Cov.cons Cov.nil), rfl, rfl⟩)
          · have hq11 : ((decide (m0 0 = 5)) || (decide (m0 0 = 6))) = false := hc11
            have hp11 : ¬ (((decide (m0 0 = 5)) || (decide (m0 0 = 6))) = true) := bne' hq11
            rw [if_neg hp11] at h
            refine xw_cond_f rfl rfl (xw_skip (xq_then (xw_seq (xw_seq (xw_seq (xw_region ?_))))))
            refine xq rfl trivial (o_eql rfl rfl) ?_
            refine xq rfl trivial (o_as rfl) ?_
            refine xo_nil (xq_then ?_)
            refine xw_cut [(0, _), (3, _), (7, _)] (lc rfl (lc rfl (lc rfl ln))) [(16, .bool ((decide (m0 0 = 4)) || ((decide (m0 0 = 7)) || ((decide (m0 0 = 8)) || (decide (m0 0 = 9))))))] ?_ ?_
            · refine xw_bool 16 rfl (fun hc13 => ?_) (fun hc13 => ?_)
              · have hq13 : (decide (m0 0 = 4)) = true := hc13
                have hp13 : m0 0 = 4 := of_decide_eq_true hq13
                refine xw_cond_t rfl rfl (xw_skip ?_)
                exact xq_cut (lce rfl (by first | rfl | (simp only [hq2, hq6, hq11, hq13, if_neg hp2, if_neg hp6, if_neg hp11, if_pos hp13, bS]; done) | (simp only [hq2, hq6, hq11, hq13, if_neg hp2, if_neg hp6, if_neg hp11, if_pos hp13, bS, reduceIte, Bool.false_eq_true]; done) | (simp [hp2, hp6, hp11, hp13]; done) | (simp_all; done)) (lc rfl (lc rfl (lc rfl ln)))) (fun _ hh => hh)
              · have hq13 : (decide (m0 0 = 4)) = false := hc13
                have hp13 : ¬ (m0 0 = 4) := of_decide_eq_false hq13
                refine xw_cond_f rfl rfl (xw_seq (xw_region ?_))
                refine xq rfl trivial (o_eql rfl rfl) ?_
                refine xq rfl trivial (o_as rfl) ?_
                refine xo_nil (xq_then ?_)
                refine xw_cut [(0, _), (3, _), (7, _)] (lc rfl (lc rfl (lc rfl ln))) [(16, .bool ((decide (m0 0 = 7)) || ((decide (m0 0 = 8)) || (decide (m0 0 = 9)))))] ?_ ?_
                · refine xw_bool 16 rfl (fun hc14 => ?_) (fun hc14 => ?_)
                  · have hq14 : (decide (m0 0 = 7)) = true := hc14
                    have hp14 : m0 0 = 7 := of_decide_eq_true hq14
                    refine xw_cond_t rfl rfl (xw_skip ?_)
                    exact xq_cut (lce rfl (by first | rfl | (simp only [hq2, hq6, hq11, hq13, hq14, if_neg hp2, if_neg hp6, if_neg hp11, if_neg hp13, if_pos hp14, bS]; done) | (simp only [hq2, hq6, hq11, hq13, hq14, if_neg hp2, if_neg hp6, if_neg hp11, if_neg hp13, if_pos hp14, bS, reduceIte, Bool.false_eq_true]; done) | (simp [hp2, hp6, hp11, hp13, hp14]; done) | (simp_all; done)) (lc rfl (lc rfl (lc rfl ln)))) (fun _ hh => hh)
                  · have hq14 : (decide (m0 0 = 7)) = false := hc14
                    have hp14 : ¬ (m0 0 = 7) := of_decide_eq_false hq14
                    refine xw_cond_f rfl rfl (xw_seq (xw_region ?_))
                    refine xq rfl trivial (o_eql rfl rfl) ?_
                    refine xq rfl trivial (o_as rfl) ?_
                    refine xo_nil (xq_then ?_)
                    refine xw_cut [(0, _), (3, _), (7, _)] (lc rfl (lc rfl (lc rfl ln))) [(16, .bool ((decide (m0 0 = 8)) || (decide (m0 0 = 9))))] ?_ ?_
                    · refine xw_bool 16 rfl (fun hc15 => ?_) (fun hc15 => ?_)
                      · have hq15 : (decide (m0 0 = 8)) = true := hc15
                        have hp15 : m0 0 = 8 := of_decide_eq_true hq15
                        refine xw_cond_t rfl rfl (xw_skip ?_)
                        exact xq_cut (lce rfl (by first | rfl | (simp only [hq2, hq6, hq11, hq13, hq14, hq15, if_neg hp2, if_neg hp6, if_neg hp11, if_neg hp13, if_neg hp14, if_pos hp15, bS]; done) | (simp only [hq2, hq6, hq11, hq13, hq14, hq15, if_neg hp2, if_neg hp6, if_neg hp11, if_neg hp13, if_neg hp14, if_pos hp15, bS, reduceIte, Bool.false_eq_true]; done) | (simp [hp2, hp6, hp11, hp13, hp14, hp15]; done) | (simp_all; done)) (lc rfl (lc rfl (lc rfl ln)))) (fun _ hh => hh)
                      · have hq15 : (decide (m0 0 = 8)) = false := hc15
                        have hp15 : ¬ (m0 0 = 8) := of_decide_eq_false hq15
                        refine xw_cond_f rfl rfl (xw_region ?_)
                        refine xq rfl trivial (o_eql rfl rfl) ?_
                        refine xq rfl trivial (o_as rfl) ?_
                        refine xo_nil ?_
                        exact xq_cut (lce rfl (by first | rfl | (simp only [hq2, hq6, hq11, hq13, hq14, hq15, if_neg hp2, if_neg hp6, if_neg hp11, if_neg hp13, if_neg hp14, if_neg hp15, bS]; done) | (simp only [hq2, hq6, hq11, hq13, hq14, hq15, if_neg hp2, if_neg hp6, if_neg hp11, if_neg hp13, if_neg hp14, if_neg hp15, bS, reduceIte, Bool.false_eq_true]; done) | (simp [hp2, hp6, hp11, hp13, hp14, hp15]; done) | (simp_all; done)) (lc rfl (lc rfl (lc rfl ln)))) (fun _ hh => hh)
                    · exact xq_cut (lce rfl (by first | rfl | (simp only [hq2, hq6, hq11, hq13, hq14, if_neg hp2, if_neg hp6, if_neg hp11, if_neg hp13, if_neg hp14, bS]; done) | (simp only [hq2, hq6, hq11, hq13, hq14, if_neg hp2, if_neg hp6, if_neg hp11, if_neg hp13, if_neg hp14, bS, reduceIte, Bool.false_eq_true]; done) | (simp [hp2, hp6, hp11, hp13, hp14]; done) | (simp_all; done)) (lc rfl (lc rfl (lc rfl ln)))) (fun _ hh => hh)
                · exact xq_cut (lce rfl (by first | rfl | (simp only [hq2, hq6, hq11, hq13, if_neg hp2, if_neg hp6, if_neg hp11, if_neg hp13, bS]; done) | (simp only [hq2, hq6, hq11, hq13, if_neg hp2, if_neg hp6, if_neg hp11, if_neg hp13, bS, reduceIte, Bool.false_eq_true]; done) | (simp [hp2, hp6, hp11, hp13]; done) | (simp_all; done)) (lc rfl (lc rfl (lc rfl ln)))) (fun _ hh => hh)
            · refine xq_then ?_
              refine xw_bool 16 rfl (fun hc16 => ?_) (fun hc16 => ?_)
              · have hq16 : ((decide (m0 0 = 4)) || ((decide (m0 0 = 7)) || ((decide (m0 0 = 8)) || (decide (m0 0 = 9))))) = true := hc16
                have hp16 : ((decide (m0 0 = 4)) || ((decide (m0 0 = 7)) || ((decide (m0 0 = 8)) || (decide (m0 0 = 9))))) = true := hq16
                rw [if_pos hp16] at h
                refine xw_cond_t rfl rfl (xw_exit (xq_then_exit (xq_then_exit (xq_blk_ne rfl (xq_then_exit (xq_blk_ne rfl (xq_then_exit ?_)))))))
                refine xq_blk_ne rfl (xq_then_exit ?_)
                refine xq_blk_eq ?_
                refine xq_then (xw_seq (xw_seq ?_))
                refine xw_cut [(0, _)] (lc rfl ln) [(3, .bool ((tx_F (m0 3))))] ?_ ?_
                · refine xw_region ?_
                  refine xq rfl trivial (o_mv rfl) ?_
                  refine xq rfl trivial (o_mv rfl) ?_
                  refine xq rfl ⟨_, rfl, rfl⟩ (o_mv rfl) ?_
                  refine xq rfl ⟨_, rfl, rfl⟩ (o_nilp rfl) ?_
                  first | refine xq rfl ⟨_, rfl, rfl⟩ (o_fa0 fl29_3 rfl) ?_ | refine xq rfl ⟨_, rfl, rfl⟩ (o_fa fl29_3 rfl) ?_
                  refine xq rfl ⟨_, rfl, rfl⟩ (o_ldI (v := m0 3) rfl ts3 (List.Mem.head _) (by omega) rfl) ?_
                  refine xcallq rfl ⟨_, rfl, rfl⟩ kf54 rfl (fun w1 hw1 => tx_c _ w1) ?_
                  refine xq rfl trivial (o_pick_t rfl rfl) ?_
                  refine xq rfl trivial (o_as rfl) ?_
                  refine xo_nil ?_
                  exact xq_cut ((lce rfl (by first | rfl | (simp only [hq2, hq6, hq11, hq16, if_neg hp2, if_neg hp6, if_neg hp11, if_pos hp16, bS]; done) | (simp only [hq2, hq6, hq11, hq16, if_neg hp2, if_neg hp6, if_neg hp11, if_pos hp16, bS, reduceIte, Bool.false_eq_true]; done) | (simp [hp2, hp6, hp11, hp16]; done) | (simp_all; done)) (lc rfl ln))) (fun _ h => h)
                · refine xq_then (xw_region ?_)
                  refine xq rfl trivial (o_mv rfl) ?_
                  refine xq rfl trivial (o_nilp rfl) ?_
                  first | refine xq rfl trivial (o_fa0 fl29_3 rfl) ?_ | refine xq rfl trivial (o_fa fl29_3 rfl) ?_
                  refine xq0 trivial (o_stI rfl rfl ts3 (List.Mem.head _) (by omega) (.here _ _ _ _)) ?_
                  refine xo_nil (xq_then (xw_exit (xq_blk_ne rfl (xq_then_exit (xq_blk_ne rfl (xq_then_exit (xq_blk_ne rfl ?_)))))))
                  refine xq_then_exit ?_
                  refine xq_blk_eq ?_
                  refine xq_then (xw_seq (xw_region ?_))
                  refine xq rfl trivial (o_mv rfl) ?_
                  refine xq rfl trivial (o_as rfl) ?_
                  refine xo_nil (xq_then (xw_ret ?_))
                  subst h
                  exact con_ret1 (.inl rfl) Try.results50 rfl (cat [[(p0, BK 28 (iv (updI m0 3 0)) 29)]]) (fun _ h => h) (⟨_, rfl, (Cov.cons Cov.nil), rfl, rfl⟩)
              · have hq16 : ((decide (m0 0 = 4)) || ((decide (m0 0 = 7)) || ((decide (m0 0 = 8)) || (decide (m0 0 = 9))))) = false := hc16
                have hp16 : ¬ (((decide (m0 0 = 4)) || ((decide (m0 0 = 7)) || ((decide (m0 0 = 8)) || (decide (m0 0 = 9))))) = true) := bne' hq16
                rw [if_neg hp16] at h
                refine xw_cond_f rfl rfl (xw_skip (xq_then (xw_seq (xw_seq (xw_region ?_)))))
                refine xq rfl trivial (o_eql rfl rfl) ?_
                refine xq rfl trivial (o_as rfl) ?_
                refine xo_nil (xq_then ?_)
                refine xw_bool 21 rfl (fun hc17 => ?_) (fun hc17 => ?_)
                · have hq17 : (decide (m0 0 = 10)) = true := hc17
                  have hp17 : m0 0 = 10 := of_decide_eq_true hq17
                  rw [if_pos hp17] at h
                  refine xw_cond_t rfl rfl (xw_exit (xq_then_exit (xq_then_exit (xq_blk_ne rfl (xq_then_exit (xq_blk_ne rfl (xq_then_exit ?_)))))))
                  refine xq_blk_ne rfl (xq_then_exit (xq_blk_ne rfl (xq_then_exit ?_)))
                  refine xq_blk_eq ?_
                  refine xq_then (xw_seq (xw_seq ?_))
                  refine xw_cut [(0, _)] (lc rfl ln) [(3, .bool ((((tx_F (m0 3))) && ((tx_F (m0 9)))) && (decide (m0 9 < m0 3))))] ?_ ?_
                  · refine xd_start (by kernel_rfl) (by kernel_rfl) (fun hok => ?_)
                    refine xd_b hok 0 [(0, _)] ([]) rsN rfl rfl rfl (lc rfl ln) (by kernel_rfl) trivial (fun H' hy hK => o_mv rfl) ?_
                    refine xd_b hok 1 [(104, _)] ([]) rsN rfl rfl rfl (lc rfl ln) (by kernel_rfl) trivial (fun H' hy hK => o_nilp rfl) ?_
                    first | refine xd_b hok 2 [(105, _)] ([]) rsN rfl rfl rfl (lc rfl ln) (by kernel_rfl) trivial (fun H' hy hK => o_fa0 fl29_3 rfl) ?_ | refine xd_b hok 2 [(105, _)] ([]) rsN rfl rfl rfl (lc rfl ln) (by kernel_rfl) trivial (fun H' hy hK => o_fa fl29_3 rfl) ?_
                    refine xd_b hok 3 [(106, _)] ((p0, BK 28 (iv m0) 29) :: ([])) (rsC (List.Mem.head _) rsN) rfl rfl rfl (lc rfl ln) (by kernel_rfl) trivial (fun H' hy hK => o_ldI (v := m0 3) rfl ts3 (hy _ (List.Mem.head _)) (by omega) rfl) ?_
                    refine xd_b hok 4 [(107, _)] ([]) rsN rfl rfl rfl (lc rfl ln) (by kernel_rfl) trivial (fun H' hy hK => o_callq kf54 rfl (fun w1 hw1 => tx_c _ w1)) ?_
                    refine xd_b hok 5 [(108, _)] ([]) rsN rfl rfl rfl (lc rfl ln) (by kernel_rfl) trivial (fun H' hy hK => o_mv rfl) ?_
                    refine xd_bool 109 rfl (fun hg18 => ?_) (fun hg18 => ?_)
                    · have hq18 : ((tx_F (m0 3))) = true := hg18
                      have hp18 : ((tx_F (m0 3))) = true := hq18
                      refine xd_b hok 6 [(0, _), (109, _)] ([]) rsN rfl rfl rfl (lc rfl (lc rfl ln)) (by kernel_rfl) ⟨_, rfl, rfl⟩ (fun H' hy hK => o_mv rfl) ?_
                      refine xd_b hok 7 [(110, _), (109, _)] ([]) rsN rfl rfl rfl (lc rfl (lc rfl ln)) (by kernel_rfl) ⟨_, rfl, rfl⟩ (fun H' hy hK => o_nilp rfl) ?_
                      first | refine xd_b hok 8 [(111, _), (109, _)] ([]) rsN rfl rfl rfl (lc rfl (lc rfl ln)) (by kernel_rfl) ⟨_, rfl, rfl⟩ (fun H' hy hK => o_fa0 fl29_8 rfl) ?_ | refine xd_b hok 8 [(111, _), (109, _)] ([]) rsN rfl rfl rfl (lc rfl (lc rfl ln)) (by kernel_rfl) ⟨_, rfl, rfl⟩ (fun H' hy hK => o_fa fl29_8 rfl) ?_
                      refine xd_b hok 9 [(112, _), (109, _)] ((p0, BK 28 (iv m0) 29) :: ([])) (rsC (List.Mem.head _) rsN) rfl rfl rfl (lc rfl (lc rfl ln)) (by kernel_rfl) ⟨_, rfl, rfl⟩ (fun H' hy hK => o_ldI (v := m0 9) rfl ts3 (hy _ (List.Mem.head _)) (by omega) rfl) ?_
                      refine xd_b hok 10 [(113, _), (109, _)] ([]) rsN rfl rfl rfl (lc rfl (lc rfl ln)) (by kernel_rfl) ⟨_, rfl, rfl⟩ (fun H' hy hK => o_callq kf54 rfl (fun w1 hw1 => tx_c _ w1)) ?_
                      refine xd_b hok 11 [(109, _), (114, _)] ([]) rsN rfl rfl rfl (lc rfl (lc rfl ln)) (by kernel_rfl) trivial (fun H' hy hK => o_pick_t rfl rfl) ?_
                      refine xd_b hok 12 [(115, _)] ([]) rsN rfl rfl rfl (lc rfl ln) (by kernel_rfl) trivial (fun H' hy hK => o_mv rfl) ?_
                      refine xd_bool 116 rfl (fun hg19 => ?_) (fun hg19 => ?_)
                      · have hq19 : ((tx_F (m0 9))) = true := hg19
                        have hp19 : ((tx_F (m0 9))) = true := hq19
                        refine xd_b hok 13 [(0, _), (116, _)] ([]) rsN rfl rfl rfl (lc rfl (lc rfl ln)) (by kernel_rfl) ⟨_, rfl, rfl⟩ (fun H' hy hK => o_mv rfl) ?_
                        refine xd_b hok 14 [(117, _), (116, _)] ([]) rsN rfl rfl rfl (lc rfl (lc rfl ln)) (by kernel_rfl) ⟨_, rfl, rfl⟩ (fun H' hy hK => o_nilp rfl) ?_
                        first | refine xd_b hok 15 [(118, _), (116, _)] ([]) rsN rfl rfl rfl (lc rfl (lc rfl ln)) (by kernel_rfl) ⟨_, rfl, rfl⟩ (fun H' hy hK => o_fa0 fl29_8 rfl) ?_ | refine xd_b hok 15 [(118, _), (116, _)] ([]) rsN rfl rfl rfl (lc rfl (lc rfl ln)) (by kernel_rfl) ⟨_, rfl, rfl⟩ (fun H' hy hK => o_fa fl29_8 rfl) ?_
                        refine xd_b hok 16 [(119, _), (116, _)] ((p0, BK 28 (iv m0) 29) :: ([])) (rsC (List.Mem.head _) rsN) rfl rfl rfl (lc rfl (lc rfl ln)) (by kernel_rfl) ⟨_, rfl, rfl⟩ (fun H' hy hK => o_ldI (v := m0 9) rfl ts3 (hy _ (List.Mem.head _)) (by omega) rfl) ?_
                        refine xd_b hok 17 [(0, _), (116, _)] ([]) rsN rfl rfl rfl (lc rfl (lc rfl ln)) (by kernel_rfl) ⟨_, rfl, rfl⟩ (fun H' hy hK => o_mv rfl) ?_
                        refine xd_b hok 18 [(121, _), (116, _)] ([]) rsN rfl rfl rfl (lc rfl (lc rfl ln)) (by kernel_rfl) ⟨_, rfl, rfl⟩ (fun H' hy hK => o_nilp rfl) ?_
                        first | refine xd_b hok 19 [(122, _), (116, _)] ([]) rsN rfl rfl rfl (lc rfl (lc rfl ln)) (by kernel_rfl) ⟨_, rfl, rfl⟩ (fun H' hy hK => o_fa0 fl29_3 rfl) ?_ | refine xd_b hok 19 [(122, _), (116, _)] ([]) rsN rfl rfl rfl (lc rfl (lc rfl ln)) (by kernel_rfl) ⟨_, rfl, rfl⟩ (fun H' hy hK => o_fa fl29_3 rfl) ?_
                        refine xd_b hok 20 [(123, _), (116, _)] ((p0, BK 28 (iv m0) 29) :: ([])) (rsC (List.Mem.head _) rsN) rfl rfl rfl (lc rfl (lc rfl ln)) (by kernel_rfl) ⟨_, rfl, rfl⟩ (fun H' hy hK => o_ldI (v := m0 3) rfl ts3 (hy _ (List.Mem.head _)) (by omega) rfl) ?_
                        refine xd_b hok 21 [(120, _), (124, _), (116, _)] ([]) rsN rfl rfl rfl (lc rfl (lc rfl (lc rfl ln))) (by kernel_rfl) ⟨_, rfl, rfl⟩ (fun H' hy hK => o_lss rfl rfl) ?_
                        refine xd_b hok 22 [(116, _), (125, _)] ([]) rsN rfl rfl rfl (lc rfl (lc rfl ln)) (by kernel_rfl) trivial (fun H' hy hK => o_pick_t rfl rfl) ?_
                        refine xd_b hok 23 [(126, _)] ([]) rsN rfl rfl rfl (lc rfl ln) (by kernel_rfl) trivial (fun H' hy hK => o_as rfl) ?_
                        refine xd_end hok (by kernel_rfl) ?_
                        exact xq_cut ((lce rfl (by first | rfl | (simp only [hq2, hq6, hq11, hq16, hq17, hq18, hq19, if_neg hp2, if_neg hp6, if_neg hp11, if_neg hp16, if_pos hp17, if_pos hp18, if_pos hp19, bS]; done) | (simp only [hq2, hq6, hq11, hq16, hq17, hq18, hq19, if_neg hp2, if_neg hp6, if_neg hp11, if_neg hp16, if_pos hp17, if_pos hp18, if_pos hp19, bS, reduceIte, Bool.false_eq_true]; done) | (simp [hp2, hp6, hp11, hp16, hp17, hp18, hp19]; done) | (simp_all; done)) (lc rfl ln))) (fun _ h => h)
                      · have hq19 : ((tx_F (m0 9))) = false := hg19
                        have hp19 : ¬ (((tx_F (m0 9))) = true) := bne' hq19
                        refine xd_skip hok 13 [(0, _), (116, _)] rfl rfl rfl (lc rfl (lc rfl ln)) (by kernel_rfl) ⟨_, _, rfl, rfl, rfl⟩ ?_
                        refine xd_skip hok 14 [(117, _), (116, _)] rfl rfl rfl (lc rfl (lc rfl ln)) (by kernel_rfl) ⟨_, _, rfl, rfl, rfl⟩ ?_
                        refine xd_skip hok 15 [(118, _), (116, _)] rfl rfl rfl (lc rfl (lc rfl ln)) (by kernel_rfl) ⟨_, _, rfl, rfl, rfl⟩ ?_
                        refine xd_skip hok 16 [(119, _), (116, _)] rfl rfl rfl (lc rfl (lc rfl ln)) (by kernel_rfl) ⟨_, _, rfl, rfl, rfl⟩ ?_
                        refine xd_skip hok 17 [(0, _), (116, _)] rfl rfl rfl (lc rfl (lc rfl ln)) (by kernel_rfl) ⟨_, _, rfl, rfl, rfl⟩ ?_
                        refine xd_skip hok 18 [(121, _), (116, _)] rfl rfl rfl (lc rfl (lc rfl ln)) (by kernel_rfl) ⟨_, _, rfl, rfl, rfl⟩ ?_
                        refine xd_skip hok 19 [(122, _), (116, _)] rfl rfl rfl (lc rfl (lc rfl ln)) (by kernel_rfl) ⟨_, _, rfl, rfl, rfl⟩ ?_
                        refine xd_skip hok 20 [(123, _), (116, _)] rfl rfl rfl (lc rfl (lc rfl ln)) (by kernel_rfl) ⟨_, _, rfl, rfl, rfl⟩ ?_
                        refine xd_skip hok 21 [(120, _), (124, _), (116, _)] rfl rfl rfl (lc rfl (lc rfl (lc rfl ln))) (by kernel_rfl) ⟨_, _, rfl, rfl, rfl⟩ ?_
                        refine xd_b hok 22 [(116, _), (125, _)] ([]) rsN rfl rfl rfl (lc rfl (lc rfl ln)) (by kernel_rfl) trivial (fun H' hy hK => o_pick_f rfl rfl) ?_
                        refine xd_b hok 23 [(126, _)] ([]) rsN rfl rfl rfl (lc rfl ln) (by kernel_rfl) trivial (fun H' hy hK => o_as rfl) ?_
                        refine xd_end hok (by kernel_rfl) ?_
                        exact xq_cut ((lce rfl (by first | rfl | (simp only [hq2, hq6, hq11, hq16, hq17, hq18, hq19, if_neg hp2, if_neg hp6, if_neg hp11, if_neg hp16, if_pos hp17, if_pos hp18, if_neg hp19, bS]; done) | (simp only [hq2, hq6, hq11, hq16, hq17, hq18, hq19, if_neg hp2, if_neg hp6, if_neg hp11, if_neg hp16, if_pos hp17, if_pos hp18, if_neg hp19, bS, reduceIte, Bool.false_eq_true]; done) | (simp [hp2, hp6, hp11, hp16, hp17, hp18, hp19]; done) | (simp_all; done)) (lc rfl ln))) (fun _ h => h)
                    · have hq18 : ((tx_F (m0 3))) = false := hg18
                      have hp18 : ¬ (((tx_F (m0 3))) = true) := bne' hq18
                      refine xd_skip hok 6 [(0, _), (109, _)] rfl rfl rfl (lc rfl (lc rfl ln)) (by kernel_rfl) ⟨_, _, rfl, rfl, rfl⟩ ?_
                      refine xd_skip hok 7 [(110, _), (109, _)] rfl rfl rfl (lc rfl (lc rfl ln)) (by kernel_rfl) ⟨_, _, rfl, rfl, rfl⟩ ?_
                      refine xd_skip hok 8 [(111, _), (109, _)] rfl rfl rfl (lc rfl (lc rfl ln)) (by kernel_rfl) ⟨_, _, rfl, rfl, rfl⟩ ?_
                      refine xd_skip hok 9 [(112, _), (109, _)] rfl rfl rfl (lc rfl (lc rfl ln)) (by kernel_rfl) ⟨_, _, rfl, rfl, rfl⟩ ?_
                      refine xd_skip hok 10 [(113, _), (109, _)] rfl rfl rfl (lc rfl (lc rfl ln)) (by kernel_rfl) ⟨_, _, rfl, rfl, rfl⟩ ?_
                      refine xd_b hok 11 [(109, _), (114, _)] ([]) rsN rfl rfl rfl (lc rfl (lc rfl ln)) (by kernel_rfl) trivial (fun H' hy hK => o_pick_f rfl rfl) ?_
                      refine xd_b hok 12 [(115, _)] ([]) rsN rfl rfl rfl (lc rfl ln) (by kernel_rfl) trivial (fun H' hy hK => o_mv rfl) ?_
                      refine xd_skip hok 13 [(0, _), (116, _)] rfl rfl rfl (lc rfl (lc rfl ln)) (by kernel_rfl) ⟨_, _, rfl, rfl, rfl⟩ ?_
                      refine xd_skip hok 14 [(117, _), (116, _)] rfl rfl rfl (lc rfl (lc rfl ln)) (by kernel_rfl) ⟨_, _, rfl, rfl, rfl⟩ ?_
                      refine xd_skip hok 15 [(118, _), (116, _)] rfl rfl rfl (lc rfl (lc rfl ln)) (by kernel_rfl) ⟨_, _, rfl, rfl, rfl⟩ ?_
                      refine xd_skip hok 16 [(119, _), (116, _)] rfl rfl rfl (lc rfl (lc rfl ln)) (by kernel_rfl) ⟨_, _, rfl, rfl, rfl⟩ ?_
                      refine xd_skip hok 17 [(0, _), (116, _)] rfl rfl rfl (lc rfl (lc rfl ln)) (by kernel_rfl) ⟨_, _, rfl, rfl, rfl⟩ ?_
                      refine xd_skip hok 18 [(121, _), (116, _)] rfl rfl rfl (lc rfl (lc rfl ln)) (by kernel_rfl) ⟨_, _, rfl, rfl, rfl⟩ ?_
                      refine xd_skip hok 19 [(122, _), (116, _)] rfl rfl rfl (lc rfl (lc rfl ln)) (by kernel_rfl) ⟨_, _, rfl, rfl, rfl⟩ ?_
                      refine xd_skip hok 20 [(123, _), (116, _)] rfl rfl rfl (lc rfl (lc rfl ln)) (by kernel_rfl) ⟨_, _, rfl, rfl, rfl⟩ ?_
                      refine xd_skip hok 21 [(120, _), (124, _), (116, _)] rfl rfl rfl (lc rfl (lc rfl (lc rfl ln))) (by kernel_rfl) ⟨_, _, rfl, rfl, rfl⟩ ?_
                      refine xd_b hok 22 [(116, _), (125, _)] ([]) rsN rfl rfl rfl (lc rfl (lc rfl ln)) (by kernel_rfl) trivial (fun H' hy hK => o_pick_f rfl rfl) ?_
                      refine xd_b hok 23 [(126, _)] ([]) rsN rfl rfl rfl (lc rfl ln) (by kernel_rfl) trivial (fun H' hy hK => o_as rfl) ?_
                      refine xd_end hok (by kernel_rfl) ?_
                      exact xq_cut ((lce rfl (by first | rfl | (simp only [hq2, hq6, hq11, hq16, hq17, hq18, if_neg hp2, if_neg hp6, if_neg hp11, if_neg hp16, if_pos hp17, if_neg hp18, bS]; done) | (simp only [hq2, hq6, hq11, hq16, hq17, hq18, if_neg hp2, if_neg hp6, if_neg hp11, if_neg hp16, if_pos hp17, if_neg hp18, bS, reduceIte, Bool.false_eq_true]; done) | (simp [hp2, hp6, hp11, hp16, hp17, hp18]; done) | (simp_all; done)) (lc rfl ln))) (fun _ h => h)
                  · refine xq_then (xw_region ?_)
                    refine xq rfl trivial (o_mv rfl) ?_
                    refine xq rfl trivial (o_mv rfl) ?_
                    refine xq rfl trivial (o_nilp rfl) ?_
                    first | refine xq rfl trivial (o_fa0 fl29_3 rfl) ?_ | refine xq rfl trivial (o_fa fl29_3 rfl) ?_
                    refine xq0 trivial (o_stI rfl rfl ts3 (List.Mem.head _) (by omega) (.here _ _ _ _)) ?_
                    refine xq rfl trivial (o_nilp rfl) ?_
                    first | refine xq rfl trivial (o_fa0 fl29_8 rfl) ?_ | refine xq rfl trivial (o_fa fl29_8 rfl) ?_
                    refine xq0 trivial (o_stI rfl rfl ts3 (List.Mem.head _) (by omega) (.here _ _ _ _)) ?_
                    refine xo_nil (xq_then (xw_exit (xq_blk_ne rfl (xq_then_exit (xq_blk_ne rfl (xq_then_exit ?_))))))
                    refine xq_blk_eq ?_
                    refine xq_then (xw_seq (xw_region ?_))
                    refine xq rfl trivial (o_mv rfl) ?_
                    refine xq rfl trivial (o_as rfl) ?_
                    refine xo_nil (xq_then (xw_ret ?_))
                    subst h
                    exact con_ret1 (.inl rfl) Try.results50 rfl (cat [[(p0, BK 28 (iv (updI (updI m0 3 0) 9 0)) 29)]]) (fun _ h => h) (⟨_, rfl, (Cov.cons Cov.nil), rfl, rfl⟩)
                · have hq17 : (decide (m0 0 = 10)) = false := hc17
                  have hp17 : ¬ (m0 0 = 10) := of_decide_eq_false hq17
                  rw [if_neg hp17] at h
                  refine xw_cond_f rfl rfl (xw_skip (xq_then (xw_seq (xw_region ?_))))
                  refine xq rfl trivial (o_eql rfl rfl) ?_
                  refine xq rfl trivial (o_as rfl) ?_
                  refine xo_nil (xq_then ?_)
                  refine xw_bool 23 rfl (fun hc20 => ?_) (fun hc20 => ?_)
                  · have hq20 : (decide (m0 0 = 11)) = true := hc20
                    have hp20 : m0 0 = 11 := of_decide_eq_true hq20
                    rw [if_pos hp20] at h
                    refine xw_cond_t rfl rfl (xw_exit (xq_then_exit (xq_blk_ne rfl (xq_then_exit (xq_blk_ne rfl (xq_then_exit (xq_blk_ne rfl ?_)))))))
                    refine xq_then_exit (xq_blk_ne rfl (xq_then_exit (xq_blk_ne rfl (xq_then_exit ?_))))
                    refine xq_blk_eq ?_
                    refine xq_then (xw_seq (xw_seq (xw_region ?_)))
                    refine xq rfl trivial (o_mv rfl) ?_
                    refine xq rfl trivial (o_nilp rfl) ?_
                    refine xq rfl trivial (o_ldW rfl ts29 (List.Mem.head _)) ?_
                    refine xcallq rfl trivial kf55 rfl (fun w1 hw1 => path_c _ w1) ?_
                    refine xq rfl trivial (o_as rfl) ?_
                    refine xo_nil (xq_then (xw_region ?_))
                    refine xq rfl trivial (o_mv rfl) ?_
                    refine xq rfl trivial (o_mv rfl) ?_
                    refine xq rfl trivial (o_mv rfl) ?_
                    refine xq rfl trivial (o_mv rfl) ?_
                    refine xq rfl trivial (o_bldA ea27 ze27) ?_
                    refine xq rfl trivial (o_nilp rfl) ?_
                    first | refine xq rfl trivial (o_fa0 fl29_10 rfl) ?_ | refine xq rfl trivial (o_fa fl29_10 rfl) ?_
                    refine xq0 trivial (o_stI rfl rfl ts3 (List.Mem.head _) (by omega) (.here _ _ _ _)) ?_
                    refine xq rfl trivial (o_nilp rfl) ?_
                    first | refine xq rfl trivial (o_fa0 fl29_8 rfl) ?_ | refine xq rfl trivial (o_fa fl29_8 rfl) ?_
                    refine xq0 trivial (o_stI rfl rfl ts3 (List.Mem.head _) (by omega) (.here _ _ _ _)) ?_
                    refine xq rfl trivial (o_nilp rfl) ?_
                    first | refine xq rfl trivial (o_fa0 fl29_9 rfl) ?_ | refine xq rfl trivial (o_fa fl29_9 rfl) ?_
                    refine xq0 trivial (o_stI rfl rfl ts3 (List.Mem.head _) (by omega) (.here _ _ _ _)) ?_
                    refine xq rfl trivial (o_nilp rfl) ?_
                    first | refine xq rfl trivial (o_fa0 fl29_11 rfl) ?_ | refine xq rfl trivial (o_fa fl29_11 rfl) ?_
                    refine xq0 trivial (o_stSI rfl rfl ts27 (List.Mem.head _) (by omega) (.here _ _ _ _)) ?_
                    refine xo_nil (xq_then (xw_exit (xq_blk_ne rfl (xq_then_exit ?_))))
                    refine xq_blk_eq ?_
                    refine xq_then (xw_seq (xw_region ?_))
                    refine xq rfl trivial (o_mv rfl) ?_
                    refine xq rfl trivial (o_as rfl) ?_
                    refine xo_nil (xq_then (xw_ret ?_))
                    subst h
                    exact con_ret1 (.inl rfl) Try.results50 rfl (cat [[(p0, BK 28 (iv (updRI (updI (updI (updI m0 11 0) 9 0) 10 0) 12 16 (fun _ => 0))) 29)]]) (fun _ h => h) (⟨_, rfl, (Cov.cons Cov.nil), rfl, rfl⟩)
                  · have hq20 : (decide (m0 0 = 11)) = false := hc20
                    have hp20 : ¬ (m0 0 = 11) := of_decide_eq_false hq20
                    rw [if_neg hp20] at h
                    refine xw_cond_f rfl rfl (xw_skip (xq_then (xw_exit (xq_blk_ne rfl (xq_then_exit (xq_blk_ne rfl (xq_then_exit ?_)))))))
                    refine xq_blk_ne rfl (xq_then_exit (xq_blk_ne rfl (xq_then_exit (xq_blk_ne rfl (xq_then_exit (xq_blk_ne rfl (xq_then_exit ?_)))))))
                    refine xq_blk_eq ?_
                    refine xq_then (xw_seq (xw_seq (xw_region ?_)))
                    refine xq rfl trivial (o_as rfl) ?_
                    refine xo_nil (xq_then (xw_ret (xq_then_ret (xq_blk_ret (xq_then_ret ?_)))))
                    subst h
                    exact con_ret1 (.inl rfl) Try.results50 rfl (cat [[(p0, BK 28 (iv m0) 29)]]) (fun _ h => h) (⟨_, rfl, (Cov.cons Cov.nil), rfl, rfl⟩)

theorem may_c (m0 : (Nat → Int)) (p0 : Nat) (w : World) (hC : Has w (cat [[(p0, BK 28 (iv m0) 29)]])) : Con Try.prog 50 #[.pointer (some ⟨p0, 0, none⟩)] w (CatG fun v Ls => Cov w (cat [[(p0, BK 28 (iv m0) 29)]]) (cat Ls) ∧ v = .bool ((may_F m0).1) ∧ Ls = [[(p0, BK 28 (iv ((may_F m0).2)) 29)]]) :=
  may_con m0 p0 w hC _ (may_ok m0)

theorem msgOk_con (m0 : (Nat → Int)) (w : World) (r : Int) (h : msgOk_S m0 r) : Con Try.prog 38 #[AI 28 m0] w (Is (errV 63 r) []) := by
  unfold msgOk_S at h
  refine con_enter (n := 24) [(0, _)] Try.func38 rfl Try.ntmps38 rfl (lac rfl lan) ?_
  refine xw_seq (xw_region ?_)
  refine xo rfl trivial (o_boxA rfl) ?_
  rintro _ _ ⟨b1, hb1, rfl, rfl⟩
  refine xq rfl trivial (o_as rfl) ?_
  refine xo_nil (xq_then (xw_seq (xw_region ?_)))
  refine xq rfl trivial (o_ldW rfl ts29 (List.Mem.head _)) ?_
  refine xo rfl trivial (o_alloc ze29 rfl) ?_
  rintro _ _ ⟨b3, hb3, rfl, rfl⟩
  refine xq0 trivial (o_stWI rfl rfl ts29 (List.Mem.head _) (.here _ _ _ _)) ?_
  refine xo_nil (xq_then (xw_seq (xw_seq (xw_region ?_))))
  refine xq rfl trivial (o_ldW rfl ts29 (List.Mem.tail _ (List.Mem.head _))) ?_
  refine xcallq rfl trivial kf49 rfl (fun w1 hw1 => ends_c _ w1) ?_
  refine xq rfl trivial (o_not rfl) ?_
  refine xq rfl trivial (o_mv rfl) ?_
  refine xo_bool 8 rfl (fun hg1 => ?_) (fun hg1 => ?_)
  · have hq1 : ((ends_F m0)) = false := (bnT hg1)
    have hp1 : ¬ (((ends_F m0)) = true) := bne' hq1
    rw [if_neg hp1] at h
    refine xs rfl ⟨_, _, rfl, rfl, rfl⟩ (xs rfl ⟨_, _, rfl, rfl, rfl⟩ ?_)
    refine xq rfl trivial (o_pick_t rfl rfl) ?_
    refine xq rfl trivial (o_mv rfl) ?_
    refine xs rfl ⟨_, _, rfl, rfl, rfl⟩ (xs rfl ⟨_, _, rfl, rfl, rfl⟩ (xs rfl ⟨_, _, rfl, rfl, rfl⟩ (xs rfl ⟨_, _, rfl, rfl, rfl⟩ (xs rfl ⟨_, _, rfl, rfl, rfl⟩ (xs rfl ⟨_, _, rfl, rfl, rfl⟩ (xs rfl ⟨_, _, rfl, rfl, rfl⟩ (xs rfl ⟨_, _, rfl, rfl, rfl⟩ ?_)))))))
    refine xs rfl ⟨_, _, rfl, rfl, rfl⟩ ?_
    refine xq rfl trivial (o_pick_t rfl rfl) ?_
    refine xo_nil (xq_then (xw_cond_t rfl rfl (xw_seq (xw_region ?_))))
    refine xq rfl trivial (o_mki rfl Try.underlying63 rfl) ?_
    refine xq rfl trivial (o_as rfl) ?_
    refine xo_nil (xq_then (xw_ret (xq_then_ret ?_)))
    subst h
    exact con_ret1 (.inl rfl) Try.results38 rfl [] (Kp.st (Kp.new hb3 (Kp.new hb1 Kp.nil))) (⟨rfl, rfl⟩)
  · have hq1 : ((ends_F m0)) = true := (bnF hg1)
    have hp1 : ((ends_F m0)) = true := hq1
    rw [if_pos hp1] at h
    refine xo rfl ⟨_, rfl, rfl⟩ (OT.st (fun _ h => h) (ot_callF (Cs := [[(b3, _)]]) (Rs := [[(b1, _)]]) kf50 rfl (fun w1 hw1 => may_c _ _ w1 (St.hasC hw1)) (fun _ _ _ h => h.1))) ?_
    rintro _ _ ⟨w1, _, rfl, hle, -, rfl, rfl⟩
    refine xo_st ((b3, BK 28 (iv ((may_F m0).2)) 29) :: ((b1, BK 28 (iv m0) 29) :: ([]))) (fun _ h => h) ?_
    refine xq rfl ⟨_, rfl, rfl⟩ (o_not rfl) ?_
    refine xq rfl trivial (o_pick_f rfl rfl) ?_
    refine xq rfl trivial (o_mv rfl) ?_
    refine xo_bool 12 rfl (fun hg4 => ?_) (fun hg4 => ?_)
    · have hq4 : ((may_F m0).1) = false := (bnT hg4)
      have hp4 : ¬ (((may_F m0).1) = true) := bne' hq4
      rw [if_neg hp4] at h
      refine xs rfl ⟨_, _, rfl, rfl, rfl⟩ (xs rfl ⟨_, _, rfl, rfl, rfl⟩ (xs rfl ⟨_, _, rfl, rfl, rfl⟩ (xs rfl ⟨_, _, rfl, rfl, rfl⟩ (xs rfl ⟨_, _, rfl, rfl, rfl⟩ (xs rfl ⟨_, _, rfl, rfl, rfl⟩ (xs rfl ⟨_, _, rfl, rfl, rfl⟩ (xs rfl ⟨_, _, rfl, rfl, rfl⟩ ?_)))))))
      refine xs rfl ⟨_, _, rfl, rfl, rfl⟩ ?_
      refine xq rfl trivial (o_pick_t rfl rfl) ?_
      refine xo_nil (xq_then (xw_cond_t rfl rfl (xw_seq (xw_region ?_))))
      refine xq rfl trivial (o_mki rfl Try.underlying63 rfl) ?_
      refine xq rfl trivial (o_as rfl) ?_
      refine xo_nil (xq_then (xw_ret (xq_then_ret ?_)))
      subst h
      exact con_ret1 (.inl rfl) Try.results38 rfl [] (Kp.st (Kp.new hb3 (Kp.new hb1 Kp.nil))) (⟨rfl, rfl⟩)
    · have hq4 : ((may_F m0).1) = true := (bnF hg4)
      have hp4 : ((may_F m0).1) = true := hq4
      rw [if_pos hp4] at h
      refine xq rfl ⟨_, rfl, rfl⟩ (o_ldW rfl ts29 (List.Mem.head _)) ?_
      first | refine xq rfl ⟨_, rfl, rfl⟩ (o_fa0 fl29_0 rfl) ?_ | refine xq rfl ⟨_, rfl, rfl⟩ (o_fa fl29_0 rfl) ?_
      refine xq rfl ⟨_, rfl, rfl⟩ (o_ldI (v := m0 0) rfl ts3 (List.Mem.tail _ (List.Mem.head _)) (by omega) rfl) ?_
      first | refine xq rfl ⟨_, rfl, rfl⟩ (o_fa0 fl29_1 rfl) ?_ | refine xq rfl ⟨_, rfl, rfl⟩ (o_fa fl29_1 rfl) ?_
      refine xq rfl ⟨_, rfl, rfl⟩ (o_ldI (v := m0 1) rfl ts3 (List.Mem.tail _ (List.Mem.head _)) (by omega) rfl) ?_
      first | refine xq rfl ⟨_, rfl, rfl⟩ (o_fa0 fl29_2 rfl) ?_ | refine xq rfl ⟨_, rfl, rfl⟩ (o_fa fl29_2 rfl) ?_
      refine xq rfl ⟨_, rfl, rfl⟩ (o_ldI (v := m0 2) rfl ts3 (List.Mem.tail _ (List.Mem.head _)) (by omega) rfl) ?_
      refine xq rfl ⟨_, rfl, rfl⟩ (o_build fk29 ze29 (.int fl29_0 rfl rfl (.int fl29_1 rfl rfl (.int fl29_2 rfl rfl (.nil _))))) ?_
      refine xq rfl ⟨_, rfl, rfl⟩ (o_neqA eq29 rfl rfl) ?_
      refine xq rfl trivial (o_pick_f rfl rfl) ?_
      refine xo_nil (xq_then ?_)
      refine xw_bool 22 rfl (fun hc5 => ?_) (fun hc5 => ?_)
      · have hq5 : ((eqN 28 ((may_F m0).2) (updI (updI (updI (fun _ => 0) 0 (m0 0)) 1 (m0 1)) 2 (m0 2)))) = false := (bnT hc5)
        have hp5 : ¬ (((eqN 28 ((may_F m0).2) (updI (updI (updI (fun _ => 0) 0 (m0 0)) 1 (m0 1)) 2 (m0 2)))) = true) := bne' hq5
        rw [if_neg hp5] at h
        refine xw_cond_t rfl rfl (xw_seq (xw_region ?_))
        refine xq rfl trivial (o_mki rfl Try.underlying63 rfl) ?_
        refine xq rfl trivial (o_as rfl) ?_
        refine xo_nil (xq_then (xw_ret (xq_then_ret ?_)))
        subst h
        exact con_ret1 (.inl rfl) Try.results38 rfl [] (Kp.st (Kp.new hb3 (Kp.new hb1 Kp.nil))) (⟨rfl, rfl⟩)
      · have hq5 : ((eqN 28 ((may_F m0).2) (updI (updI (updI (fun _ => 0) 0 (m0 0)) 1 (m0 1)) 2 (m0 2)))) = true := (bnF hc5)
        have hp5 : ((eqN 28 ((may_F m0).2) (updI (updI (updI (fun _ => 0) 0 (m0 0)) 1 (m0 1)) 2 (m0 2)))) = true := hq5
        rw [if_pos hp5] at h
        refine xw_cond_f rfl rfl (xw_skip (xq_then (xw_seq (xw_region ?_))))
        refine xq rfl trivial (o_as rfl) ?_
        refine xo_nil (xq_then (xw_ret ?_))
        subst h
        exact con_ret1 (.inl rfl) Try.results38 rfl [] (Kp.st (Kp.new hb3 (Kp.new hb1 Kp.nil))) (⟨rfl, rfl⟩)

theorem msgOk_c (m0 : (Nat → Int)) (w : World) : Con Try.prog 38 #[AI 28 m0] w (Is (errV 63 (msgOk_F m0)) []) :=
  msgOk_con m0 w _ (msgOk_ok m0)

end Go.Proofs.Ytjmfnohbeoiddaa
