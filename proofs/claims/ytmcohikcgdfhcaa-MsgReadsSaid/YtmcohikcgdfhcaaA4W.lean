/- The code answers as the relations say. -/
import Derived.Test.YtmcohikcgdfhcaaTab
import Derived.Test.YtmcohikcgdfhcaaA4S
set_option maxHeartbeats 1000000
set_option linter.unusedVariables false
set_option linter.unusedSimpArgs false
set_option maxRecDepth 100000
namespace Go.Proofs.Ytmcohikcgdfhcaa
open Go Go.E

theorem inn_con (n0 : Int) (low1 : Int) (high2 : Int) (w : World) (r : Bool) (h : inn_S n0 low1 high2 r) : Con Try.prog 18 #[.int .i64 n0, .int .i64 low1, .int .i64 high2] w (Is (.bool r) []) := by
  unfold inn_S at h
  refine con_enter (n := 15) [(0, _), (1, _), (2, _)] Try.func18 rfl Try.ntmps18 rfl (lac rfl (lac rfl (lac rfl lan))) ?_
  refine xw_seq (xw_region ?_)
  refine xq rfl trivial (o_as rfl) ?_
  refine xo_nil (xq_then (xw_seq ?_))
  refine xw_cut [] ln [(6, .bool ((decide (low1 ≤ n0)) && (decide (n0 ≤ high2))))] ?_ ?_
  · refine xw_region ?_
    refine xq rfl trivial (o_mv rfl) ?_
    refine xq rfl trivial (o_mv rfl) ?_
    refine xq rfl trivial (o_geq rfl rfl) ?_
    refine xq rfl trivial (o_mv rfl) ?_
    refine xo_bool 10 rfl (fun hg1 => ?_) (fun hg1 => ?_)
    · have hq1 : (decide (low1 ≤ n0)) = true := hg1
      have hp1 : low1 ≤ n0 := of_decide_eq_true hq1
      refine xq rfl ⟨_, rfl, rfl⟩ (o_mv rfl) ?_
      refine xq rfl ⟨_, rfl, rfl⟩ (o_mv rfl) ?_
      refine xq rfl ⟨_, rfl, rfl⟩ (o_leq rfl rfl) ?_
      refine xq rfl trivial (o_pick_t rfl rfl) ?_
      refine xq rfl trivial (o_as rfl) ?_
      refine xo_nil ?_
      exact xq_cut ((lce rfl (by first | rfl | (simp only [hq1, if_pos hp1, bS]; done) | (simp [hp1]; done) | (simp_all; done)) ln)) (fun _ h => h)
    · have hq1 : (decide (low1 ≤ n0)) = false := hg1
      have hp1 : ¬ (low1 ≤ n0) := of_decide_eq_false hq1
      refine xs rfl ⟨_, _, rfl, rfl, rfl⟩ (xs rfl ⟨_, _, rfl, rfl, rfl⟩ (xs rfl ⟨_, _, rfl, rfl, rfl⟩ ?_))
      refine xq rfl trivial (o_pick_f rfl rfl) ?_
      refine xq rfl trivial (o_as rfl) ?_
      refine xo_nil ?_
      exact xq_cut ((lce rfl (by first | rfl | (simp only [hq1, if_neg hp1, bS]; done) | (simp [hp1]; done) | (simp_all; done)) ln)) (fun _ h => h)
  · refine xq_then (xw_ret ?_)
    subst h
    exact con_ret1 (.inl rfl) Try.results18 rfl [] (fun _ h => h) (⟨rfl, rfl⟩)

theorem inn_c (n0 : Int) (low1 : Int) (high2 : Int) (w : World) : Con Try.prog 18 #[.int .i64 n0, .int .i64 low1, .int .i64 high2] w (Is (.bool (inn_F n0 low1 high2)) []) :=
  inn_con n0 low1 high2 w _ (inn_ok n0 low1 high2)

theorem shard_con (n0 : Int) (w : World) (r : Bool) (h : shard_S n0 r) : Con Try.prog 36 #[.int .i64 n0] w (Is (.bool r) []) := by
  unfold shard_S at h
  refine con_enter (n := 5) [(0, _)] Try.func36 rfl Try.ntmps36 rfl (lac rfl lan) ?_
  refine xw_seq (xw_region ?_)
  refine xq rfl trivial (o_as rfl) ?_
  refine xo_nil (xq_then (xw_seq (xw_region ?_)))
  refine xq rfl trivial (o_mv rfl) ?_
  refine xcallq rfl trivial kf18 rfl (fun w1 hw1 => inn_c _ _ _ w1) ?_
  refine xq rfl trivial (o_as rfl) ?_
  refine xo_nil (xq_then (xw_ret ?_))
  subst h
  exact con_ret1 (.inl rfl) Try.results36 rfl [] (fun _ h => h) (⟨rfl, rfl⟩)

theorem shard_c (n0 : Int) (w : World) : Con Try.prog 36 #[.int .i64 n0] w (Is (.bool (shard_F n0)) []) :=
  shard_con n0 w _ (shard_ok n0)

theorem tx_con (n0 : Int) (w : World) (r : Bool) (h : tx_S n0 r) : Con Try.prog 38 #[.int .i64 n0] w (Is (.bool r) []) := by
  unfold tx_S at h
  refine con_enter (n := 5) [(0, _)] Try.func38 rfl Try.ntmps38 rfl (lac rfl lan) ?_
  refine xw_seq (xw_region ?_)
  refine xq rfl trivial (o_as rfl) ?_
  refine xo_nil (xq_then (xw_seq (xw_region ?_)))
  refine xq rfl trivial (o_mv rfl) ?_
  refine xcallq rfl trivial kf18 rfl (fun w1 hw1 => inn_c _ _ _ w1) ?_
  refine xq rfl trivial (o_as rfl) ?_
  refine xo_nil (xq_then (xw_ret ?_))
  subst h
  exact con_ret1 (.inl rfl) Try.results38 rfl [] (fun _ h => h) (⟨rfl, rfl⟩)

theorem tx_c (n0 : Int) (w : World) : Con Try.prog 38 #[.int .i64 n0] w (Is (.bool (tx_F n0)) []) :=
  tx_con n0 w _ (tx_ok n0)

theorem ends_con (m0 : (Nat → Int)) (w : World) (r : Bool) (h : ends_S m0 r) : Con Try.prog 24 #[AI 28 m0] w (Is (.bool r) []) := by
  unfold ends_S at h
  refine con_enter (n := 39) [(0, _)] Try.func24 rfl Try.ntmps24 rfl (lac rfl lan) ?_
  refine xw_seq (xw_region ?_)
  refine xo rfl trivial (o_boxA rfl) ?_
  rintro _ _ ⟨b1, hb1, rfl, rfl⟩
  refine xq rfl trivial (o_as rfl) ?_
  refine xo_nil (xq_then (xw_seq (xw_seq (xw_region ?_))))
  first | refine xq rfl trivial (o_fa0 fl34_0 rfl) ?_ | refine xq rfl trivial (o_fa fl34_0 rfl) ?_
  refine xq rfl trivial (o_ldI (v := m0 0) rfl ts3 (List.Mem.head _) (by omega) rfl) ?_
  refine xo_nil (xq_then ?_)
  refine xw_block ?_
  refine xw_seq ?_
  refine xw_block ?_
  refine xw_seq ?_
  refine xw_block ?_
  refine xw_seq (xw_seq (xw_seq (xw_region ?_)))
  refine xq rfl trivial (o_eql rfl rfl) ?_
  refine xq rfl trivial (o_as rfl) ?_
  refine xo_nil (xq_then ?_)
  refine xw_bool 5 rfl (fun hc1 => ?_) (fun hc1 => ?_)
  · have hq1 : (decide (m0 0 = 11)) = true := hc1
    have hp1 : m0 0 = 11 := of_decide_eq_true hq1
    rw [if_pos hp1] at h
    refine xw_cond_t rfl rfl (xw_exit (xq_then_exit (xq_then_exit ?_)))
    refine xq_blk_eq ?_
    refine xq_then (xw_seq (xw_region ?_))
    first | refine xq rfl trivial (o_fa0 fl34_1 rfl) ?_ | refine xq rfl trivial (o_fa fl34_1 rfl) ?_
    refine xq rfl trivial (o_ldI (v := m0 1) rfl ts3 (List.Mem.head _) (by omega) rfl) ?_
    refine xq rfl trivial (o_neq rfl rfl) ?_
    refine xo_nil (xq_then ?_)
    refine xw_bool 14 rfl (fun hc2 => ?_) (fun hc2 => ?_)
    · have hq2 : (decide (m0 1 = 0)) = false := (bnT hc2)
      have hp2 : ¬ (m0 1 = 0) := of_decide_eq_false hq2
      rw [if_neg hp2] at h
      refine xw_cond_t rfl rfl (xw_seq ?_)
      refine xw_cut [] ln [(2, .bool (((shard_F (m0 1))) && (decide (m0 2 = 0))))] ?_ ?_
      · refine xw_region ?_
        first | refine xq rfl trivial (o_fa0 fl34_1 rfl) ?_ | refine xq rfl trivial (o_fa fl34_1 rfl) ?_
        refine xq rfl trivial (o_ldI (v := m0 1) rfl ts3 (List.Mem.head _) (by omega) rfl) ?_
        refine xcallq rfl trivial kf36 rfl (fun w1 hw1 => shard_c _ w1) ?_
        refine xq rfl trivial (o_mv rfl) ?_
        refine xo_bool 18 rfl (fun hg3 => ?_) (fun hg3 => ?_)
        · have hq3 : ((shard_F (m0 1))) = true := hg3
          have hp3 : ((shard_F (m0 1))) = true := hq3
          first | refine xq rfl ⟨_, rfl, rfl⟩ (o_fa0 fl34_2 rfl) ?_ | refine xq rfl ⟨_, rfl, rfl⟩ (o_fa fl34_2 rfl) ?_
          refine xq rfl ⟨_, rfl, rfl⟩ (o_ldI (v := m0 2) rfl ts3 (List.Mem.head _) (by omega) rfl) ?_
          refine xq rfl ⟨_, rfl, rfl⟩ (o_eql rfl rfl) ?_
          refine xq rfl trivial (o_pick_t rfl rfl) ?_
          refine xq rfl trivial (o_as rfl) ?_
          refine xo_nil ?_
          exact xq_cut ((lce rfl (by first | rfl | (simp only [hq1, hq2, hq3, if_pos hp1, if_neg hp2, if_pos hp3, bS]; done) | (simp [hp1, hp2, hp3]; done) | (simp_all; done)) ln)) (fun _ h => h)
        · have hq3 : ((shard_F (m0 1))) = false := hg3
          have hp3 : ¬ (((shard_F (m0 1))) = true) := bne' hq3
          refine xs rfl ⟨_, _, rfl, rfl, rfl⟩ (xs rfl ⟨_, _, rfl, rfl, rfl⟩ (xs rfl ⟨_, _, rfl, rfl, rfl⟩ ?_))
          refine xq rfl trivial (o_pick_f rfl rfl) ?_
          refine xq rfl trivial (o_as rfl) ?_
          refine xo_nil ?_
          exact xq_cut ((lce rfl (by first | rfl | (simp only [hq1, hq2, hq3, if_pos hp1, if_neg hp2, if_neg hp3, bS]; done) | (simp [hp1, hp2, hp3]; done) | (simp_all; done)) ln)) (fun _ h => h)
      · refine xq_then (xw_ret (xq_blk_ret (xq_then_ret (xq_blk_ret (xq_then_ret ?_)))))
        subst h
        exact con_ret1 (.inl rfl) Try.results24 rfl [] (Kp.st (Kp.new hb1 Kp.nil)) (⟨rfl, rfl⟩)
    · have hq2 : (decide (m0 1 = 0)) = true := (bnF hc2)
      have hp2 : m0 1 = 0 := of_decide_eq_true hq2
      rw [if_pos hp2] at h
      refine xw_cond_f rfl rfl (xw_skip ?_)
      refine xq_blk 2 ?_
      refine xq_then (xw_seq (xw_seq ?_))
      refine xw_cut [] ln [(2, .bool ((decide (m0 1 = 0)) && ((shard_F (m0 2)))))] ?_ ?_
      · refine xw_region ?_
        first | refine xq rfl trivial (o_fa0 fl34_1 rfl) ?_ | refine xq rfl trivial (o_fa fl34_1 rfl) ?_
        refine xq rfl trivial (o_ldI (v := m0 1) rfl ts3 (List.Mem.head _) (by omega) rfl) ?_
        refine xq rfl trivial (o_eql rfl rfl) ?_
        refine xq rfl trivial (o_mv rfl) ?_
        refine xo_val 26 rfl (v' := .bool true) (congrArg Value.bool (by simpa using hp2)) ?_
        first | refine xq rfl ⟨_, rfl, rfl⟩ (o_fa0 fl34_2 rfl) ?_ | refine xq rfl ⟨_, rfl, rfl⟩ (o_fa fl34_2 rfl) ?_
        refine xq rfl ⟨_, rfl, rfl⟩ (o_ldI (v := m0 2) rfl ts3 (List.Mem.head _) (by omega) rfl) ?_
        refine xcallq rfl ⟨_, rfl, rfl⟩ kf36 rfl (fun w1 hw1 => shard_c _ w1) ?_
        refine xq rfl trivial (o_pick_t rfl rfl) ?_
        refine xq rfl trivial (o_as rfl) ?_
        refine xo_nil ?_
        exact xq_cut ((lce rfl (by first | rfl | (simp only [hq1, hq2, if_pos hp1, if_pos hp2, bS]; done) | (simp [hp1, hp2]; done) | (simp_all; done)) ln)) (fun _ h => h)
      · refine xq_then (xw_ret (xq_then_ret (xq_blk_ret (xq_then_ret ?_))))
        subst h
        exact con_ret1 (.inl rfl) Try.results24 rfl [] (Kp.st (Kp.new hb1 Kp.nil)) (⟨rfl, rfl⟩)
  · have hq1 : (decide (m0 0 = 11)) = false := hc1
    have hp1 : ¬ (m0 0 = 11) := of_decide_eq_false hq1
    rw [if_neg hp1] at h
    refine xw_cond_f rfl rfl (xw_skip (xq_then (xw_seq (xw_seq (xw_region ?_)))))
    refine xq rfl trivial (o_eql rfl rfl) ?_
    refine xq rfl trivial (o_as rfl) ?_
    refine xo_nil (xq_then ?_)
    refine xw_cut [(1, _)] (lc rfl ln) [(7, .bool ((decide (m0 0 = 1)) || ((decide (m0 0 = 4)) || ((decide (m0 0 = 6)) || (decide (m0 0 = 8))))))] ?_ ?_
    · refine xw_bool 7 rfl (fun hc5 => ?_) (fun hc5 => ?_)
      · have hq5 : (decide (m0 0 = 1)) = true := hc5
        have hp5 : m0 0 = 1 := of_decide_eq_true hq5
        refine xw_cond_t rfl rfl (xw_skip ?_)
        exact xq_cut (lce rfl (by first | rfl | (simp only [hq1, hq5, if_neg hp1, if_pos hp5, bS]; done) | (simp [hp1, hp5]; done) | (simp_all; done)) (lc rfl ln)) (fun _ hh => hh)
      · have hq5 : (decide (m0 0 = 1)) = false := hc5
        have hp5 : ¬ (m0 0 = 1) := of_decide_eq_false hq5
        refine xw_cond_f rfl rfl (xw_seq (xw_region ?_))
        refine xq rfl trivial (o_eql rfl rfl) ?_
        refine xq rfl trivial (o_as rfl) ?_
        refine xo_nil (xq_then ?_)
        refine xw_cut [(1, _)] (lc rfl ln) [(7, .bool ((decide (m0 0 = 4)) || ((decide (m0 0 = 6)) || (decide (m0 0 = 8)))))] ?_ ?_
        · refine xw_bool 7 rfl (fun hc6 => ?_) (fun hc6 => ?_)
          · have hq6 : (decide (m0 0 = 4)) = true := hc6
            have hp6 : m0 0 = 4 := of_decide_eq_true hq6
            refine xw_cond_t rfl rfl (xw_skip ?_)
            exact xq_cut (lce rfl (by first | rfl | (simp only [hq1, hq5, hq6, if_neg hp1, if_neg hp5, if_pos hp6, bS]; done) | (simp [hp1, hp5, hp6]; done) | (simp_all; done)) (lc rfl ln)) (fun _ hh => hh)
          · have hq6 : (decide (m0 0 = 4)) = false := hc6
            have hp6 : ¬ (m0 0 = 4) := of_decide_eq_false hq6
            refine xw_cond_f rfl rfl (xw_seq (xw_region ?_))
            refine xq rfl trivial (o_eql rfl rfl) ?_
            refine xq rfl trivial (o_as rfl) ?_
            refine xo_nil (xq_then ?_)
            refine xw_cut [(1, _)] (lc rfl ln) [(7, .bool ((decide (m0 0 = 6)) || (decide (m0 0 = 8))))] ?_ ?_
            · refine xw_bool 7 rfl (fun hc7 => ?_) (fun hc7 => ?_)
              · have hq7 : (decide (m0 0 = 6)) = true := hc7
                have hp7 : m0 0 = 6 := of_decide_eq_true hq7
                refine xw_cond_t rfl rfl (xw_skip ?_)
                exact xq_cut (lce rfl (by first | rfl | (simp only [hq1, hq5, hq6, hq7, if_neg hp1, if_neg hp5, if_neg hp6, if_pos hp7, bS]; done) | (simp [hp1, hp5, hp6, hp7]; done) | (simp_all; done)) (lc rfl ln)) (fun _ hh => hh)
              · have hq7 : (decide (m0 0 = 6)) = false := hc7
                have hp7 : ¬ (m0 0 = 6) := of_decide_eq_false hq7
                refine xw_cond_f rfl rfl (xw_region ?_)
                refine xq rfl trivial (o_eql rfl rfl) ?_
                refine xq rfl trivial (o_as rfl) ?_
                refine xo_nil ?_
                exact xq_cut (lce rfl (by first | rfl | (simp only [hq1, hq5, hq6, hq7, if_neg hp1, if_neg hp5, if_neg hp6, if_neg hp7, bS]; done) | (simp [hp1, hp5, hp6, hp7]; done) | (simp_all; done)) (lc rfl ln)) (fun _ hh => hh)
            · exact xq_cut (lce rfl (by first | rfl | (simp only [hq1, hq5, hq6, if_neg hp1, if_neg hp5, if_neg hp6, bS]; done) | (simp [hp1, hp5, hp6]; done) | (simp_all; done)) (lc rfl ln)) (fun _ hh => hh)
        · exact xq_cut (lce rfl (by first | rfl | (simp only [hq1, hq5, if_neg hp1, if_neg hp5, bS]; done) | (simp [hp1, hp5]; done) | (simp_all; done)) (lc rfl ln)) (fun _ hh => hh)
    · refine xq_then ?_
      refine xw_bool 7 rfl (fun hc8 => ?_) (fun hc8 => ?_)
      · have hq8 : ((decide (m0 0 = 1)) || ((decide (m0 0 = 4)) || ((decide (m0 0 = 6)) || (decide (m0 0 = 8))))) = true := hc8
        have hp8 : ((decide (m0 0 = 1)) || ((decide (m0 0 = 4)) || ((decide (m0 0 = 6)) || (decide (m0 0 = 8))))) = true := hq8
        rw [if_pos hp8] at h
        refine xw_cond_t rfl rfl (xw_exit (xq_then_exit (xq_blk_ne rfl (xq_then_exit ?_))))
        refine xq_blk_eq ?_
        refine xq_then (xw_seq (xw_seq ?_))
        refine xw_cut [] ln [(2, .bool ((decide (m0 1 = 0)) && ((shard_F (m0 2)))))] ?_ ?_
        · refine xw_region ?_
          first | refine xq rfl trivial (o_fa0 fl34_1 rfl) ?_ | refine xq rfl trivial (o_fa fl34_1 rfl) ?_
          refine xq rfl trivial (o_ldI (v := m0 1) rfl ts3 (List.Mem.head _) (by omega) rfl) ?_
          refine xq rfl trivial (o_eql rfl rfl) ?_
          refine xq rfl trivial (o_mv rfl) ?_
          refine xo_bool 26 rfl (fun hg9 => ?_) (fun hg9 => ?_)
          · have hq9 : (decide (m0 1 = 0)) = true := hg9
            have hp9 : m0 1 = 0 := of_decide_eq_true hq9
            first | refine xq rfl ⟨_, rfl, rfl⟩ (o_fa0 fl34_2 rfl) ?_ | refine xq rfl ⟨_, rfl, rfl⟩ (o_fa fl34_2 rfl) ?_
            refine xq rfl ⟨_, rfl, rfl⟩ (o_ldI (v := m0 2) rfl ts3 (List.Mem.head _) (by omega) rfl) ?_
            refine xcallq rfl ⟨_, rfl, rfl⟩ kf36 rfl (fun w1 hw1 => shard_c _ w1) ?_
            refine xq rfl trivial (o_pick_t rfl rfl) ?_
            refine xq rfl trivial (o_as rfl) ?_
            refine xo_nil ?_
            exact xq_cut ((lce rfl (by first | rfl | (simp only [hq1, hq8, hq9, if_neg hp1, if_pos hp8, if_pos hp9, bS]; done) | (simp [hp1, hp8, hp9]; done) | (simp_all; done)) ln)) (fun _ h => h)
          · have hq9 : (decide (m0 1 = 0)) = false := hg9
            have hp9 : ¬ (m0 1 = 0) := of_decide_eq_false hq9
            refine xs rfl ⟨_, _, rfl, rfl, rfl⟩ (xs rfl ⟨_, _, rfl, rfl, rfl⟩ (xs rfl ⟨_, _, rfl, rfl, rfl⟩ ?_))
            refine xq rfl trivial (o_pick_f rfl rfl) ?_
            refine xq rfl trivial (o_as rfl) ?_
            refine xo_nil ?_
            exact xq_cut ((lce rfl (by first | rfl | (simp only [hq1, hq8, hq9, if_neg hp1, if_pos hp8, if_neg hp9, bS]; done) | (simp [hp1, hp8, hp9]; done) | (simp_all; done)) ln)) (fun _ h => h)
        · refine xq_then (xw_ret (xq_then_ret (xq_blk_ret (xq_then_ret ?_))))
          subst h
          exact con_ret1 (.inl rfl) Try.results24 rfl [] (Kp.st (Kp.new hb1 Kp.nil)) (⟨rfl, rfl⟩)
      · have hq8 : ((decide (m0 0 = 1)) || ((decide (m0 0 = 4)) || ((decide (m0 0 = 6)) || (decide (m0 0 = 8))))) = false := hc8
        have hp8 : ¬ (((decide (m0 0 = 1)) || ((decide (m0 0 = 4)) || ((decide (m0 0 = 6)) || (decide (m0 0 = 8))))) = true) := bne' hq8
        rw [if_neg hp8] at h
        refine xw_cond_f rfl rfl (xw_skip (xq_then (xw_exit (xq_blk_ne rfl (xq_then_exit (xq_blk_ne rfl (xq_then_exit ?_)))))))
        refine xq_blk_eq ?_
        refine xq_then (xw_seq ?_)
        refine xw_cut [] ln [(2, .bool (((shard_F (m0 1))) && (decide (m0 2 = 0))))] ?_ ?_
        · refine xw_region ?_
          first | refine xq rfl trivial (o_fa0 fl34_1 rfl) ?_ | refine xq rfl trivial (o_fa fl34_1 rfl) ?_
          refine xq rfl trivial (o_ldI (v := m0 1) rfl ts3 (List.Mem.head _) (by omega) rfl) ?_
          refine xcallq rfl trivial kf36 rfl (fun w1 hw1 => shard_c _ w1) ?_
          refine xq rfl trivial (o_mv rfl) ?_
          refine xo_bool 34 rfl (fun hg10 => ?_) (fun hg10 => ?_)
          · have hq10 : ((shard_F (m0 1))) = true := hg10
            have hp10 : ((shard_F (m0 1))) = true := hq10
            first | refine xq rfl ⟨_, rfl, rfl⟩ (o_fa0 fl34_2 rfl) ?_ | refine xq rfl ⟨_, rfl, rfl⟩ (o_fa fl34_2 rfl) ?_
            refine xq rfl ⟨_, rfl, rfl⟩ (o_ldI (v := m0 2) rfl ts3 (List.Mem.head _) (by omega) rfl) ?_
            refine xq rfl ⟨_, rfl, rfl⟩ (o_eql rfl rfl) ?_
            refine xq rfl trivial (o_pick_t rfl rfl) ?_
            refine xq rfl trivial (o_as rfl) ?_
            refine xo_nil ?_
            exact xq_cut ((lce rfl (by first | rfl | (simp only [hq1, hq8, hq10, if_neg hp1, if_neg hp8, if_pos hp10, bS]; done) | (simp [hp1, hp8, hp10]; done) | (simp_all; done)) ln)) (fun _ h => h)
          · have hq10 : ((shard_F (m0 1))) = false := hg10
            have hp10 : ¬ (((shard_F (m0 1))) = true) := bne' hq10
            refine xs rfl ⟨_, _, rfl, rfl, rfl⟩ (xs rfl ⟨_, _, rfl, rfl, rfl⟩ (xs rfl ⟨_, _, rfl, rfl, rfl⟩ ?_))
            refine xq rfl trivial (o_pick_f rfl rfl) ?_
            refine xq rfl trivial (o_as rfl) ?_
            refine xo_nil ?_
            exact xq_cut ((lce rfl (by first | rfl | (simp only [hq1, hq8, hq10, if_neg hp1, if_neg hp8, if_neg hp10, bS]; done) | (simp [hp1, hp8, hp10]; done) | (simp_all; done)) ln)) (fun _ h => h)
        · refine xq_then (xw_ret ?_)
          subst h
          exact con_ret1 (.inl rfl) Try.results24 rfl [] (Kp.st (Kp.new hb1 Kp.nil)) (⟨rfl, rfl⟩)

theorem ends_c (m0 : (Nat → Int)) (w : World) : Con Try.prog 24 #[AI 28 m0] w (Is (.bool (ends_F m0)) []) :=
  ends_con m0 w _ (ends_ok m0)

theorem resOk_con (r0 : (Nat → Int)) (w : World) (r : Bool) (h : resOk_S r0 r) : Con Try.prog 37 #[AI 2 r0] w (Is (.bool r) []) := by
  unfold resOk_S at h
  refine con_enter (n := 21) [(0, _)] Try.func37 rfl Try.ntmps37 rfl (lac rfl lan) ?_
  refine xw_seq (xw_region ?_)
  refine xo rfl trivial (o_boxA rfl) ?_
  rintro _ _ ⟨b1, hb1, rfl, rfl⟩
  refine xq rfl trivial (o_as rfl) ?_
  refine xo_nil (xq_then (xw_seq ?_))
  refine xw_cut [] ln [(2, .bool ((((decide (1 ≤ r0 0)) && (decide (r0 0 ≤ 250))) && (decide (0 ≤ r0 1))) && (decide (r0 1 ≤ 250))))] ?_ ?_
  · refine xw_region ?_
    first | refine xq rfl trivial (o_fa0 fl28_0 rfl) ?_ | refine xq rfl trivial (o_fa fl28_0 rfl) ?_
    refine xq rfl trivial (o_ldI (v := r0 0) rfl ts3 (List.Mem.head _) (by omega) rfl) ?_
    refine xq rfl trivial (o_geq rfl rfl) ?_
    refine xq rfl trivial (o_mv rfl) ?_
    refine xo_bool 6 rfl (fun hg1 => ?_) (fun hg1 => ?_)
    · have hq1 : (decide (1 ≤ r0 0)) = true := hg1
      have hp1 : 1 ≤ r0 0 := of_decide_eq_true hq1
      first | refine xq rfl ⟨_, rfl, rfl⟩ (o_fa0 fl28_0 rfl) ?_ | refine xq rfl ⟨_, rfl, rfl⟩ (o_fa fl28_0 rfl) ?_
      refine xq rfl ⟨_, rfl, rfl⟩ (o_ldI (v := r0 0) rfl ts3 (List.Mem.head _) (by omega) rfl) ?_
      refine xq rfl ⟨_, rfl, rfl⟩ (o_leq rfl rfl) ?_
      refine xq rfl trivial (o_pick_t rfl rfl) ?_
      refine xq rfl trivial (o_mv rfl) ?_
      refine xo_bool 11 rfl (fun hg2 => ?_) (fun hg2 => ?_)
      · have hq2 : (decide (r0 0 ≤ 250)) = true := hg2
        have hp2 : r0 0 ≤ 250 := of_decide_eq_true hq2
        first | refine xq rfl ⟨_, rfl, rfl⟩ (o_fa0 fl28_1 rfl) ?_ | refine xq rfl ⟨_, rfl, rfl⟩ (o_fa fl28_1 rfl) ?_
        refine xq rfl ⟨_, rfl, rfl⟩ (o_ldI (v := r0 1) rfl ts3 (List.Mem.head _) (by omega) rfl) ?_
        refine xq rfl ⟨_, rfl, rfl⟩ (o_geq rfl rfl) ?_
        refine xq rfl trivial (o_pick_t rfl rfl) ?_
        refine xq rfl trivial (o_mv rfl) ?_
        refine xo_bool 16 rfl (fun hg3 => ?_) (fun hg3 => ?_)
        · have hq3 : (decide (0 ≤ r0 1)) = true := hg3
          have hp3 : 0 ≤ r0 1 := of_decide_eq_true hq3
          first | refine xq rfl ⟨_, rfl, rfl⟩ (o_fa0 fl28_1 rfl) ?_ | refine xq rfl ⟨_, rfl, rfl⟩ (o_fa fl28_1 rfl) ?_
          refine xq rfl ⟨_, rfl, rfl⟩ (o_ldI (v := r0 1) rfl ts3 (List.Mem.head _) (by omega) rfl) ?_
          refine xq rfl ⟨_, rfl, rfl⟩ (o_leq rfl rfl) ?_
          refine xq rfl trivial (o_pick_t rfl rfl) ?_
          refine xq rfl trivial (o_as rfl) ?_
          refine xo_nil ?_
          exact xq_cut ((lce rfl (by first | rfl | (simp only [hq1, hq2, hq3, if_pos hp1, if_pos hp2, if_pos hp3, bS]; done) | (simp [hp1, hp2, hp3]; done) | (simp_all; done)) ln)) (fun _ h => h)
        · have hq3 : (decide (0 ≤ r0 1)) = false := hg3
          have hp3 : ¬ (0 ≤ r0 1) := of_decide_eq_false hq3
          refine xs rfl ⟨_, _, rfl, rfl, rfl⟩ (xs rfl ⟨_, _, rfl, rfl, rfl⟩ (xs rfl ⟨_, _, rfl, rfl, rfl⟩ ?_))
          refine xq rfl trivial (o_pick_f rfl rfl) ?_
          refine xq rfl trivial (o_as rfl) ?_
          refine xo_nil ?_
          exact xq_cut ((lce rfl (by first | rfl | (simp only [hq1, hq2, hq3, if_pos hp1, if_pos hp2, if_neg hp3, bS]; done) | (simp [hp1, hp2, hp3]; done) | (simp_all; done)) ln)) (fun _ h => h)
      · have hq2 : (decide (r0 0 ≤ 250)) = false := hg2
        have hp2 : ¬ (r0 0 ≤ 250) := of_decide_eq_false hq2
        refine xs rfl ⟨_, _, rfl, rfl, rfl⟩ (xs rfl ⟨_, _, rfl, rfl, rfl⟩ (xs rfl ⟨_, _, rfl, rfl, rfl⟩ ?_))
        refine xq rfl trivial (o_pick_f rfl rfl) ?_
        refine xq rfl trivial (o_mv rfl) ?_
        refine xs rfl ⟨_, _, rfl, rfl, rfl⟩ (xs rfl ⟨_, _, rfl, rfl, rfl⟩ (xs rfl ⟨_, _, rfl, rfl, rfl⟩ ?_))
        refine xq rfl trivial (o_pick_f rfl rfl) ?_
        refine xq rfl trivial (o_as rfl) ?_
        refine xo_nil ?_
        exact xq_cut ((lce rfl (by first | rfl | (simp only [hq1, hq2, if_pos hp1, if_neg hp2, bS]; done) | (simp [hp1, hp2]; done) | (simp_all; done)) ln)) (fun _ h => h)
    · have hq1 : (decide (1 ≤ r0 0)) = false := hg1
      have hp1 : ¬ (1 ≤ r0 0) := of_decide_eq_false hq1
      refine xs rfl ⟨_, _, rfl, rfl, rfl⟩ (xs rfl ⟨_, _, rfl, rfl, rfl⟩ (xs rfl ⟨_, _, rfl, rfl, rfl⟩ ?_))
      refine xq rfl trivial (o_pick_f rfl rfl) ?_
      refine xq rfl trivial (o_mv rfl) ?_
      refine xs rfl ⟨_, _, rfl, rfl, rfl⟩ (xs rfl ⟨_, _, rfl, rfl, rfl⟩ (xs rfl ⟨_, _, rfl, rfl, rfl⟩ ?_))
      refine xq rfl trivial (o_pick_f rfl rfl) ?_
      refine xq rfl trivial (o_mv rfl) ?_
      refine xs rfl ⟨_, _, rfl, rfl, rfl⟩ (xs rfl ⟨_, _, rfl, rfl, rfl⟩ (xs rfl ⟨_, _, rfl, rfl, rfl⟩ ?_))
      refine xq rfl trivial (o_pick_f rfl rfl) ?_
      refine xq rfl trivial (o_as rfl) ?_
      refine xo_nil ?_
      exact xq_cut ((lce rfl (by first | rfl | (simp only [hq1, if_neg hp1, bS]; done) | (simp [hp1]; done) | (simp_all; done)) ln)) (fun _ h => h)
  · refine xq_then (xw_ret ?_)
    subst h
    exact con_ret1 (.inl rfl) Try.results37 rfl [] (Kp.st (Kp.new hb1 Kp.nil)) (⟨rfl, rfl⟩)

theorem resOk_c (r0 : (Nat → Int)) (w : World) : Con Try.prog 37 #[AI 2 r0] w (Is (.bool (resOk_F r0)) []) :=
  resOk_con r0 w _ (resOk_ok r0)

theorem ref02Ok_con (r0 : (Nat → Int)) (w : World) (r : Bool) (h : ref02Ok_S r0 r) : Con Try.prog 22 #[AI 2 r0] w (Is (.bool r) []) := by
  unfold ref02Ok_S at h
  refine con_enter (n := 21) [(0, _)] Try.func22 rfl Try.ntmps22 rfl (lac rfl lan) ?_
  refine xw_seq (xw_region ?_)
  refine xo rfl trivial (o_boxA rfl) ?_
  rintro _ _ ⟨b1, hb1, rfl, rfl⟩
  refine xq rfl trivial (o_as rfl) ?_
  refine xo_nil (xq_then (xw_seq ?_))
  refine xw_cut [] ln [(2, .bool ((((decide (0 < r0 0)) && (decide (r0 0 < 251))) && (decide ((-1) < r0 1))) && (decide (r0 1 < 251))))] ?_ ?_
  · refine xw_region ?_
    first | refine xq rfl trivial (o_fa0 fl28_0 rfl) ?_ | refine xq rfl trivial (o_fa fl28_0 rfl) ?_
    refine xq rfl trivial (o_ldI (v := r0 0) rfl ts3 (List.Mem.head _) (by omega) rfl) ?_
    refine xq rfl trivial (o_gtr rfl rfl) ?_
    refine xq rfl trivial (o_mv rfl) ?_
    refine xo_bool 6 rfl (fun hg1 => ?_) (fun hg1 => ?_)
    · have hq1 : (decide (0 < r0 0)) = true := hg1
      have hp1 : 0 < r0 0 := of_decide_eq_true hq1
      first | refine xq rfl ⟨_, rfl, rfl⟩ (o_fa0 fl28_0 rfl) ?_ | refine xq rfl ⟨_, rfl, rfl⟩ (o_fa fl28_0 rfl) ?_
      refine xq rfl ⟨_, rfl, rfl⟩ (o_ldI (v := r0 0) rfl ts3 (List.Mem.head _) (by omega) rfl) ?_
      refine xq rfl ⟨_, rfl, rfl⟩ (o_lss rfl rfl) ?_
      refine xq rfl trivial (o_pick_t rfl rfl) ?_
      refine xq rfl trivial (o_mv rfl) ?_
      refine xo_bool 11 rfl (fun hg2 => ?_) (fun hg2 => ?_)
      · have hq2 : (decide (r0 0 < 251)) = true := hg2
        have hp2 : r0 0 < 251 := of_decide_eq_true hq2
        first | refine xq rfl ⟨_, rfl, rfl⟩ (o_fa0 fl28_1 rfl) ?_ | refine xq rfl ⟨_, rfl, rfl⟩ (o_fa fl28_1 rfl) ?_
        refine xq rfl ⟨_, rfl, rfl⟩ (o_ldI (v := r0 1) rfl ts3 (List.Mem.head _) (by omega) rfl) ?_
        refine xq rfl ⟨_, rfl, rfl⟩ (o_gtr rfl rfl) ?_
        refine xq rfl trivial (o_pick_t rfl rfl) ?_
        refine xq rfl trivial (o_mv rfl) ?_
        refine xo_bool 16 rfl (fun hg3 => ?_) (fun hg3 => ?_)
        · have hq3 : (decide ((-1) < r0 1)) = true := hg3
          have hp3 : (-1) < r0 1 := of_decide_eq_true hq3
          first | refine xq rfl ⟨_, rfl, rfl⟩ (o_fa0 fl28_1 rfl) ?_ | refine xq rfl ⟨_, rfl, rfl⟩ (o_fa fl28_1 rfl) ?_
          refine xq rfl ⟨_, rfl, rfl⟩ (o_ldI (v := r0 1) rfl ts3 (List.Mem.head _) (by omega) rfl) ?_
          refine xq rfl ⟨_, rfl, rfl⟩ (o_lss rfl rfl) ?_
          refine xq rfl trivial (o_pick_t rfl rfl) ?_
          refine xq rfl trivial (o_as rfl) ?_
          refine xo_nil ?_
          exact xq_cut ((lce rfl (by first | rfl | (simp only [hq1, hq2, hq3, if_pos hp1, if_pos hp2, if_pos hp3, bS]; done) | (simp [hp1, hp2, hp3]; done) | (simp_all; done)) ln)) (fun _ h => h)
        · have hq3 : (decide ((-1) < r0 1)) = false := hg3
          have hp3 : ¬ ((-1) < r0 1) := of_decide_eq_false hq3
          refine xs rfl ⟨_, _, rfl, rfl, rfl⟩ (xs rfl ⟨_, _, rfl, rfl, rfl⟩ (xs rfl ⟨_, _, rfl, rfl, rfl⟩ ?_))
          refine xq rfl trivial (o_pick_f rfl rfl) ?_
          refine xq rfl trivial (o_as rfl) ?_
          refine xo_nil ?_
          exact xq_cut ((lce rfl (by first | rfl | (simp only [hq1, hq2, hq3, if_pos hp1, if_pos hp2, if_neg hp3, bS]; done) | (simp [hp1, hp2, hp3]; done) | (simp_all; done)) ln)) (fun _ h => h)
      · have hq2 : (decide (r0 0 < 251)) = false := hg2
        have hp2 : ¬ (r0 0 < 251) := of_decide_eq_false hq2
        refine xs rfl ⟨_, _, rfl, rfl, rfl⟩ (xs rfl ⟨_, _, rfl, rfl, rfl⟩ (xs rfl ⟨_, _, rfl, rfl, rfl⟩ ?_))
        refine xq rfl trivial (o_pick_f rfl rfl) ?_
        refine xq rfl trivial (o_mv rfl) ?_
        refine xs rfl ⟨_, _, rfl, rfl, rfl⟩ (xs rfl ⟨_, _, rfl, rfl, rfl⟩ (xs rfl ⟨_, _, rfl, rfl, rfl⟩ ?_))
        refine xq rfl trivial (o_pick_f rfl rfl) ?_
        refine xq rfl trivial (o_as rfl) ?_
        refine xo_nil ?_
        exact xq_cut ((lce rfl (by first | rfl | (simp only [hq1, hq2, if_pos hp1, if_neg hp2, bS]; done) | (simp [hp1, hp2]; done) | (simp_all; done)) ln)) (fun _ h => h)
    · have hq1 : (decide (0 < r0 0)) = false := hg1
      have hp1 : ¬ (0 < r0 0) := of_decide_eq_false hq1
      refine xs rfl ⟨_, _, rfl, rfl, rfl⟩ (xs rfl ⟨_, _, rfl, rfl, rfl⟩ (xs rfl ⟨_, _, rfl, rfl, rfl⟩ ?_))
      refine xq rfl trivial (o_pick_f rfl rfl) ?_
      refine xq rfl trivial (o_mv rfl) ?_
      refine xs rfl ⟨_, _, rfl, rfl, rfl⟩ (xs rfl ⟨_, _, rfl, rfl, rfl⟩ (xs rfl ⟨_, _, rfl, rfl, rfl⟩ ?_))
      refine xq rfl trivial (o_pick_f rfl rfl) ?_
      refine xq rfl trivial (o_mv rfl) ?_
      refine xs rfl ⟨_, _, rfl, rfl, rfl⟩ (xs rfl ⟨_, _, rfl, rfl, rfl⟩ (xs rfl ⟨_, _, rfl, rfl, rfl⟩ ?_))
      refine xq rfl trivial (o_pick_f rfl rfl) ?_
      refine xq rfl trivial (o_as rfl) ?_
      refine xo_nil ?_
      exact xq_cut ((lce rfl (by first | rfl | (simp only [hq1, if_neg hp1, bS]; done) | (simp [hp1]; done) | (simp_all; done)) ln)) (fun _ h => h)
  · refine xq_then (xw_ret ?_)
    subst h
    exact con_ret1 (.inl rfl) Try.results22 rfl [] (Kp.st (Kp.new hb1 Kp.nil)) (⟨rfl, rfl⟩)

theorem ref02Ok_c (r0 : (Nat → Int)) (w : World) : Con Try.prog 22 #[AI 2 r0] w (Is (.bool (ref02Ok_F r0)) []) :=
  ref02Ok_con r0 w _ (ref02Ok_ok r0)

theorem number_con (n0 : Int) (w : World) (r : Bool) (h : number_S n0 r) : Con Try.prog 21 #[.int .i64 n0] w (Is (.bool r) []) := by
  unfold number_S at h
  refine con_enter (n := 9) [(0, _)] Try.func21 rfl Try.ntmps21 rfl (lac rfl lan) ?_
  refine xw_seq (xw_region ?_)
  refine xq rfl trivial (o_as rfl) ?_
  refine xo_nil (xq_then (xw_seq ?_))
  refine xw_cut [] ln [(2, .bool ((decide (0 < n0)) && (decide (n0 ≤ 1048576))))] ?_ ?_
  · refine xw_region ?_
    refine xq rfl trivial (o_mv rfl) ?_
    refine xq rfl trivial (o_gtr rfl rfl) ?_
    refine xq rfl trivial (o_mv rfl) ?_
    refine xo_bool 5 rfl (fun hg1 => ?_) (fun hg1 => ?_)
    · have hq1 : (decide (0 < n0)) = true := hg1
      have hp1 : 0 < n0 := of_decide_eq_true hq1
      refine xq rfl ⟨_, rfl, rfl⟩ (o_mv rfl) ?_
      refine xq rfl ⟨_, rfl, rfl⟩ (o_leq rfl rfl) ?_
      refine xq rfl trivial (o_pick_t rfl rfl) ?_
      refine xq rfl trivial (o_as rfl) ?_
      refine xo_nil ?_
      exact xq_cut ((lce rfl (by first | rfl | (simp only [hq1, if_pos hp1, bS]; done) | (simp [hp1]; done) | (simp_all; done)) ln)) (fun _ h => h)
    · have hq1 : (decide (0 < n0)) = false := hg1
      have hp1 : ¬ (0 < n0) := of_decide_eq_false hq1
      refine xs rfl ⟨_, _, rfl, rfl, rfl⟩ (xs rfl ⟨_, _, rfl, rfl, rfl⟩ ?_)
      refine xq rfl trivial (o_pick_f rfl rfl) ?_
      refine xq rfl trivial (o_as rfl) ?_
      refine xo_nil ?_
      exact xq_cut ((lce rfl (by first | rfl | (simp only [hq1, if_neg hp1, bS]; done) | (simp [hp1]; done) | (simp_all; done)) ln)) (fun _ h => h)
  · refine xq_then (xw_ret ?_)
    subst h
    exact con_ret1 (.inl rfl) Try.results21 rfl [] (fun _ h => h) (⟨rfl, rfl⟩)

theorem number_c (n0 : Int) (w : World) : Con Try.prog 21 #[.int .i64 n0] w (Is (.bool (number_F n0)) []) :=
  number_con n0 w _ (number_ok n0)

theorem path_con (m0 : (Nat → Int)) (w : World) (r : Bool) (h : path_S m0 r) : Con Try.prog 39 #[AI 28 m0] w (Is (.bool r) []) := by
  unfold path_S at h
  refine con_enter (n := 61) [(0, _)] Try.func39 rfl Try.ntmps39 rfl (lac rfl lan) ?_
  refine xw_seq (xw_region ?_)
  refine xo rfl trivial (o_boxA rfl) ?_
  rintro _ _ ⟨b1, hb1, rfl, rfl⟩
  refine xq rfl trivial (o_as rfl) ?_
  refine xo_nil (xq_then (xw_seq (xw_seq ?_)))
  refine xw_cut [(1, _)] (lc rfl ln) [(22, .bool (((!((inn_F (m0 11) 1 8))) || (!((tx_F (m0 9))))) || (!((inn_F (m0 10) 0 1048576)))))] ?_ ?_
  · refine xw_region ?_
    first | refine xq rfl trivial (o_fa0 fl34_10 rfl) ?_ | refine xq rfl trivial (o_fa fl34_10 rfl) ?_
    refine xq rfl trivial (o_ldI (v := m0 11) rfl ts3 (List.Mem.head _) (by omega) rfl) ?_
    refine xcallq rfl trivial kf18 rfl (fun w1 hw1 => inn_c _ _ _ w1) ?_
    refine xq rfl trivial (o_not rfl) ?_
    refine xq rfl trivial (o_mv rfl) ?_
    refine xo_bool 11 rfl (fun hg1 => ?_) (fun hg1 => ?_)
    · have hq1 : ((inn_F (m0 11) 1 8)) = false := (bnT hg1)
      have hp1 : ¬ (((inn_F (m0 11) 1 8)) = true) := bne' hq1
      refine xs rfl ⟨_, _, rfl, rfl, rfl⟩ (xs rfl ⟨_, _, rfl, rfl, rfl⟩ (xs rfl ⟨_, _, rfl, rfl, rfl⟩ (xs rfl ⟨_, _, rfl, rfl, rfl⟩ ?_)))
      refine xq rfl trivial (o_pick_t rfl rfl) ?_
      refine xq rfl trivial (o_mv rfl) ?_
      refine xs rfl ⟨_, _, rfl, rfl, rfl⟩ (xs rfl ⟨_, _, rfl, rfl, rfl⟩ (xs rfl ⟨_, _, rfl, rfl, rfl⟩ (xs rfl ⟨_, _, rfl, rfl, rfl⟩ ?_)))
      refine xq rfl trivial (o_pick_t rfl rfl) ?_
      refine xo_nil ?_
      exact xq_cut ((lce rfl (by first | rfl | (simp only [hq1, if_neg hp1, bS]; done) | (simp [hp1]; done) | (simp_all; done)) (lc rfl ln))) (fun _ h => h)
    · have hq1 : ((inn_F (m0 11) 1 8)) = true := (bnF hg1)
      have hp1 : ((inn_F (m0 11) 1 8)) = true := hq1
      first | refine xq rfl ⟨_, rfl, rfl⟩ (o_fa0 fl34_8 rfl) ?_ | refine xq rfl ⟨_, rfl, rfl⟩ (o_fa fl34_8 rfl) ?_
      refine xq rfl ⟨_, rfl, rfl⟩ (o_ldI (v := m0 9) rfl ts3 (List.Mem.head _) (by omega) rfl) ?_
      refine xcallq rfl ⟨_, rfl, rfl⟩ kf38 rfl (fun w1 hw1 => tx_c _ w1) ?_
      refine xq rfl ⟨_, rfl, rfl⟩ (o_not rfl) ?_
      refine xq rfl trivial (o_pick_f rfl rfl) ?_
      refine xq rfl trivial (o_mv rfl) ?_
      refine xo_bool 17 rfl (fun hg2 => ?_) (fun hg2 => ?_)
      · have hq2 : ((tx_F (m0 9))) = false := (bnT hg2)
        have hp2 : ¬ (((tx_F (m0 9))) = true) := bne' hq2
        refine xs rfl ⟨_, _, rfl, rfl, rfl⟩ (xs rfl ⟨_, _, rfl, rfl, rfl⟩ (xs rfl ⟨_, _, rfl, rfl, rfl⟩ (xs rfl ⟨_, _, rfl, rfl, rfl⟩ ?_)))
        refine xq rfl trivial (o_pick_t rfl rfl) ?_
        refine xo_nil ?_
        exact xq_cut ((lce rfl (by first | rfl | (simp only [hq1, hq2, if_pos hp1, if_neg hp2, bS]; done) | (simp [hp1, hp2]; done) | (simp_all; done)) (lc rfl ln))) (fun _ h => h)
      · have hq2 : ((tx_F (m0 9))) = true := (bnF hg2)
        have hp2 : ((tx_F (m0 9))) = true := hq2
        first | refine xq rfl ⟨_, rfl, rfl⟩ (o_fa0 fl34_9 rfl) ?_ | refine xq rfl ⟨_, rfl, rfl⟩ (o_fa fl34_9 rfl) ?_
        refine xq rfl ⟨_, rfl, rfl⟩ (o_ldI (v := m0 10) rfl ts3 (List.Mem.head _) (by omega) rfl) ?_
        refine xcallq rfl ⟨_, rfl, rfl⟩ kf18 rfl (fun w1 hw1 => inn_c _ _ _ w1) ?_
        refine xq rfl ⟨_, rfl, rfl⟩ (o_not rfl) ?_
        refine xq rfl trivial (o_pick_f rfl rfl) ?_
        refine xo_nil ?_
        exact xq_cut ((lce rfl (by first | rfl | (simp only [hq1, hq2, if_pos hp1, if_pos hp2, bS]; done) | (simp [hp1, hp2]; done) | (simp_all; done)) (lc rfl ln))) (fun _ h => h)
  · refine xq_then ?_
    refine xw_bool 22 rfl (fun hc3 => ?_) (fun hc3 => ?_)
    · have hq3 : (((!((inn_F (m0 11) 1 8))) || (!((tx_F (m0 9))))) || (!((inn_F (m0 10) 0 1048576)))) = true := hc3
      have hp3 : (((!((inn_F (m0 11) 1 8))) || (!((tx_F (m0 9))))) || (!((inn_F (m0 10) 0 1048576)))) = true := hq3
      rw [if_pos hp3] at h
      refine xw_cond_t rfl rfl (xw_seq (xw_region ?_))
      refine xq rfl trivial (o_as rfl) ?_
      refine xo_nil (xq_then (xw_ret (xq_then_ret ?_)))
      subst h
      exact con_ret1 (.inl rfl) Try.results39 rfl [] (Kp.st (Kp.new hb1 Kp.nil)) (⟨rfl, rfl⟩)
    · have hq3 : (((!((inn_F (m0 11) 1 8))) || (!((tx_F (m0 9))))) || (!((inn_F (m0 10) 0 1048576)))) = false := hc3
      have hp3 : ¬ ((((!((inn_F (m0 11) 1 8))) || (!((tx_F (m0 9))))) || (!((inn_F (m0 10) 0 1048576)))) = true) := bne' hq3
      rw [if_neg hp3] at h
      refine xw_cond_f rfl rfl (xw_skip (xq_then (xw_seq (xw_seq (xw_region ?_)))))
      first | refine xq rfl trivial (o_fa0 fl34_11 rfl) ?_ | refine xq rfl trivial (o_fa fl34_11 rfl) ?_
      refine xq rfl trivial (o_ldSI rfl ts32 (List.Mem.head _) (by omega) (fun _ _ => rfl)) ?_
      refine xq rfl trivial (o_mv rfl) ?_
      refine xo_nil (xq_then ?_)
      refine xw_block ?_
      obtain ⟨x1, hx1, h⟩ := h
      refine xw_wh (fun (x25 : Int) e H => e = [(1, .pointer (some ⟨b1, 0, none⟩)), (24, AI 16 (fun i => m0 (12 + i))), (25, .int .i64 x25)] ∧ H = (b1, BK 28 (iv m0) 34) :: ([])) (fun x ex e H => match x with | .inl _ => ex = .exit 0 ∧ e = [] ∧ H = (b1, BK 28 (iv m0) 34) :: ([]) | .inr _ => ex = .ret ∧ e = [(2, .bool false)] ∧ H = (b1, BK 28 (iv m0) 34) :: ([])) hx1 ⟨[(1, .pointer (some ⟨b1, 0, none⟩)), (24, AI 16 (fun i => m0 (12 + i))), (25, .int .i64 0)], (b1, BK 28 (iv m0) 34) :: ([]), (lc rfl (lc rfl (lc rfl ln))), fun _ h => h, ⟨rfl, rfl⟩⟩ ?_ ?_
      · rintro x25 o _ _ ⟨rfl, rfl⟩ hb
        have h : path_l1 m0 x25 o := hb
        clear hb
        unfold path_l1 at h
        refine xw_seq (xw_region ?_)
        refine xq rfl trivial (o_lss rfl rfl) ?_
        refine xo_nil (xq_then (xw_seq ?_))
        refine xw_bool 26 rfl (fun hc4 => ?_) (fun hc4 => ?_)
        · have hq4 : (decide (x25 < 8)) = true := hc4
          have hp4 : x25 < 8 := of_decide_eq_true hq4
          rw [if_pos hp4] at h
          refine xw_cond_t rfl rfl (xw_skip (xq_then (xw_seq ?_)))
          refine xw_block ?_
          refine xw_seq (xw_region ?_)
          refine xq rfl trivial (o_mv rfl) ?_
          obtain ⟨ho5, h⟩ := h
          refine xq rfl trivial (o_ixAI (j := x25.toNat) ea32 rfl rfl ho5 rfl (by decide) (fun _ _ => rfl)) ?_
          refine xo rfl trivial (o_alloc ze31 rfl) ?_
          rintro _ _ ⟨b4, hb4, rfl, rfl⟩
          refine xq rfl trivial (o_as rfl) ?_
          refine xq0 trivial (o_stWI rfl rfl ts31 (List.Mem.head _) (.here _ _ _ _)) ?_
          refine xo_nil (xq_then (xw_seq (xw_seq (xw_region ?_))))
          refine xq rfl trivial (o_mv rfl) ?_
          first | refine xq rfl trivial (o_fa0 fl34_10 rfl) ?_ | refine xq rfl trivial (o_fa fl34_10 rfl) ?_
          refine xq rfl trivial (o_ldI (v := m0 11) rfl ts3 (List.Mem.tail _ (List.Mem.head _)) (by omega) rfl) ?_
          refine xq rfl trivial (o_geq rfl rfl) ?_
          refine xo_nil (xq_then ?_)
          refine xw_bool 32 rfl (fun hc6 => ?_) (fun hc6 => ?_)
          · have hq6 : (decide (m0 11 ≤ x25)) = true := hc6
            have hp6 : m0 11 ≤ x25 := of_decide_eq_true hq6
            rw [if_pos hp6] at h
            refine xw_cond_t rfl rfl (xw_seq (xw_seq (xw_region ?_)))
            refine xq rfl trivial (o_ldW rfl ts31 (List.Mem.head _)) ?_
            refine xq rfl trivial (o_build fk31 ze31 (.nil _)) ?_
            refine xq rfl trivial (o_neqA eq31 rfl rfl) ?_
            refine xo_nil (xq_then ?_)
            refine xw_bool 35 rfl (fun hc7 => ?_) (fun hc7 => ?_)
            · have hq7 : ((eqN 2 (fun i => (fun i => m0 (12 + i)) ((x25.toNat * 2) + i)) (fun _ => 0))) = false := (bnT hc7)
              have hp7 : ¬ (((eqN 2 (fun i => (fun i => m0 (12 + i)) ((x25.toNat * 2) + i)) (fun _ => 0))) = true) := bne' hq7
              rw [if_neg hp7] at h
              refine xw_cond_t rfl rfl (xw_seq (xw_region ?_))
              refine xq rfl trivial (o_as rfl) ?_
              refine xo_nil (xq_then (xw_ret (xq_then_ret (xq_then_ret (xq_blk_ret (xq_then_ret ?_))))))
              exact xq_out (r := (.inr () : (Unit) ⊕ (Unit))) (e' := [(2, .bool false)]) ((b1, BK 28 (iv m0) 34) :: ([])) (lc rfl ln) (Kp.st (Kp.new hb4 (Kp.keep Kp.nil))) h (by intro hh; cases hh) ⟨rfl, rfl, rfl⟩
            · have hq7 : ((eqN 2 (fun i => (fun i => m0 (12 + i)) ((x25.toNat * 2) + i)) (fun _ => 0))) = true := (bnF hc7)
              have hp7 : ((eqN 2 (fun i => (fun i => m0 (12 + i)) ((x25.toNat * 2) + i)) (fun _ => 0))) = true := hq7
              rw [if_pos hp7] at h
              refine xw_cond_f rfl rfl (xw_skip (xq_then (xw_exit (xq_then_exit ?_))))
              refine xq_blk_eq ?_
              refine xq_then (xw_region ?_)
              obtain ⟨ho8, h⟩ := h
              refine xq rfl trivial (o_add rfl rfl rfl ho8) ?_
              refine xq rfl trivial (o_mv rfl) ?_
              refine xo_nil ?_
              exact xq_next (s' := (x25 + 1 : Int)) (e' := [(1, .pointer (some ⟨b1, 0, none⟩)), (24, AI 16 (fun i => m0 (12 + i))), (25, .int .i64 (x25 + 1))]) ((b1, BK 28 (iv m0) 34) :: ([])) (lc rfl (lc rfl (lc rfl ln))) (Kp.st (Kp.new hb4 (Kp.keep Kp.nil))) h ⟨rfl, rfl⟩
          · have hq6 : (decide (m0 11 ≤ x25)) = false := hc6
            have hp6 : ¬ (m0 11 ≤ x25) := of_decide_eq_false hq6
            rw [if_neg hp6] at h
            refine xw_cond_f rfl rfl (xw_skip (xq_then (xw_seq (xw_seq ?_))))
            refine xw_cut [(1, _), (3, _), (4, _), (24, _), (25, _)] (lc rfl (lc rfl (lc rfl (lc rfl (lc rfl ln))))) [(45, .bool ((!((tx_F (m0 (12 + (x25.toNat * 2)))))) || (!((inn_F (m0 (12 + ((x25.toNat * 2) + 1))) 1 1048576)))))] ?_ ?_
            · refine xw_region ?_
              first | refine xq rfl trivial (o_fa0 fl31_0 rfl) ?_ | refine xq rfl trivial (o_fa fl31_0 rfl) ?_
              refine xq rfl trivial (o_ldI (v := m0 (12 + (x25.toNat * 2))) rfl ts3 (List.Mem.head _) (by omega) rfl) ?_
              refine xcallq rfl trivial kf38 rfl (fun w1 hw1 => tx_c _ w1) ?_
              refine xq rfl trivial (o_not rfl) ?_
              refine xq rfl trivial (o_mv rfl) ?_
              refine xo_bool 40 rfl (fun hg9 => ?_) (fun hg9 => ?_)
              · have hq9 : ((tx_F (m0 (12 + (x25.toNat * 2))))) = false := (bnT hg9)
                have hp9 : ¬ (((tx_F (m0 (12 + (x25.toNat * 2))))) = true) := bne' hq9
                refine xs rfl ⟨_, _, rfl, rfl, rfl⟩ (xs rfl ⟨_, _, rfl, rfl, rfl⟩ (xs rfl ⟨_, _, rfl, rfl, rfl⟩ (xs rfl ⟨_, _, rfl, rfl, rfl⟩ ?_)))
                refine xq rfl trivial (o_pick_t rfl rfl) ?_
                refine xo_nil ?_
                exact xq_cut ((lce rfl (by first | rfl | (simp only [hq4, hq6, hq9, if_pos hp4, if_neg hp6, if_neg hp9, bS]; done) | (simp [hp4, hp6, hp9]; done) | (simp_all; done)) (lc rfl (lc rfl (lc rfl (lc rfl (lc rfl ln))))))) (fun _ h => h)
              · have hq9 : ((tx_F (m0 (12 + (x25.toNat * 2))))) = true := (bnF hg9)
                have hp9 : ((tx_F (m0 (12 + (x25.toNat * 2))))) = true := hq9
                first | refine xq rfl ⟨_, rfl, rfl⟩ (o_fa0 fl31_1 rfl) ?_ | refine xq rfl ⟨_, rfl, rfl⟩ (o_fa fl31_1 rfl) ?_
                refine xq rfl ⟨_, rfl, rfl⟩ (o_ldI (v := m0 (12 + ((x25.toNat * 2) + 1))) rfl ts3 (List.Mem.head _) (by omega) rfl) ?_
                refine xcallq rfl ⟨_, rfl, rfl⟩ kf18 rfl (fun w1 hw1 => inn_c _ _ _ w1) ?_
                refine xq rfl ⟨_, rfl, rfl⟩ (o_not rfl) ?_
                refine xq rfl trivial (o_pick_f rfl rfl) ?_
                refine xo_nil ?_
                exact xq_cut ((lce rfl (by first | rfl | (simp only [hq4, hq6, hq9, if_pos hp4, if_neg hp6, if_pos hp9, bS]; done) | (simp [hp4, hp6, hp9]; done) | (simp_all; done)) (lc rfl (lc rfl (lc rfl (lc rfl (lc rfl ln))))))) (fun _ h => h)
            · refine xq_then ?_
              refine xw_bool 45 rfl (fun hc10 => ?_) (fun hc10 => ?_)
              · have hq10 : ((!((tx_F (m0 (12 + (x25.toNat * 2)))))) || (!((inn_F (m0 (12 + ((x25.toNat * 2) + 1))) 1 1048576)))) = true := hc10
                have hp10 : ((!((tx_F (m0 (12 + (x25.toNat * 2)))))) || (!((inn_F (m0 (12 + ((x25.toNat * 2) + 1))) 1 1048576)))) = true := hq10
                rw [if_pos hp10] at h
                refine xw_cond_t rfl rfl (xw_seq (xw_region ?_))
                refine xq rfl trivial (o_as rfl) ?_
                refine xo_nil (xq_then (xw_ret (xq_then_ret (xq_blk_ret (xq_then_ret ?_)))))
                exact xq_out (r := (.inr () : (Unit) ⊕ (Unit))) (e' := [(2, .bool false)]) ((b1, BK 28 (iv m0) 34) :: ([])) (lc rfl ln) (Kp.st (Kp.new hb4 (Kp.keep Kp.nil))) h (by intro hh; cases hh) ⟨rfl, rfl, rfl⟩
              · have hq10 : ((!((tx_F (m0 (12 + (x25.toNat * 2)))))) || (!((inn_F (m0 (12 + ((x25.toNat * 2) + 1))) 1 1048576)))) = false := hc10
                have hp10 : ¬ (((!((tx_F (m0 (12 + (x25.toNat * 2)))))) || (!((inn_F (m0 (12 + ((x25.toNat * 2) + 1))) 1 1048576)))) = true) := bne' hq10
                rw [if_neg hp10] at h
                refine xw_cond_f rfl rfl (xw_skip (xq_then (xw_seq (xw_region ?_))))
                first | refine xq rfl trivial (o_fa0 fl34_11 rfl) ?_ | refine xq rfl trivial (o_fa fl34_11 rfl) ?_
                refine xq rfl trivial (o_mv rfl) ?_
                obtain ⟨ho11, h⟩ := h
                refine xq rfl trivial (o_slA (h := x25.toNat) ea32 rfl rfl (Int.toNat_of_nonneg ho11.1).symm (by omega)) ?_
                refine xq rfl trivial (o_len rfl Try.underlying93 rfl) ?_
                refine xq rfl trivial (o_mv rfl) ?_
                refine xo_nil (xq_then ?_)
                refine xw_block ?_
                obtain ⟨x2, hx2, h⟩ := h
                refine xw_wh (fun (x50 : Int) e H => e = [(1, .pointer (some ⟨b1, 0, none⟩)), (4, .pointer (some ⟨b4, 0, none⟩)), (24, AI 16 (fun i => m0 (12 + i))), (25, .int .i64 x25), (48, .slice (some ⟨b1, 12, none⟩) x25.toNat 8), (49, .int .i64 (x25.toNat : Int)), (50, .int .i64 x50)] ∧ H = (b4, BK 2 (iv (fun i => (fun i => m0 (12 + i)) ((x25.toNat * 2) + i))) 31) :: ((b1, BK 28 (iv m0) 34) :: ([]))) (fun x ex e H => match x with | .inl _ => ex = .exit 2 ∧ e = [(1, .pointer (some ⟨b1, 0, none⟩)), (24, AI 16 (fun i => m0 (12 + i))), (25, .int .i64 x25)] ∧ H = (b4, BK 2 (iv (fun i => (fun i => m0 (12 + i)) ((x25.toNat * 2) + i))) 31) :: ((b1, BK 28 (iv m0) 34) :: ([])) | .inr _ => ex = .ret ∧ e = [(2, .bool false)] ∧ H = (b4, BK 2 (iv (fun i => (fun i => m0 (12 + i)) ((x25.toNat * 2) + i))) 31) :: ((b1, BK 28 (iv m0) 34) :: ([]))) hx2 ⟨[(1, .pointer (some ⟨b1, 0, none⟩)), (4, .pointer (some ⟨b4, 0, none⟩)), (24, AI 16 (fun i => m0 (12 + i))), (25, .int .i64 x25), (48, .slice (some ⟨b1, 12, none⟩) x25.toNat 8), (49, .int .i64 (x25.toNat : Int)), (50, .int .i64 0)], (b4, BK 2 (iv (fun i => (fun i => m0 (12 + i)) ((x25.toNat * 2) + i))) 31) :: ((b1, BK 28 (iv m0) 34) :: ([])), (lc rfl (lc rfl (lc rfl (lc rfl (lc rfl (lc rfl (lc rfl ln))))))), fun _ h => h, ⟨rfl, rfl⟩⟩ ?_ ?_
                · rintro x50 o _ _ ⟨rfl, rfl⟩ hb
                  have h : path_l2 m0 x25 x50 o := hb
                  clear hb
                  unfold path_l2 at h
                  refine xw_seq (xw_region ?_)
                  refine xq rfl trivial (o_lss rfl rfl) ?_
                  refine xo_nil (xq_then (xw_seq ?_))
                  refine xw_bool 51 rfl (fun hc12 => ?_) (fun hc12 => ?_)
                  · have hq12 : (decide (x50 < (x25.toNat : Int))) = true := hc12
                    have hp12 : x50 < (x25.toNat : Int) := of_decide_eq_true hq12
                    rw [if_pos hp12] at h
                    refine xw_cond_t rfl rfl (xw_skip (xq_then (xw_seq ?_)))
                    refine xw_block ?_
                    refine xw_seq (xw_region ?_)
                    obtain ⟨ho13, h⟩ := h
                    refine xq rfl trivial (o_ixs el93 rfl rfl ho13 rfl) ?_
                    refine xq rfl trivial (o_ldSI rfl ts31 (List.Mem.tail _ (List.Mem.head _)) (by have := ho11; have := ho13; omega) (fun _ _ => rfl)) ?_
                    refine xo rfl trivial (o_alloc ze31 rfl) ?_
                    rintro _ _ ⟨b6, hb6, rfl, rfl⟩
                    refine xq0 trivial (o_stWI rfl rfl ts31 (List.Mem.head _) (.here _ _ _ _)) ?_
                    refine xo_nil (xq_then (xw_seq (xw_region ?_)))
                    first | refine xq rfl trivial (o_fa0 fl31_0 rfl) ?_ | refine xq rfl trivial (o_fa fl31_0 rfl) ?_
                    refine xq rfl trivial (o_ldI (v := m0 (12 + (x50.toNat * 2))) rfl ts3 (List.Mem.head _) (by omega) rfl) ?_
                    first | refine xq rfl trivial (o_fa0 fl31_0 rfl) ?_ | refine xq rfl trivial (o_fa fl31_0 rfl) ?_
                    refine xq rfl trivial (o_ldI (v := m0 (12 + (x25.toNat * 2))) rfl ts3 (List.Mem.tail _ (List.Mem.head _)) (by omega) rfl) ?_
                    refine xq rfl trivial (o_eql rfl rfl) ?_
                    refine xo_nil (xq_then ?_)
                    refine xw_bool 58 rfl (fun hc14 => ?_) (fun hc14 => ?_)
                    · have hq14 : (decide (m0 (12 + (x50.toNat * 2)) = m0 (12 + (x25.toNat * 2)))) = true := hc14
                      have hp14 : m0 (12 + (x50.toNat * 2)) = m0 (12 + (x25.toNat * 2)) := of_decide_eq_true hq14
                      rw [if_pos hp14] at h
                      refine xw_cond_t rfl rfl (xw_seq (xw_region ?_))
                      refine xq rfl trivial (o_as rfl) ?_
                      refine xo_nil (xq_then (xw_ret (xq_blk_ret (xq_then_ret ?_))))
                      exact xq_out (r := (.inr () : (Unit) ⊕ (Unit))) (e' := [(2, .bool false)]) ((b4, BK 2 (iv (fun i => (fun i => m0 (12 + i)) ((x25.toNat * 2) + i))) 31) :: ((b1, BK 28 (iv m0) 34) :: ([]))) (lc rfl ln) (Kp.st (Kp.new hb6 (Kp.keep (Kp.keep Kp.nil)))) h (by intro hh; cases hh) ⟨rfl, rfl, rfl⟩
                    · have hq14 : (decide (m0 (12 + (x50.toNat * 2)) = m0 (12 + (x25.toNat * 2)))) = false := hc14
                      have hp14 : ¬ (m0 (12 + (x50.toNat * 2)) = m0 (12 + (x25.toNat * 2))) := of_decide_eq_false hq14
                      rw [if_neg hp14] at h
                      refine xw_cond_f rfl rfl (xw_skip ?_)
                      refine xq_blk 3 ?_
                      refine xq_then (xw_region ?_)
                      obtain ⟨ho15, h⟩ := h
                      refine xq rfl trivial (o_add rfl rfl rfl ho15) ?_
                      refine xq rfl trivial (o_mv rfl) ?_
                      refine xo_nil ?_
                      exact xq_next (s' := (x50 + 1 : Int)) (e' := [(1, .pointer (some ⟨b1, 0, none⟩)), (4, .pointer (some ⟨b4, 0, none⟩)), (24, AI 16 (fun i => m0 (12 + i))), (25, .int .i64 x25), (48, .slice (some ⟨b1, 12, none⟩) x25.toNat 8), (49, .int .i64 (x25.toNat : Int)), (50, .int .i64 (x50 + 1))]) ((b4, BK 2 (iv (fun i => (fun i => m0 (12 + i)) ((x25.toNat * 2) + i))) 31) :: ((b1, BK 28 (iv m0) 34) :: ([]))) (lc rfl (lc rfl (lc rfl (lc rfl (lc rfl (lc rfl (lc rfl ln))))))) (Kp.st (Kp.new hb6 (Kp.keep (Kp.keep Kp.nil)))) h ⟨rfl, rfl⟩
                  · have hq12 : (decide (x50 < (x25.toNat : Int))) = false := hc12
                    have hp12 : ¬ (x50 < (x25.toNat : Int)) := of_decide_eq_false hq12
                    rw [if_neg hp12] at h
                    refine xw_cond_f rfl rfl (xw_exit (xq_then_exit ?_))
                    exact xq_out (r := (.inl () : (Unit) ⊕ (Unit))) (e' := [(1, .pointer (some ⟨b1, 0, none⟩)), (24, AI 16 (fun i => m0 (12 + i))), (25, .int .i64 x25)]) ((b4, BK 2 (iv (fun i => (fun i => m0 (12 + i)) ((x25.toNat * 2) + i))) 31) :: ((b1, BK 28 (iv m0) 34) :: ([]))) (lc rfl (lc rfl (lc rfl ln))) (fun _ h => h) h (by intro hh; cases hh) ⟨rfl, rfl, rfl⟩
                · rcases x2 with _ | x2
                  · rintro _ _ _ ⟨rfl, rfl, rfl⟩
                    replace h : path_k2a x25 o := h
                    unfold path_k2a at h
                    refine xq_blk_eq ?_
                    refine xq_blk 1 ?_
                    refine xq_then (xw_region ?_)
                    obtain ⟨ho16, h⟩ := h
                    refine xq rfl trivial (o_add rfl rfl rfl ho16) ?_
                    refine xq rfl trivial (o_mv rfl) ?_
                    refine xo_nil ?_
                    exact xq_next (s' := (x25 + 1 : Int)) (e' := [(1, .pointer (some ⟨b1, 0, none⟩)), (24, AI 16 (fun i => m0 (12 + i))), (25, .int .i64 (x25 + 1))]) ((b1, BK 28 (iv m0) 34) :: ([])) (lc rfl (lc rfl (lc rfl ln))) (Kp.st (Kp.new hb4 (Kp.keep Kp.nil))) h ⟨rfl, rfl⟩
                  cases x2
                  rintro _ _ _ ⟨rfl, rfl, rfl⟩
                  replace h : path_k2b o := h
                  unfold path_k2b at h
                  refine xq_blk_ret (xq_blk_ret (xq_then_ret ?_))
                  exact xq_out (r := (.inr () : (Unit) ⊕ (Unit))) (e' := [(2, .bool false)]) ((b1, BK 28 (iv m0) 34) :: ([])) (lc rfl ln) (Kp.st (Kp.new hb4 (Kp.keep Kp.nil))) h (by intro hh; cases hh) ⟨rfl, rfl, rfl⟩
        · have hq4 : (decide (x25 < 8)) = false := hc4
          have hp4 : ¬ (x25 < 8) := of_decide_eq_false hq4
          rw [if_neg hp4] at h
          refine xw_cond_f rfl rfl (xw_exit (xq_then_exit ?_))
          exact xq_out (r := (.inl () : (Unit) ⊕ (Unit))) (e' := []) ((b1, BK 28 (iv m0) 34) :: ([])) ln (fun _ h => h) h (by intro hh; cases hh) ⟨rfl, rfl, rfl⟩
      · rcases x1 with _ | x1
        · rintro _ _ _ ⟨rfl, rfl, rfl⟩
          replace h : path_k1a r := h
          unfold path_k1a at h
          refine xq_blk_eq ?_
          refine xq_then (xw_seq (xw_region ?_))
          refine xq rfl trivial (o_as rfl) ?_
          refine xo_nil (xq_then (xw_ret ?_))
          subst h
          exact con_ret1 (.inl rfl) Try.results39 rfl [] (Kp.st (Kp.new hb1 Kp.nil)) (⟨rfl, rfl⟩)
        cases x1
        rintro _ _ _ ⟨rfl, rfl, rfl⟩
        replace h : path_k1b r := h
        unfold path_k1b at h
        refine xq_blk_ret (xq_then_ret ?_)
        subst h
        exact con_ret1 (.inl rfl) Try.results39 rfl [] (Kp.st (Kp.new hb1 Kp.nil)) (⟨rfl, rfl⟩)

theorem same_con (a0 : (List Int)) (b1 : (List Int)) (v0 : Value) (v1 : Value) (w : World) (hs0 : SL w 1 u8c v0 a0) (hs1 : SL w 1 u8c v1 b1) (r : Bool) (h : same_S a0 b1 r) : Con Try.prog 14 #[v0, v1] w (Is (.bool r) []) := by
  unfold same_S at h
  refine con_enter (n := 26) [(0, _), (1, _)] Try.func14 rfl Try.ntmps14 rfl (lac rfl (lac rfl lan)) ?_
  refine xw_seq (xw_region ?_)
  refine xq rfl trivial (o_as rfl) ?_
  refine xo_nil (xq_then (xw_seq (xw_seq (xw_region ?_))))
  refine xq rfl trivial (o_mv rfl) ?_
  refine xq rfl trivial (o_lenL rfl Try.underlying35 rfl (SL.val hs0)) ?_
  refine xq rfl trivial (o_mv rfl) ?_
  refine xq rfl trivial (o_lenL rfl Try.underlying35 rfl (SL.val hs1)) ?_
  refine xq rfl trivial (o_neq rfl rfl) ?_
  refine xo_nil (xq_then ?_)
  refine xw_bool 10 rfl (fun hc1 => ?_) (fun hc1 => ?_)
  · have hq1 : (decide ((a0.length : Int) = (b1.length : Int))) = false := (bnT hc1)
    have hp1 : ¬ ((a0.length : Int) = (b1.length : Int)) := of_decide_eq_false hq1
    rw [if_neg hp1] at h
    refine xw_cond_t rfl rfl (xw_seq (xw_region ?_))
    refine xq rfl trivial (o_as rfl) ?_
    refine xo_nil (xq_then (xw_ret (xq_then_ret ?_)))
    subst h
    exact con_ret1 (.inl rfl) Try.results14 rfl [] (fun _ h => h) (⟨rfl, rfl⟩)
  · have hq1 : (decide ((a0.length : Int) = (b1.length : Int))) = true := (bnF hc1)
    have hp1 : (a0.length : Int) = (b1.length : Int) := of_decide_eq_true hq1
    rw [if_pos hp1] at h
    refine xw_cond_f rfl rfl (xw_skip (xq_then (xw_seq (xw_seq (xw_region ?_)))))
    refine xq rfl trivial (o_as rfl) ?_
    refine xo_nil (xq_then ?_)
    refine xw_block ?_
    obtain ⟨x1, hx1, h⟩ := h
    refine xw_wh (fun (i5 : Int) e H => e = [(0, v0), (1, v1), (5, .int .i64 i5)] ∧ H = []) (fun x ex e H => match x with | .inl _ => ex = .exit 0 ∧ e = [] ∧ H = [] | .inr _ => ex = .ret ∧ e = [(4, .bool false)] ∧ H = []) hx1 ⟨[(0, v0), (1, v1), (5, .int .i64 0)], [], (lc rfl (lc rfl (lc rfl ln))), fun _ h => h, ⟨rfl, rfl⟩⟩ ?_ ?_
    · rintro i5 o _ _ ⟨rfl, rfl⟩ hb
      have h : same_l1 a0 b1 i5 o := hb
      clear hb
      unfold same_l1 at h
      refine xw_seq (xw_seq (xw_region ?_))
      refine xq rfl trivial (o_mv rfl) ?_
      refine xq rfl trivial (o_mv rfl) ?_
      refine xq rfl trivial (o_lenL rfl Try.underlying35 rfl (SL.val hs0)) ?_
      refine xq rfl trivial (o_lss rfl rfl) ?_
      refine xo_nil (xq_then ?_)
      refine xw_bool 14 rfl (fun hc2 => ?_) (fun hc2 => ?_)
      · have hq2 : (decide (i5 < (a0.length : Int))) = true := hc2
        have hp2 : i5 < (a0.length : Int) := of_decide_eq_true hq2
        rw [if_pos hp2] at h
        refine xw_cond_t rfl rfl (xw_skip (xq_then (xw_seq ?_)))
        refine xw_block ?_
        refine xw_seq ?_
        refine xd_start (by kernel_rfl) (by kernel_rfl) (fun hok => ?_)
        refine xd_a hok 0 [(0, _)] (fun _ h => absurd h List.not_mem_nil) rfl rfl rfl (lc rfl ln) (by kernel_rfl) trivial (fun H' hy hK => o_mv rfl) ?_
        refine xd_a hok 1 [(5, _)] (fun _ h => h) rfl rfl rfl (lc rfl ln) (by kernel_rfl) trivial (fun H' hy hK => o_mv rfl) ?_
        obtain ⟨ho3, h⟩ := h
        refine xd_a hok 2 [(17, _), (18, _)] (fun _ h => h) rfl rfl rfl (lc rfl (lc rfl ln)) (by kernel_rfl) trivial (fun H' hy hK => o_ixL el35 rfl rfl (fun w hw => (hs0.keep hw (fun k hk => (hK k hk).elim (fun h => Fr.nil k h) id))) rfl ho3) ?_
        refine xd_a hok 3 [(19, _)] (fun _ h => h) rfl rfl rfl (lc rfl ln) (by kernel_rfl) trivial (fun H' hy hK => o_ldL1 (off := 0) (u := .int .u8 (a0[i5.toNat]!)) rfl ts5 rfl (fun w hw => (hs0.keep hw (fun k hk => (hK k hk).elim (fun h => Fr.nil k h) id))) (toNat_lt ho3) rfl rfl) ?_
        refine xd_a hok 4 [(1, _)] (fun _ h => h) rfl rfl rfl (lc rfl ln) (by kernel_rfl) trivial (fun H' hy hK => o_mv rfl) ?_
        refine xd_a hok 5 [(5, _)] (fun _ h => h) rfl rfl rfl (lc rfl ln) (by kernel_rfl) trivial (fun H' hy hK => o_mv rfl) ?_
        obtain ⟨ho4, h⟩ := h
        refine xd_a hok 6 [(21, _), (22, _)] (fun _ h => h) rfl rfl rfl (lc rfl (lc rfl ln)) (by kernel_rfl) trivial (fun H' hy hK => o_ixL el35 rfl rfl (fun w hw => (hs1.keep hw (fun k hk => (hK k hk).elim (fun h => Fr.nil k h) id))) rfl ho4) ?_
        refine xd_a hok 7 [(23, _)] (fun _ h => h) rfl rfl rfl (lc rfl ln) (by kernel_rfl) trivial (fun H' hy hK => o_ldL1 (off := 0) (u := .int .u8 (b1[i5.toNat]!)) rfl ts5 rfl (fun w hw => (hs1.keep hw (fun k hk => (hK k hk).elim (fun h => Fr.nil k h) id))) (toNat_lt ho4) rfl rfl) ?_
        refine xd_a hok 8 [(20, _), (24, _)] (fun _ h => h) rfl rfl rfl (lc rfl (lc rfl ln)) (by kernel_rfl) trivial (fun H' hy hK => o_neq rfl rfl) ?_
        refine xd_end hok (by kernel_rfl) ?_
        refine xq_then ?_
        refine xw_bool 25 rfl (fun hc5 => ?_) (fun hc5 => ?_)
        · have hq5 : (decide (a0[i5.toNat]! = b1[i5.toNat]!)) = false := (bnT hc5)
          have hp5 : ¬ (a0[i5.toNat]! = b1[i5.toNat]!) := of_decide_eq_false hq5
          rw [if_neg hp5] at h
          refine xw_cond_t rfl rfl (xw_seq (xw_region ?_))
          refine xq rfl trivial (o_as rfl) ?_
          refine xo_nil (xq_then (xw_ret (xq_blk_ret (xq_then_ret ?_))))
          exact xq_out (r := (.inr () : (Unit) ⊕ (Unit))) (e' := [(4, .bool false)]) ([]) (lc rfl ln) (fun _ h => h) h (by intro hh; cases hh) ⟨rfl, rfl, rfl⟩
        · have hq5 : (decide (a0[i5.toNat]! = b1[i5.toNat]!)) = true := (bnF hc5)
          have hp5 : a0[i5.toNat]! = b1[i5.toNat]! := of_decide_eq_true hq5
          rw [if_pos hp5] at h
          refine xw_cond_f rfl rfl (xw_skip ?_)
          refine xq_blk 1 ?_
          refine xq_then (xw_region ?_)
          refine xq rfl trivial (o_mv rfl) ?_
          obtain ⟨ho6, h⟩ := h
          refine xq rfl trivial (o_add rfl rfl rfl ho6) ?_
          refine xq rfl trivial (o_as rfl) ?_
          refine xo_nil ?_
          exact xq_next (s' := (i5 + 1 : Int)) (e' := [(0, v0), (1, v1), (5, .int .i64 (i5 + 1))]) ([]) (lc rfl (lc rfl (lc rfl ln))) (fun _ h => h) h ⟨rfl, rfl⟩
      · have hq2 : (decide (i5 < (a0.length : Int))) = false := hc2
        have hp2 : ¬ (i5 < (a0.length : Int)) := of_decide_eq_false hq2
        rw [if_neg hp2] at h
        refine xw_cond_f rfl rfl (xw_exit (xq_then_exit ?_))
        exact xq_out (r := (.inl () : (Unit) ⊕ (Unit))) (e' := []) ([]) ln (fun _ h => h) h (by intro hh; cases hh) ⟨rfl, rfl, rfl⟩
    · rcases x1 with _ | x1
      · rintro _ _ _ ⟨rfl, rfl, rfl⟩
        replace h : same_k1a r := h
        unfold same_k1a at h
        refine xq_blk_eq ?_
        refine xq_then (xw_seq (xw_region ?_))
        refine xq rfl trivial (o_as rfl) ?_
        refine xo_nil (xq_then (xw_ret ?_))
        subst h
        exact con_ret1 (.inl rfl) Try.results14 rfl [] (fun _ h => h) (⟨rfl, rfl⟩)
      cases x1
      rintro _ _ _ ⟨rfl, rfl, rfl⟩
      replace h : same_k1b r := h
      unfold same_k1b at h
      refine xq_blk_ret (xq_then_ret ?_)
      subst h
      exact con_ret1 (.inl rfl) Try.results14 rfl [] (fun _ h => h) (⟨rfl, rfl⟩)

theorem at4_con (b0 : (List Int)) (i1 : Int) (v0 : Value) (w : World) (hs0 : SL w 1 u8c v0 b0) (r : Int) (h : at4_S b0 i1 r) : Con Try.prog 30 #[v0, .int .i64 i1] w (Is (.int .i64 r) []) := by
  unfold at4_S at h
  refine con_enter (n := 34) [(0, _), (1, _)] Try.func30 rfl Try.ntmps30 rfl (lac rfl (lac rfl lan)) ?_
  refine xw_seq (xw_region ?_)
  refine xq rfl trivial (o_as rfl) ?_
  refine xo_nil (xq_then (xw_seq ?_))
  refine xd_start (by kernel_rfl) (by kernel_rfl) (fun hok => ?_)
  refine xd_a hok 0 [(0, _)] (fun _ h => absurd h List.not_mem_nil) rfl rfl rfl (lc rfl ln) (by kernel_rfl) trivial (fun H' hy hK => o_mv rfl) ?_
  refine xd_a hok 1 [(1, _)] (fun _ h => h) rfl rfl rfl (lc rfl ln) (by kernel_rfl) trivial (fun H' hy hK => o_mv rfl) ?_
  obtain ⟨ho1, h⟩ := h
  refine xd_a hok 2 [(5, _), (6, _)] (fun _ h => h) rfl rfl rfl (lc rfl (lc rfl ln)) (by kernel_rfl) trivial (fun H' hy hK => o_ixL el35 rfl rfl (fun w hw => (hs0.keep hw (fun k hk => (hK k hk).elim (fun h => Fr.nil k h) id))) rfl ho1) ?_
  refine xd_a hok 3 [(7, _)] (fun _ h => h) rfl rfl rfl (lc rfl ln) (by kernel_rfl) trivial (fun H' hy hK => o_ldL1 (off := 0) (u := .int .u8 (b0[i1.toNat]!)) rfl ts5 rfl (fun w hw => (hs0.keep hw (fun k hk => (hK k hk).elim (fun h => Fr.nil k h) id))) (toNat_lt ho1) rfl rfl) ?_
  refine xd_a hok 4 [(8, _)] (fun _ h => h) rfl rfl rfl (lc rfl ln) (by kernel_rfl) trivial (fun H' hy hK => o_conv rfl Try.underlying5 Try.underlying3) ?_
  obtain ⟨ho2, h⟩ := h
  refine xd_a hok 5 [(9, _)] (fun _ h => h) rfl rfl rfl (lc rfl ln) (by kernel_rfl) trivial (fun H' hy hK => o_mul rfl rfl rfl ho2) ?_
  refine xd_a hok 6 [(0, _)] (fun _ h => h) rfl rfl rfl (lc rfl ln) (by kernel_rfl) trivial (fun H' hy hK => o_mv rfl) ?_
  refine xd_a hok 7 [(1, _)] (fun _ h => h) rfl rfl rfl (lc rfl ln) (by kernel_rfl) trivial (fun H' hy hK => o_mv rfl) ?_
  obtain ⟨ho3, h⟩ := h
  refine xd_a hok 8 [(12, _)] (fun _ h => h) rfl rfl rfl (lc rfl ln) (by kernel_rfl) trivial (fun H' hy hK => o_add rfl rfl rfl ho3) ?_
  obtain ⟨ho4, h⟩ := h
  refine xd_a hok 9 [(11, _), (13, _)] (fun _ h => h) rfl rfl rfl (lc rfl (lc rfl ln)) (by kernel_rfl) trivial (fun H' hy hK => o_ixL el35 rfl rfl (fun w hw => (hs0.keep hw (fun k hk => (hK k hk).elim (fun h => Fr.nil k h) id))) rfl ho4) ?_
  refine xd_a hok 10 [(14, _)] (fun _ h => h) rfl rfl rfl (lc rfl ln) (by kernel_rfl) trivial (fun H' hy hK => o_ldL1 (off := 0) (u := .int .u8 (b0[(i1 + 1).toNat]!)) rfl ts5 rfl (fun w hw => (hs0.keep hw (fun k hk => (hK k hk).elim (fun h => Fr.nil k h) id))) (toNat_lt ho4) rfl rfl) ?_
  refine xd_a hok 11 [(15, _)] (fun _ h => h) rfl rfl rfl (lc rfl ln) (by kernel_rfl) trivial (fun H' hy hK => o_conv rfl Try.underlying5 Try.underlying3) ?_
  obtain ⟨ho5, h⟩ := h
  refine xd_a hok 12 [(16, _)] (fun _ h => h) rfl rfl rfl (lc rfl ln) (by kernel_rfl) trivial (fun H' hy hK => o_mul rfl rfl rfl ho5) ?_
  obtain ⟨ho6, h⟩ := h
  refine xd_a hok 13 [(10, _), (17, _)] (fun _ h => h) rfl rfl rfl (lc rfl (lc rfl ln)) (by kernel_rfl) trivial (fun H' hy hK => o_add rfl rfl rfl ho6) ?_
  refine xd_a hok 14 [(0, _)] (fun _ h => h) rfl rfl rfl (lc rfl ln) (by kernel_rfl) trivial (fun H' hy hK => o_mv rfl) ?_
  refine xd_a hok 15 [(1, _)] (fun _ h => h) rfl rfl rfl (lc rfl ln) (by kernel_rfl) trivial (fun H' hy hK => o_mv rfl) ?_
  obtain ⟨ho7, h⟩ := h
  refine xd_a hok 16 [(20, _)] (fun _ h => h) rfl rfl rfl (lc rfl ln) (by kernel_rfl) trivial (fun H' hy hK => o_add rfl rfl rfl ho7) ?_
  obtain ⟨ho8, h⟩ := h
  refine xd_a hok 17 [(19, _), (21, _)] (fun _ h => h) rfl rfl rfl (lc rfl (lc rfl ln)) (by kernel_rfl) trivial (fun H' hy hK => o_ixL el35 rfl rfl (fun w hw => (hs0.keep hw (fun k hk => (hK k hk).elim (fun h => Fr.nil k h) id))) rfl ho8) ?_
  refine xd_a hok 18 [(22, _)] (fun _ h => h) rfl rfl rfl (lc rfl ln) (by kernel_rfl) trivial (fun H' hy hK => o_ldL1 (off := 0) (u := .int .u8 (b0[(i1 + 2).toNat]!)) rfl ts5 rfl (fun w hw => (hs0.keep hw (fun k hk => (hK k hk).elim (fun h => Fr.nil k h) id))) (toNat_lt ho8) rfl rfl) ?_
  refine xd_a hok 19 [(23, _)] (fun _ h => h) rfl rfl rfl (lc rfl ln) (by kernel_rfl) trivial (fun H' hy hK => o_conv rfl Try.underlying5 Try.underlying3) ?_
  obtain ⟨ho9, h⟩ := h
  refine xd_a hok 20 [(24, _)] (fun _ h => h) rfl rfl rfl (lc rfl ln) (by kernel_rfl) trivial (fun H' hy hK => o_mul rfl rfl rfl ho9) ?_
  obtain ⟨ho10, h⟩ := h
  refine xd_a hok 21 [(18, _), (25, _)] (fun _ h => h) rfl rfl rfl (lc rfl (lc rfl ln)) (by kernel_rfl) trivial (fun H' hy hK => o_add rfl rfl rfl ho10) ?_
  refine xd_a hok 22 [(0, _)] (fun _ h => h) rfl rfl rfl (lc rfl ln) (by kernel_rfl) trivial (fun H' hy hK => o_mv rfl) ?_
  refine xd_a hok 23 [(1, _)] (fun _ h => h) rfl rfl rfl (lc rfl ln) (by kernel_rfl) trivial (fun H' hy hK => o_mv rfl) ?_
  obtain ⟨ho11, h⟩ := h
  refine xd_a hok 24 [(28, _)] (fun _ h => h) rfl rfl rfl (lc rfl ln) (by kernel_rfl) trivial (fun H' hy hK => o_add rfl rfl rfl ho11) ?_
  obtain ⟨ho12, h⟩ := h
  refine xd_a hok 25 [(27, _), (29, _)] (fun _ h => h) rfl rfl rfl (lc rfl (lc rfl ln)) (by kernel_rfl) trivial (fun H' hy hK => o_ixL el35 rfl rfl (fun w hw => (hs0.keep hw (fun k hk => (hK k hk).elim (fun h => Fr.nil k h) id))) rfl ho12) ?_
  refine xd_a hok 26 [(30, _)] (fun _ h => h) rfl rfl rfl (lc rfl ln) (by kernel_rfl) trivial (fun H' hy hK => o_ldL1 (off := 0) (u := .int .u8 (b0[(i1 + 3).toNat]!)) rfl ts5 rfl (fun w hw => (hs0.keep hw (fun k hk => (hK k hk).elim (fun h => Fr.nil k h) id))) (toNat_lt ho12) rfl rfl) ?_
  refine xd_a hok 27 [(31, _)] (fun _ h => h) rfl rfl rfl (lc rfl ln) (by kernel_rfl) trivial (fun H' hy hK => o_conv rfl Try.underlying5 Try.underlying3) ?_
  obtain ⟨ho13, h⟩ := h
  refine xd_a hok 28 [(26, _), (32, _)] (fun _ h => h) rfl rfl rfl (lc rfl (lc rfl ln)) (by kernel_rfl) trivial (fun H' hy hK => o_add rfl rfl rfl ho13) ?_
  refine xd_a hok 29 [(33, _)] (fun _ h => h) rfl rfl rfl (lc rfl ln) (by kernel_rfl) trivial (fun H' hy hK => o_as rfl) ?_
  refine xd_end hok (by kernel_rfl) ?_
  refine xq_then (xw_ret ?_)
  subst h
  exact con_ret1 (.inl rfl) Try.results30 rfl [] (fun _ h => h) (⟨rfl, rfl⟩)

theorem at4_c (b0 : (List Int)) (i1 : Int) (v0 : Value) (w : World) (hs0 : SL w 1 u8c v0 b0) (hP : at4_P b0 i1) : Con Try.prog 30 #[v0, .int .i64 i1] w (Is (.int .i64 (at4_F b0 i1)) []) :=
  at4_con b0 i1 v0 w hs0 _ (at4_ok b0 i1 hP)

end Go.Proofs.Ytmcohikcgdfhcaa
