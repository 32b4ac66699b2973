/- The code answers as the relations say. -/
import Derived.Test.YtdmibiefinhneaaTab
import Derived.Test.YtdmibiefinhneaaD10S
import Derived.Test.YtdmibiefinhneaaC10W
set_option maxHeartbeats 1000000
set_option linter.unusedVariables false
set_option linter.unusedSimpArgs false
set_option maxRecDepth 100000
namespace Go.Proofs.Ytdmibiefinhneaa
open Go Go.E

theorem gcirc_c (l0 : (List (Nat → Int))) (v0 : Value) (w : World) (hs0 : SL w 4 iv v0 l0) (hP : gcirc_P l0) : Con Try.prog 12 #[v0] w (fun v F => ∃ (u0 : Value) (C0 : GH), v = u0 ∧ F = (C0 ++ []) ∧ OJ 3 1 ic C0 u0 (gcirc_F l0) ∧ Cov w [] C0) :=
  gcirc_con l0 v0 w hs0 _ (gcirc_ok l0 hP)

theorem circR_c (l0 : (List (Nat → Int))) (v0 : Value) (w : World) (hs0 : SL w 4 iv v0 l0) (hP : circR_P l0) : Con Try.prog 13 #[v0] w (fun v F => ∃ (u0 : Value) (C0 : GH), v = u0 ∧ F = (C0 ++ []) ∧ OJ 3 1 ic C0 u0 (circR_F l0) ∧ Cov w [] C0) :=
  circR_con l0 v0 w hs0 _ (circR_ok l0 hP)

theorem orderR_c (l0 : (List (Nat → Int))) (v0 : Value) (w : World) (hs0 : SL w 4 iv v0 l0) (hP : orderR_P l0) : Con Try.prog 17 #[v0] w (fun v F => ∃ (u0 : Value) (C0 : GH), v = .tuple #[u0, .bool ((orderR_F l0).2)] ∧ F = (C0 ++ []) ∧ OJ 3 1 ic C0 u0 ((orderR_F l0).1) ∧ Cov w [] C0) :=
  orderR_con l0 v0 w hs0 _ (orderR_ok l0 hP)

theorem gorder_c (l0 : (List (Nat → Int))) (v0 : Value) (w : World) (hs0 : SL w 4 iv v0 l0) (hP : gorder_P l0) : Con Try.prog 16 #[v0] w (fun v F => ∃ (u0 : Value) (C0 : GH), v = .tuple #[u0, errV 56 ((gorder_F l0).2)] ∧ F = (C0 ++ []) ∧ OJ 3 1 ic C0 u0 ((gorder_F l0).1) ∧ Cov w [] C0) :=
  gorder_con l0 v0 w hs0 _ (gorder_ok l0 hP)

theorem gway_c (l0 : (List (Nat → Int))) (from1 : Int) (to2 : Int) (v0 : Value) (w : World) (hs0 : SL w 4 iv v0 l0) (hP : gway_P l0 from1 to2) : Con Try.prog 14 #[v0, .int .i64 from1, .int .i64 to2] w (fun v F => ∃ (u0 : Value) (C0 : GH), v = u0 ∧ F = (C0 ++ []) ∧ OJ 3 1 ic C0 u0 (gway_F l0 from1 to2) ∧ Cov w [] C0) :=
  gway_con l0 from1 to2 v0 w hs0 _ (gway_ok l0 from1 to2 hP)

theorem alive10_con (w : World) (r : Bool) (h : alive10_S r) : Con Try.prog 8 #[] w (Is (.bool r) []) := by
  unfold alive10_S at h
  refine con_enter (n := 23) [] Try.func8 rfl Try.ntmps8 rfl lan ?_
  refine xw_seq (xw_region ?_)
  refine xq rfl trivial (o_as rfl) ?_
  refine xo_nil (xq_then (xw_seq (xw_region ?_)))
  refine xq rfl trivial (o_build fk32 ze32 (.int fl32_0 rfl rfl (.int fl32_2 rfl rfl (.nil _)))) ?_
  refine xq rfl trivial (o_build fk32 ze32 (.int fl32_0 rfl rfl (.int fl32_2 rfl rfl (.nil _)))) ?_
  refine xq rfl trivial (o_build fk32 ze32 (.int fl32_0 rfl rfl (.int fl32_2 rfl rfl (.nil _)))) ?_
  refine xq rfl trivial (o_build fk32 ze32 (.int fl32_0 rfl rfl (.int fl32_2 rfl rfl (.nil _)))) ?_
  refine xo rfl trivial (o_bsl el22 ze32 rfl rfl rfl (.ints rfl rfl (.ints rfl rfl (.ints rfl rfl (.ints rfl rfl (.nil _)))))) ?_
  rintro _ _ ⟨b6, hb6, rfl, rfl⟩
  refine xq rfl trivial (o_as rfl) ?_
  refine xo_nil (xq_then (xw_seq (xw_region ?_)))
  refine xq rfl trivial (o_mv rfl) ?_
  obtain ⟨ho1, h⟩ := h
  refine xcall rfl trivial kf10 rfl (fun w1 hw1 => greach_c _ _ _ w1 (SL.lit (l := [(updI (updI (fun _ => 0) 0 1) 2 2), (updI (updI (fun _ => 0) 0 2) 2 3), (updI (updI (fun _ => 0) 0 3) 2 1), (updI (updI (fun _ => 0) 0 4) 2 1)]) hw1 (List.Mem.head _) rfl (by omega) (by simp [maxLen]) (by exact (fun i hi => match i, hi with | 0, _ => rfl | 1, _ => rfl | 2, _ => rfl | 3, _ => rfl | 4, _ => rfl | 5, _ => rfl | 6, _ => rfl | 7, _ => rfl | 8, _ => rfl | 9, _ => rfl | 10, _ => rfl | 11, _ => rfl | 12, _ => rfl | 13, _ => rfl | 14, _ => rfl | 15, _ => rfl | q + 16, h => absurd h (by omega)))) ho1) ?_
  rintro w1 vs2 _ hw1 ⟨_, Bs2, rfl, rfl, hJs2, hcBs2⟩
  refine ⟨_, Mg.news (Cov.fresh hcBs2) (.nil _), ?_⟩
  replace hcBs2 := Cov.base (w0 := w) hcBs2 hw1.size
  refine xo rfl trivial (o_bsl el25 ze3 (cells_one rfl) rfl rfl (.int rfl rfl (.int rfl rfl (.int rfl rfl (.nil _))))) ?_
  rintro _ _ ⟨b9, hb9, rfl, rfl⟩
  obtain ⟨ho3, h⟩ := h
  refine xcallq rfl trivial kf9 rfl (fun w1 hw1 => ints_c _ _ _ _ w1 (hJs2.sl hw1 (Pull.sub (.thereC _ (.here _ _)))) (SL.lit (l := [1, 2, 3]) hw1 (List.Mem.head _) rfl (by omega) (by simp [maxLen]) (by exact (fun i hi => match i, hi with | 0, _ => rfl | 1, _ => rfl | 2, _ => rfl | q + 3, h => absurd h (by omega)))) ho3) ?_
  refine xq rfl trivial (o_mv rfl) ?_
  refine xo_bool 11 rfl (fun hg4 => ?_) (fun hg4 => ?_)
  · have hq4 : ((ints_F (greach_F ([(updI (updI (fun _ => 0) 0 1) 2 2), (updI (updI (fun _ => 0) 0 2) 2 3), (updI (updI (fun _ => 0) 0 3) 2 1), (updI (updI (fun _ => 0) 0 4) 2 1)]) 4) ([1, 2, 3]))) = true := hg4
    have hp4 : ((ints_F (greach_F ([(updI (updI (fun _ => 0) 0 1) 2 2), (updI (updI (fun _ => 0) 0 2) 2 3), (updI (updI (fun _ => 0) 0 3) 2 1), (updI (updI (fun _ => 0) 0 4) 2 1)]) 4) ([1, 2, 3]))) = true := hq4
    rw [if_pos hp4] at h
    refine xq rfl ⟨_, rfl, rfl⟩ (o_mv rfl) ?_
    obtain ⟨ho5, h⟩ := h
    refine xcall rfl ⟨_, rfl, rfl⟩ kf12 rfl (fun w1 hw1 => gcirc_c _ _ w1 (SL.lit (l := [(updI (updI (fun _ => 0) 0 1) 2 2), (updI (updI (fun _ => 0) 0 2) 2 3), (updI (updI (fun _ => 0) 0 3) 2 1), (updI (updI (fun _ => 0) 0 4) 2 1)]) hw1 (List.Mem.tail _ (List.mem_append_right _ (List.Mem.head _))) rfl (by omega) (by simp [maxLen]) (by exact (fun i hi => match i, hi with | 0, _ => rfl | 1, _ => rfl | 2, _ => rfl | 3, _ => rfl | 4, _ => rfl | 5, _ => rfl | 6, _ => rfl | 7, _ => rfl | 8, _ => rfl | 9, _ => rfl | 10, _ => rfl | 11, _ => rfl | 12, _ => rfl | 13, _ => rfl | 14, _ => rfl | 15, _ => rfl | q + 16, h => absurd h (by omega)))) ho5) ?_
    rintro w1 vs6 _ hw1 ⟨_, Bs6, rfl, rfl, hJs6, hcBs6⟩
    refine ⟨_, Mg.news (Cov.fresh hcBs6) (.nil _), ?_⟩
    replace hcBs6 := Cov.base (w0 := w) hcBs6 hw1.size
    refine xo rfl ⟨_, rfl, rfl⟩ (o_bsl el25 ze3 (cells_one rfl) rfl rfl (.int rfl rfl (.int rfl rfl (.int rfl rfl (.nil _))))) ?_
    rintro _ _ ⟨b14, hb14, rfl, rfl⟩
    obtain ⟨ho7, h⟩ := h
    refine xcallq rfl ⟨_, rfl, rfl⟩ kf9 rfl (fun w1 hw1 => ints_c _ _ _ _ w1 (hJs6.sl hw1 (Pull.sub (.thereC _ (.here _ _)))) (SL.lit (l := [1, 2, 3]) hw1 (List.Mem.head _) rfl (by omega) (by simp [maxLen]) (by exact (fun i hi => match i, hi with | 0, _ => rfl | 1, _ => rfl | 2, _ => rfl | q + 3, h => absurd h (by omega)))) ho7) ?_
    refine xq rfl trivial (o_pick_t rfl rfl) ?_
    refine xq rfl trivial (o_mv rfl) ?_
    refine xo_bool 17 rfl (fun hg8 => ?_) (fun hg8 => ?_)
    · have hq8 : ((ints_F (gcirc_F ([(updI (updI (fun _ => 0) 0 1) 2 2), (updI (updI (fun _ => 0) 0 2) 2 3), (updI (updI (fun _ => 0) 0 3) 2 1), (updI (updI (fun _ => 0) 0 4) 2 1)])) ([1, 2, 3]))) = true := hg8
      have hp8 : ((ints_F (gcirc_F ([(updI (updI (fun _ => 0) 0 1) 2 2), (updI (updI (fun _ => 0) 0 2) 2 3), (updI (updI (fun _ => 0) 0 3) 2 1), (updI (updI (fun _ => 0) 0 4) 2 1)])) ([1, 2, 3]))) = true := hq8
      rw [if_pos hp8] at h
      refine xq rfl ⟨_, rfl, rfl⟩ (o_mv rfl) ?_
      obtain ⟨ho9, h⟩ := h
      refine xcall rfl ⟨_, rfl, rfl⟩ kf14 rfl (fun w1 hw1 => gway_c _ _ _ _ w1 (SL.lit (l := [(updI (updI (fun _ => 0) 0 1) 2 2), (updI (updI (fun _ => 0) 0 2) 2 3), (updI (updI (fun _ => 0) 0 3) 2 1), (updI (updI (fun _ => 0) 0 4) 2 1)]) hw1 (List.Mem.tail _ (List.mem_append_right _ (List.Mem.tail _ (List.mem_append_right _ (List.Mem.head _))))) rfl (by omega) (by simp [maxLen]) (by exact (fun i hi => match i, hi with | 0, _ => rfl | 1, _ => rfl | 2, _ => rfl | 3, _ => rfl | 4, _ => rfl | 5, _ => rfl | 6, _ => rfl | 7, _ => rfl | 8, _ => rfl | 9, _ => rfl | 10, _ => rfl | 11, _ => rfl | 12, _ => rfl | 13, _ => rfl | 14, _ => rfl | 15, _ => rfl | q + 16, h => absurd h (by omega)))) ho9) ?_
      rintro w1 vs10 _ hw1 ⟨_, Bs10, rfl, rfl, hJs10, hcBs10⟩
      refine ⟨_, Mg.news (Cov.fresh hcBs10) (.nil _), ?_⟩
      replace hcBs10 := Cov.base (w0 := w) hcBs10 hw1.size
      refine xo rfl ⟨_, rfl, rfl⟩ (o_bsl el25 ze3 (cells_one rfl) rfl rfl (.int rfl rfl (.int rfl rfl (.int rfl rfl (.int rfl rfl (.nil _)))))) ?_
      rintro _ _ ⟨b20, hb20, rfl, rfl⟩
      obtain ⟨ho11, h⟩ := h
      refine xcallq rfl ⟨_, rfl, rfl⟩ kf9 rfl (fun w1 hw1 => ints_c _ _ _ _ w1 (hJs10.sl hw1 (Pull.sub (.thereC _ (.here _ _)))) (SL.lit (l := [4, 1, 2, 3]) hw1 (List.Mem.head _) rfl (by omega) (by simp [maxLen]) (by exact (fun i hi => match i, hi with | 0, _ => rfl | 1, _ => rfl | 2, _ => rfl | 3, _ => rfl | q + 4, h => absurd h (by omega)))) ho11) ?_
      refine xq rfl trivial (o_pick_t rfl rfl) ?_
      refine xq rfl trivial (o_as rfl) ?_
      refine xo_nil (xq_then (xw_ret ?_))
      subst h
      exact con_ret1 (.inl rfl) Try.results8 rfl [] (Kp.st (Kp.new hb20 (Kp.segNew (Cov.fresh hcBs10) (Kp.new hb14 (Kp.segNew (Cov.fresh hcBs6) (Kp.new hb9 (Kp.segNew (Cov.fresh hcBs2) (Kp.new hb6 Kp.nil)))))))) (⟨rfl, rfl⟩)
    · have hq8 : ((ints_F (gcirc_F ([(updI (updI (fun _ => 0) 0 1) 2 2), (updI (updI (fun _ => 0) 0 2) 2 3), (updI (updI (fun _ => 0) 0 3) 2 1), (updI (updI (fun _ => 0) 0 4) 2 1)])) ([1, 2, 3]))) = false := hg8
      have hp8 : ¬ (((ints_F (gcirc_F ([(updI (updI (fun _ => 0) 0 1) 2 2), (updI (updI (fun _ => 0) 0 2) 2 3), (updI (updI (fun _ => 0) 0 3) 2 1), (updI (updI (fun _ => 0) 0 4) 2 1)])) ([1, 2, 3]))) = true) := bne' hq8
      rw [if_neg hp8] at h
      refine xs rfl ⟨_, _, rfl, rfl, rfl⟩ (xs rfl ⟨_, _, rfl, rfl, rfl⟩ (xs rfl ⟨_, _, rfl, rfl, rfl⟩ (xs rfl ⟨_, _, rfl, rfl, rfl⟩ ?_)))
      refine xq rfl trivial (o_pick_f rfl rfl) ?_
      refine xq rfl trivial (o_as rfl) ?_
      refine xo_nil (xq_then (xw_ret ?_))
      subst h
      exact con_ret1 (.inl rfl) Try.results8 rfl [] (Kp.st (Kp.new hb14 (Kp.segNew (Cov.fresh hcBs6) (Kp.new hb9 (Kp.segNew (Cov.fresh hcBs2) (Kp.new hb6 Kp.nil)))))) (⟨rfl, rfl⟩)
  · have hq4 : ((ints_F (greach_F ([(updI (updI (fun _ => 0) 0 1) 2 2), (updI (updI (fun _ => 0) 0 2) 2 3), (updI (updI (fun _ => 0) 0 3) 2 1), (updI (updI (fun _ => 0) 0 4) 2 1)]) 4) ([1, 2, 3]))) = false := hg4
    have hp4 : ¬ (((ints_F (greach_F ([(updI (updI (fun _ => 0) 0 1) 2 2), (updI (updI (fun _ => 0) 0 2) 2 3), (updI (updI (fun _ => 0) 0 3) 2 1), (updI (updI (fun _ => 0) 0 4) 2 1)]) 4) ([1, 2, 3]))) = true) := bne' hq4
    rw [if_neg hp4] at h
    refine xs rfl ⟨_, _, rfl, rfl, rfl⟩ (xs rfl ⟨_, _, rfl, rfl, rfl⟩ (xs rfl ⟨_, _, rfl, rfl, rfl⟩ (xs rfl ⟨_, _, rfl, rfl, rfl⟩ ?_)))
    refine xq rfl trivial (o_pick_f rfl rfl) ?_
    refine xq rfl trivial (o_mv rfl) ?_
    refine xs rfl ⟨_, _, rfl, rfl, rfl⟩ (xs rfl ⟨_, _, rfl, rfl, rfl⟩ (xs rfl ⟨_, _, rfl, rfl, rfl⟩ (xs rfl ⟨_, _, rfl, rfl, rfl⟩ ?_)))
    refine xq rfl trivial (o_pick_f rfl rfl) ?_
    refine xq rfl trivial (o_as rfl) ?_
    refine xo_nil (xq_then (xw_ret ?_))
    subst h
    exact con_ret1 (.inl rfl) Try.results8 rfl [] (Kp.st (Kp.new hb9 (Kp.segNew (Cov.fresh hcBs2) (Kp.new hb6 Kp.nil)))) (⟨rfl, rfl⟩)

theorem alive10_c (w : World) (hP : alive10_P) : Con Try.prog 8 #[] w (Is (.bool alive10_F) []) :=
  alive10_con w _ (alive10_ok hP)

theorem reach10_con (l0 : (List (Nat → Int))) (from1 : Int) (v0 : Value) (w : World) (hs0 : SL w 4 iv v0 l0) (r : Bool) (h : reach10_S l0 from1 r) : Con Try.prog 3 #[v0, .int .i64 from1] w (Is (.bool r) []) := by
  unfold reach10_S at h
  refine con_enter (n := 24) [(0, _), (1, _)] Try.func3 rfl Try.ntmps3 rfl (lac rfl (lac rfl lan)) ?_
  refine xw_seq (xw_region ?_)
  refine xq rfl trivial (o_as rfl) ?_
  refine xo_nil (xq_then (xw_seq (xw_seq (xw_region ?_))))
  obtain ⟨ho1, h⟩ := h
  refine xcallq rfl trivial kf8 rfl (fun w1 hw1 => alive10_c w1 ho1) ?_
  refine xq rfl trivial (o_not rfl) ?_
  refine xo_nil (xq_then ?_)
  refine xw_bool 6 rfl (fun hc2 => ?_) (fun hc2 => ?_)
  · have hq2 : (alive10_F) = false := (bnT hc2)
    have hp2 : ¬ ((alive10_F) = true) := bne' hq2
    rw [if_neg hp2] at h
    refine xw_cond_t rfl rfl (xw_seq (xw_region ?_))
    refine xq rfl trivial (o_as rfl) ?_
    refine xo_nil (xq_then (xw_ret (xq_then_ret ?_)))
    subst h
    exact con_ret1 (.inl rfl) Try.results3 rfl [] (fun _ h => h) (⟨rfl, rfl⟩)
  · have hq2 : (alive10_F) = true := (bnF hc2)
    have hp2 : (alive10_F) = true := hq2
    rw [if_pos hp2] at h
    refine xw_cond_f rfl rfl (xw_skip (xq_then (xw_seq (xw_seq (xw_region ?_)))))
    refine xq rfl trivial (o_mv rfl) ?_
    refine xq rfl trivial (o_lenL rfl Try.underlying22 rfl (SL.val hs0)) ?_
    refine xq rfl trivial (o_gtr rfl rfl) ?_
    refine xo_nil (xq_then ?_)
    refine xw_bool 9 rfl (fun hc3 => ?_) (fun hc3 => ?_)
    · have hq3 : (decide (60 < (l0.length : Int))) = true := hc3
      have hp3 : 60 < (l0.length : Int) := of_decide_eq_true hq3
      rw [if_pos hp3] at h
      refine xw_cond_t rfl rfl (xw_seq (xw_region ?_))
      refine xq rfl trivial (o_as rfl) ?_
      refine xo_nil (xq_then (xw_ret (xq_then_ret ?_)))
      subst h
      exact con_ret1 (.inl rfl) Try.results3 rfl [] (fun _ h => h) (⟨rfl, rfl⟩)
    · have hq3 : (decide (60 < (l0.length : Int))) = false := hc3
      have hp3 : ¬ (60 < (l0.length : Int)) := of_decide_eq_false hq3
      rw [if_neg hp3] at h
      refine xw_cond_f rfl rfl (xw_skip (xq_then (xw_seq (xw_region ?_))))
      refine xq rfl trivial (o_mv rfl) ?_
      refine xq rfl trivial (o_mv rfl) ?_
      obtain ⟨ho4, h⟩ := h
      refine xcall rfl trivial kf10 rfl (fun w1 hw1 => greach_c _ _ _ w1 (hs0.keep hw1 Fr.nil) ho4) ?_
      rintro w1 vs5 _ hw1 ⟨_, Bs5, rfl, rfl, hJs5, hcBs5⟩
      refine ⟨_, Mg.news (Cov.fresh hcBs5) (.nil _), ?_⟩
      replace hcBs5 := Cov.base (w0 := w) hcBs5 hw1.size
      refine xq rfl trivial (o_mv rfl) ?_
      refine xq rfl trivial (o_mv rfl) ?_
      obtain ⟨ho6, h⟩ := h
      refine xcall rfl trivial kf11 rfl (fun w1 hw1 => reachR_c _ _ _ w1 (hs0.keep hw1 (Fr.seg hcBs5 Fr.nil)) ho6) ?_
      rintro w1 vs7 _ hw1 ⟨_, Bs7, rfl, rfl, hJs7, hcBs7⟩
      refine ⟨_, Mg.news (Cov.fresh hcBs7) (.nil _), ?_⟩
      replace hcBs7 := Cov.base (w0 := w) hcBs7 hw1.size
      obtain ⟨ho8, h⟩ := h
      refine xcallq rfl trivial kf9 rfl (fun w1 hw1 => ints_c _ _ _ _ w1 (hJs5.sl hw1 (Pull.sub (.there _ (.here _ _)))) (hJs7.sl hw1 (Pull.sub (.here _ _))) ho8) ?_
      refine xq rfl trivial (o_mv rfl) ?_
      refine xo_bool 17 rfl (fun hg9 => ?_) (fun hg9 => ?_)
      · have hq9 : ((ints_F (greach_F l0 from1) (reachR_F l0 from1))) = true := hg9
        have hp9 : ((ints_F (greach_F l0 from1) (reachR_F l0 from1))) = true := hq9
        rw [if_pos hp9] at h
        refine xq rfl ⟨_, rfl, rfl⟩ (o_mv rfl) ?_
        obtain ⟨ho10, h⟩ := h
        refine xcall rfl ⟨_, rfl, rfl⟩ kf12 rfl (fun w1 hw1 => gcirc_c _ _ w1 (hs0.keep hw1 (Fr.seg hcBs7 (Fr.seg hcBs5 Fr.nil))) ho10) ?_
        rintro w1 vs11 _ hw1 ⟨_, Bs11, rfl, rfl, hJs11, hcBs11⟩
        refine ⟨_, Mg.news (Cov.fresh hcBs11) (.nil _), ?_⟩
        replace hcBs11 := Cov.base (w0 := w) hcBs11 hw1.size
        refine xq rfl ⟨_, rfl, rfl⟩ (o_mv rfl) ?_
        obtain ⟨ho12, h⟩ := h
        refine xcall rfl ⟨_, rfl, rfl⟩ kf13 rfl (fun w1 hw1 => circR_c _ _ w1 (hs0.keep hw1 (Fr.seg hcBs11 (Fr.seg hcBs7 (Fr.seg hcBs5 Fr.nil)))) ho12) ?_
        rintro w1 vs13 _ hw1 ⟨_, Bs13, rfl, rfl, hJs13, hcBs13⟩
        refine ⟨_, Mg.news (Cov.fresh hcBs13) (.nil _), ?_⟩
        replace hcBs13 := Cov.base (w0 := w) hcBs13 hw1.size
        obtain ⟨ho14, h⟩ := h
        refine xcallq rfl ⟨_, rfl, rfl⟩ kf9 rfl (fun w1 hw1 => ints_c _ _ _ _ w1 (hJs11.sl hw1 (Pull.sub (.there _ (.here _ _)))) (hJs13.sl hw1 (Pull.sub (.here _ _))) ho14) ?_
        refine xq rfl trivial (o_pick_t rfl rfl) ?_
        refine xq rfl trivial (o_as rfl) ?_
        refine xo_nil (xq_then (xw_ret ?_))
        subst h
        exact con_ret1 (.inl rfl) Try.results3 rfl [] (Kp.st (Kp.segNew (Cov.fresh hcBs13) (Kp.segNew (Cov.fresh hcBs11) (Kp.segNew (Cov.fresh hcBs7) (Kp.segNew (Cov.fresh hcBs5) Kp.nil))))) (⟨rfl, rfl⟩)
      · have hq9 : ((ints_F (greach_F l0 from1) (reachR_F l0 from1))) = false := hg9
        have hp9 : ¬ (((ints_F (greach_F l0 from1) (reachR_F l0 from1))) = true) := bne' hq9
        rw [if_neg hp9] at h
        refine xs rfl ⟨_, _, rfl, rfl, rfl⟩ (xs rfl ⟨_, _, rfl, rfl, rfl⟩ (xs rfl ⟨_, _, rfl, rfl, rfl⟩ (xs rfl ⟨_, _, rfl, rfl, rfl⟩ (xs rfl ⟨_, _, rfl, rfl, rfl⟩ ?_))))
        refine xq rfl trivial (o_pick_f rfl rfl) ?_
        refine xq rfl trivial (o_as rfl) ?_
        refine xo_nil (xq_then (xw_ret ?_))
        subst h
        exact con_ret1 (.inl rfl) Try.results3 rfl [] (Kp.st (Kp.segNew (Cov.fresh hcBs7) (Kp.segNew (Cov.fresh hcBs5) Kp.nil))) (⟨rfl, rfl⟩)

theorem reach10_c (l0 : (List (Nat → Int))) (from1 : Int) (v0 : Value) (w : World) (hs0 : SL w 4 iv v0 l0) (hP : reach10_P l0 from1) : Con Try.prog 3 #[v0, .int .i64 from1] w (Is (.bool (reach10_F l0 from1)) []) :=
  reach10_con l0 from1 v0 w hs0 _ (reach10_ok l0 from1 hP)

theorem order10_con (l0 : (List (Nat → Int))) (v0 : Value) (w : World) (hs0 : SL w 4 iv v0 l0) (r : Bool) (h : order10_S l0 r) : Con Try.prog 7 #[v0] w (Is (.bool r) []) := by
  unfold order10_S at h
  refine con_enter (n := 39) [(0, _)] Try.func7 rfl Try.ntmps7 rfl (lac rfl lan) ?_
  refine xw_seq (xw_region ?_)
  refine xq rfl trivial (o_as rfl) ?_
  refine xo_nil (xq_then (xw_seq (xw_seq (xw_region ?_))))
  obtain ⟨ho1, h⟩ := h
  refine xcallq rfl trivial kf8 rfl (fun w1 hw1 => alive10_c w1 ho1) ?_
  refine xq rfl trivial (o_not rfl) ?_
  refine xo_nil (xq_then ?_)
  refine xw_bool 8 rfl (fun hc2 => ?_) (fun hc2 => ?_)
  · have hq2 : (alive10_F) = false := (bnT hc2)
    have hp2 : ¬ ((alive10_F) = true) := bne' hq2
    rw [if_neg hp2] at h
    refine xw_cond_t rfl rfl (xw_seq (xw_region ?_))
    refine xq rfl trivial (o_as rfl) ?_
    refine xo_nil (xq_then (xw_ret (xq_then_ret ?_)))
    subst h
    exact con_ret1 (.inl rfl) Try.results7 rfl [] (fun _ h => h) (⟨rfl, rfl⟩)
  · have hq2 : (alive10_F) = true := (bnF hc2)
    have hp2 : (alive10_F) = true := hq2
    rw [if_pos hp2] at h
    refine xw_cond_f rfl rfl (xw_skip (xq_then (xw_seq (xw_seq (xw_region ?_)))))
    refine xq rfl trivial (o_mv rfl) ?_
    refine xq rfl trivial (o_lenL rfl Try.underlying22 rfl (SL.val hs0)) ?_
    refine xq rfl trivial (o_gtr rfl rfl) ?_
    refine xo_nil (xq_then ?_)
    refine xw_bool 11 rfl (fun hc3 => ?_) (fun hc3 => ?_)
    · have hq3 : (decide (60 < (l0.length : Int))) = true := hc3
      have hp3 : 60 < (l0.length : Int) := of_decide_eq_true hq3
      rw [if_pos hp3] at h
      refine xw_cond_t rfl rfl (xw_seq (xw_region ?_))
      refine xq rfl trivial (o_as rfl) ?_
      refine xo_nil (xq_then (xw_ret (xq_then_ret ?_)))
      subst h
      exact con_ret1 (.inl rfl) Try.results7 rfl [] (fun _ h => h) (⟨rfl, rfl⟩)
    · have hq3 : (decide (60 < (l0.length : Int))) = false := hc3
      have hp3 : ¬ (60 < (l0.length : Int)) := of_decide_eq_false hq3
      rw [if_neg hp3] at h
      refine xw_cond_f rfl rfl (xw_skip (xq_then (xw_seq (xw_region ?_))))
      refine xq rfl trivial (o_mv rfl) ?_
      obtain ⟨ho4, h⟩ := h
      refine xcall rfl trivial kf16 rfl (fun w1 hw1 => gorder_c _ _ w1 (hs0.keep hw1 Fr.nil) ho4) ?_
      rintro w1 _ _ hw1 ⟨vs5, Bs5, rfl, rfl, hJs5, hcBs5⟩
      refine ⟨_, Mg.news (Cov.fresh hcBs5) (.nil _), ?_⟩
      replace hcBs5 := Cov.base (w0 := w) hcBs5 hw1.size
      refine xq rfl trivial (o_mv rfl) ?_
      refine xq rfl trivial (o_ext rfl rfl) ?_
      refine xq rfl trivial (o_ext rfl rfl) ?_
      refine xq rfl trivial (o_as rfl) ?_
      refine xq rfl trivial (o_as rfl) ?_
      refine xo_nil (xq_then (xw_seq (xw_region ?_)))
      refine xq rfl trivial (o_mv rfl) ?_
      obtain ⟨ho6, h⟩ := h
      refine xcall rfl trivial kf17 rfl (fun w1 hw1 => orderR_c _ _ w1 (hs0.keep hw1 (Fr.seg hcBs5 Fr.nil)) ho6) ?_
      rintro w1 _ _ hw1 ⟨vs7, Bs7, rfl, rfl, hJs7, hcBs7⟩
      refine ⟨_, Mg.news (Cov.fresh hcBs7) (.nil _), ?_⟩
      replace hcBs7 := Cov.base (w0 := w) hcBs7 hw1.size
      refine xq rfl trivial (o_mv rfl) ?_
      refine xq rfl trivial (o_ext rfl rfl) ?_
      refine xq rfl trivial (o_ext rfl rfl) ?_
      refine xq rfl trivial (o_as rfl) ?_
      refine xq rfl trivial (o_as rfl) ?_
      refine xo_nil (xq_then (xw_seq (xw_seq (xw_region ?_))))
      refine xq rfl trivial (o_mv rfl) ?_
      refine xq rfl trivial (o_not rfl) ?_
      refine xo_nil (xq_then ?_)
      refine xw_bool 23 rfl (fun hc8 => ?_) (fun hc8 => ?_)
      · have hq8 : ((orderR_F l0).2) = false := (bnT hc8)
        have hp8 : ¬ (((orderR_F l0).2) = true) := bne' hq8
        rw [if_neg hp8] at h
        refine xw_cond_t rfl rfl (xw_seq ?_)
        refine xw_cut [] ln [(2, .bool ((decide ((((gorder_F l0).1).length : Int) = 0)) && (decide ((code_F ((gorder_F l0).2)) = 11))))] ?_ ?_
        · refine xw_region ?_
          refine xq rfl trivial (o_mv rfl) ?_
          refine xq rfl trivial (o_lenL rfl Try.underlying25 rfl (OJ.val hJs5)) ?_
          refine xq rfl trivial (o_eql rfl rfl) ?_
          refine xq rfl trivial (o_mv rfl) ?_
          refine xo_bool 27 rfl (fun hg9 => ?_) (fun hg9 => ?_)
          · have hq9 : (decide ((((gorder_F l0).1).length : Int) = 0)) = true := hg9
            have hp9 : (((gorder_F l0).1).length : Int) = 0 := of_decide_eq_true hq9
            refine xq rfl ⟨_, rfl, rfl⟩ (o_mv rfl) ?_
            refine xcallq rfl ⟨_, rfl, rfl⟩ kf18 rfl (fun w1 hw1 => code_c _ w1) ?_
            refine xq rfl ⟨_, rfl, rfl⟩ (o_eql rfl rfl) ?_
            refine xq rfl trivial (o_pick_t rfl rfl) ?_
            refine xq rfl trivial (o_as rfl) ?_
            refine xo_nil ?_
            exact xq_cut ((lce rfl (by first | rfl | (simp only [hq2, hq3, hq8, hq9, if_pos hp2, if_neg hp3, if_neg hp8, if_pos hp9, bS]; done) | (simp only [hq2, hq3, hq8, hq9, if_pos hp2, if_neg hp3, if_neg hp8, if_pos hp9, bS, reduceIte, Bool.false_eq_true]; done) | (simp [hp2, hp3, hp8, hp9]; done) | (simp_all; done)) ln)) (fun _ h => h)
          · have hq9 : (decide ((((gorder_F l0).1).length : Int) = 0)) = false := hg9
            have hp9 : ¬ ((((gorder_F l0).1).length : Int) = 0) := of_decide_eq_false hq9
            refine xs rfl ⟨_, _, rfl, rfl, rfl⟩ (xs rfl ⟨_, _, rfl, rfl, rfl⟩ (xs rfl ⟨_, _, rfl, rfl, rfl⟩ ?_))
            refine xq rfl trivial (o_pick_f rfl rfl) ?_
            refine xq rfl trivial (o_as rfl) ?_
            refine xo_nil ?_
            exact xq_cut ((lce rfl (by first | rfl | (simp only [hq2, hq3, hq8, hq9, if_pos hp2, if_neg hp3, if_neg hp8, if_neg hp9, bS]; done) | (simp only [hq2, hq3, hq8, hq9, if_pos hp2, if_neg hp3, if_neg hp8, if_neg hp9, bS, reduceIte, Bool.false_eq_true]; done) | (simp [hp2, hp3, hp8, hp9]; done) | (simp_all; done)) ln)) (fun _ h => h)
        · refine xq_then (xw_ret (xq_then_ret ?_))
          subst h
          exact con_ret1 (.inl rfl) Try.results7 rfl [] (Kp.st (Kp.segNew (Cov.fresh hcBs7) (Kp.segNew (Cov.fresh hcBs5) Kp.nil))) (⟨rfl, rfl⟩)
      · have hq8 : ((orderR_F l0).2) = true := (bnF hc8)
        have hp8 : ((orderR_F l0).2) = true := hq8
        rw [if_pos hp8] at h
        refine xw_cond_f rfl rfl (xw_skip (xq_then (xw_seq ?_)))
        obtain ⟨ho10, h⟩ := h
        refine xw_cut [] ln [(2, .bool (((ints_F ((gorder_F l0).1) ((orderR_F l0).1))) && (decide ((gorder_F l0).2 = 0))))] ?_ ?_
        · refine xw_region ?_
          refine xq rfl trivial (o_mv rfl) ?_
          refine xq rfl trivial (o_mv rfl) ?_
          refine xcallq rfl trivial kf9 rfl (fun w1 hw1 => ints_c _ _ _ _ w1 (hJs5.sl hw1 (Pull.sub (.there _ (.here _ _)))) (hJs7.sl hw1 (Pull.sub (.here _ _))) (ho10)) ?_
          refine xq rfl trivial (o_mv rfl) ?_
          refine xo_bool 35 rfl (fun hg11 => ?_) (fun hg11 => ?_)
          · have hq11 : ((ints_F ((gorder_F l0).1) ((orderR_F l0).1))) = true := hg11
            have hp11 : ((ints_F ((gorder_F l0).1) ((orderR_F l0).1))) = true := hq11
            refine xq rfl ⟨_, rfl, rfl⟩ (o_mv rfl) ?_
            refine xq rfl ⟨_, rfl, rfl⟩ (o_eqE Try.underlying36 rfl (fun _ => rfl) rfl rfl) ?_
            refine xq rfl trivial (o_pick_t rfl rfl) ?_
            refine xq rfl trivial (o_as rfl) ?_
            refine xo_nil ?_
            exact xq_cut ((lce rfl (by first | rfl | (simp only [hq2, hq3, hq8, hq11, if_pos hp2, if_neg hp3, if_pos hp8, if_pos hp11, bS]; done) | (simp only [hq2, hq3, hq8, hq11, if_pos hp2, if_neg hp3, if_pos hp8, if_pos hp11, bS, reduceIte, Bool.false_eq_true]; done) | (simp [hp2, hp3, hp8, hp11]; done) | (simp_all; done)) ln)) (fun _ h => h)
          · have hq11 : ((ints_F ((gorder_F l0).1) ((orderR_F l0).1))) = false := hg11
            have hp11 : ¬ (((ints_F ((gorder_F l0).1) ((orderR_F l0).1))) = true) := bne' hq11
            refine xs rfl ⟨_, _, rfl, rfl, rfl⟩ (xs rfl ⟨_, _, rfl, rfl, rfl⟩ ?_)
            refine xq rfl trivial (o_pick_f rfl rfl) ?_
            refine xq rfl trivial (o_as rfl) ?_
            refine xo_nil ?_
            exact xq_cut ((lce rfl (by first | rfl | (simp only [hq2, hq3, hq8, hq11, if_pos hp2, if_neg hp3, if_pos hp8, if_neg hp11, bS]; done) | (simp only [hq2, hq3, hq8, hq11, if_pos hp2, if_neg hp3, if_pos hp8, if_neg hp11, bS, reduceIte, Bool.false_eq_true]; done) | (simp [hp2, hp3, hp8, hp11]; done) | (simp_all; done)) ln)) (fun _ h => h)
        · refine xq_then (xw_ret ?_)
          subst h
          exact con_ret1 (.inl rfl) Try.results7 rfl [] (Kp.st (Kp.segNew (Cov.fresh hcBs7) (Kp.segNew (Cov.fresh hcBs5) Kp.nil))) (⟨rfl, rfl⟩)

theorem order10_c (l0 : (List (Nat → Int))) (v0 : Value) (w : World) (hs0 : SL w 4 iv v0 l0) (hP : order10_P l0) : Con Try.prog 7 #[v0] w (Is (.bool (order10_F l0)) []) :=
  order10_con l0 v0 w hs0 _ (order10_ok l0 hP)

theorem either10_con (l0 : (List (Nat → Int))) (v0 : Value) (w : World) (hs0 : SL w 4 iv v0 l0) (r : Bool) (h : either10_S l0 r) : Con Try.prog 6 #[v0] w (Is (.bool r) []) := by
  unfold either10_S at h
  refine con_enter (n := 196) [(0, _)] Try.func6 rfl Try.ntmps6 rfl (lac rfl lan) ?_
  refine xw_seq (xw_region ?_)
  refine xq rfl trivial (o_as rfl) ?_
  refine xo_nil (xq_then (xw_seq (xw_seq (xw_region ?_))))
  obtain ⟨ho1, h⟩ := h
  refine xcallq rfl trivial kf8 rfl (fun w1 hw1 => alive10_c w1 ho1) ?_
  refine xq rfl trivial (o_not rfl) ?_
  refine xo_nil (xq_then ?_)
  refine xw_bool 21 rfl (fun hc2 => ?_) (fun hc2 => ?_)
  · have hq2 : (alive10_F) = false := (bnT hc2)
    have hp2 : ¬ ((alive10_F) = true) := bne' hq2
    rw [if_neg hp2] at h
    refine xw_cond_t rfl rfl (xw_seq (xw_region ?_))
    refine xq rfl trivial (o_as rfl) ?_
    refine xo_nil (xq_then (xw_ret (xq_then_ret ?_)))
    subst h
    exact con_ret1 (.inl rfl) Try.results6 rfl [] (fun _ h => h) (⟨rfl, rfl⟩)
  · have hq2 : (alive10_F) = true := (bnF hc2)
    have hp2 : (alive10_F) = true := hq2
    rw [if_pos hp2] at h
    refine xw_cond_f rfl rfl (xw_skip (xq_then (xw_seq (xw_seq (xw_region ?_)))))
    refine xq rfl trivial (o_mv rfl) ?_
    refine xq rfl trivial (o_lenL rfl Try.underlying22 rfl (SL.val hs0)) ?_
    refine xq rfl trivial (o_gtr rfl rfl) ?_
    refine xo_nil (xq_then ?_)
    refine xw_bool 24 rfl (fun hc3 => ?_) (fun hc3 => ?_)
    · have hq3 : (decide (60 < (l0.length : Int))) = true := hc3
      have hp3 : 60 < (l0.length : Int) := of_decide_eq_true hq3
      rw [if_pos hp3] at h
      refine xw_cond_t rfl rfl (xw_seq (xw_region ?_))
      refine xq rfl trivial (o_as rfl) ?_
      refine xo_nil (xq_then (xw_ret (xq_then_ret ?_)))
      subst h
      exact con_ret1 (.inl rfl) Try.results6 rfl [] (fun _ h => h) (⟨rfl, rfl⟩)
    · have hq3 : (decide (60 < (l0.length : Int))) = false := hc3
      have hp3 : ¬ (60 < (l0.length : Int)) := of_decide_eq_false hq3
      rw [if_neg hp3] at h
      refine xw_cond_f rfl rfl (xw_skip (xq_then (xw_seq (xw_region ?_))))
      refine xq rfl trivial (o_mv rfl) ?_
      obtain ⟨ho4, h⟩ := h
      refine xcall rfl trivial kf16 rfl (fun w1 hw1 => gorder_c _ _ w1 (hs0.keep hw1 Fr.nil) ho4) ?_
      rintro w1 _ _ hw1 ⟨vs5, Bs5, rfl, rfl, hJs5, hcBs5⟩
      refine ⟨_, Mg.news (Cov.fresh hcBs5) (.nil _), ?_⟩
      replace hcBs5 := Cov.base (w0 := w) hcBs5 hw1.size
      refine xq rfl trivial (o_mv rfl) ?_
      refine xq rfl trivial (o_ext rfl rfl) ?_
      refine xq rfl trivial (o_ext rfl rfl) ?_
      refine xq rfl trivial (o_as rfl) ?_
      refine xq rfl trivial (o_as rfl) ?_
      refine xo_nil (xq_then (xw_seq (xw_region ?_)))
      refine xq rfl trivial (o_mv rfl) ?_
      obtain ⟨ho6, h⟩ := h
      refine xcall rfl trivial kf12 rfl (fun w1 hw1 => gcirc_c _ _ w1 (hs0.keep hw1 (Fr.seg hcBs5 Fr.nil)) ho6) ?_
      rintro w1 vs7 _ hw1 ⟨_, Bs7, rfl, rfl, hJs7, hcBs7⟩
      refine ⟨_, Mg.news (Cov.fresh hcBs7) (.nil _), ?_⟩
      replace hcBs7 := Cov.base (w0 := w) hcBs7 hw1.size
      refine xq rfl trivial (o_as rfl) ?_
      refine xo_nil (xq_then (xw_seq (xw_seq (xw_region ?_))))
      refine xq rfl trivial (o_mv rfl) ?_
      refine xq rfl trivial (o_eqE Try.underlying36 rfl (fun _ => rfl) rfl rfl) ?_
      refine xq rfl trivial (o_mv rfl) ?_
      refine xq rfl trivial (o_lenL rfl Try.underlying25 rfl (OJ.val hJs7)) ?_
      refine xq rfl trivial (o_eql rfl rfl) ?_
      refine xq rfl trivial (o_neqB Try.underlying4 rfl rfl) ?_
      refine xo_nil (xq_then ?_)
      refine xw_bool 37 rfl (fun hc8 => ?_) (fun hc8 => ?_)
      · have hq8 : (((decide ((gorder_F l0).2 = 0)) == (decide (((gcirc_F l0).length : Int) = 0)))) = false := (bnT hc8)
        have hp8 : ¬ ((((decide ((gorder_F l0).2 = 0)) == (decide (((gcirc_F l0).length : Int) = 0)))) = true) := bne' hq8
        rw [if_neg hp8] at h
        refine xw_cond_t rfl rfl (xw_seq (xw_region ?_))
        refine xq rfl trivial (o_as rfl) ?_
        refine xo_nil (xq_then (xw_ret (xq_then_ret ?_)))
        subst h
        exact con_ret1 (.inl rfl) Try.results6 rfl [] (Kp.st (Kp.segNew (Cov.fresh hcBs7) (Kp.segNew (Cov.fresh hcBs5) Kp.nil))) (⟨rfl, rfl⟩)
      · have hq8 : (((decide ((gorder_F l0).2 = 0)) == (decide (((gcirc_F l0).length : Int) = 0)))) = true := (bnF hc8)
        have hp8 : (((decide ((gorder_F l0).2 = 0)) == (decide (((gcirc_F l0).length : Int) = 0)))) = true := hq8
        rw [if_pos hp8] at h
        refine xw_cond_f rfl rfl (xw_skip (xq_then (xw_seq (xw_region ?_))))
        refine xo rfl trivial (o_mkmap (α := Int) (cv := kI) kt3 Try.underlying39) ?_
        rintro vs9 _ ⟨Bs9, rfl, hns9, hJs9⟩
        have hcBs9 := hns9
        refine xq rfl trivial (o_as rfl) ?_
        refine xo_nil (xq_then (xw_seq (xw_seq (xw_region ?_))))
        refine xq rfl trivial (o_as rfl) ?_
        refine xo_nil (xq_then ?_)
        refine xw_block ?_
        obtain ⟨at6, hx1, h⟩ := h
        refine xw_wh (fun s e H => match s with | (at6, i7) => ∃ (v6_1 : Value) (B6_1 : GH), e = [(0, v0), (3, vs5), (4, errV 56 ((gorder_F l0).2)), (5, vs7), (6, v6_1), (7, .int .i64 i7)] ∧ H = B6_1 ++ (Bs7 ++ (Bs5 ++ ([]))) ∧ MJ kI kI ieq B6_1 v6_1 at6 ∧ Cov w [] B6_1) (fun (at6 : (List (Int × Int))) ex e H => ∃ (v6_1o : Value) (B6_1o : GH), ex = .exit 0 ∧ e = [(0, v0), (4, errV 56 ((gorder_F l0).2)), (5, vs7), (6, v6_1o)] ∧ H = B6_1o ++ (Bs7 ++ (Bs5 ++ ([]))) ∧ MJ kI kI ieq B6_1o v6_1o at6 ∧ Cov w [] B6_1o) hx1 ⟨[(0, v0), (3, vs5), (4, errV 56 ((gorder_F l0).2)), (5, vs7), (6, vs9), (7, .int .i64 0)], Bs9 ++ (Bs7 ++ (Bs5 ++ ([]))), (lc rfl (lc rfl (lc rfl (lc rfl (lc rfl (lc rfl ln)))))), fun _ h => h, ⟨vs9, Bs9, rfl, rfl, hJs9, hcBs9⟩⟩ ?_ ?_
        · rintro ⟨at6, i7⟩ o _ _ ⟨v6_1, B6_1, rfl, rfl, hJ6_1, hcB6_1⟩ hb
          have h : either10_l1 l0 at6 i7 o := hb
          clear hb
          unfold either10_l1 at h
          refine xw_seq (xw_seq (xw_region ?_))
          refine xq rfl trivial (o_mv rfl) ?_
          refine xq rfl trivial (o_mv rfl) ?_
          refine xq rfl trivial (o_lenL rfl Try.underlying25 rfl (OJ.val hJs5)) ?_
          refine xq rfl trivial (o_lss rfl rfl) ?_
          refine xo_nil (xq_then ?_)
          refine xw_bool 42 rfl (fun hc10 => ?_) (fun hc10 => ?_)
          · have hq10 : (decide (i7 < (((gorder_F l0).1).length : Int))) = true := hc10
            have hp10 : i7 < (((gorder_F l0).1).length : Int) := of_decide_eq_true hq10
            rw [if_pos hp10] at h
            refine xw_cond_t rfl rfl (xw_skip (xq_then (xw_seq ?_)))
            refine xw_block ?_
            refine xw_region ?_
            refine xq rfl trivial (o_mv rfl) ?_
            refine xq rfl trivial (o_mv rfl) ?_
            refine xq rfl trivial (o_mv rfl) ?_
            obtain ⟨ho11, h⟩ := h
            refine xq rfl trivial (o_ixL el25 rfl rfl (fun w hw => (hJs5.sl hw (Pull.sub (.there _ (.there _ (.here _ _)))))) rfl ho11) ?_
            refine xq rfl trivial (o_ldL1 (off := 0) (u := .int .i64 (((gorder_F l0).1)[i7.toNat]!)) rfl ts3 rfl (fun w hw => (hJs5.sl hw (Pull.sub (.there _ (.there _ (.here _ _)))))) (toNat_lt ho11) rfl rfl) ?_
            refine xq rfl trivial (o_mv rfl) ?_
            refine xo0 trivial (OT.st (fun _ h => Pull.st (.here _ _) h) (o_mset (k := ((gorder_F l0).1)[i7.toNat]!) (e := i7) kt3 Try.underlying39 rfl rfl rfl hJ6_1)) ?_
            rintro _ _ ⟨Bs12, rfl, hns12, hJs12⟩
            have hcBs12 := Cov.trans hcB6_1 hns12
            refine xo_nil ?_
            refine xq_blk 1 ?_
            refine xq_then (xw_region ?_)
            refine xq rfl trivial (o_mv rfl) ?_
            obtain ⟨ho13, h⟩ := h
            refine xq rfl trivial (o_add rfl rfl rfl ho13) ?_
            refine xq rfl trivial (o_as rfl) ?_
            refine xo_nil ?_
            exact xq_next (s' := ((mset ieq at6 (((gorder_F l0).1)[i7.toNat]!) i7, i7 + 1) : (List (Int × Int)) × Int)) (e' := [(0, v0), (3, vs5), (4, errV 56 ((gorder_F l0).2)), (5, vs7), (6, v6_1), (7, .int .i64 (i7 + 1))]) (Bs12 ++ (Bs7 ++ (Bs5 ++ ([])))) (lc rfl (lc rfl (lc rfl (lc rfl (lc rfl (lc rfl ln)))))) (fun _ h => h) h ⟨v6_1, Bs12, rfl, rfl, hJs12, hcBs12⟩
          · have hq10 : (decide (i7 < (((gorder_F l0).1).length : Int))) = false := hc10
            have hp10 : ¬ (i7 < (((gorder_F l0).1).length : Int)) := of_decide_eq_false hq10
            rw [if_neg hp10] at h
            refine xw_cond_f rfl rfl (xw_exit (xq_then_exit ?_))
            exact xq_out (r := (at6 : (List (Int × Int)))) (e' := [(0, v0), (4, errV 56 ((gorder_F l0).2)), (5, vs7), (6, v6_1)]) (B6_1 ++ (Bs7 ++ (Bs5 ++ ([])))) (lc rfl (lc rfl (lc rfl (lc rfl ln)))) (fun _ h => h) h (by intro hh; cases hh) ⟨v6_1, B6_1, rfl, rfl, rfl, hJ6_1, hcB6_1⟩
        · rintro _ _ _ ⟨v6_1o, B6_1o, rfl, rfl, rfl, hJ6_1o, hcB6_1o⟩
          replace h : either10_k1a l0 at6 r := h
          unfold either10_k1a at h
          refine xq_blk_eq ?_
          refine xq_then (xw_seq (xw_seq (xw_region ?_)))
          refine xq rfl trivial (o_as rfl) ?_
          refine xo_nil (xq_then ?_)
          refine xw_block ?_
          obtain ⟨x2, hx2, h⟩ := h
          refine xw_wh (fun (i8 : Int) e H => e = [(0, v0), (4, errV 56 ((gorder_F l0).2)), (5, vs7), (6, v6_1o), (8, .int .i64 i8)] ∧ H = B6_1o ++ (Bs7 ++ ([]))) (fun x ex e H => match x with | .inl _ => ex = .exit 2 ∧ e = [(0, v0), (5, vs7)] ∧ H = B6_1o ++ (Bs7 ++ ([])) | .inr _ => ex = .ret ∧ e = [(2, .bool false)] ∧ H = B6_1o ++ (Bs7 ++ ([]))) hx2 ⟨[(0, v0), (4, errV 56 ((gorder_F l0).2)), (5, vs7), (6, v6_1o), (8, .int .i64 0)], B6_1o ++ (Bs7 ++ ([])), (lc rfl (lc rfl (lc rfl (lc rfl (lc rfl ln))))), Kp.st (Kp.segKeep (Kp.segKeep (Kp.segNew (Cov.fresh hcBs5) Kp.nil))), ⟨rfl, rfl⟩⟩ ?_ ?_
          · rintro i8 o _ _ ⟨rfl, rfl⟩ hb
            have h : either10_l2 l0 at6 i8 o := hb
            clear hb
            unfold either10_l2 at h
            refine xw_seq (xw_seq ?_)
            refine xw_cut [(0, _), (4, _), (5, _), (6, _), (8, _)] (lc rfl (lc rfl (lc rfl (lc rfl (lc rfl ln))))) [(58, .bool ((decide (i8 < (l0.length : Int))) && (decide ((gorder_F l0).2 = 0))))] ?_ ?_
            · refine xw_region ?_
              refine xq rfl trivial (o_mv rfl) ?_
              refine xq rfl trivial (o_mv rfl) ?_
              refine xq rfl trivial (o_lenL rfl Try.underlying22 rfl (SL.val hs0)) ?_
              refine xq rfl trivial (o_lss rfl rfl) ?_
              refine xq rfl trivial (o_mv rfl) ?_
              refine xo_bool 55 rfl (fun hg14 => ?_) (fun hg14 => ?_)
              · have hq14 : (decide (i8 < (l0.length : Int))) = true := hg14
                have hp14 : i8 < (l0.length : Int) := of_decide_eq_true hq14
                refine xq rfl ⟨_, rfl, rfl⟩ (o_mv rfl) ?_
                refine xq rfl ⟨_, rfl, rfl⟩ (o_eqE Try.underlying36 rfl (fun _ => rfl) rfl rfl) ?_
                refine xq rfl trivial (o_pick_t rfl rfl) ?_
                refine xo_nil ?_
                exact xq_cut ((lce rfl (by first | rfl | (simp only [hq14, if_pos hp14, bS]; done) | (simp only [hq14, if_pos hp14, bS, reduceIte, Bool.false_eq_true]; done) | (simp [hp14]; done) | (simp_all; done)) (lc rfl (lc rfl (lc rfl (lc rfl (lc rfl ln))))))) (fun _ h => h)
              · have hq14 : (decide (i8 < (l0.length : Int))) = false := hg14
                have hp14 : ¬ (i8 < (l0.length : Int)) := of_decide_eq_false hq14
                refine xs rfl ⟨_, _, rfl, rfl, rfl⟩ (xs rfl ⟨_, _, rfl, rfl, rfl⟩ ?_)
                refine xq rfl trivial (o_pick_f rfl rfl) ?_
                refine xo_nil ?_
                exact xq_cut ((lce rfl (by first | rfl | (simp only [hq14, if_neg hp14, bS]; done) | (simp only [hq14, if_neg hp14, bS, reduceIte, Bool.false_eq_true]; done) | (simp [hp14]; done) | (simp_all; done)) (lc rfl (lc rfl (lc rfl (lc rfl (lc rfl ln))))))) (fun _ h => h)
            · refine xq_then ?_
              refine xw_bool 58 rfl (fun hc15 => ?_) (fun hc15 => ?_)
              · have hq15 : ((decide (i8 < (l0.length : Int))) && (decide ((gorder_F l0).2 = 0))) = true := hc15
                have hp15 : ((decide (i8 < (l0.length : Int))) && (decide ((gorder_F l0).2 = 0))) = true := hq15
                rw [if_pos hp15] at h
                refine xw_cond_t rfl rfl (xw_skip (xq_then (xw_seq ?_)))
                refine xw_block ?_
                refine xw_seq (xw_region ?_)
                refine xq rfl trivial (o_mv rfl) ?_
                refine xq rfl trivial (o_mv rfl) ?_
                refine xq rfl trivial (o_mv rfl) ?_
                obtain ⟨ho16, h⟩ := h
                refine xq rfl trivial (o_ixL el22 rfl rfl (fun w hw => (hs0.keep hw (Fr.seg hcB6_1o (Fr.seg hcBs7 Fr.nil)))) rfl ho16) ?_
                refine xq rfl trivial (o_faL fl32_0 rfl rfl (fun w hw => (hs0.keep hw (Fr.seg hcB6_1o (Fr.seg hcBs7 Fr.nil)))) (toNat_lt ho16)) ?_
                refine xq rfl trivial (o_ldL1 (off := 0) (u := .int .i64 (l0[i8.toNat]! 0)) rfl ts3 rfl (fun w hw => (hs0.keep hw (Fr.seg hcB6_1o (Fr.seg hcBs7 Fr.nil)))) (toNat_lt ho16) rfl rfl) ?_
                refine xq rfl trivial (o_lkok (z := 0) (k := l0[i8.toNat]! 0) kt3 Try.underlying39 ze3 rfl rfl hJ6_1o (Pull.sub (.here _ _))) ?_
                refine xq rfl trivial (o_mv rfl) ?_
                refine xq rfl trivial (o_ext rfl rfl) ?_
                refine xq rfl trivial (o_ext rfl rfl) ?_
                refine xq rfl trivial (o_as rfl) ?_
                refine xq rfl trivial (o_as rfl) ?_
                refine xo_nil (xq_then (xw_seq (xw_region ?_)))
                refine xq rfl trivial (o_mv rfl) ?_
                refine xq rfl trivial (o_mv rfl) ?_
                refine xq rfl trivial (o_mv rfl) ?_
                obtain ⟨ho17, h⟩ := h
                refine xq rfl trivial (o_ixL el22 rfl rfl (fun w hw => (hs0.keep hw (Fr.seg hcB6_1o (Fr.seg hcBs7 Fr.nil)))) rfl ho17) ?_
                refine xq rfl trivial (o_faL fl32_2 rfl rfl (fun w hw => (hs0.keep hw (Fr.seg hcB6_1o (Fr.seg hcBs7 Fr.nil)))) (toNat_lt ho17)) ?_
                refine xq rfl trivial (o_ldL1 (off := 2) (u := .int .i64 (l0[i8.toNat]! 2)) rfl ts3 rfl (fun w hw => (hs0.keep hw (Fr.seg hcB6_1o (Fr.seg hcBs7 Fr.nil)))) (toNat_lt ho17) rfl rfl) ?_
                refine xq rfl trivial (o_lkok (z := 0) (k := l0[i8.toNat]! 2) kt3 Try.underlying39 ze3 rfl rfl hJ6_1o (Pull.sub (.here _ _))) ?_
                refine xq rfl trivial (o_mv rfl) ?_
                refine xq rfl trivial (o_ext rfl rfl) ?_
                refine xq rfl trivial (o_ext rfl rfl) ?_
                refine xq rfl trivial (o_as rfl) ?_
                refine xq rfl trivial (o_as rfl) ?_
                refine xo_nil (xq_then (xw_seq ?_))
                refine xw_cut [(0, _), (4, _), (5, _), (6, _), (8, _)] (lc rfl (lc rfl (lc rfl (lc rfl (lc rfl ln))))) [(91, .bool (((!((mhas ieq at6 (l0[i8.toNat]! 0)))) || (!((mhas ieq at6 (l0[i8.toNat]! 2))))) || (decide (mget ieq at6 (l0[i8.toNat]! 2) 0 ≤ mget ieq at6 (l0[i8.toNat]! 0) 0))))] ?_ ?_
                · refine xw_region ?_
                  refine xq rfl trivial (o_mv rfl) ?_
                  refine xq rfl trivial (o_not rfl) ?_
                  refine xq rfl trivial (o_mv rfl) ?_
                  refine xo_bool 83 rfl (fun hg18 => ?_) (fun hg18 => ?_)
                  · have hq18 : ((mhas ieq at6 (l0[i8.toNat]! 0))) = false := (bnT hg18)
                    have hp18 : ¬ (((mhas ieq at6 (l0[i8.toNat]! 0))) = true) := bne' hq18
                    refine xs rfl ⟨_, _, rfl, rfl, rfl⟩ (xs rfl ⟨_, _, rfl, rfl, rfl⟩ ?_)
                    refine xq rfl trivial (o_pick_t rfl rfl) ?_
                    refine xq rfl trivial (o_mv rfl) ?_
                    refine xs rfl ⟨_, _, rfl, rfl, rfl⟩ (xs rfl ⟨_, _, rfl, rfl, rfl⟩ (xs rfl ⟨_, _, rfl, rfl, rfl⟩ ?_))
                    refine xq rfl trivial (o_pick_t rfl rfl) ?_
                    refine xo_nil ?_
                    exact xq_cut ((lce rfl (by first | rfl | (simp only [hq15, hq18, if_pos hp15, if_neg hp18, bS]; done) | (simp only [hq15, hq18, if_pos hp15, if_neg hp18, bS, reduceIte, Bool.false_eq_true]; done) | (simp [hp15, hp18]; done) | (simp_all; done)) (lc rfl (lc rfl (lc rfl (lc rfl (lc rfl ln))))))) (fun _ h => h)
                  · have hq18 : ((mhas ieq at6 (l0[i8.toNat]! 0))) = true := (bnF hg18)
                    have hp18 : ((mhas ieq at6 (l0[i8.toNat]! 0))) = true := hq18
                    refine xq rfl ⟨_, rfl, rfl⟩ (o_mv rfl) ?_
                    refine xq rfl ⟨_, rfl, rfl⟩ (o_not rfl) ?_
                    refine xq rfl trivial (o_pick_f rfl rfl) ?_
                    refine xq rfl trivial (o_mv rfl) ?_
                    refine xo_bool 87 rfl (fun hg19 => ?_) (fun hg19 => ?_)
                    · have hq19 : ((mhas ieq at6 (l0[i8.toNat]! 2))) = false := (bnT hg19)
                      have hp19 : ¬ (((mhas ieq at6 (l0[i8.toNat]! 2))) = true) := bne' hq19
                      refine xs rfl ⟨_, _, rfl, rfl, rfl⟩ (xs rfl ⟨_, _, rfl, rfl, rfl⟩ (xs rfl ⟨_, _, rfl, rfl, rfl⟩ ?_))
                      refine xq rfl trivial (o_pick_t rfl rfl) ?_
                      refine xo_nil ?_
                      exact xq_cut ((lce rfl (by first | rfl | (simp only [hq15, hq18, hq19, if_pos hp15, if_pos hp18, if_neg hp19, bS]; done) | (simp only [hq15, hq18, hq19, if_pos hp15, if_pos hp18, if_neg hp19, bS, reduceIte, Bool.false_eq_true]; done) | (simp [hp15, hp18, hp19]; done) | (simp_all; done)) (lc rfl (lc rfl (lc rfl (lc rfl (lc rfl ln))))))) (fun _ h => h)
                    · have hq19 : ((mhas ieq at6 (l0[i8.toNat]! 2))) = true := (bnF hg19)
                      have hp19 : ((mhas ieq at6 (l0[i8.toNat]! 2))) = true := hq19
                      refine xq rfl ⟨_, rfl, rfl⟩ (o_mv rfl) ?_
                      refine xq rfl ⟨_, rfl, rfl⟩ (o_mv rfl) ?_
                      refine xq rfl ⟨_, rfl, rfl⟩ (o_geq rfl rfl) ?_
                      refine xq rfl trivial (o_pick_f rfl rfl) ?_
                      refine xo_nil ?_
                      exact xq_cut ((lce rfl (by first | rfl | (simp only [hq15, hq18, hq19, if_pos hp15, if_pos hp18, if_pos hp19, bS]; done) | (simp only [hq15, hq18, hq19, if_pos hp15, if_pos hp18, if_pos hp19, bS, reduceIte, Bool.false_eq_true]; done) | (simp [hp15, hp18, hp19]; done) | (simp_all; done)) (lc rfl (lc rfl (lc rfl (lc rfl (lc rfl ln))))))) (fun _ h => h)
                · refine xq_then ?_
                  refine xw_bool 91 rfl (fun hc20 => ?_) (fun hc20 => ?_)
                  · have hq20 : (((!((mhas ieq at6 (l0[i8.toNat]! 0)))) || (!((mhas ieq at6 (l0[i8.toNat]! 2))))) || (decide (mget ieq at6 (l0[i8.toNat]! 2) 0 ≤ mget ieq at6 (l0[i8.toNat]! 0) 0))) = true := hc20
                    have hp20 : (((!((mhas ieq at6 (l0[i8.toNat]! 0)))) || (!((mhas ieq at6 (l0[i8.toNat]! 2))))) || (decide (mget ieq at6 (l0[i8.toNat]! 2) 0 ≤ mget ieq at6 (l0[i8.toNat]! 0) 0))) = true := hq20
                    rw [if_pos hp20] at h
                    refine xw_cond_t rfl rfl (xw_seq (xw_region ?_))
                    refine xq rfl trivial (o_as rfl) ?_
                    refine xo_nil (xq_then (xw_ret (xq_blk_ret (xq_then_ret ?_))))
                    exact xq_out (r := (.inr () : (Unit) ⊕ (Unit))) (e' := [(2, .bool false)]) (B6_1o ++ (Bs7 ++ ([]))) (lc rfl ln) (fun _ h => h) h (by intro hh; cases hh) ⟨rfl, rfl, rfl⟩
                  · have hq20 : (((!((mhas ieq at6 (l0[i8.toNat]! 0)))) || (!((mhas ieq at6 (l0[i8.toNat]! 2))))) || (decide (mget ieq at6 (l0[i8.toNat]! 2) 0 ≤ mget ieq at6 (l0[i8.toNat]! 0) 0))) = false := hc20
                    have hp20 : ¬ ((((!((mhas ieq at6 (l0[i8.toNat]! 0)))) || (!((mhas ieq at6 (l0[i8.toNat]! 2))))) || (decide (mget ieq at6 (l0[i8.toNat]! 2) 0 ≤ mget ieq at6 (l0[i8.toNat]! 0) 0))) = true) := bne' hq20
                    rw [if_neg hp20] at h
                    refine xw_cond_f rfl rfl (xw_skip ?_)
                    refine xq_blk 3 ?_
                    refine xq_then (xw_region ?_)
                    refine xq rfl trivial (o_mv rfl) ?_
                    obtain ⟨ho21, h⟩ := h
                    refine xq rfl trivial (o_add rfl rfl rfl ho21) ?_
                    refine xq rfl trivial (o_as rfl) ?_
                    refine xo_nil ?_
                    exact xq_next (s' := (i8 + 1 : Int)) (e' := [(0, v0), (4, errV 56 ((gorder_F l0).2)), (5, vs7), (6, v6_1o), (8, .int .i64 (i8 + 1))]) (B6_1o ++ (Bs7 ++ ([]))) (lc rfl (lc rfl (lc rfl (lc rfl (lc rfl ln))))) (fun _ h => h) h ⟨rfl, rfl⟩
              · have hq15 : ((decide (i8 < (l0.length : Int))) && (decide ((gorder_F l0).2 = 0))) = false := hc15
                have hp15 : ¬ (((decide (i8 < (l0.length : Int))) && (decide ((gorder_F l0).2 = 0))) = true) := bne' hq15
                rw [if_neg hp15] at h
                refine xw_cond_f rfl rfl (xw_exit (xq_then_exit ?_))
                exact xq_out (r := (.inl () : (Unit) ⊕ (Unit))) (e' := [(0, v0), (5, vs7)]) (B6_1o ++ (Bs7 ++ ([]))) (lc rfl (lc rfl ln)) (fun _ h => h) h (by intro hh; cases hh) ⟨rfl, rfl, rfl⟩
          · rcases x2 with _ | x2
            · rintro _ _ _ ⟨rfl, rfl, rfl⟩
              replace h : either10_k2a l0 r := h
              unfold either10_k2a at h
              refine xq_blk_eq ?_
              refine xq_then (xw_seq (xw_seq (xw_region ?_)))
              refine xq rfl trivial (o_as rfl) ?_
              refine xo_nil (xq_then ?_)
              refine xw_block ?_
              obtain ⟨x3, hx3, h⟩ := h
              refine xw_wh (fun (i13 : Int) e H => e = [(0, v0), (5, vs7), (13, .int .i64 i13)] ∧ H = Bs7 ++ ([])) (fun x ex e H => match x with | .inl _ => ex = .exit 4 ∧ e = [] ∧ H = Bs7 ++ ([]) | .inr _ => ex = .ret ∧ e = [(2, .bool false)] ∧ H = Bs7 ++ ([])) hx3 ⟨[(0, v0), (5, vs7), (13, .int .i64 0)], Bs7 ++ ([]), (lc rfl (lc rfl (lc rfl ln))), Kp.st (Kp.segNew (Cov.fresh hcB6_1o) (Kp.segKeep Kp.nil)), ⟨rfl, rfl⟩⟩ ?_ ?_
              · rintro i13 o _ _ ⟨rfl, rfl⟩ hb
                have h : either10_l3 l0 i13 o := hb
                clear hb
                unfold either10_l3 at h
                refine xw_seq (xw_seq (xw_region ?_))
                refine xq rfl trivial (o_mv rfl) ?_
                refine xq rfl trivial (o_mv rfl) ?_
                refine xq rfl trivial (o_lenL rfl Try.underlying25 rfl (OJ.val hJs7)) ?_
                refine xq rfl trivial (o_lss rfl rfl) ?_
                refine xo_nil (xq_then ?_)
                refine xw_bool 95 rfl (fun hc22 => ?_) (fun hc22 => ?_)
                · have hq22 : (decide (i13 < ((gcirc_F l0).length : Int))) = true := hc22
                  have hp22 : i13 < ((gcirc_F l0).length : Int) := of_decide_eq_true hq22
                  rw [if_pos hp22] at h
                  refine xw_cond_t rfl rfl (xw_skip (xq_then (xw_seq ?_)))
                  refine xw_block ?_
                  refine xw_seq ?_
                  refine xd_start (by kernel_rfl) (by kernel_rfl) (fun hok => ?_)
                  refine xd_b hok 0 [(0, _)] ([]) rsN rfl rfl rfl (lc rfl ln) (by kernel_rfl) trivial (fun H' hy hK => o_mv rfl) ?_
                  refine xd_b hok 1 [(5, _)] ([]) rsN rfl rfl rfl (lc rfl ln) (by kernel_rfl) trivial (fun H' hy hK => o_mv rfl) ?_
                  refine xd_b hok 2 [(13, _)] ([]) rsN rfl rfl rfl (lc rfl ln) (by kernel_rfl) trivial (fun H' hy hK => o_mv rfl) ?_
                  obtain ⟨ho23, h⟩ := h
                  refine xd_b hok 3 [(99, _), (100, _)] (Bs7 ++ ([])) (rsA (Pull.sub (.here _ _)) rsN) rfl rfl rfl (lc rfl (lc rfl ln)) (by kernel_rfl) trivial (fun H' hy hK => o_ixL el25 rfl rfl (fun w hw => (hJs7.sl hw (fun x hx => hy x (Pull.sub (.here _ _) x hx)))) rfl ho23) ?_
                  refine xd_b hok 4 [(101, _)] (Bs7 ++ ([])) (rsA (Pull.sub (.here _ _)) rsN) rfl rfl rfl (lc rfl ln) (by kernel_rfl) trivial (fun H' hy hK => o_ldL1 (off := 0) (u := .int .i64 ((gcirc_F l0)[i13.toNat]!)) rfl ts3 rfl (fun w hw => (hJs7.sl hw (fun x hx => hy x (Pull.sub (.here _ _) x hx)))) (toNat_lt ho23) rfl rfl) ?_
                  refine xd_b hok 5 [(5, _)] ([]) rsN rfl rfl rfl (lc rfl ln) (by kernel_rfl) trivial (fun H' hy hK => o_mv rfl) ?_
                  refine xd_b hok 6 [(13, _)] ([]) rsN rfl rfl rfl (lc rfl ln) (by kernel_rfl) trivial (fun H' hy hK => o_mv rfl) ?_
                  obtain ⟨ho24, h⟩ := h
                  refine xd_b hok 7 [(103, _), (104, _)] (Bs7 ++ ([])) (rsA (Pull.sub (.here _ _)) rsN) rfl rfl rfl (lc rfl (lc rfl ln)) (by kernel_rfl) trivial (fun H' hy hK => o_ixL el25 rfl rfl (fun w hw => (hJs7.sl hw (fun x hx => hy x (Pull.sub (.here _ _) x hx)))) rfl ho24) ?_
                  refine xd_b hok 8 [(105, _)] (Bs7 ++ ([])) (rsA (Pull.sub (.here _ _)) rsN) rfl rfl rfl (lc rfl ln) (by kernel_rfl) trivial (fun H' hy hK => o_ldL1 (off := 0) (u := .int .i64 ((gcirc_F l0)[i13.toNat]!)) rfl ts3 rfl (fun w hw => (hJs7.sl hw (fun x hx => hy x (Pull.sub (.here _ _) x hx)))) (toNat_lt ho24) rfl rfl) ?_
                  obtain ⟨ho25, h⟩ := h
                  refine xd_fl hok 2 9 [(98, _), (102, _), (106, _)] rfl rfl (by kernel_rfl) (by kernel_rfl) (lc rfl (lc rfl (lc rfl ln))) (by kernel_rfl) trivial (OT.st (fun _ h => h) (ot_callF (Cs := []) (Rs := [Bs7]) kf14 rfl (fun w1 hw1 => Con.cat1 ((fun (hw1 : St w (Bs7 ++ ([])) w1) => gway_c _ _ _ _ w1 (hs0.keep hw1 (Fr.seg hcBs7 Fr.nil)) ho25) hw1)) (by exact fun _ _ _ h => h.1))) ?_
                  rintro vs26 _ ⟨w1, _, rfl, hle, -, _, Bs26, rfl, rfl, hJs26, hcBs26⟩
                  replace hcBs26 := Cov.base (w0 := w) hcBs26 hle
                  refine xd_sh1 (H' := Bs26 ++ (Bs7 ++ ([]))) rfl ?_
                  refine ⟨(Ks.segN hcBs26 (Ks.segK (fun k hk => by simp [hk]) Ks.nil)), ?_⟩
                  refine xd_b hok 10 [(107, _)] ([]) rsN rfl rfl rfl (lc rfl ln) (by kernel_rfl) trivial (fun H' hy hK => o_as rfl) ?_
                  refine xd_end hok (by kernel_rfl) ?_
                  refine xq_then (xw_seq (xw_seq ?_))
                  obtain ⟨ho27, ho28, ho29, ho30, ho31, h⟩ := h
                  refine xw_cut [(0, _), (5, _), (13, _), (14, _)] (lc rfl (lc rfl (lc rfl (lc rfl ln)))) [(133, .bool (((decide (((gway_F l0 ((gcirc_F l0)[i13.toNat]!) ((gcirc_F l0)[i13.toNat]!)).length : Int) < 2)) || (!(decide ((gway_F l0 ((gcirc_F l0)[i13.toNat]!) ((gcirc_F l0)[i13.toNat]!))[0]! = (gcirc_F l0)[i13.toNat]!)))) || (!(decide ((gway_F l0 ((gcirc_F l0)[i13.toNat]!) ((gcirc_F l0)[i13.toNat]!))[(((gway_F l0 ((gcirc_F l0)[i13.toNat]!) ((gcirc_F l0)[i13.toNat]!)).length : Int) - 1).toNat]! = (gcirc_F l0)[i13.toNat]!)))))] ?_ ?_
                  · refine xd_start (by kernel_rfl) (by kernel_rfl) (fun hok => ?_)
                    refine xd_b hok 0 [(14, _)] ([]) rsN rfl rfl rfl (lc rfl ln) (by kernel_rfl) trivial (fun H' hy hK => o_mv rfl) ?_
                    refine xd_b hok 1 [(108, _)] ([]) rsN rfl rfl rfl (lc rfl ln) (by kernel_rfl) trivial (fun H' hy hK => o_lenL rfl Try.underlying25 rfl (OJ.val hJs26)) ?_
                    refine xd_b hok 2 [(109, _)] ([]) rsN rfl rfl rfl (lc rfl ln) (by kernel_rfl) trivial (fun H' hy hK => o_lss rfl rfl) ?_
                    refine xd_b hok 3 [(110, _)] ([]) rsN rfl rfl rfl (lc rfl ln) (by kernel_rfl) trivial (fun H' hy hK => o_mv rfl) ?_
                    refine xd_bool 111 rfl (fun hg32 => ?_) (fun hg32 => ?_)
                    · have hq32 : (decide (((gway_F l0 ((gcirc_F l0)[i13.toNat]!) ((gcirc_F l0)[i13.toNat]!)).length : Int) < 2)) = true := hg32
                      have hp32 : ((gway_F l0 ((gcirc_F l0)[i13.toNat]!) ((gcirc_F l0)[i13.toNat]!)).length : Int) < 2 := of_decide_eq_true hq32
                      refine xd_skip hok 4 [(14, _), (111, _)] rfl rfl rfl (lc rfl (lc rfl ln)) (by kernel_rfl) ⟨_, _, rfl, rfl, rfl⟩ ?_
                      refine xd_skip hok 5 [(112, _), (111, _)] rfl rfl rfl (lc rfl (lc rfl ln)) (by kernel_rfl) ⟨_, _, rfl, rfl, rfl⟩ ?_
                      refine xd_skip hok 6 [(113, _), (111, _)] rfl rfl rfl (lc rfl (lc rfl ln)) (by kernel_rfl) ⟨_, _, rfl, rfl, rfl⟩ ?_
                      refine xd_skip hok 7 [(5, _), (111, _)] rfl rfl rfl (lc rfl (lc rfl ln)) (by kernel_rfl) ⟨_, _, rfl, rfl, rfl⟩ ?_
                      refine xd_skip hok 8 [(13, _), (111, _)] rfl rfl rfl (lc rfl (lc rfl ln)) (by kernel_rfl) ⟨_, _, rfl, rfl, rfl⟩ ?_
                      refine xd_skip hok 9 [(115, _), (116, _), (111, _)] rfl rfl rfl (lc rfl (lc rfl (lc rfl ln))) (by kernel_rfl) ⟨_, _, rfl, rfl, rfl⟩ ?_
                      refine xd_skip hok 10 [(117, _), (111, _)] rfl rfl rfl (lc rfl (lc rfl ln)) (by kernel_rfl) ⟨_, _, rfl, rfl, rfl⟩ ?_
                      refine xd_skip hok 11 [(114, _), (118, _), (111, _)] rfl rfl rfl (lc rfl (lc rfl (lc rfl ln))) (by kernel_rfl) ⟨_, _, rfl, rfl, rfl⟩ ?_
                      refine xd_b hok 12 [(111, _), (119, _)] ([]) rsN rfl rfl rfl (lc rfl (lc rfl ln)) (by kernel_rfl) trivial (fun H' hy hK => o_pick_t rfl rfl) ?_
                      refine xd_b hok 13 [(120, _)] ([]) rsN rfl rfl rfl (lc rfl ln) (by kernel_rfl) trivial (fun H' hy hK => o_mv rfl) ?_
                      refine xd_skip hok 14 [(14, _), (121, _)] rfl rfl rfl (lc rfl (lc rfl ln)) (by kernel_rfl) ⟨_, _, rfl, rfl, rfl⟩ ?_
                      refine xd_skip hok 15 [(14, _), (121, _)] rfl rfl rfl (lc rfl (lc rfl ln)) (by kernel_rfl) ⟨_, _, rfl, rfl, rfl⟩ ?_
                      refine xd_skip hok 16 [(123, _), (121, _)] rfl rfl rfl (lc rfl (lc rfl ln)) (by kernel_rfl) ⟨_, _, rfl, rfl, rfl⟩ ?_
                      refine xd_skip hok 17 [(124, _), (121, _)] rfl rfl rfl (lc rfl (lc rfl ln)) (by kernel_rfl) ⟨_, _, rfl, rfl, rfl⟩ ?_
                      refine xd_skip hok 18 [(122, _), (125, _), (121, _)] rfl rfl rfl (lc rfl (lc rfl (lc rfl ln))) (by kernel_rfl) ⟨_, _, rfl, rfl, rfl⟩ ?_
                      refine xd_skip hok 19 [(126, _), (121, _)] rfl rfl rfl (lc rfl (lc rfl ln)) (by kernel_rfl) ⟨_, _, rfl, rfl, rfl⟩ ?_
                      refine xd_skip hok 20 [(5, _), (121, _)] rfl rfl rfl (lc rfl (lc rfl ln)) (by kernel_rfl) ⟨_, _, rfl, rfl, rfl⟩ ?_
                      refine xd_skip hok 21 [(13, _), (121, _)] rfl rfl rfl (lc rfl (lc rfl ln)) (by kernel_rfl) ⟨_, _, rfl, rfl, rfl⟩ ?_
                      refine xd_skip hok 22 [(128, _), (129, _), (121, _)] rfl rfl rfl (lc rfl (lc rfl (lc rfl ln))) (by kernel_rfl) ⟨_, _, rfl, rfl, rfl⟩ ?_
                      refine xd_skip hok 23 [(130, _), (121, _)] rfl rfl rfl (lc rfl (lc rfl ln)) (by kernel_rfl) ⟨_, _, rfl, rfl, rfl⟩ ?_
                      refine xd_skip hok 24 [(127, _), (131, _), (121, _)] rfl rfl rfl (lc rfl (lc rfl (lc rfl ln))) (by kernel_rfl) ⟨_, _, rfl, rfl, rfl⟩ ?_
                      refine xd_b hok 25 [(121, _), (132, _)] ([]) rsN rfl rfl rfl (lc rfl (lc rfl ln)) (by kernel_rfl) trivial (fun H' hy hK => o_pick_t rfl rfl) ?_
                      refine xd_end hok (by kernel_rfl) ?_
                      exact xq_cut ((lce rfl (by first | rfl | (simp only [hq22, hq32, if_pos hp22, if_pos hp32, bS]; done) | (simp only [hq22, hq32, if_pos hp22, if_pos hp32, bS, reduceIte, Bool.false_eq_true]; done) | (simp [hp22, hp32]; done) | (simp_all; done)) (lc rfl (lc rfl (lc rfl (lc rfl ln)))))) (fun _ h => h)
                    · have hq32 : (decide (((gway_F l0 ((gcirc_F l0)[i13.toNat]!) ((gcirc_F l0)[i13.toNat]!)).length : Int) < 2)) = false := hg32
                      have hp32 : ¬ (((gway_F l0 ((gcirc_F l0)[i13.toNat]!) ((gcirc_F l0)[i13.toNat]!)).length : Int) < 2) := of_decide_eq_false hq32
                      refine xd_b hok 4 [(14, _), (111, _)] ([]) rsN rfl rfl rfl (lc rfl (lc rfl ln)) (by kernel_rfl) ⟨_, rfl, rfl⟩ (fun H' hy hK => o_mv rfl) ?_
                      refine xd_b hok 5 [(112, _), (111, _)] (Bs26 ++ ([])) (rsA (Pull.sub (.here _ _)) rsN) rfl rfl rfl (lc rfl (lc rfl ln)) (by kernel_rfl) ⟨_, rfl, rfl⟩ (fun H' hy hK => o_ixL el25 rfl rfl (fun w hw => (hJs26.sl hw (fun x hx => hy x (Pull.sub (.here _ _) x hx)))) rfl (ho27 (by first | exact hg32 | (simp only [hq22, hq32, if_pos hp22, if_neg hp32, bS]; done) | (simp only [hq22, hq32, if_pos hp22, if_neg hp32, bS, reduceIte, Bool.false_eq_true]; done) | (simp [hp22, hp32]; done) | (simp_all; done)))) ?_
                      refine xd_b hok 6 [(113, _), (111, _)] (Bs26 ++ ([])) (rsA (Pull.sub (.here _ _)) rsN) rfl rfl rfl (lc rfl (lc rfl ln)) (by kernel_rfl) ⟨_, rfl, rfl⟩ (fun H' hy hK => o_ldL1 (off := 0) (u := .int .i64 ((gway_F l0 ((gcirc_F l0)[i13.toNat]!) ((gcirc_F l0)[i13.toNat]!))[0]!)) rfl ts3 rfl (fun w hw => (hJs26.sl hw (fun x hx => hy x (Pull.sub (.here _ _) x hx)))) (toNat_lt (ho27 (by first | exact hg32 | (simp only [hq22, hq32, if_pos hp22, if_neg hp32, bS]; done) | (simp only [hq22, hq32, if_pos hp22, if_neg hp32, bS, reduceIte, Bool.false_eq_true]; done) | (simp [hp22, hp32]; done) | (simp_all; done)))) rfl rfl) ?_
                      refine xd_b hok 7 [(5, _), (111, _)] ([]) rsN rfl rfl rfl (lc rfl (lc rfl ln)) (by kernel_rfl) ⟨_, rfl, rfl⟩ (fun H' hy hK => o_mv rfl) ?_
                      refine xd_b hok 8 [(13, _), (111, _)] ([]) rsN rfl rfl rfl (lc rfl (lc rfl ln)) (by kernel_rfl) ⟨_, rfl, rfl⟩ (fun H' hy hK => o_mv rfl) ?_
                      refine xd_b hok 9 [(115, _), (116, _), (111, _)] (Bs7 ++ ([])) (rsA (Pull.sub (.there _ (.here _ _))) rsN) rfl rfl rfl (lc rfl (lc rfl (lc rfl ln))) (by kernel_rfl) ⟨_, rfl, rfl⟩ (fun H' hy hK => o_ixL el25 rfl rfl (fun w hw => (hJs7.sl hw (fun x hx => hy x (Pull.sub (.here _ _) x hx)))) rfl (ho28 (by first | exact hg32 | (simp only [hq22, hq32, if_pos hp22, if_neg hp32, bS]; done) | (simp only [hq22, hq32, if_pos hp22, if_neg hp32, bS, reduceIte, Bool.false_eq_true]; done) | (simp [hp22, hp32]; done) | (simp_all; done)))) ?_
                      refine xd_b hok 10 [(117, _), (111, _)] (Bs7 ++ ([])) (rsA (Pull.sub (.there _ (.here _ _))) rsN) rfl rfl rfl (lc rfl (lc rfl ln)) (by kernel_rfl) ⟨_, rfl, rfl⟩ (fun H' hy hK => o_ldL1 (off := 0) (u := .int .i64 ((gcirc_F l0)[i13.toNat]!)) rfl ts3 rfl (fun w hw => (hJs7.sl hw (fun x hx => hy x (Pull.sub (.here _ _) x hx)))) (toNat_lt (ho28 (by first | exact hg32 | (simp only [hq22, hq32, if_pos hp22, if_neg hp32, bS]; done) | (simp only [hq22, hq32, if_pos hp22, if_neg hp32, bS, reduceIte, Bool.false_eq_true]; done) | (simp [hp22, hp32]; done) | (simp_all; done)))) rfl rfl) ?_
                      refine xd_b hok 11 [(114, _), (118, _), (111, _)] ([]) rsN rfl rfl rfl (lc rfl (lc rfl (lc rfl ln))) (by kernel_rfl) ⟨_, rfl, rfl⟩ (fun H' hy hK => o_neq rfl rfl) ?_
                      refine xd_b hok 12 [(111, _), (119, _)] ([]) rsN rfl rfl rfl (lc rfl (lc rfl ln)) (by kernel_rfl) trivial (fun H' hy hK => o_pick_f rfl rfl) ?_
                      refine xd_b hok 13 [(120, _)] ([]) rsN rfl rfl rfl (lc rfl ln) (by kernel_rfl) trivial (fun H' hy hK => o_mv rfl) ?_
                      refine xd_bool 121 rfl (fun hg33 => ?_) (fun hg33 => ?_)
                      · have hq33 : (decide ((gway_F l0 ((gcirc_F l0)[i13.toNat]!) ((gcirc_F l0)[i13.toNat]!))[0]! = (gcirc_F l0)[i13.toNat]!)) = false := (bnT hg33)
                        have hp33 : ¬ ((gway_F l0 ((gcirc_F l0)[i13.toNat]!) ((gcirc_F l0)[i13.toNat]!))[0]! = (gcirc_F l0)[i13.toNat]!) := of_decide_eq_false hq33
                        refine xd_skip hok 14 [(14, _), (121, _)] rfl rfl rfl (lc rfl (lc rfl ln)) (by kernel_rfl) ⟨_, _, rfl, rfl, rfl⟩ ?_
                        refine xd_skip hok 15 [(14, _), (121, _)] rfl rfl rfl (lc rfl (lc rfl ln)) (by kernel_rfl) ⟨_, _, rfl, rfl, rfl⟩ ?_
                        refine xd_skip hok 16 [(123, _), (121, _)] rfl rfl rfl (lc rfl (lc rfl ln)) (by kernel_rfl) ⟨_, _, rfl, rfl, rfl⟩ ?_
                        refine xd_skip hok 17 [(124, _), (121, _)] rfl rfl rfl (lc rfl (lc rfl ln)) (by kernel_rfl) ⟨_, _, rfl, rfl, rfl⟩ ?_
                        refine xd_skip hok 18 [(122, _), (125, _), (121, _)] rfl rfl rfl (lc rfl (lc rfl (lc rfl ln))) (by kernel_rfl) ⟨_, _, rfl, rfl, rfl⟩ ?_
                        refine xd_skip hok 19 [(126, _), (121, _)] rfl rfl rfl (lc rfl (lc rfl ln)) (by kernel_rfl) ⟨_, _, rfl, rfl, rfl⟩ ?_
                        refine xd_skip hok 20 [(5, _), (121, _)] rfl rfl rfl (lc rfl (lc rfl ln)) (by kernel_rfl) ⟨_, _, rfl, rfl, rfl⟩ ?_
                        refine xd_skip hok 21 [(13, _), (121, _)] rfl rfl rfl (lc rfl (lc rfl ln)) (by kernel_rfl) ⟨_, _, rfl, rfl, rfl⟩ ?_
                        refine xd_skip hok 22 [(128, _), (129, _), (121, _)] rfl rfl rfl (lc rfl (lc rfl (lc rfl ln))) (by kernel_rfl) ⟨_, _, rfl, rfl, rfl⟩ ?_
                        refine xd_skip hok 23 [(130, _), (121, _)] rfl rfl rfl (lc rfl (lc rfl ln)) (by kernel_rfl) ⟨_, _, rfl, rfl, rfl⟩ ?_
                        refine xd_skip hok 24 [(127, _), (131, _), (121, _)] rfl rfl rfl (lc rfl (lc rfl (lc rfl ln))) (by kernel_rfl) ⟨_, _, rfl, rfl, rfl⟩ ?_
                        refine xd_b hok 25 [(121, _), (132, _)] ([]) rsN rfl rfl rfl (lc rfl (lc rfl ln)) (by kernel_rfl) trivial (fun H' hy hK => o_pick_t rfl rfl) ?_
                        refine xd_end hok (by kernel_rfl) ?_
                        exact xq_cut ((lce rfl (by first | rfl | (simp only [hq22, hq32, hq33, if_pos hp22, if_neg hp32, if_neg hp33, bS]; done) | (simp only [hq22, hq32, hq33, if_pos hp22, if_neg hp32, if_neg hp33, bS, reduceIte, Bool.false_eq_true]; done) | (simp [hp22, hp32, hp33]; done) | (simp_all; done)) (lc rfl (lc rfl (lc rfl (lc rfl ln)))))) (fun _ h => h)
                      · have hq33 : (decide ((gway_F l0 ((gcirc_F l0)[i13.toNat]!) ((gcirc_F l0)[i13.toNat]!))[0]! = (gcirc_F l0)[i13.toNat]!)) = true := (bnF hg33)
                        have hp33 : (gway_F l0 ((gcirc_F l0)[i13.toNat]!) ((gcirc_F l0)[i13.toNat]!))[0]! = (gcirc_F l0)[i13.toNat]! := of_decide_eq_true hq33
                        refine xd_b hok 14 [(14, _), (121, _)] ([]) rsN rfl rfl rfl (lc rfl (lc rfl ln)) (by kernel_rfl) ⟨_, rfl, rfl⟩ (fun H' hy hK => o_mv rfl) ?_
                        refine xd_b hok 15 [(14, _), (121, _)] ([]) rsN rfl rfl rfl (lc rfl (lc rfl ln)) (by kernel_rfl) ⟨_, rfl, rfl⟩ (fun H' hy hK => o_mv rfl) ?_
                        refine xd_b hok 16 [(123, _), (121, _)] ([]) rsN rfl rfl rfl (lc rfl (lc rfl ln)) (by kernel_rfl) ⟨_, rfl, rfl⟩ (fun H' hy hK => o_lenL rfl Try.underlying25 rfl (OJ.val hJs26)) ?_
                        refine xd_b hok 17 [(124, _), (121, _)] ([]) rsN rfl rfl rfl (lc rfl (lc rfl ln)) (by kernel_rfl) ⟨_, rfl, rfl⟩ (fun H' hy hK => o_sub rfl rfl rfl (ho29 (by first | exact hg33 | (simp only [hq22, hq32, hq33, if_pos hp22, if_neg hp32, if_pos hp33, bS]; done) | (simp only [hq22, hq32, hq33, if_pos hp22, if_neg hp32, if_pos hp33, bS, reduceIte, Bool.false_eq_true]; done) | (simp [hp22, hp32, hp33]; done) | (simp_all; done)))) ?_
                        refine xd_b hok 18 [(122, _), (125, _), (121, _)] (Bs26 ++ ([])) (rsA (Pull.sub (.here _ _)) rsN) rfl rfl rfl (lc rfl (lc rfl (lc rfl ln))) (by kernel_rfl) ⟨_, rfl, rfl⟩ (fun H' hy hK => o_ixL el25 rfl rfl (fun w hw => (hJs26.sl hw (fun x hx => hy x (Pull.sub (.here _ _) x hx)))) rfl (ho30 (by first | exact hg33 | (simp only [hq22, hq32, hq33, if_pos hp22, if_neg hp32, if_pos hp33, bS]; done) | (simp only [hq22, hq32, hq33, if_pos hp22, if_neg hp32, if_pos hp33, bS, reduceIte, Bool.false_eq_true]; done) | (simp [hp22, hp32, hp33]; done) | (simp_all; done)))) ?_
                        refine xd_b hok 19 [(126, _), (121, _)] (Bs26 ++ ([])) (rsA (Pull.sub (.here _ _)) rsN) rfl rfl rfl (lc rfl (lc rfl ln)) (by kernel_rfl) ⟨_, rfl, rfl⟩ (fun H' hy hK => o_ldL1 (off := 0) (u := .int .i64 ((gway_F l0 ((gcirc_F l0)[i13.toNat]!) ((gcirc_F l0)[i13.toNat]!))[(((gway_F l0 ((gcirc_F l0)[i13.toNat]!) ((gcirc_F l0)[i13.toNat]!)).length : Int) - 1).toNat]!)) rfl ts3 rfl (fun w hw => (hJs26.sl hw (fun x hx => hy x (Pull.sub (.here _ _) x hx)))) (toNat_lt (ho30 (by first | exact hg33 | (simp only [hq22, hq32, hq33, if_pos hp22, if_neg hp32, if_pos hp33, bS]; done) | (simp only [hq22, hq32, hq33, if_pos hp22, if_neg hp32, if_pos hp33, bS, reduceIte, Bool.false_eq_true]; done) | (simp [hp22, hp32, hp33]; done) | (simp_all; done)))) rfl rfl) ?_
                        refine xd_b hok 20 [(5, _), (121, _)] ([]) rsN rfl rfl rfl (lc rfl (lc rfl ln)) (by kernel_rfl) ⟨_, rfl, rfl⟩ (fun H' hy hK => o_mv rfl) ?_
                        refine xd_b hok 21 [(13, _), (121, _)] ([]) rsN rfl rfl rfl (lc rfl (lc rfl ln)) (by kernel_rfl) ⟨_, rfl, rfl⟩ (fun H' hy hK => o_mv rfl) ?_
                        refine xd_b hok 22 [(128, _), (129, _), (121, _)] (Bs7 ++ ([])) (rsA (Pull.sub (.there _ (.here _ _))) rsN) rfl rfl rfl (lc rfl (lc rfl (lc rfl ln))) (by kernel_rfl) ⟨_, rfl, rfl⟩ (fun H' hy hK => o_ixL el25 rfl rfl (fun w hw => (hJs7.sl hw (fun x hx => hy x (Pull.sub (.here _ _) x hx)))) rfl (ho31 (by first | exact hg33 | (simp only [hq22, hq32, hq33, if_pos hp22, if_neg hp32, if_pos hp33, bS]; done) | (simp only [hq22, hq32, hq33, if_pos hp22, if_neg hp32, if_pos hp33, bS, reduceIte, Bool.false_eq_true]; done) | (simp [hp22, hp32, hp33]; done) | (simp_all; done)))) ?_
                        refine xd_b hok 23 [(130, _), (121, _)] (Bs7 ++ ([])) (rsA (Pull.sub (.there _ (.here _ _))) rsN) rfl rfl rfl (lc rfl (lc rfl ln)) (by kernel_rfl) ⟨_, rfl, rfl⟩ (fun H' hy hK => o_ldL1 (off := 0) (u := .int .i64 ((gcirc_F l0)[i13.toNat]!)) rfl ts3 rfl (fun w hw => (hJs7.sl hw (fun x hx => hy x (Pull.sub (.here _ _) x hx)))) (toNat_lt (ho31 (by first | exact hg33 | (simp only [hq22, hq32, hq33, if_pos hp22, if_neg hp32, if_pos hp33, bS]; done) | (simp only [hq22, hq32, hq33, if_pos hp22, if_neg hp32, if_pos hp33, bS, reduceIte, Bool.false_eq_true]; done) | (simp [hp22, hp32, hp33]; done) | (simp_all; done)))) rfl rfl) ?_
                        refine xd_b hok 24 [(127, _), (131, _), (121, _)] ([]) rsN rfl rfl rfl (lc rfl (lc rfl (lc rfl ln))) (by kernel_rfl) ⟨_, rfl, rfl⟩ (fun H' hy hK => o_neq rfl rfl) ?_
                        refine xd_b hok 25 [(121, _), (132, _)] ([]) rsN rfl rfl rfl (lc rfl (lc rfl ln)) (by kernel_rfl) trivial (fun H' hy hK => o_pick_f rfl rfl) ?_
                        refine xd_end hok (by kernel_rfl) ?_
                        exact xq_cut ((lce rfl (by first | rfl | (simp only [hq22, hq32, hq33, if_pos hp22, if_neg hp32, if_pos hp33, bS]; done) | (simp only [hq22, hq32, hq33, if_pos hp22, if_neg hp32, if_pos hp33, bS, reduceIte, Bool.false_eq_true]; done) | (simp [hp22, hp32, hp33]; done) | (simp_all; done)) (lc rfl (lc rfl (lc rfl (lc rfl ln)))))) (fun _ h => h)
                  · refine xq_then ?_
                    refine xw_bool 133 rfl (fun hc34 => ?_) (fun hc34 => ?_)
                    · have hq34 : (((decide (((gway_F l0 ((gcirc_F l0)[i13.toNat]!) ((gcirc_F l0)[i13.toNat]!)).length : Int) < 2)) || (!(decide ((gway_F l0 ((gcirc_F l0)[i13.toNat]!) ((gcirc_F l0)[i13.toNat]!))[0]! = (gcirc_F l0)[i13.toNat]!)))) || (!(decide ((gway_F l0 ((gcirc_F l0)[i13.toNat]!) ((gcirc_F l0)[i13.toNat]!))[(((gway_F l0 ((gcirc_F l0)[i13.toNat]!) ((gcirc_F l0)[i13.toNat]!)).length : Int) - 1).toNat]! = (gcirc_F l0)[i13.toNat]!)))) = true := hc34
                      have hp34 : (((decide (((gway_F l0 ((gcirc_F l0)[i13.toNat]!) ((gcirc_F l0)[i13.toNat]!)).length : Int) < 2)) || (!(decide ((gway_F l0 ((gcirc_F l0)[i13.toNat]!) ((gcirc_F l0)[i13.toNat]!))[0]! = (gcirc_F l0)[i13.toNat]!)))) || (!(decide ((gway_F l0 ((gcirc_F l0)[i13.toNat]!) ((gcirc_F l0)[i13.toNat]!))[(((gway_F l0 ((gcirc_F l0)[i13.toNat]!) ((gcirc_F l0)[i13.toNat]!)).length : Int) - 1).toNat]! = (gcirc_F l0)[i13.toNat]!)))) = true := hq34
                      rw [if_pos hp34] at h
                      refine xw_cond_t rfl rfl (xw_seq (xw_region ?_))
                      refine xq rfl trivial (o_as rfl) ?_
                      refine xo_nil (xq_then (xw_ret (xq_then_ret (xq_blk_ret (xq_then_ret ?_)))))
                      exact xq_out (r := (.inr () : (Unit) ⊕ (Unit))) (e' := [(2, .bool false)]) (Bs7 ++ ([])) (lc rfl ln) (Kp.st (Kp.segNew (Cov.fresh hcBs26) (Kp.segKeep Kp.nil))) h (by intro hh; cases hh) ⟨rfl, rfl, rfl⟩
                    · have hq34 : (((decide (((gway_F l0 ((gcirc_F l0)[i13.toNat]!) ((gcirc_F l0)[i13.toNat]!)).length : Int) < 2)) || (!(decide ((gway_F l0 ((gcirc_F l0)[i13.toNat]!) ((gcirc_F l0)[i13.toNat]!))[0]! = (gcirc_F l0)[i13.toNat]!)))) || (!(decide ((gway_F l0 ((gcirc_F l0)[i13.toNat]!) ((gcirc_F l0)[i13.toNat]!))[(((gway_F l0 ((gcirc_F l0)[i13.toNat]!) ((gcirc_F l0)[i13.toNat]!)).length : Int) - 1).toNat]! = (gcirc_F l0)[i13.toNat]!)))) = false := hc34
                      have hp34 : ¬ ((((decide (((gway_F l0 ((gcirc_F l0)[i13.toNat]!) ((gcirc_F l0)[i13.toNat]!)).length : Int) < 2)) || (!(decide ((gway_F l0 ((gcirc_F l0)[i13.toNat]!) ((gcirc_F l0)[i13.toNat]!))[0]! = (gcirc_F l0)[i13.toNat]!)))) || (!(decide ((gway_F l0 ((gcirc_F l0)[i13.toNat]!) ((gcirc_F l0)[i13.toNat]!))[(((gway_F l0 ((gcirc_F l0)[i13.toNat]!) ((gcirc_F l0)[i13.toNat]!)).length : Int) - 1).toNat]! = (gcirc_F l0)[i13.toNat]!)))) = true) := bne' hq34
                      rw [if_neg hp34] at h
                      refine xw_cond_f rfl rfl (xw_skip (xq_then (xw_seq (xw_region ?_))))
                      refine xq rfl trivial (o_as rfl) ?_
                      refine xo_nil (xq_then ?_)
                      refine xw_block ?_
                      obtain ⟨x4, hx4, h⟩ := h
                      refine xw_wh (fun (k15 : Int) e H => e = [(0, v0), (5, vs7), (13, .int .i64 i13), (14, vs26), (15, .int .i64 k15)] ∧ H = Bs26 ++ (Bs7 ++ ([]))) (fun x ex e H => match x with | .inl _ => ex = .exit 6 ∧ e = [(0, v0), (5, vs7), (13, .int .i64 i13)] ∧ H = Bs26 ++ (Bs7 ++ ([])) | .inr _ => ex = .ret ∧ e = [(2, .bool false)] ∧ H = Bs26 ++ (Bs7 ++ ([]))) hx4 ⟨[(0, v0), (5, vs7), (13, .int .i64 i13), (14, vs26), (15, .int .i64 1)], Bs26 ++ (Bs7 ++ ([])), (lc rfl (lc rfl (lc rfl (lc rfl (lc rfl ln))))), fun _ h => h, ⟨rfl, rfl⟩⟩ ?_ ?_
                      · rintro k15 o _ _ ⟨rfl, rfl⟩ hb
                        have h : either10_l4 l0 i13 k15 o := hb
                        clear hb
                        unfold either10_l4 at h
                        refine xw_seq (xw_seq (xw_region ?_))
                        refine xq rfl trivial (o_mv rfl) ?_
                        refine xq rfl trivial (o_mv rfl) ?_
                        refine xq rfl trivial (o_lenL rfl Try.underlying25 rfl (OJ.val hJs26)) ?_
                        refine xq rfl trivial (o_lss rfl rfl) ?_
                        refine xo_nil (xq_then ?_)
                        refine xw_bool 137 rfl (fun hc35 => ?_) (fun hc35 => ?_)
                        · have hq35 : (decide (k15 < ((gway_F l0 ((gcirc_F l0)[i13.toNat]!) ((gcirc_F l0)[i13.toNat]!)).length : Int))) = true := hc35
                          have hp35 : k15 < ((gway_F l0 ((gcirc_F l0)[i13.toNat]!) ((gcirc_F l0)[i13.toNat]!)).length : Int) := of_decide_eq_true hq35
                          rw [if_pos hp35] at h
                          refine xw_cond_t rfl rfl (xw_skip (xq_then (xw_seq ?_)))
                          refine xw_block ?_
                          refine xw_seq (xw_region ?_)
                          refine xq rfl trivial (o_as rfl) ?_
                          refine xq rfl trivial (o_as rfl) ?_
                          refine xo_nil (xq_then (xw_seq (xw_seq (xw_region ?_))))
                          refine xq rfl trivial (o_as rfl) ?_
                          refine xo_nil (xq_then ?_)
                          refine xw_block ?_
                          obtain ⟨on16, hx5, h⟩ := h
                          refine xw_wh (fun s e H => match s with | (on16, n18) => e = [(0, v0), (5, vs7), (13, .int .i64 i13), (14, vs26), (15, .int .i64 k15), (16, .bool (on16)), (17, .bool false), (18, .int .i64 n18)] ∧ H = Bs26 ++ (Bs7 ++ ([]))) (fun (on16 : Bool) ex e H => ex = .exit 8 ∧ e = [(0, v0), (5, vs7), (13, .int .i64 i13), (14, vs26), (15, .int .i64 k15), (16, .bool (on16)), (17, .bool false)] ∧ H = Bs26 ++ (Bs7 ++ ([]))) hx5 ⟨[(0, v0), (5, vs7), (13, .int .i64 i13), (14, vs26), (15, .int .i64 k15), (16, .bool false), (17, .bool false), (18, .int .i64 0)], Bs26 ++ (Bs7 ++ ([])), (lc rfl (lc rfl (lc rfl (lc rfl (lc rfl (lc rfl (lc rfl (lc rfl ln)))))))), fun _ h => h, ⟨rfl, rfl⟩⟩ ?_ ?_
                          · rintro ⟨on16, n18⟩ o _ _ ⟨rfl, rfl⟩ hb
                            have h : either10_l5 l0 i13 k15 on16 n18 o := hb
                            clear hb
                            unfold either10_l5 at h
                            refine xw_seq (xw_seq (xw_region ?_))
                            refine xq rfl trivial (o_mv rfl) ?_
                            refine xq rfl trivial (o_mv rfl) ?_
                            refine xq rfl trivial (o_lenL rfl Try.underlying25 rfl (OJ.val hJs7)) ?_
                            refine xq rfl trivial (o_lss rfl rfl) ?_
                            refine xo_nil (xq_then ?_)
                            refine xw_bool 143 rfl (fun hc36 => ?_) (fun hc36 => ?_)
                            · have hq36 : (decide (n18 < ((gcirc_F l0).length : Int))) = true := hc36
                              have hp36 : n18 < ((gcirc_F l0).length : Int) := of_decide_eq_true hq36
                              rw [if_pos hp36] at h
                              refine xw_cond_t rfl rfl (xw_skip (xq_then (xw_seq ?_)))
                              refine xw_block ?_
                              obtain ⟨ho37, ho38, h⟩ := h
                              refine xw_cut [(0, _), (5, _), (13, _), (14, _), (15, _), (17, _), (18, _)] (lc rfl (lc rfl (lc rfl (lc rfl (lc rfl (lc rfl (lc rfl ln))))))) [(16, .bool ((on16) || (decide ((gcirc_F l0)[n18.toNat]! = (gway_F l0 ((gcirc_F l0)[i13.toNat]!) ((gcirc_F l0)[i13.toNat]!))[k15.toNat]!))))] ?_ ?_
                              · refine xd_start (by kernel_rfl) (by kernel_rfl) (fun hok => ?_)
                                refine xd_b hok 0 [(16, _)] ([]) rsN rfl rfl rfl (lc rfl ln) (by kernel_rfl) trivial (fun H' hy hK => o_mv rfl) ?_
                                refine xd_b hok 1 [(146, _)] ([]) rsN rfl rfl rfl (lc rfl ln) (by kernel_rfl) trivial (fun H' hy hK => o_mv rfl) ?_
                                refine xd_bool 147 rfl (fun hg39 => ?_) (fun hg39 => ?_)
                                · have hq39 : (on16) = true := hg39
                                  have hp39 : (on16) = true := hq39
                                  refine xd_skip hok 2 [(5, _), (147, _)] rfl rfl rfl (lc rfl (lc rfl ln)) (by kernel_rfl) ⟨_, _, rfl, rfl, rfl⟩ ?_
                                  refine xd_skip hok 3 [(18, _), (147, _)] rfl rfl rfl (lc rfl (lc rfl ln)) (by kernel_rfl) ⟨_, _, rfl, rfl, rfl⟩ ?_
                                  refine xd_skip hok 4 [(148, _), (149, _), (147, _)] rfl rfl rfl (lc rfl (lc rfl (lc rfl ln))) (by kernel_rfl) ⟨_, _, rfl, rfl, rfl⟩ ?_
                                  refine xd_skip hok 5 [(150, _), (147, _)] rfl rfl rfl (lc rfl (lc rfl ln)) (by kernel_rfl) ⟨_, _, rfl, rfl, rfl⟩ ?_
                                  refine xd_skip hok 6 [(14, _), (147, _)] rfl rfl rfl (lc rfl (lc rfl ln)) (by kernel_rfl) ⟨_, _, rfl, rfl, rfl⟩ ?_
                                  refine xd_skip hok 7 [(15, _), (147, _)] rfl rfl rfl (lc rfl (lc rfl ln)) (by kernel_rfl) ⟨_, _, rfl, rfl, rfl⟩ ?_
                                  refine xd_skip hok 8 [(152, _), (153, _), (147, _)] rfl rfl rfl (lc rfl (lc rfl (lc rfl ln))) (by kernel_rfl) ⟨_, _, rfl, rfl, rfl⟩ ?_
                                  refine xd_skip hok 9 [(154, _), (147, _)] rfl rfl rfl (lc rfl (lc rfl ln)) (by kernel_rfl) ⟨_, _, rfl, rfl, rfl⟩ ?_
                                  refine xd_skip hok 10 [(151, _), (155, _), (147, _)] rfl rfl rfl (lc rfl (lc rfl (lc rfl ln))) (by kernel_rfl) ⟨_, _, rfl, rfl, rfl⟩ ?_
                                  refine xd_b hok 11 [(147, _), (156, _)] ([]) rsN rfl rfl rfl (lc rfl (lc rfl ln)) (by kernel_rfl) trivial (fun H' hy hK => o_pick_t rfl rfl) ?_
                                  refine xd_b hok 12 [(157, _)] ([]) rsN rfl rfl rfl (lc rfl ln) (by kernel_rfl) trivial (fun H' hy hK => o_as rfl) ?_
                                  refine xd_end hok (by kernel_rfl) ?_
                                  exact xq_cut ((lce rfl (by first | rfl | (simp only [hq36, hq39, if_pos hp36, if_pos hp39, bS]; done) | (simp only [hq36, hq39, if_pos hp36, if_pos hp39, bS, reduceIte, Bool.false_eq_true]; done) | (simp [hp36, hp39]; done) | (simp_all; done)) (lc rfl (lc rfl (lc rfl (lc rfl (lc rfl (lc rfl (lc rfl ln))))))))) (fun _ h => h)
                                · have hq39 : (on16) = false := hg39
                                  have hp39 : ¬ ((on16) = true) := bne' hq39
                                  refine xd_b hok 2 [(5, _), (147, _)] ([]) rsN rfl rfl rfl (lc rfl (lc rfl ln)) (by kernel_rfl) ⟨_, rfl, rfl⟩ (fun H' hy hK => o_mv rfl) ?_
                                  refine xd_b hok 3 [(18, _), (147, _)] ([]) rsN rfl rfl rfl (lc rfl (lc rfl ln)) (by kernel_rfl) ⟨_, rfl, rfl⟩ (fun H' hy hK => o_mv rfl) ?_
                                  refine xd_b hok 4 [(148, _), (149, _), (147, _)] (Bs7 ++ ([])) (rsA (Pull.sub (.there _ (.here _ _))) rsN) rfl rfl rfl (lc rfl (lc rfl (lc rfl ln))) (by kernel_rfl) ⟨_, rfl, rfl⟩ (fun H' hy hK => o_ixL el25 rfl rfl (fun w hw => (hJs7.sl hw (fun x hx => hy x (Pull.sub (.here _ _) x hx)))) rfl (ho37 (by first | exact hg39 | (simp only [hq36, hq39, if_pos hp36, if_neg hp39, bS]; done) | (simp only [hq36, hq39, if_pos hp36, if_neg hp39, bS, reduceIte, Bool.false_eq_true]; done) | (simp [hp36, hp39]; done) | (simp_all; done)))) ?_
                                  refine xd_b hok 5 [(150, _), (147, _)] (Bs7 ++ ([])) (rsA (Pull.sub (.there _ (.here _ _))) rsN) rfl rfl rfl (lc rfl (lc rfl ln)) (by kernel_rfl) ⟨_, rfl, rfl⟩ (fun H' hy hK => o_ldL1 (off := 0) (u := .int .i64 ((gcirc_F l0)[n18.toNat]!)) rfl ts3 rfl (fun w hw => (hJs7.sl hw (fun x hx => hy x (Pull.sub (.here _ _) x hx)))) (toNat_lt (ho37 (by first | exact hg39 | (simp only [hq36, hq39, if_pos hp36, if_neg hp39, bS]; done) | (simp only [hq36, hq39, if_pos hp36, if_neg hp39, bS, reduceIte, Bool.false_eq_true]; done) | (simp [hp36, hp39]; done) | (simp_all; done)))) rfl rfl) ?_
                                  refine xd_b hok 6 [(14, _), (147, _)] ([]) rsN rfl rfl rfl (lc rfl (lc rfl ln)) (by kernel_rfl) ⟨_, rfl, rfl⟩ (fun H' hy hK => o_mv rfl) ?_
                                  refine xd_b hok 7 [(15, _), (147, _)] ([]) rsN rfl rfl rfl (lc rfl (lc rfl ln)) (by kernel_rfl) ⟨_, rfl, rfl⟩ (fun H' hy hK => o_mv rfl) ?_
                                  refine xd_b hok 8 [(152, _), (153, _), (147, _)] (Bs26 ++ ([])) (rsA (Pull.sub (.here _ _)) rsN) rfl rfl rfl (lc rfl (lc rfl (lc rfl ln))) (by kernel_rfl) ⟨_, rfl, rfl⟩ (fun H' hy hK => o_ixL el25 rfl rfl (fun w hw => (hJs26.sl hw (fun x hx => hy x (Pull.sub (.here _ _) x hx)))) rfl (ho38 (by first | exact hg39 | (simp only [hq36, hq39, if_pos hp36, if_neg hp39, bS]; done) | (simp only [hq36, hq39, if_pos hp36, if_neg hp39, bS, reduceIte, Bool.false_eq_true]; done) | (simp [hp36, hp39]; done) | (simp_all; done)))) ?_
                                  refine xd_b hok 9 [(154, _), (147, _)] (Bs26 ++ ([])) (rsA (Pull.sub (.here _ _)) rsN) rfl rfl rfl (lc rfl (lc rfl ln)) (by kernel_rfl) ⟨_, rfl, rfl⟩ (fun H' hy hK => o_ldL1 (off := 0) (u := .int .i64 ((gway_F l0 ((gcirc_F l0)[i13.toNat]!) ((gcirc_F l0)[i13.toNat]!))[k15.toNat]!)) rfl ts3 rfl (fun w hw => (hJs26.sl hw (fun x hx => hy x (Pull.sub (.here _ _) x hx)))) (toNat_lt (ho38 (by first | exact hg39 | (simp only [hq36, hq39, if_pos hp36, if_neg hp39, bS]; done) | (simp only [hq36, hq39, if_pos hp36, if_neg hp39, bS, reduceIte, Bool.false_eq_true]; done) | (simp [hp36, hp39]; done) | (simp_all; done)))) rfl rfl) ?_
                                  refine xd_b hok 10 [(151, _), (155, _), (147, _)] ([]) rsN rfl rfl rfl (lc rfl (lc rfl (lc rfl ln))) (by kernel_rfl) ⟨_, rfl, rfl⟩ (fun H' hy hK => o_eql rfl rfl) ?_
                                  refine xd_b hok 11 [(147, _), (156, _)] ([]) rsN rfl rfl rfl (lc rfl (lc rfl ln)) (by kernel_rfl) trivial (fun H' hy hK => o_pick_f rfl rfl) ?_
                                  refine xd_b hok 12 [(157, _)] ([]) rsN rfl rfl rfl (lc rfl ln) (by kernel_rfl) trivial (fun H' hy hK => o_as rfl) ?_
                                  refine xd_end hok (by kernel_rfl) ?_
                                  exact xq_cut ((lce rfl (by first | rfl | (simp only [hq36, hq39, if_pos hp36, if_neg hp39, bS]; done) | (simp only [hq36, hq39, if_pos hp36, if_neg hp39, bS, reduceIte, Bool.false_eq_true]; done) | (simp [hp36, hp39]; done) | (simp_all; done)) (lc rfl (lc rfl (lc rfl (lc rfl (lc rfl (lc rfl (lc rfl ln))))))))) (fun _ h => h)
                              · refine xq_blk 9 ?_
                                refine xq_then (xw_region ?_)
                                refine xq rfl trivial (o_mv rfl) ?_
                                obtain ⟨ho40, h⟩ := h
                                refine xq rfl trivial (o_add rfl rfl rfl ho40) ?_
                                refine xq rfl trivial (o_as rfl) ?_
                                refine xo_nil ?_
                                exact xq_next (s' := (((on16) || (decide ((gcirc_F l0)[n18.toNat]! = (gway_F l0 ((gcirc_F l0)[i13.toNat]!) ((gcirc_F l0)[i13.toNat]!))[k15.toNat]!)), n18 + 1) : Bool × Int)) (e' := [(0, v0), (5, vs7), (13, .int .i64 i13), (14, vs26), (15, .int .i64 k15), (16, .bool ((on16) || (decide ((gcirc_F l0)[n18.toNat]! = (gway_F l0 ((gcirc_F l0)[i13.toNat]!) ((gcirc_F l0)[i13.toNat]!))[k15.toNat]!)))), (17, .bool false), (18, .int .i64 (n18 + 1))]) (Bs26 ++ (Bs7 ++ ([]))) (lc rfl (lc rfl (lc rfl (lc rfl (lc rfl (lc rfl (lc rfl (lc rfl ln)))))))) (fun _ h => h) h ⟨rfl, rfl⟩
                            · have hq36 : (decide (n18 < ((gcirc_F l0).length : Int))) = false := hc36
                              have hp36 : ¬ (n18 < ((gcirc_F l0).length : Int)) := of_decide_eq_false hq36
                              rw [if_neg hp36] at h
                              refine xw_cond_f rfl rfl (xw_exit (xq_then_exit ?_))
                              exact xq_out (r := (on16 : Bool)) (e' := [(0, v0), (5, vs7), (13, .int .i64 i13), (14, vs26), (15, .int .i64 k15), (16, .bool (on16)), (17, .bool false)]) (Bs26 ++ (Bs7 ++ ([]))) (lc rfl (lc rfl (lc rfl (lc rfl (lc rfl (lc rfl (lc rfl ln))))))) (fun _ h => h) h (by intro hh; cases hh) ⟨rfl, rfl, rfl⟩
                          · rintro _ _ _ ⟨rfl, rfl, rfl⟩
                            replace h : either10_k5a l0 i13 k15 on16 o := h
                            unfold either10_k5a at h
                            refine xq_blk_eq ?_
                            refine xq_then (xw_seq (xw_seq (xw_region ?_)))
                            refine xq rfl trivial (o_as rfl) ?_
                            refine xo_nil (xq_then ?_)
                            refine xw_block ?_
                            obtain ⟨leads17, hx6, h⟩ := h
                            refine xw_wh (fun s e H => match s with | (leads17, n19) => e = [(0, v0), (5, vs7), (13, .int .i64 i13), (14, vs26), (15, .int .i64 k15), (16, .bool (on16)), (17, .bool (leads17)), (19, .int .i64 n19)] ∧ H = Bs26 ++ (Bs7 ++ ([]))) (fun (leads17 : Bool) ex e H => ex = .exit 10 ∧ e = [(0, v0), (5, vs7), (13, .int .i64 i13), (14, vs26), (15, .int .i64 k15), (16, .bool (on16)), (17, .bool (leads17))] ∧ H = Bs26 ++ (Bs7 ++ ([]))) hx6 ⟨[(0, v0), (5, vs7), (13, .int .i64 i13), (14, vs26), (15, .int .i64 k15), (16, .bool (on16)), (17, .bool false), (19, .int .i64 0)], Bs26 ++ (Bs7 ++ ([])), (lc rfl (lc rfl (lc rfl (lc rfl (lc rfl (lc rfl (lc rfl (lc rfl ln)))))))), fun _ h => h, ⟨rfl, rfl⟩⟩ ?_ ?_
                            · rintro ⟨leads17, n19⟩ o _ _ ⟨rfl, rfl⟩ hb
                              have h : either10_l6 l0 i13 k15 leads17 n19 o := hb
                              clear hb
                              unfold either10_l6 at h
                              refine xw_seq (xw_seq (xw_region ?_))
                              refine xq rfl trivial (o_mv rfl) ?_
                              refine xq rfl trivial (o_mv rfl) ?_
                              refine xq rfl trivial (o_lenL rfl Try.underlying22 rfl (SL.val hs0)) ?_
                              refine xq rfl trivial (o_lss rfl rfl) ?_
                              refine xo_nil (xq_then ?_)
                              refine xw_bool 161 rfl (fun hc41 => ?_) (fun hc41 => ?_)
                              · have hq41 : (decide (n19 < (l0.length : Int))) = true := hc41
                                have hp41 : n19 < (l0.length : Int) := of_decide_eq_true hq41
                                rw [if_pos hp41] at h
                                refine xw_cond_t rfl rfl (xw_skip (xq_then (xw_seq ?_)))
                                refine xw_block ?_
                                obtain ⟨ho42, ho43, ho44, ho45, ho46, h⟩ := h
                                refine xw_cut [(0, _), (5, _), (13, _), (14, _), (15, _), (16, _), (19, _)] (lc rfl (lc rfl (lc rfl (lc rfl (lc rfl (lc rfl (lc rfl ln))))))) [(17, .bool ((leads17) || ((decide (l0[n19.toNat]! 0 = (gway_F l0 ((gcirc_F l0)[i13.toNat]!) ((gcirc_F l0)[i13.toNat]!))[(k15 - 1).toNat]!)) && (decide (l0[n19.toNat]! 2 = (gway_F l0 ((gcirc_F l0)[i13.toNat]!) ((gcirc_F l0)[i13.toNat]!))[k15.toNat]!)))))] ?_ ?_
                                · refine xd_start (by kernel_rfl) (by kernel_rfl) (fun hok => ?_)
                                  refine xd_b hok 0 [(17, _)] ([]) rsN rfl rfl rfl (lc rfl ln) (by kernel_rfl) trivial (fun H' hy hK => o_mv rfl) ?_
                                  refine xd_b hok 1 [(164, _)] ([]) rsN rfl rfl rfl (lc rfl ln) (by kernel_rfl) trivial (fun H' hy hK => o_mv rfl) ?_
                                  refine xd_bool 165 rfl (fun hg47 => ?_) (fun hg47 => ?_)
                                  · have hq47 : (leads17) = true := hg47
                                    have hp47 : (leads17) = true := hq47
                                    refine xd_skip hok 2 [(0, _), (165, _)] rfl rfl rfl (lc rfl (lc rfl ln)) (by kernel_rfl) ⟨_, _, rfl, rfl, rfl⟩ ?_
                                    refine xd_skip hok 3 [(19, _), (165, _)] rfl rfl rfl (lc rfl (lc rfl ln)) (by kernel_rfl) ⟨_, _, rfl, rfl, rfl⟩ ?_
                                    refine xd_skip hok 4 [(166, _), (167, _), (165, _)] rfl rfl rfl (lc rfl (lc rfl (lc rfl ln))) (by kernel_rfl) ⟨_, _, rfl, rfl, rfl⟩ ?_
                                    refine xd_skip hok 5 [(168, _), (165, _)] rfl rfl rfl (lc rfl (lc rfl ln)) (by kernel_rfl) ⟨_, _, rfl, rfl, rfl⟩ ?_
                                    refine xd_skip hok 6 [(169, _), (165, _)] rfl rfl rfl (lc rfl (lc rfl ln)) (by kernel_rfl) ⟨_, _, rfl, rfl, rfl⟩ ?_
                                    refine xd_skip hok 7 [(14, _), (165, _)] rfl rfl rfl (lc rfl (lc rfl ln)) (by kernel_rfl) ⟨_, _, rfl, rfl, rfl⟩ ?_
                                    refine xd_skip hok 8 [(15, _), (165, _)] rfl rfl rfl (lc rfl (lc rfl ln)) (by kernel_rfl) ⟨_, _, rfl, rfl, rfl⟩ ?_
                                    refine xd_skip hok 9 [(172, _), (165, _)] rfl rfl rfl (lc rfl (lc rfl ln)) (by kernel_rfl) ⟨_, _, rfl, rfl, rfl⟩ ?_
                                    refine xd_skip hok 10 [(171, _), (173, _), (165, _)] rfl rfl rfl (lc rfl (lc rfl (lc rfl ln))) (by kernel_rfl) ⟨_, _, rfl, rfl, rfl⟩ ?_
                                    refine xd_skip hok 11 [(174, _), (165, _)] rfl rfl rfl (lc rfl (lc rfl ln)) (by kernel_rfl) ⟨_, _, rfl, rfl, rfl⟩ ?_
                                    refine xd_skip hok 12 [(170, _), (175, _), (165, _)] rfl rfl rfl (lc rfl (lc rfl (lc rfl ln))) (by kernel_rfl) ⟨_, _, rfl, rfl, rfl⟩ ?_
                                    refine xd_skip hok 13 [(176, _), (165, _)] rfl rfl rfl (lc rfl (lc rfl ln)) (by kernel_rfl) ⟨_, _, rfl, rfl, rfl⟩ ?_
                                    refine xd_skip hok 14 [(0, _), (177, _)] rfl rfl rfl (lc rfl (lc rfl ln)) (by kernel_rfl) ⟨_, _, rfl, rfl, rfl⟩ ?_
                                    refine xd_skip hok 15 [(19, _), (177, _)] rfl rfl rfl (lc rfl (lc rfl ln)) (by kernel_rfl) ⟨_, _, rfl, rfl, rfl⟩ ?_
                                    refine xd_skip hok 16 [(178, _), (179, _), (177, _)] rfl rfl rfl (lc rfl (lc rfl (lc rfl ln))) (by kernel_rfl) ⟨_, _, rfl, rfl, rfl⟩ ?_
                                    refine xd_skip hok 17 [(180, _), (177, _)] rfl rfl rfl (lc rfl (lc rfl ln)) (by kernel_rfl) ⟨_, _, rfl, rfl, rfl⟩ ?_
                                    refine xd_skip hok 18 [(181, _), (177, _)] rfl rfl rfl (lc rfl (lc rfl ln)) (by kernel_rfl) ⟨_, _, rfl, rfl, rfl⟩ ?_
                                    refine xd_skip hok 19 [(14, _), (177, _)] rfl rfl rfl (lc rfl (lc rfl ln)) (by kernel_rfl) ⟨_, _, rfl, rfl, rfl⟩ ?_
                                    refine xd_skip hok 20 [(15, _), (177, _)] rfl rfl rfl (lc rfl (lc rfl ln)) (by kernel_rfl) ⟨_, _, rfl, rfl, rfl⟩ ?_
                                    refine xd_skip hok 21 [(183, _), (184, _), (177, _)] rfl rfl rfl (lc rfl (lc rfl (lc rfl ln))) (by kernel_rfl) ⟨_, _, rfl, rfl, rfl⟩ ?_
                                    refine xd_skip hok 22 [(185, _), (177, _)] rfl rfl rfl (lc rfl (lc rfl ln)) (by kernel_rfl) ⟨_, _, rfl, rfl, rfl⟩ ?_
                                    refine xd_skip hok 23 [(182, _), (186, _), (177, _)] rfl rfl rfl (lc rfl (lc rfl (lc rfl ln))) (by kernel_rfl) ⟨_, _, rfl, rfl, rfl⟩ ?_
                                    refine xd_skip hok 24 [(177, _), (187, _), (165, _)] rfl rfl rfl (lc rfl (lc rfl (lc rfl ln))) (by kernel_rfl) ⟨_, _, rfl, rfl, rfl⟩ ?_
                                    refine xd_b hok 25 [(165, _), (188, _)] ([]) rsN rfl rfl rfl (lc rfl (lc rfl ln)) (by kernel_rfl) trivial (fun H' hy hK => o_pick_t rfl rfl) ?_
                                    refine xd_b hok 26 [(189, _)] ([]) rsN rfl rfl rfl (lc rfl ln) (by kernel_rfl) trivial (fun H' hy hK => o_as rfl) ?_
                                    refine xd_end hok (by kernel_rfl) ?_
                                    exact xq_cut ((lce rfl (by first | rfl | (simp only [hq41, hq47, if_pos hp41, if_pos hp47, bS]; done) | (simp only [hq41, hq47, if_pos hp41, if_pos hp47, bS, reduceIte, Bool.false_eq_true]; done) | (simp [hp41, hp47]; done) | (simp_all; done)) (lc rfl (lc rfl (lc rfl (lc rfl (lc rfl (lc rfl (lc rfl ln))))))))) (fun _ h => h)
                                  · have hq47 : (leads17) = false := hg47
                                    have hp47 : ¬ ((leads17) = true) := bne' hq47
                                    refine xd_b hok 2 [(0, _), (165, _)] ([]) rsN rfl rfl rfl (lc rfl (lc rfl ln)) (by kernel_rfl) ⟨_, rfl, rfl⟩ (fun H' hy hK => o_mv rfl) ?_
                                    refine xd_b hok 3 [(19, _), (165, _)] ([]) rsN rfl rfl rfl (lc rfl (lc rfl ln)) (by kernel_rfl) ⟨_, rfl, rfl⟩ (fun H' hy hK => o_mv rfl) ?_
                                    refine xd_b hok 4 [(166, _), (167, _), (165, _)] ([]) rsN rfl rfl rfl (lc rfl (lc rfl (lc rfl ln))) (by kernel_rfl) ⟨_, rfl, rfl⟩ (fun H' hy hK => o_ixL el22 rfl rfl (fun w hw => (hs0.keep hw (fun k hk => (hK k hk).elim (fun h => (Fr.seg hcBs26 (Fr.seg hcBs7 Fr.nil)) k h) id))) rfl (ho42 (by first | exact hg47 | (simp only [hq41, hq47, if_pos hp41, if_neg hp47, bS]; done) | (simp only [hq41, hq47, if_pos hp41, if_neg hp47, bS, reduceIte, Bool.false_eq_true]; done) | (simp [hp41, hp47]; done) | (simp_all; done)))) ?_
                                    refine xd_b hok 5 [(168, _), (165, _)] ([]) rsN rfl rfl rfl (lc rfl (lc rfl ln)) (by kernel_rfl) ⟨_, rfl, rfl⟩ (fun H' hy hK => o_faL fl32_0 rfl rfl (fun w hw => (hs0.keep hw (fun k hk => (hK k hk).elim (fun h => (Fr.seg hcBs26 (Fr.seg hcBs7 Fr.nil)) k h) id))) (toNat_lt (ho42 (by first | exact hg47 | (simp only [hq41, hq47, if_pos hp41, if_neg hp47, bS]; done) | (simp only [hq41, hq47, if_pos hp41, if_neg hp47, bS, reduceIte, Bool.false_eq_true]; done) | (simp [hp41, hp47]; done) | (simp_all; done))))) ?_
                                    refine xd_b hok 6 [(169, _), (165, _)] ([]) rsN rfl rfl rfl (lc rfl (lc rfl ln)) (by kernel_rfl) ⟨_, rfl, rfl⟩ (fun H' hy hK => o_ldL1 (off := 0) (u := .int .i64 (l0[n19.toNat]! 0)) rfl ts3 rfl (fun w hw => (hs0.keep hw (fun k hk => (hK k hk).elim (fun h => (Fr.seg hcBs26 (Fr.seg hcBs7 Fr.nil)) k h) id))) (toNat_lt (ho42 (by first | exact hg47 | (simp only [hq41, hq47, if_pos hp41, if_neg hp47, bS]; done) | (simp only [hq41, hq47, if_pos hp41, if_neg hp47, bS, reduceIte, Bool.false_eq_true]; done) | (simp [hp41, hp47]; done) | (simp_all; done)))) rfl rfl) ?_
                                    refine xd_b hok 7 [(14, _), (165, _)] ([]) rsN rfl rfl rfl (lc rfl (lc rfl ln)) (by kernel_rfl) ⟨_, rfl, rfl⟩ (fun H' hy hK => o_mv rfl) ?_
                                    refine xd_b hok 8 [(15, _), (165, _)] ([]) rsN rfl rfl rfl (lc rfl (lc rfl ln)) (by kernel_rfl) ⟨_, rfl, rfl⟩ (fun H' hy hK => o_mv rfl) ?_
                                    refine xd_b hok 9 [(172, _), (165, _)] ([]) rsN rfl rfl rfl (lc rfl (lc rfl ln)) (by kernel_rfl) ⟨_, rfl, rfl⟩ (fun H' hy hK => o_sub rfl rfl rfl (ho43 (by first | exact hg47 | (simp only [hq41, hq47, if_pos hp41, if_neg hp47, bS]; done) | (simp only [hq41, hq47, if_pos hp41, if_neg hp47, bS, reduceIte, Bool.false_eq_true]; done) | (simp [hp41, hp47]; done) | (simp_all; done)))) ?_
                                    refine xd_b hok 10 [(171, _), (173, _), (165, _)] (Bs26 ++ ([])) (rsA (Pull.sub (.here _ _)) rsN) rfl rfl rfl (lc rfl (lc rfl (lc rfl ln))) (by kernel_rfl) ⟨_, rfl, rfl⟩ (fun H' hy hK => o_ixL el25 rfl rfl (fun w hw => (hJs26.sl hw (fun x hx => hy x (Pull.sub (.here _ _) x hx)))) rfl (ho44 (by first | exact hg47 | (simp only [hq41, hq47, if_pos hp41, if_neg hp47, bS]; done) | (simp only [hq41, hq47, if_pos hp41, if_neg hp47, bS, reduceIte, Bool.false_eq_true]; done) | (simp [hp41, hp47]; done) | (simp_all; done)))) ?_
                                    refine xd_b hok 11 [(174, _), (165, _)] (Bs26 ++ ([])) (rsA (Pull.sub (.here _ _)) rsN) rfl rfl rfl (lc rfl (lc rfl ln)) (by kernel_rfl) ⟨_, rfl, rfl⟩ (fun H' hy hK => o_ldL1 (off := 0) (u := .int .i64 ((gway_F l0 ((gcirc_F l0)[i13.toNat]!) ((gcirc_F l0)[i13.toNat]!))[(k15 - 1).toNat]!)) rfl ts3 rfl (fun w hw => (hJs26.sl hw (fun x hx => hy x (Pull.sub (.here _ _) x hx)))) (toNat_lt (ho44 (by first | exact hg47 | (simp only [hq41, hq47, if_pos hp41, if_neg hp47, bS]; done) | (simp only [hq41, hq47, if_pos hp41, if_neg hp47, bS, reduceIte, Bool.false_eq_true]; done) | (simp [hp41, hp47]; done) | (simp_all; done)))) rfl rfl) ?_
                                    refine xd_b hok 12 [(170, _), (175, _), (165, _)] ([]) rsN rfl rfl rfl (lc rfl (lc rfl (lc rfl ln))) (by kernel_rfl) ⟨_, rfl, rfl⟩ (fun H' hy hK => o_eql rfl rfl) ?_
                                    refine xd_b hok 13 [(176, _), (165, _)] ([]) rsN rfl rfl rfl (lc rfl (lc rfl ln)) (by kernel_rfl) ⟨_, rfl, rfl⟩ (fun H' hy hK => o_mv rfl) ?_
                                    refine xd_bool 177 rfl (fun hg48 => ?_) (fun hg48 => ?_)
                                    · have hq48 : (decide (l0[n19.toNat]! 0 = (gway_F l0 ((gcirc_F l0)[i13.toNat]!) ((gcirc_F l0)[i13.toNat]!))[(k15 - 1).toNat]!)) = true := hg48
                                      have hp48 : l0[n19.toNat]! 0 = (gway_F l0 ((gcirc_F l0)[i13.toNat]!) ((gcirc_F l0)[i13.toNat]!))[(k15 - 1).toNat]! := of_decide_eq_true hq48
                                      refine xd_b hok 14 [(0, _), (177, _)] ([]) rsN rfl rfl rfl (lc rfl (lc rfl ln)) (by kernel_rfl) ⟨_, rfl, rfl⟩ (fun H' hy hK => o_mv rfl) ?_
                                      refine xd_b hok 15 [(19, _), (177, _)] ([]) rsN rfl rfl rfl (lc rfl (lc rfl ln)) (by kernel_rfl) ⟨_, rfl, rfl⟩ (fun H' hy hK => o_mv rfl) ?_
                                      refine xd_b hok 16 [(178, _), (179, _), (177, _)] ([]) rsN rfl rfl rfl (lc rfl (lc rfl (lc rfl ln))) (by kernel_rfl) ⟨_, rfl, rfl⟩ (fun H' hy hK => o_ixL el22 rfl rfl (fun w hw => (hs0.keep hw (fun k hk => (hK k hk).elim (fun h => (Fr.seg hcBs26 (Fr.seg hcBs7 Fr.nil)) k h) id))) rfl (ho45 (by first | exact hg47 | (simp only [hq41, hq47, hq48, if_pos hp41, if_neg hp47, if_pos hp48, bS]; done) | (simp only [hq41, hq47, hq48, if_pos hp41, if_neg hp47, if_pos hp48, bS, reduceIte, Bool.false_eq_true]; done) | (simp [hp41, hp47, hp48]; done) | (simp_all; done)) (by first | exact hg48 | (simp only [hq41, hq47, hq48, if_pos hp41, if_neg hp47, if_pos hp48, bS]; done) | (simp only [hq41, hq47, hq48, if_pos hp41, if_neg hp47, if_pos hp48, bS, reduceIte, Bool.false_eq_true]; done) | (simp [hp41, hp47, hp48]; done) | (simp_all; done)))) ?_
                                      refine xd_b hok 17 [(180, _), (177, _)] ([]) rsN rfl rfl rfl (lc rfl (lc rfl ln)) (by kernel_rfl) ⟨_, rfl, rfl⟩ (fun H' hy hK => o_faL fl32_2 rfl rfl (fun w hw => (hs0.keep hw (fun k hk => (hK k hk).elim (fun h => (Fr.seg hcBs26 (Fr.seg hcBs7 Fr.nil)) k h) id))) (toNat_lt (ho45 (by first | exact hg47 | (simp only [hq41, hq47, hq48, if_pos hp41, if_neg hp47, if_pos hp48, bS]; done) | (simp only [hq41, hq47, hq48, if_pos hp41, if_neg hp47, if_pos hp48, bS, reduceIte, Bool.false_eq_true]; done) | (simp [hp41, hp47, hp48]; done) | (simp_all; done)) (by first | exact hg48 | (simp only [hq41, hq47, hq48, if_pos hp41, if_neg hp47, if_pos hp48, bS]; done) | (simp only [hq41, hq47, hq48, if_pos hp41, if_neg hp47, if_pos hp48, bS, reduceIte, Bool.false_eq_true]; done) | (simp [hp41, hp47, hp48]; done) | (simp_all; done))))) ?_
                                      refine xd_b hok 18 [(181, _), (177, _)] ([]) rsN rfl rfl rfl (lc rfl (lc rfl ln)) (by kernel_rfl) ⟨_, rfl, rfl⟩ (fun H' hy hK => o_ldL1 (off := 2) (u := .int .i64 (l0[n19.toNat]! 2)) rfl ts3 rfl (fun w hw => (hs0.keep hw (fun k hk => (hK k hk).elim (fun h => (Fr.seg hcBs26 (Fr.seg hcBs7 Fr.nil)) k h) id))) (toNat_lt (ho45 (by first | exact hg47 | (simp only [hq41, hq47, hq48, if_pos hp41, if_neg hp47, if_pos hp48, bS]; done) | (simp only [hq41, hq47, hq48, if_pos hp41, if_neg hp47, if_pos hp48, bS, reduceIte, Bool.false_eq_true]; done) | (simp [hp41, hp47, hp48]; done) | (simp_all; done)) (by first | exact hg48 | (simp only [hq41, hq47, hq48, if_pos hp41, if_neg hp47, if_pos hp48, bS]; done) | (simp only [hq41, hq47, hq48, if_pos hp41, if_neg hp47, if_pos hp48, bS, reduceIte, Bool.false_eq_true]; done) | (simp [hp41, hp47, hp48]; done) | (simp_all; done)))) rfl rfl) ?_
                                      refine xd_b hok 19 [(14, _), (177, _)] ([]) rsN rfl rfl rfl (lc rfl (lc rfl ln)) (by kernel_rfl) ⟨_, rfl, rfl⟩ (fun H' hy hK => o_mv rfl) ?_
                                      refine xd_b hok 20 [(15, _), (177, _)] ([]) rsN rfl rfl rfl (lc rfl (lc rfl ln)) (by kernel_rfl) ⟨_, rfl, rfl⟩ (fun H' hy hK => o_mv rfl) ?_
                                      refine xd_b hok 21 [(183, _), (184, _), (177, _)] (Bs26 ++ ([])) (rsA (Pull.sub (.here _ _)) rsN) rfl rfl rfl (lc rfl (lc rfl (lc rfl ln))) (by kernel_rfl) ⟨_, rfl, rfl⟩ (fun H' hy hK => o_ixL el25 rfl rfl (fun w hw => (hJs26.sl hw (fun x hx => hy x (Pull.sub (.here _ _) x hx)))) rfl (ho46 (by first | exact hg47 | (simp only [hq41, hq47, hq48, if_pos hp41, if_neg hp47, if_pos hp48, bS]; done) | (simp only [hq41, hq47, hq48, if_pos hp41, if_neg hp47, if_pos hp48, bS, reduceIte, Bool.false_eq_true]; done) | (simp [hp41, hp47, hp48]; done) | (simp_all; done)) (by first | exact hg48 | (simp only [hq41, hq47, hq48, if_pos hp41, if_neg hp47, if_pos hp48, bS]; done) | (simp only [hq41, hq47, hq48, if_pos hp41, if_neg hp47, if_pos hp48, bS, reduceIte, Bool.false_eq_true]; done) | (simp [hp41, hp47, hp48]; done) | (simp_all; done)))) ?_
                                      refine xd_b hok 22 [(185, _), (177, _)] (Bs26 ++ ([])) (rsA (Pull.sub (.here _ _)) rsN) rfl rfl rfl (lc rfl (lc rfl ln)) (by kernel_rfl) ⟨_, rfl, rfl⟩ (fun H' hy hK => o_ldL1 (off := 0) (u := .int .i64 ((gway_F l0 ((gcirc_F l0)[i13.toNat]!) ((gcirc_F l0)[i13.toNat]!))[k15.toNat]!)) rfl ts3 rfl (fun w hw => (hJs26.sl hw (fun x hx => hy x (Pull.sub (.here _ _) x hx)))) (toNat_lt (ho46 (by first | exact hg47 | (simp only [hq41, hq47, hq48, if_pos hp41, if_neg hp47, if_pos hp48, bS]; done) | (simp only [hq41, hq47, hq48, if_pos hp41, if_neg hp47, if_pos hp48, bS, reduceIte, Bool.false_eq_true]; done) | (simp [hp41, hp47, hp48]; done) | (simp_all; done)) (by first | exact hg48 | (simp only [hq41, hq47, hq48, if_pos hp41, if_neg hp47, if_pos hp48, bS]; done) | (simp only [hq41, hq47, hq48, if_pos hp41, if_neg hp47, if_pos hp48, bS, reduceIte, Bool.false_eq_true]; done) | (simp [hp41, hp47, hp48]; done) | (simp_all; done)))) rfl rfl) ?_
                                      refine xd_b hok 23 [(182, _), (186, _), (177, _)] ([]) rsN rfl rfl rfl (lc rfl (lc rfl (lc rfl ln))) (by kernel_rfl) ⟨_, rfl, rfl⟩ (fun H' hy hK => o_eql rfl rfl) ?_
                                      refine xd_b hok 24 [(177, _), (187, _), (165, _)] ([]) rsN rfl rfl rfl (lc rfl (lc rfl (lc rfl ln))) (by kernel_rfl) ⟨_, rfl, rfl⟩ (fun H' hy hK => o_pick_t rfl rfl) ?_
                                      refine xd_b hok 25 [(165, _), (188, _)] ([]) rsN rfl rfl rfl (lc rfl (lc rfl ln)) (by kernel_rfl) trivial (fun H' hy hK => o_pick_f rfl rfl) ?_
                                      refine xd_b hok 26 [(189, _)] ([]) rsN rfl rfl rfl (lc rfl ln) (by kernel_rfl) trivial (fun H' hy hK => o_as rfl) ?_
                                      refine xd_end hok (by kernel_rfl) ?_
                                      exact xq_cut ((lce rfl (by first | rfl | (simp only [hq41, hq47, hq48, if_pos hp41, if_neg hp47, if_pos hp48, bS]; done) | (simp only [hq41, hq47, hq48, if_pos hp41, if_neg hp47, if_pos hp48, bS, reduceIte, Bool.false_eq_true]; done) | (simp [hp41, hp47, hp48]; done) | (simp_all; done)) (lc rfl (lc rfl (lc rfl (lc rfl (lc rfl (lc rfl (lc rfl ln))))))))) (fun _ h => h)
                                    · have hq48 : (decide (l0[n19.toNat]! 0 = (gway_F l0 ((gcirc_F l0)[i13.toNat]!) ((gcirc_F l0)[i13.toNat]!))[(k15 - 1).toNat]!)) = false := hg48
                                      have hp48 : ¬ (l0[n19.toNat]! 0 = (gway_F l0 ((gcirc_F l0)[i13.toNat]!) ((gcirc_F l0)[i13.toNat]!))[(k15 - 1).toNat]!) := of_decide_eq_false hq48
                                      refine xd_skip hok 14 [(0, _), (177, _)] rfl rfl rfl (lc rfl (lc rfl ln)) (by kernel_rfl) ⟨_, _, rfl, rfl, rfl⟩ ?_
                                      refine xd_skip hok 15 [(19, _), (177, _)] rfl rfl rfl (lc rfl (lc rfl ln)) (by kernel_rfl) ⟨_, _, rfl, rfl, rfl⟩ ?_
                                      refine xd_skip hok 16 [(178, _), (179, _), (177, _)] rfl rfl rfl (lc rfl (lc rfl (lc rfl ln))) (by kernel_rfl) ⟨_, _, rfl, rfl, rfl⟩ ?_
                                      refine xd_skip hok 17 [(180, _), (177, _)] rfl rfl rfl (lc rfl (lc rfl ln)) (by kernel_rfl) ⟨_, _, rfl, rfl, rfl⟩ ?_
                                      refine xd_skip hok 18 [(181, _), (177, _)] rfl rfl rfl (lc rfl (lc rfl ln)) (by kernel_rfl) ⟨_, _, rfl, rfl, rfl⟩ ?_
                                      refine xd_skip hok 19 [(14, _), (177, _)] rfl rfl rfl (lc rfl (lc rfl ln)) (by kernel_rfl) ⟨_, _, rfl, rfl, rfl⟩ ?_
                                      refine xd_skip hok 20 [(15, _), (177, _)] rfl rfl rfl (lc rfl (lc rfl ln)) (by kernel_rfl) ⟨_, _, rfl, rfl, rfl⟩ ?_
                                      refine xd_skip hok 21 [(183, _), (184, _), (177, _)] rfl rfl rfl (lc rfl (lc rfl (lc rfl ln))) (by kernel_rfl) ⟨_, _, rfl, rfl, rfl⟩ ?_
                                      refine xd_skip hok 22 [(185, _), (177, _)] rfl rfl rfl (lc rfl (lc rfl ln)) (by kernel_rfl) ⟨_, _, rfl, rfl, rfl⟩ ?_
                                      refine xd_skip hok 23 [(182, _), (186, _), (177, _)] rfl rfl rfl (lc rfl (lc rfl (lc rfl ln))) (by kernel_rfl) ⟨_, _, rfl, rfl, rfl⟩ ?_
                                      refine xd_b hok 24 [(177, _), (187, _), (165, _)] ([]) rsN rfl rfl rfl (lc rfl (lc rfl (lc rfl ln))) (by kernel_rfl) ⟨_, rfl, rfl⟩ (fun H' hy hK => o_pick_f rfl rfl) ?_
                                      refine xd_b hok 25 [(165, _), (188, _)] ([]) rsN rfl rfl rfl (lc rfl (lc rfl ln)) (by kernel_rfl) trivial (fun H' hy hK => o_pick_f rfl rfl) ?_
                                      refine xd_b hok 26 [(189, _)] ([]) rsN rfl rfl rfl (lc rfl ln) (by kernel_rfl) trivial (fun H' hy hK => o_as rfl) ?_
                                      refine xd_end hok (by kernel_rfl) ?_
                                      exact xq_cut ((lce rfl (by first | rfl | (simp only [hq41, hq47, hq48, if_pos hp41, if_neg hp47, if_neg hp48, bS]; done) | (simp only [hq41, hq47, hq48, if_pos hp41, if_neg hp47, if_neg hp48, bS, reduceIte, Bool.false_eq_true]; done) | (simp [hp41, hp47, hp48]; done) | (simp_all; done)) (lc rfl (lc rfl (lc rfl (lc rfl (lc rfl (lc rfl (lc rfl ln))))))))) (fun _ h => h)
                                · refine xq_blk 11 ?_
                                  refine xq_then (xw_region ?_)
                                  refine xq rfl trivial (o_mv rfl) ?_
                                  obtain ⟨ho49, h⟩ := h
                                  refine xq rfl trivial (o_add rfl rfl rfl ho49) ?_
                                  refine xq rfl trivial (o_as rfl) ?_
                                  refine xo_nil ?_
                                  exact xq_next (s' := (((leads17) || ((decide (l0[n19.toNat]! 0 = (gway_F l0 ((gcirc_F l0)[i13.toNat]!) ((gcirc_F l0)[i13.toNat]!))[(k15 - 1).toNat]!)) && (decide (l0[n19.toNat]! 2 = (gway_F l0 ((gcirc_F l0)[i13.toNat]!) ((gcirc_F l0)[i13.toNat]!))[k15.toNat]!))), n19 + 1) : Bool × Int)) (e' := [(0, v0), (5, vs7), (13, .int .i64 i13), (14, vs26), (15, .int .i64 k15), (16, .bool (on16)), (17, .bool ((leads17) || ((decide (l0[n19.toNat]! 0 = (gway_F l0 ((gcirc_F l0)[i13.toNat]!) ((gcirc_F l0)[i13.toNat]!))[(k15 - 1).toNat]!)) && (decide (l0[n19.toNat]! 2 = (gway_F l0 ((gcirc_F l0)[i13.toNat]!) ((gcirc_F l0)[i13.toNat]!))[k15.toNat]!))))), (19, .int .i64 (n19 + 1))]) (Bs26 ++ (Bs7 ++ ([]))) (lc rfl (lc rfl (lc rfl (lc rfl (lc rfl (lc rfl (lc rfl (lc rfl ln)))))))) (fun _ h => h) h ⟨rfl, rfl⟩
                              · have hq41 : (decide (n19 < (l0.length : Int))) = false := hc41
                                have hp41 : ¬ (n19 < (l0.length : Int)) := of_decide_eq_false hq41
                                rw [if_neg hp41] at h
                                refine xw_cond_f rfl rfl (xw_exit (xq_then_exit ?_))
                                exact xq_out (r := (leads17 : Bool)) (e' := [(0, v0), (5, vs7), (13, .int .i64 i13), (14, vs26), (15, .int .i64 k15), (16, .bool (on16)), (17, .bool (leads17))]) (Bs26 ++ (Bs7 ++ ([]))) (lc rfl (lc rfl (lc rfl (lc rfl (lc rfl (lc rfl (lc rfl ln))))))) (fun _ h => h) h (by intro hh; cases hh) ⟨rfl, rfl, rfl⟩
                            · rintro _ _ _ ⟨rfl, rfl, rfl⟩
                              replace h : either10_k6a k15 on16 leads17 o := h
                              unfold either10_k6a at h
                              refine xq_blk_eq ?_
                              refine xq_then (xw_seq ?_)
                              refine xw_cut [(0, _), (5, _), (13, _), (14, _), (15, _)] (lc rfl (lc rfl (lc rfl (lc rfl (lc rfl ln))))) [(195, .bool ((!(on16)) || (!(leads17))))] ?_ ?_
                              · refine xw_region ?_
                                refine xq rfl trivial (o_mv rfl) ?_
                                refine xq rfl trivial (o_not rfl) ?_
                                refine xq rfl trivial (o_mv rfl) ?_
                                refine xo_bool 192 rfl (fun hg50 => ?_) (fun hg50 => ?_)
                                · have hq50 : (on16) = false := (bnT hg50)
                                  have hp50 : ¬ ((on16) = true) := bne' hq50
                                  refine xs rfl ⟨_, _, rfl, rfl, rfl⟩ (xs rfl ⟨_, _, rfl, rfl, rfl⟩ ?_)
                                  refine xq rfl trivial (o_pick_t rfl rfl) ?_
                                  refine xo_nil ?_
                                  exact xq_cut ((lce rfl (by first | rfl | (simp only [hq50, if_neg hp50, bS]; done) | (simp only [hq50, if_neg hp50, bS, reduceIte, Bool.false_eq_true]; done) | (simp [hp50]; done) | (simp_all; done)) (lc rfl (lc rfl (lc rfl (lc rfl (lc rfl ln))))))) (fun _ h => h)
                                · have hq50 : (on16) = true := (bnF hg50)
                                  have hp50 : (on16) = true := hq50
                                  refine xq rfl ⟨_, rfl, rfl⟩ (o_mv rfl) ?_
                                  refine xq rfl ⟨_, rfl, rfl⟩ (o_not rfl) ?_
                                  refine xq rfl trivial (o_pick_f rfl rfl) ?_
                                  refine xo_nil ?_
                                  exact xq_cut ((lce rfl (by first | rfl | (simp only [hq50, if_pos hp50, bS]; done) | (simp only [hq50, if_pos hp50, bS, reduceIte, Bool.false_eq_true]; done) | (simp [hp50]; done) | (simp_all; done)) (lc rfl (lc rfl (lc rfl (lc rfl (lc rfl ln))))))) (fun _ h => h)
                              · refine xq_then ?_
                                refine xw_bool 195 rfl (fun hc51 => ?_) (fun hc51 => ?_)
                                · have hq51 : ((!(on16)) || (!(leads17))) = true := hc51
                                  have hp51 : ((!(on16)) || (!(leads17))) = true := hq51
                                  rw [if_pos hp51] at h
                                  refine xw_cond_t rfl rfl (xw_seq (xw_region ?_))
                                  refine xq rfl trivial (o_as rfl) ?_
                                  refine xo_nil (xq_then (xw_ret (xq_blk_ret (xq_then_ret ?_))))
                                  exact xq_out (r := (.inr () : (Unit) ⊕ (Unit))) (e' := [(2, .bool false)]) (Bs26 ++ (Bs7 ++ ([]))) (lc rfl ln) (fun _ h => h) h (by intro hh; cases hh) ⟨rfl, rfl, rfl⟩
                                · have hq51 : ((!(on16)) || (!(leads17))) = false := hc51
                                  have hp51 : ¬ (((!(on16)) || (!(leads17))) = true) := bne' hq51
                                  rw [if_neg hp51] at h
                                  refine xw_cond_f rfl rfl (xw_skip ?_)
                                  refine xq_blk 7 ?_
                                  refine xq_then (xw_region ?_)
                                  refine xq rfl trivial (o_mv rfl) ?_
                                  obtain ⟨ho52, h⟩ := h
                                  refine xq rfl trivial (o_add rfl rfl rfl ho52) ?_
                                  refine xq rfl trivial (o_as rfl) ?_
                                  refine xo_nil ?_
                                  exact xq_next (s' := (k15 + 1 : Int)) (e' := [(0, v0), (5, vs7), (13, .int .i64 i13), (14, vs26), (15, .int .i64 (k15 + 1))]) (Bs26 ++ (Bs7 ++ ([]))) (lc rfl (lc rfl (lc rfl (lc rfl (lc rfl ln))))) (fun _ h => h) h ⟨rfl, rfl⟩
                        · have hq35 : (decide (k15 < ((gway_F l0 ((gcirc_F l0)[i13.toNat]!) ((gcirc_F l0)[i13.toNat]!)).length : Int))) = false := hc35
                          have hp35 : ¬ (k15 < ((gway_F l0 ((gcirc_F l0)[i13.toNat]!) ((gcirc_F l0)[i13.toNat]!)).length : Int)) := of_decide_eq_false hq35
                          rw [if_neg hp35] at h
                          refine xw_cond_f rfl rfl (xw_exit (xq_then_exit ?_))
                          exact xq_out (r := (.inl () : (Unit) ⊕ (Unit))) (e' := [(0, v0), (5, vs7), (13, .int .i64 i13)]) (Bs26 ++ (Bs7 ++ ([]))) (lc rfl (lc rfl (lc rfl ln))) (fun _ h => h) h (by intro hh; cases hh) ⟨rfl, rfl, rfl⟩
                      · rcases x4 with _ | x4
                        · rintro _ _ _ ⟨rfl, rfl, rfl⟩
                          replace h : either10_k4a i13 o := h
                          unfold either10_k4a at h
                          refine xq_blk_eq ?_
                          refine xq_blk 5 ?_
                          refine xq_then (xw_region ?_)
                          refine xq rfl trivial (o_mv rfl) ?_
                          obtain ⟨ho53, h⟩ := h
                          refine xq rfl trivial (o_add rfl rfl rfl ho53) ?_
                          refine xq rfl trivial (o_as rfl) ?_
                          refine xo_nil ?_
                          exact xq_next (s' := (i13 + 1 : Int)) (e' := [(0, v0), (5, vs7), (13, .int .i64 (i13 + 1))]) (Bs7 ++ ([])) (lc rfl (lc rfl (lc rfl ln))) (Kp.st (Kp.segNew (Cov.fresh hcBs26) (Kp.segKeep Kp.nil))) h ⟨rfl, rfl⟩
                        cases x4
                        rintro _ _ _ ⟨rfl, rfl, rfl⟩
                        replace h : either10_k4b o := h
                        unfold either10_k4b at h
                        refine xq_blk_ret (xq_blk_ret (xq_then_ret ?_))
                        exact xq_out (r := (.inr () : (Unit) ⊕ (Unit))) (e' := [(2, .bool false)]) (Bs7 ++ ([])) (lc rfl ln) (Kp.st (Kp.segNew (Cov.fresh hcBs26) (Kp.segKeep Kp.nil))) h (by intro hh; cases hh) ⟨rfl, rfl, rfl⟩
                · have hq22 : (decide (i13 < ((gcirc_F l0).length : Int))) = false := hc22
                  have hp22 : ¬ (i13 < ((gcirc_F l0).length : Int)) := of_decide_eq_false hq22
                  rw [if_neg hp22] at h
                  refine xw_cond_f rfl rfl (xw_exit (xq_then_exit ?_))
                  exact xq_out (r := (.inl () : (Unit) ⊕ (Unit))) (e' := []) (Bs7 ++ ([])) ln (fun _ h => h) h (by intro hh; cases hh) ⟨rfl, rfl, rfl⟩
              · rcases x3 with _ | x3
                · rintro _ _ _ ⟨rfl, rfl, rfl⟩
                  replace h : either10_k3a r := h
                  unfold either10_k3a at h
                  refine xq_blk_eq ?_
                  refine xq_then (xw_seq (xw_region ?_))
                  refine xq rfl trivial (o_as rfl) ?_
                  refine xo_nil (xq_then (xw_ret ?_))
                  subst h
                  exact con_ret1 (.inl rfl) Try.results6 rfl [] (Kp.st (Kp.segNew (Cov.fresh hcBs7) Kp.nil)) (⟨rfl, rfl⟩)
                cases x3
                rintro _ _ _ ⟨rfl, rfl, rfl⟩
                replace h : either10_k3b r := h
                unfold either10_k3b at h
                refine xq_blk_ret (xq_then_ret ?_)
                subst h
                exact con_ret1 (.inl rfl) Try.results6 rfl [] (Kp.st (Kp.segNew (Cov.fresh hcBs7) Kp.nil)) (⟨rfl, rfl⟩)
            cases x2
            rintro _ _ _ ⟨rfl, rfl, rfl⟩
            replace h : either10_k2b r := h
            unfold either10_k2b at h
            refine xq_blk_ret (xq_then_ret ?_)
            subst h
            exact con_ret1 (.inl rfl) Try.results6 rfl [] (Kp.st (Kp.segNew (Cov.fresh hcB6_1o) (Kp.segNew (Cov.fresh hcBs7) Kp.nil))) (⟨rfl, rfl⟩)

theorem more10_con (l0 : (List (Nat → Int))) (more1 : (List (Nat → Int))) (from2 : Int) (v0 : Value) (v1 : Value) (w : World) (hs0 : SL w 4 iv v0 l0) (hs1 : SL w 4 iv v1 more1) (r : Bool) (h : more10_S l0 more1 from2 r) : Con Try.prog 5 #[v0, v1, .int .i64 from2] w (Is (.bool r) []) := by
  unfold more10_S at h
  refine con_enter (n := 109) [(0, _), (1, _), (2, _)] Try.func5 rfl Try.ntmps5 rfl (lac rfl (lac rfl (lac rfl lan))) ?_
  refine xw_seq (xw_region ?_)
  refine xq rfl trivial (o_as rfl) ?_
  refine xo_nil (xq_then (xw_seq (xw_seq (xw_region ?_))))
  obtain ⟨ho1, h⟩ := h
  refine xcallq rfl trivial kf8 rfl (fun w1 hw1 => alive10_c w1 ho1) ?_
  refine xq rfl trivial (o_not rfl) ?_
  refine xo_nil (xq_then ?_)
  refine xw_bool 21 rfl (fun hc2 => ?_) (fun hc2 => ?_)
  · have hq2 : (alive10_F) = false := (bnT hc2)
    have hp2 : ¬ ((alive10_F) = true) := bne' hq2
    rw [if_neg hp2] at h
    refine xw_cond_t rfl rfl (xw_seq (xw_region ?_))
    refine xq rfl trivial (o_as rfl) ?_
    refine xo_nil (xq_then (xw_ret (xq_then_ret ?_)))
    subst h
    exact con_ret1 (.inl rfl) Try.results5 rfl [] (fun _ h => h) (⟨rfl, rfl⟩)
  · have hq2 : (alive10_F) = true := (bnF hc2)
    have hp2 : (alive10_F) = true := hq2
    rw [if_pos hp2] at h
    refine xw_cond_f rfl rfl (xw_skip (xq_then (xw_seq (xw_seq ?_))))
    refine xw_cut [(0, _), (1, _), (2, _)] (lc rfl (lc rfl (lc rfl ln))) [(29, .bool ((decide (40 < (l0.length : Int))) || (decide (40 < (more1.length : Int)))))] ?_ ?_
    · refine xw_region ?_
      refine xq rfl trivial (o_mv rfl) ?_
      refine xq rfl trivial (o_lenL rfl Try.underlying22 rfl (SL.val hs0)) ?_
      refine xq rfl trivial (o_gtr rfl rfl) ?_
      refine xq rfl trivial (o_mv rfl) ?_
      refine xo_bool 25 rfl (fun hg3 => ?_) (fun hg3 => ?_)
      · have hq3 : (decide (40 < (l0.length : Int))) = true := hg3
        have hp3 : 40 < (l0.length : Int) := of_decide_eq_true hq3
        refine xs rfl ⟨_, _, rfl, rfl, rfl⟩ (xs rfl ⟨_, _, rfl, rfl, rfl⟩ (xs rfl ⟨_, _, rfl, rfl, rfl⟩ ?_))
        refine xq rfl trivial (o_pick_t rfl rfl) ?_
        refine xo_nil ?_
        exact xq_cut ((lce rfl (by first | rfl | (simp only [hq2, hq3, if_pos hp2, if_pos hp3, bS]; done) | (simp only [hq2, hq3, if_pos hp2, if_pos hp3, bS, reduceIte, Bool.false_eq_true]; done) | (simp [hp2, hp3]; done) | (simp_all; done)) (lc rfl (lc rfl (lc rfl ln))))) (fun _ h => h)
      · have hq3 : (decide (40 < (l0.length : Int))) = false := hg3
        have hp3 : ¬ (40 < (l0.length : Int)) := of_decide_eq_false hq3
        refine xq rfl ⟨_, rfl, rfl⟩ (o_mv rfl) ?_
        refine xq rfl ⟨_, rfl, rfl⟩ (o_lenL rfl Try.underlying22 rfl (SL.val hs1)) ?_
        refine xq rfl ⟨_, rfl, rfl⟩ (o_gtr rfl rfl) ?_
        refine xq rfl trivial (o_pick_f rfl rfl) ?_
        refine xo_nil ?_
        exact xq_cut ((lce rfl (by first | rfl | (simp only [hq2, hq3, if_pos hp2, if_neg hp3, bS]; done) | (simp only [hq2, hq3, if_pos hp2, if_neg hp3, bS, reduceIte, Bool.false_eq_true]; done) | (simp [hp2, hp3]; done) | (simp_all; done)) (lc rfl (lc rfl (lc rfl ln))))) (fun _ h => h)
    · refine xq_then ?_
      refine xw_bool 29 rfl (fun hc4 => ?_) (fun hc4 => ?_)
      · have hq4 : ((decide (40 < (l0.length : Int))) || (decide (40 < (more1.length : Int)))) = true := hc4
        have hp4 : ((decide (40 < (l0.length : Int))) || (decide (40 < (more1.length : Int)))) = true := hq4
        rw [if_pos hp4] at h
        refine xw_cond_t rfl rfl (xw_seq (xw_region ?_))
        refine xq rfl trivial (o_as rfl) ?_
        refine xo_nil (xq_then (xw_ret (xq_then_ret ?_)))
        subst h
        exact con_ret1 (.inl rfl) Try.results5 rfl [] (fun _ h => h) (⟨rfl, rfl⟩)
      · have hq4 : ((decide (40 < (l0.length : Int))) || (decide (40 < (more1.length : Int)))) = false := hc4
        have hp4 : ¬ (((decide (40 < (l0.length : Int))) || (decide (40 < (more1.length : Int)))) = true) := bne' hq4
        rw [if_neg hp4] at h
        refine xw_cond_f rfl rfl (xw_skip (xq_then (xw_seq (xw_region ?_))))
        refine xo rfl trivial (o_bsl el22 ze32 rfl rfl rfl (.nil _)) ?_
        rintro _ _ ⟨b30, hb30, rfl, rfl⟩
        refine xq rfl trivial (o_mv rfl) ?_
        obtain ⟨ho6, h⟩ := h
        refine xo rfl trivial (OT.st (fun _ h => Pull.st (.hereC _ _) h) (o_appJ (l := []) (l' := l0) (B := [_]) ap22 rfl rfl (OJ.lit (l := []) (List.Mem.head _) rfl (by omega) (by simp [maxLen]) (by exact (fun i hi => match i, hi with  | q + 0, h => absurd h (by omega)))) (fun w2 hw2 => (hs0.keep hw2 (Fr.seg (Cov.new hb30) Fr.nil))) (fun _ _ => rfl) ho6 (len_max ho6 (by decide)))) ?_
        rintro vs5 _ ⟨Bs5, rfl, hns5, hJs5⟩
        have hcBs5 := Cov.trans (Cov.new hb30) hns5
        refine xq rfl trivial (o_mv rfl) ?_
        obtain ⟨ho8, h⟩ := h
        refine xo rfl trivial (OT.st (fun _ h => Pull.st (.here _ _) h) (o_appJ (l := ([] ++ l0)) (l' := more1) (B := Bs5) ap22 rfl rfl hJs5 (fun w2 hw2 => (hs1.keep hw2 (Fr.seg hcBs5 Fr.nil))) (fun _ _ => rfl) ho8 (len_max ho8 (by decide)))) ?_
        rintro vs7 _ ⟨Bs7, rfl, hns7, hJs7⟩
        have hcBs7 := Cov.trans hcBs5 hns7
        refine xq rfl trivial (o_as rfl) ?_
        refine xo_nil (xq_then (xw_seq (xw_region ?_)))
        refine xq rfl trivial (o_as rfl) ?_
        refine xo_nil (xq_then (xw_seq (xw_seq (xw_region ?_))))
        refine xq rfl trivial (o_as rfl) ?_
        refine xo_nil (xq_then ?_)
        refine xw_block ?_
        obtain ⟨turned8, hx1, h⟩ := h
        refine xw_wh (fun s e H => match s with | (turned8, i9) => ∃ (v8_1 : Value) (B8_1 : GH), e = [(0, v0), (2, .int .i64 from2), (7, vs7), (8, v8_1), (9, .int .i64 i9)] ∧ H = B8_1 ++ (Bs7 ++ ([])) ∧ OJ 32 4 iv B8_1 v8_1 turned8 ∧ Cov w [] B8_1) (fun (turned8 : (List (Nat → Int))) ex e H => ∃ (v8_1o : Value) (B8_1o : GH), ex = .exit 0 ∧ e = [(0, v0), (2, .int .i64 from2), (7, vs7), (8, v8_1o)] ∧ H = B8_1o ++ (Bs7 ++ ([])) ∧ OJ 32 4 iv B8_1o v8_1o turned8 ∧ Cov w [] B8_1o) hx1 ⟨[(0, v0), (2, .int .i64 from2), (7, vs7), (8, .slice none 0 0), (9, .int .i64 0)], [] ++ (Bs7 ++ ([])), (lc rfl (lc rfl (lc rfl (lc rfl (lc rfl ln))))), fun _ h => h, ⟨_, [], rfl, rfl, OJ.nil, (Cov.refl _)⟩⟩ ?_ ?_
        · rintro ⟨turned8, i9⟩ o _ _ ⟨v8_1, B8_1, rfl, rfl, hJ8_1, hcB8_1⟩ hb
          have h : more10_l1 l0 turned8 i9 o := hb
          clear hb
          unfold more10_l1 at h
          refine xw_seq (xw_seq (xw_region ?_))
          refine xq rfl trivial (o_mv rfl) ?_
          refine xq rfl trivial (o_mv rfl) ?_
          refine xq rfl trivial (o_lenL rfl Try.underlying22 rfl (SL.val hs0)) ?_
          refine xq rfl trivial (o_lss rfl rfl) ?_
          refine xo_nil (xq_then ?_)
          refine xw_bool 38 rfl (fun hc9 => ?_) (fun hc9 => ?_)
          · have hq9 : (decide (i9 < (l0.length : Int))) = true := hc9
            have hp9 : i9 < (l0.length : Int) := of_decide_eq_true hq9
            rw [if_pos hp9] at h
            refine xw_cond_t rfl rfl (xw_skip (xq_then (xw_seq ?_)))
            refine xw_block ?_
            refine xd_start (by kernel_rfl) (by kernel_rfl) (fun hok => ?_)
            refine xd_b hok 0 [(8, _)] ([]) rsN rfl rfl rfl (lc rfl ln) (by kernel_rfl) trivial (fun H' hy hK => o_mv rfl) ?_
            refine xd_b hok 1 [(0, _)] ([]) rsN rfl rfl rfl (lc rfl ln) (by kernel_rfl) trivial (fun H' hy hK => o_mv rfl) ?_
            refine xd_b hok 2 [(9, _)] ([]) rsN rfl rfl rfl (lc rfl ln) (by kernel_rfl) trivial (fun H' hy hK => o_mv rfl) ?_
            obtain ⟨ho10, h⟩ := h
            refine xd_b hok 3 [(42, _), (43, _)] ([]) rsN rfl rfl rfl (lc rfl (lc rfl ln)) (by kernel_rfl) trivial (fun H' hy hK => o_ixL el22 rfl rfl (fun w hw => (hs0.keep hw (fun k hk => (hK k hk).elim (fun h => (Fr.seg hcB8_1 (Fr.seg hcBs7 Fr.nil)) k h) id))) rfl ho10) ?_
            refine xd_b hok 4 [(44, _)] ([]) rsN rfl rfl rfl (lc rfl ln) (by kernel_rfl) trivial (fun H' hy hK => o_faL fl32_2 rfl rfl (fun w hw => (hs0.keep hw (fun k hk => (hK k hk).elim (fun h => (Fr.seg hcB8_1 (Fr.seg hcBs7 Fr.nil)) k h) id))) (toNat_lt ho10)) ?_
            refine xd_b hok 5 [(45, _)] ([]) rsN rfl rfl rfl (lc rfl ln) (by kernel_rfl) trivial (fun H' hy hK => o_ldL1 (off := 2) (u := .int .i64 (l0[i9.toNat]! 2)) rfl ts3 rfl (fun w hw => (hs0.keep hw (fun k hk => (hK k hk).elim (fun h => (Fr.seg hcB8_1 (Fr.seg hcBs7 Fr.nil)) k h) id))) (toNat_lt ho10) rfl rfl) ?_
            refine xd_b hok 6 [(0, _)] ([]) rsN rfl rfl rfl (lc rfl ln) (by kernel_rfl) trivial (fun H' hy hK => o_mv rfl) ?_
            refine xd_b hok 7 [(9, _)] ([]) rsN rfl rfl rfl (lc rfl ln) (by kernel_rfl) trivial (fun H' hy hK => o_mv rfl) ?_
            obtain ⟨ho11, h⟩ := h
            refine xd_b hok 8 [(47, _), (48, _)] ([]) rsN rfl rfl rfl (lc rfl (lc rfl ln)) (by kernel_rfl) trivial (fun H' hy hK => o_ixL el22 rfl rfl (fun w hw => (hs0.keep hw (fun k hk => (hK k hk).elim (fun h => (Fr.seg hcB8_1 (Fr.seg hcBs7 Fr.nil)) k h) id))) rfl ho11) ?_
            refine xd_b hok 9 [(49, _)] ([]) rsN rfl rfl rfl (lc rfl ln) (by kernel_rfl) trivial (fun H' hy hK => o_faL fl32_0 rfl rfl (fun w hw => (hs0.keep hw (fun k hk => (hK k hk).elim (fun h => (Fr.seg hcB8_1 (Fr.seg hcBs7 Fr.nil)) k h) id))) (toNat_lt ho11)) ?_
            refine xd_b hok 10 [(50, _)] ([]) rsN rfl rfl rfl (lc rfl ln) (by kernel_rfl) trivial (fun H' hy hK => o_ldL1 (off := 0) (u := .int .i64 (l0[i9.toNat]! 0)) rfl ts3 rfl (fun w hw => (hs0.keep hw (fun k hk => (hK k hk).elim (fun h => (Fr.seg hcB8_1 (Fr.seg hcBs7 Fr.nil)) k h) id))) (toNat_lt ho11) rfl rfl) ?_
            refine xd_b hok 11 [(46, _), (51, _)] ([]) rsN rfl rfl rfl (lc rfl (lc rfl ln)) (by kernel_rfl) trivial (fun H' hy hK => o_build fk32 ze32 (.int fl32_0 rfl rfl (.int fl32_2 rfl rfl (.nil _)))) ?_
            refine xd_step hok 12 [(52, _)] rfl rfl (by kernel_rfl) (lc rfl ln) (by kernel_rfl) trivial (o_bsl el22 ze32 rfl rfl rfl (.ints rfl rfl (.nil _))) ?_
            rintro _ _ ⟨b53, hb53, rfl, rfl⟩
            refine ⟨(rsA rsN (rsA rsN (rsA rsN (rsA rsN (rsA rsN (rsA rsN (rsA rsN (rsA rsN (rsA rsN (rsA rsN (rsA rsN (rsA rsN rsN)))))))))))), (Ks.consN hb53 (Ks.segK (fun k hk => by simp [hk]) (Ks.segK (fun k hk => by simp [hk]) Ks.nil))), ?_⟩
            obtain ⟨ho13, h⟩ := h
            refine xd_fl hok 5 13 [(41, _), (53, _)] rfl rfl (by kernel_rfl) (by kernel_rfl) (lc rfl (lc rfl ln)) (by kernel_rfl) trivial (OT.push (fun q_ => (b53, BK 4 _ 32) :: (q_ ++ (Bs7 ++ ([])))) (fun _ => (.thereC _ (.here _ _))) (OT.st (fun _ h => Pull.st (.thereC _ (.here _ _)) h) (o_appJ (l := turned8) (l' := [(updI (updI (fun _ => 0) 0 (l0[i9.toNat]! 2)) 2 (l0[i9.toNat]! 0))]) (B := B8_1) ap22 rfl rfl hJ8_1 (fun w2 hw2 => (SL.lit (l := [(updI (updI (fun _ => 0) 0 (l0[i9.toNat]! 2)) 2 (l0[i9.toNat]! 0))]) hw2 (List.mem_append_right _ (List.Mem.head _)) rfl (by omega) (by simp [maxLen]) (by exact (fun i hi => match i, hi with | 0, _ => rfl | 1, _ => rfl | 2, _ => rfl | 3, _ => rfl | q + 4, h => absurd h (by omega))))) (fun _ _ => rfl) ho13 (len_max ho13 (by decide))))) ?_
            rintro vs12 _ ⟨Bs12, rfl, hns12, hJs12⟩
            have hcBs12 := Cov.trans hcB8_1 hns12
            refine ⟨(Ks.consN hb53 (Ks.segN hcBs12 (Ks.segK (fun k hk => by simp [hk]) Ks.nil))), ?_⟩
            refine xd_show (H' := (b53, BK 4 _ 32) :: (Bs12 ++ (Bs7 ++ ([])))) rfl ?_
            refine xd_b hok 14 [(54, _)] ([]) rsN rfl rfl rfl (lc rfl ln) (by kernel_rfl) trivial (fun H' hy hK => o_as rfl) ?_
            refine xd_end hok (by kernel_rfl) ?_
            refine xq_blk 1 ?_
            refine xq_then (xw_region ?_)
            refine xq rfl trivial (o_mv rfl) ?_
            obtain ⟨ho14, h⟩ := h
            refine xq rfl trivial (o_add rfl rfl rfl ho14) ?_
            refine xq rfl trivial (o_as rfl) ?_
            refine xo_nil ?_
            exact xq_next (s' := (((turned8 ++ [(updI (updI (fun _ => 0) 0 (l0[i9.toNat]! 2)) 2 (l0[i9.toNat]! 0))]), i9 + 1) : (List (Nat → Int)) × Int)) (e' := [(0, v0), (2, .int .i64 from2), (7, vs7), (8, vs12), (9, .int .i64 (i9 + 1))]) (Bs12 ++ (Bs7 ++ ([]))) (lc rfl (lc rfl (lc rfl (lc rfl (lc rfl ln))))) (Kp.st (Kp.new hb53 (Kp.segKeep (Kp.segKeep Kp.nil)))) h ⟨vs12, Bs12, rfl, rfl, hJs12, hcBs12⟩
          · have hq9 : (decide (i9 < (l0.length : Int))) = false := hc9
            have hp9 : ¬ (i9 < (l0.length : Int)) := of_decide_eq_false hq9
            rw [if_neg hp9] at h
            refine xw_cond_f rfl rfl (xw_exit (xq_then_exit ?_))
            exact xq_out (r := (turned8 : (List (Nat → Int)))) (e' := [(0, v0), (2, .int .i64 from2), (7, vs7), (8, v8_1)]) (B8_1 ++ (Bs7 ++ ([]))) (lc rfl (lc rfl (lc rfl (lc rfl ln)))) (fun _ h => h) h (by intro hh; cases hh) ⟨v8_1, B8_1, rfl, rfl, rfl, hJ8_1, hcB8_1⟩
        · rintro _ _ _ ⟨v8_1o, B8_1o, rfl, rfl, rfl, hJ8_1o, hcB8_1o⟩
          replace h : more10_k1a l0 more1 from2 turned8 r := h
          unfold more10_k1a at h
          refine xq_blk_eq ?_
          refine xq_then (xw_seq (xw_seq (xw_region ?_)))
          refine xq rfl trivial (o_mv rfl) ?_
          obtain ⟨ho15, h⟩ := h
          refine xcall rfl trivial kf12 rfl (fun w1 hw1 => gcirc_c _ _ w1 (hJ8_1o.sl hw1 (Pull.sub (.here _ _))) ho15) ?_
          rintro w1 vs16 _ hw1 ⟨_, Bs16, rfl, rfl, hJs16, hcBs16⟩
          refine ⟨_, Mg.news (Cov.fresh hcBs16) (.nil _), ?_⟩
          replace hcBs16 := Cov.base (w0 := w) hcBs16 hw1.size
          refine xq rfl trivial (o_mv rfl) ?_
          obtain ⟨ho17, h⟩ := h
          refine xcall rfl trivial kf12 rfl (fun w1 hw1 => gcirc_c _ _ w1 (hs0.keep hw1 (Fr.seg hcBs16 (Fr.seg hcB8_1o (Fr.seg hcBs7 Fr.nil)))) ho17) ?_
          rintro w1 vs18 _ hw1 ⟨_, Bs18, rfl, rfl, hJs18, hcBs18⟩
          refine ⟨_, Mg.news (Cov.fresh hcBs18) (.nil _), ?_⟩
          replace hcBs18 := Cov.base (w0 := w) hcBs18 hw1.size
          obtain ⟨ho19, h⟩ := h
          refine xcallq rfl trivial kf9 rfl (fun w1 hw1 => ints_c _ _ _ _ w1 (hJs16.sl hw1 (Pull.sub (.there _ (.here _ _)))) (hJs18.sl hw1 (Pull.sub (.here _ _))) ho19) ?_
          refine xq rfl trivial (o_not rfl) ?_
          refine xo_nil (xq_then ?_)
          refine xw_bool 60 rfl (fun hc20 => ?_) (fun hc20 => ?_)
          · have hq20 : ((ints_F (gcirc_F turned8) (gcirc_F l0))) = false := (bnT hc20)
            have hp20 : ¬ (((ints_F (gcirc_F turned8) (gcirc_F l0))) = true) := bne' hq20
            rw [if_neg hp20] at h
            refine xw_cond_t rfl rfl (xw_seq (xw_region ?_))
            refine xq rfl trivial (o_as rfl) ?_
            refine xo_nil (xq_then (xw_ret (xq_then_ret ?_)))
            subst h
            exact con_ret1 (.inl rfl) Try.results5 rfl [] (Kp.st (Kp.segNew (Cov.fresh hcBs18) (Kp.segNew (Cov.fresh hcBs16) (Kp.segNew (Cov.fresh hcB8_1o) (Kp.segNew (Cov.fresh hcBs7) Kp.nil))))) (⟨rfl, rfl⟩)
          · have hq20 : ((ints_F (gcirc_F turned8) (gcirc_F l0))) = true := (bnF hc20)
            have hp20 : ((ints_F (gcirc_F turned8) (gcirc_F l0))) = true := hq20
            rw [if_pos hp20] at h
            refine xw_cond_f rfl rfl (xw_skip (xq_then (xw_seq (xw_region ?_))))
            refine xo rfl trivial (o_mkmap (α := Bool) (cv := kB) kt3 Try.underlying33) ?_
            rintro vs21 _ ⟨Bs21, rfl, hns21, hJs21⟩
            have hcBs21 := hns21
            refine xq rfl trivial (o_as rfl) ?_
            refine xo_nil (xq_then (xw_seq (xw_seq (xw_region ?_))))
            refine xq rfl trivial (o_mv rfl) ?_
            refine xq rfl trivial (o_mv rfl) ?_
            obtain ⟨ho22, h⟩ := h
            refine xcall rfl trivial kf10 rfl (fun w1 hw1 => greach_c _ _ _ w1 (hJs7.sl hw1 (Pull.sub (.there _ (.there _ (.there _ (.there _ (.here _ _))))))) ho22) ?_
            rintro w1 vs23 _ hw1 ⟨_, Bs23, rfl, rfl, hJs23, hcBs23⟩
            refine ⟨_, Mg.news (Cov.fresh hcBs23) (.nil _), ?_⟩
            replace hcBs23 := Cov.base (w0 := w) hcBs23 hw1.size
            refine xq rfl trivial (o_lenL rfl Try.underlying25 rfl (OJ.val hJs23)) ?_
            refine xq rfl trivial (o_mv rfl) ?_
            refine xo_nil (xq_then ?_)
            refine xw_block ?_
            obtain ⟨in10, hx2, h⟩ := h
            refine xw_wh (fun s e H => match s with | (in10, x66) => ∃ (v10_2 : Value) (B10_2 : GH), e = [(0, v0), (2, .int .i64 from2), (7, vs7), (10, v10_2), (64, vs23), (65, .int .i64 ((greach_F (([] ++ l0) ++ more1) from2).length : Int)), (66, .int .i64 x66)] ∧ H = Bs23 ++ (B10_2 ++ (Bs7 ++ ([]))) ∧ MJ kI kB ieq B10_2 v10_2 in10 ∧ Cov w [] B10_2) (fun (in10 : (List (Int × Bool))) ex e H => ∃ (v10_2o : Value) (B10_2o : GH), ex = .exit 2 ∧ e = [(0, v0), (2, .int .i64 from2), (7, vs7), (10, v10_2o)] ∧ H = Bs23 ++ (B10_2o ++ (Bs7 ++ ([]))) ∧ MJ kI kB ieq B10_2o v10_2o in10 ∧ Cov w [] B10_2o) hx2 ⟨[(0, v0), (2, .int .i64 from2), (7, vs7), (10, vs21), (64, vs23), (65, .int .i64 ((greach_F (([] ++ l0) ++ more1) from2).length : Int)), (66, .int .i64 0)], Bs23 ++ (Bs21 ++ (Bs7 ++ ([]))), (lc rfl (lc rfl (lc rfl (lc rfl (lc rfl (lc rfl (lc rfl ln))))))), Kp.st (Kp.segKeep (Kp.segKeep (Kp.segNew (Cov.fresh hcBs18) (Kp.segNew (Cov.fresh hcBs16) (Kp.segNew (Cov.fresh hcB8_1o) (Kp.segKeep Kp.nil)))))), ⟨vs21, Bs21, rfl, rfl, hJs21, hcBs21⟩⟩ ?_ ?_
            · rintro ⟨in10, x66⟩ o _ _ ⟨v10_2, B10_2, rfl, rfl, hJ10_2, hcB10_2⟩ hb
              have h : more10_l2 l0 more1 from2 in10 x66 o := hb
              clear hb
              unfold more10_l2 at h
              refine xw_seq (xw_region ?_)
              refine xq rfl trivial (o_lss rfl rfl) ?_
              refine xo_nil (xq_then (xw_seq ?_))
              refine xw_bool 67 rfl (fun hc24 => ?_) (fun hc24 => ?_)
              · have hq24 : (decide (x66 < ((greach_F (([] ++ l0) ++ more1) from2).length : Int))) = true := hc24
                have hp24 : x66 < ((greach_F (([] ++ l0) ++ more1) from2).length : Int) := of_decide_eq_true hq24
                rw [if_pos hp24] at h
                refine xw_cond_t rfl rfl (xw_skip (xq_then (xw_seq ?_)))
                refine xw_block ?_
                refine xw_seq (xw_region ?_)
                obtain ⟨ho25, h⟩ := h
                refine xq rfl trivial (o_ixL el25 rfl rfl (fun w hw => (hJs23.sl hw (Pull.sub (.here _ _)))) rfl ho25) ?_
                refine xq rfl trivial (o_ldL1 (off := 0) (u := .int .i64 ((greach_F (([] ++ l0) ++ more1) from2)[x66.toNat]!)) rfl ts3 rfl (fun w hw => (hJs23.sl hw (Pull.sub (.here _ _)))) (toNat_lt ho25) rfl rfl) ?_
                refine xq rfl trivial (o_as rfl) ?_
                refine xo_nil (xq_then (xw_region ?_))
                refine xq rfl trivial (o_mv rfl) ?_
                refine xq rfl trivial (o_mv rfl) ?_
                refine xo0 trivial (OT.st (fun _ h => Pull.st (.there _ (.here _ _)) h) (o_mset (k := (greach_F (([] ++ l0) ++ more1) from2)[x66.toNat]!) (e := true) kt3 Try.underlying33 rfl rfl rfl hJ10_2)) ?_
                rintro _ _ ⟨Bs26, rfl, hns26, hJs26⟩
                have hcBs26 := Cov.trans hcB10_2 hns26
                refine xo_st (Bs23 ++ (Bs26 ++ (Bs7 ++ ([])))) (fun _ h => Pull.push (.there _ (.here _ _)) h) ?_
                refine xo_nil ?_
                refine xq_blk 3 ?_
                refine xq_then (xw_region ?_)
                obtain ⟨ho27, h⟩ := h
                refine xq rfl trivial (o_add rfl rfl rfl ho27) ?_
                refine xq rfl trivial (o_mv rfl) ?_
                refine xo_nil ?_
                exact xq_next (s' := ((mset ieq in10 ((greach_F (([] ++ l0) ++ more1) from2)[x66.toNat]!) true, x66 + 1) : (List (Int × Bool)) × Int)) (e' := [(0, v0), (2, .int .i64 from2), (7, vs7), (10, v10_2), (64, vs23), (65, .int .i64 ((greach_F (([] ++ l0) ++ more1) from2).length : Int)), (66, .int .i64 (x66 + 1))]) (Bs23 ++ (Bs26 ++ (Bs7 ++ ([])))) (lc rfl (lc rfl (lc rfl (lc rfl (lc rfl (lc rfl (lc rfl ln))))))) (fun _ h => h) h ⟨v10_2, Bs26, rfl, rfl, hJs26, hcBs26⟩
              · have hq24 : (decide (x66 < ((greach_F (([] ++ l0) ++ more1) from2).length : Int))) = false := hc24
                have hp24 : ¬ (x66 < ((greach_F (([] ++ l0) ++ more1) from2).length : Int)) := of_decide_eq_false hq24
                rw [if_neg hp24] at h
                refine xw_cond_f rfl rfl (xw_exit (xq_then_exit ?_))
                exact xq_out (r := (in10 : (List (Int × Bool)))) (e' := [(0, v0), (2, .int .i64 from2), (7, vs7), (10, v10_2)]) (Bs23 ++ (B10_2 ++ (Bs7 ++ ([])))) (lc rfl (lc rfl (lc rfl (lc rfl ln)))) (fun _ h => h) h (by intro hh; cases hh) ⟨v10_2, B10_2, rfl, rfl, rfl, hJ10_2, hcB10_2⟩
            · rintro _ _ _ ⟨v10_2o, B10_2o, rfl, rfl, rfl, hJ10_2o, hcB10_2o⟩
              replace h : more10_k2a l0 more1 from2 in10 r := h
              unfold more10_k2a at h
              refine xq_blk_eq ?_
              refine xq_then (xw_seq (xw_seq (xw_region ?_)))
              refine xq rfl trivial (o_mv rfl) ?_
              refine xq rfl trivial (o_mv rfl) ?_
              obtain ⟨ho28, h⟩ := h
              refine xcall rfl trivial kf10 rfl (fun w1 hw1 => greach_c _ _ _ w1 (hs0.keep hw1 (Fr.seg hcBs23 (Fr.seg hcB10_2o (Fr.seg hcBs7 Fr.nil)))) ho28) ?_
              rintro w1 vs29 _ hw1 ⟨_, Bs29, rfl, rfl, hJs29, hcBs29⟩
              refine ⟨_, Mg.news (Cov.fresh hcBs29) (.nil _), ?_⟩
              replace hcBs29 := Cov.base (w0 := w) hcBs29 hw1.size
              refine xq rfl trivial (o_lenL rfl Try.underlying25 rfl (OJ.val hJs29)) ?_
              refine xq rfl trivial (o_mv rfl) ?_
              refine xo_nil (xq_then ?_)
              refine xw_block ?_
              obtain ⟨x3, hx3, h⟩ := h
              refine xw_wh (fun (x77 : Int) e H => e = [(0, v0), (7, vs7), (10, v10_2o), (75, vs29), (76, .int .i64 ((greach_F l0 from2).length : Int)), (77, .int .i64 x77)] ∧ H = Bs29 ++ (B10_2o ++ (Bs7 ++ ([])))) (fun x ex e H => match x with | .inl _ => ex = .exit 4 ∧ e = [(0, v0), (7, vs7)] ∧ H = Bs29 ++ (B10_2o ++ (Bs7 ++ ([]))) | .inr _ => ex = .ret ∧ e = [(6, .bool false)] ∧ H = Bs29 ++ (B10_2o ++ (Bs7 ++ ([])))) hx3 ⟨[(0, v0), (7, vs7), (10, v10_2o), (75, vs29), (76, .int .i64 ((greach_F l0 from2).length : Int)), (77, .int .i64 0)], Bs29 ++ (B10_2o ++ (Bs7 ++ ([]))), (lc rfl (lc rfl (lc rfl (lc rfl (lc rfl (lc rfl ln)))))), Kp.st (Kp.segKeep (Kp.segNew (Cov.fresh hcBs23) (Kp.segKeep (Kp.segKeep Kp.nil)))), ⟨rfl, rfl⟩⟩ ?_ ?_
              · rintro x77 o _ _ ⟨rfl, rfl⟩ hb
                have h : more10_l3 l0 from2 in10 x77 o := hb
                clear hb
                unfold more10_l3 at h
                refine xw_seq (xw_region ?_)
                refine xq rfl trivial (o_lss rfl rfl) ?_
                refine xo_nil (xq_then (xw_seq ?_))
                refine xw_bool 78 rfl (fun hc30 => ?_) (fun hc30 => ?_)
                · have hq30 : (decide (x77 < ((greach_F l0 from2).length : Int))) = true := hc30
                  have hp30 : x77 < ((greach_F l0 from2).length : Int) := of_decide_eq_true hq30
                  rw [if_pos hp30] at h
                  refine xw_cond_t rfl rfl (xw_skip (xq_then (xw_seq ?_)))
                  refine xw_block ?_
                  refine xw_seq (xw_region ?_)
                  obtain ⟨ho31, h⟩ := h
                  refine xq rfl trivial (o_ixL el25 rfl rfl (fun w hw => (hJs29.sl hw (Pull.sub (.here _ _)))) rfl ho31) ?_
                  refine xq rfl trivial (o_ldL1 (off := 0) (u := .int .i64 ((greach_F l0 from2)[x77.toNat]!)) rfl ts3 rfl (fun w hw => (hJs29.sl hw (Pull.sub (.here _ _)))) (toNat_lt ho31) rfl rfl) ?_
                  refine xq rfl trivial (o_as rfl) ?_
                  refine xo_nil (xq_then (xw_seq (xw_region ?_)))
                  refine xq rfl trivial (o_mv rfl) ?_
                  refine xq rfl trivial (o_mv rfl) ?_
                  refine xq rfl trivial (o_lk (z := false) (k := (greach_F l0 from2)[x77.toNat]!) kt3 Try.underlying33 ze4 rfl rfl hJ10_2o (Pull.sub (.there _ (.here _ _)))) ?_
                  refine xq rfl trivial (o_not rfl) ?_
                  refine xo_nil (xq_then ?_)
                  refine xw_bool 84 rfl (fun hc32 => ?_) (fun hc32 => ?_)
                  · have hq32 : ((mget ieq in10 ((greach_F l0 from2)[x77.toNat]!) false)) = false := (bnT hc32)
                    have hp32 : ¬ (((mget ieq in10 ((greach_F l0 from2)[x77.toNat]!) false)) = true) := bne' hq32
                    rw [if_neg hp32] at h
                    refine xw_cond_t rfl rfl (xw_seq (xw_region ?_))
                    refine xq rfl trivial (o_as rfl) ?_
                    refine xo_nil (xq_then (xw_ret (xq_blk_ret (xq_then_ret ?_))))
                    exact xq_out (r := (.inr () : (Unit) ⊕ (Unit))) (e' := [(6, .bool false)]) (Bs29 ++ (B10_2o ++ (Bs7 ++ ([])))) (lc rfl ln) (fun _ h => h) h (by intro hh; cases hh) ⟨rfl, rfl, rfl⟩
                  · have hq32 : ((mget ieq in10 ((greach_F l0 from2)[x77.toNat]!) false)) = true := (bnF hc32)
                    have hp32 : ((mget ieq in10 ((greach_F l0 from2)[x77.toNat]!) false)) = true := hq32
                    rw [if_pos hp32] at h
                    refine xw_cond_f rfl rfl (xw_skip ?_)
                    refine xq_blk 5 ?_
                    refine xq_then (xw_region ?_)
                    obtain ⟨ho33, h⟩ := h
                    refine xq rfl trivial (o_add rfl rfl rfl ho33) ?_
                    refine xq rfl trivial (o_mv rfl) ?_
                    refine xo_nil ?_
                    exact xq_next (s' := (x77 + 1 : Int)) (e' := [(0, v0), (7, vs7), (10, v10_2o), (75, vs29), (76, .int .i64 ((greach_F l0 from2).length : Int)), (77, .int .i64 (x77 + 1))]) (Bs29 ++ (B10_2o ++ (Bs7 ++ ([])))) (lc rfl (lc rfl (lc rfl (lc rfl (lc rfl (lc rfl ln)))))) (fun _ h => h) h ⟨rfl, rfl⟩
                · have hq30 : (decide (x77 < ((greach_F l0 from2).length : Int))) = false := hc30
                  have hp30 : ¬ (x77 < ((greach_F l0 from2).length : Int)) := of_decide_eq_false hq30
                  rw [if_neg hp30] at h
                  refine xw_cond_f rfl rfl (xw_exit (xq_then_exit ?_))
                  exact xq_out (r := (.inl () : (Unit) ⊕ (Unit))) (e' := [(0, v0), (7, vs7)]) (Bs29 ++ (B10_2o ++ (Bs7 ++ ([])))) (lc rfl (lc rfl ln)) (fun _ h => h) h (by intro hh; cases hh) ⟨rfl, rfl, rfl⟩
              · rcases x3 with _ | x3
                · rintro _ _ _ ⟨rfl, rfl, rfl⟩
                  replace h : more10_k3a l0 more1 r := h
                  unfold more10_k3a at h
                  refine xq_blk_eq ?_
                  refine xq_then (xw_seq (xw_region ?_))
                  refine xo rfl trivial (o_mkmap (α := Bool) (cv := kB) kt3 Try.underlying33) ?_
                  rintro vs34 _ ⟨Bs34, rfl, hns34, hJs34⟩
                  have hcBs34 := hns34
                  refine xq rfl trivial (o_as rfl) ?_
                  refine xo_nil (xq_then (xw_seq (xw_seq (xw_region ?_))))
                  refine xq rfl trivial (o_mv rfl) ?_
                  obtain ⟨ho35, h⟩ := h
                  refine xcall rfl trivial kf12 rfl (fun w1 hw1 => gcirc_c _ _ w1 (hJs7.sl hw1 (Pull.sub (.there _ (.there _ (.there _ (.here _ _)))))) ho35) ?_
                  rintro w1 vs36 _ hw1 ⟨_, Bs36, rfl, rfl, hJs36, hcBs36⟩
                  refine ⟨_, Mg.news (Cov.fresh hcBs36) (.nil _), ?_⟩
                  replace hcBs36 := Cov.base (w0 := w) hcBs36 hw1.size
                  refine xq rfl trivial (o_lenL rfl Try.underlying25 rfl (OJ.val hJs36)) ?_
                  refine xq rfl trivial (o_mv rfl) ?_
                  refine xo_nil (xq_then ?_)
                  refine xw_block ?_
                  obtain ⟨on15, hx4, h⟩ := h
                  refine xw_wh (fun s e H => match s with | (on15, x90) => ∃ (v15_4 : Value) (B15_4 : GH), e = [(0, v0), (15, v15_4), (88, vs36), (89, .int .i64 ((gcirc_F (([] ++ l0) ++ more1)).length : Int)), (90, .int .i64 x90)] ∧ H = Bs36 ++ (B15_4 ++ ([])) ∧ MJ kI kB ieq B15_4 v15_4 on15 ∧ Cov w [] B15_4) (fun (on15 : (List (Int × Bool))) ex e H => ∃ (v15_4o : Value) (B15_4o : GH), ex = .exit 6 ∧ e = [(0, v0), (15, v15_4o)] ∧ H = Bs36 ++ (B15_4o ++ ([])) ∧ MJ kI kB ieq B15_4o v15_4o on15 ∧ Cov w [] B15_4o) hx4 ⟨[(0, v0), (15, vs34), (88, vs36), (89, .int .i64 ((gcirc_F (([] ++ l0) ++ more1)).length : Int)), (90, .int .i64 0)], Bs36 ++ (Bs34 ++ ([])), (lc rfl (lc rfl (lc rfl (lc rfl (lc rfl ln))))), Kp.st (Kp.segKeep (Kp.segKeep (Kp.segNew (Cov.fresh hcBs29) (Kp.segNew (Cov.fresh hcB10_2o) (Kp.segNew (Cov.fresh hcBs7) Kp.nil))))), ⟨vs34, Bs34, rfl, rfl, hJs34, hcBs34⟩⟩ ?_ ?_
                  · rintro ⟨on15, x90⟩ o _ _ ⟨v15_4, B15_4, rfl, rfl, hJ15_4, hcB15_4⟩ hb
                    have h : more10_l4 l0 more1 on15 x90 o := hb
                    clear hb
                    unfold more10_l4 at h
                    refine xw_seq (xw_region ?_)
                    refine xq rfl trivial (o_lss rfl rfl) ?_
                    refine xo_nil (xq_then (xw_seq ?_))
                    refine xw_bool 91 rfl (fun hc37 => ?_) (fun hc37 => ?_)
                    · have hq37 : (decide (x90 < ((gcirc_F (([] ++ l0) ++ more1)).length : Int))) = true := hc37
                      have hp37 : x90 < ((gcirc_F (([] ++ l0) ++ more1)).length : Int) := of_decide_eq_true hq37
                      rw [if_pos hp37] at h
                      refine xw_cond_t rfl rfl (xw_skip (xq_then (xw_seq ?_)))
                      refine xw_block ?_
                      refine xw_seq (xw_region ?_)
                      obtain ⟨ho38, h⟩ := h
                      refine xq rfl trivial (o_ixL el25 rfl rfl (fun w hw => (hJs36.sl hw (Pull.sub (.here _ _)))) rfl ho38) ?_
                      refine xq rfl trivial (o_ldL1 (off := 0) (u := .int .i64 ((gcirc_F (([] ++ l0) ++ more1))[x90.toNat]!)) rfl ts3 rfl (fun w hw => (hJs36.sl hw (Pull.sub (.here _ _)))) (toNat_lt ho38) rfl rfl) ?_
                      refine xq rfl trivial (o_as rfl) ?_
                      refine xo_nil (xq_then (xw_region ?_))
                      refine xq rfl trivial (o_mv rfl) ?_
                      refine xq rfl trivial (o_mv rfl) ?_
                      refine xo0 trivial (OT.st (fun _ h => Pull.st (.there _ (.here _ _)) h) (o_mset (k := (gcirc_F (([] ++ l0) ++ more1))[x90.toNat]!) (e := true) kt3 Try.underlying33 rfl rfl rfl hJ15_4)) ?_
                      rintro _ _ ⟨Bs39, rfl, hns39, hJs39⟩
                      have hcBs39 := Cov.trans hcB15_4 hns39
                      refine xo_st (Bs36 ++ (Bs39 ++ ([]))) (fun _ h => Pull.push (.there _ (.here _ _)) h) ?_
                      refine xo_nil ?_
                      refine xq_blk 7 ?_
                      refine xq_then (xw_region ?_)
                      obtain ⟨ho40, h⟩ := h
                      refine xq rfl trivial (o_add rfl rfl rfl ho40) ?_
                      refine xq rfl trivial (o_mv rfl) ?_
                      refine xo_nil ?_
                      exact xq_next (s' := ((mset ieq on15 ((gcirc_F (([] ++ l0) ++ more1))[x90.toNat]!) true, x90 + 1) : (List (Int × Bool)) × Int)) (e' := [(0, v0), (15, v15_4), (88, vs36), (89, .int .i64 ((gcirc_F (([] ++ l0) ++ more1)).length : Int)), (90, .int .i64 (x90 + 1))]) (Bs36 ++ (Bs39 ++ ([]))) (lc rfl (lc rfl (lc rfl (lc rfl (lc rfl ln))))) (fun _ h => h) h ⟨v15_4, Bs39, rfl, rfl, hJs39, hcBs39⟩
                    · have hq37 : (decide (x90 < ((gcirc_F (([] ++ l0) ++ more1)).length : Int))) = false := hc37
                      have hp37 : ¬ (x90 < ((gcirc_F (([] ++ l0) ++ more1)).length : Int)) := of_decide_eq_false hq37
                      rw [if_neg hp37] at h
                      refine xw_cond_f rfl rfl (xw_exit (xq_then_exit ?_))
                      exact xq_out (r := (on15 : (List (Int × Bool)))) (e' := [(0, v0), (15, v15_4)]) (Bs36 ++ (B15_4 ++ ([]))) (lc rfl (lc rfl ln)) (fun _ h => h) h (by intro hh; cases hh) ⟨v15_4, B15_4, rfl, rfl, rfl, hJ15_4, hcB15_4⟩
                  · rintro _ _ _ ⟨v15_4o, B15_4o, rfl, rfl, rfl, hJ15_4o, hcB15_4o⟩
                    replace h : more10_k4a l0 on15 r := h
                    unfold more10_k4a at h
                    refine xq_blk_eq ?_
                    refine xq_then (xw_seq (xw_seq (xw_region ?_)))
                    refine xq rfl trivial (o_mv rfl) ?_
                    obtain ⟨ho41, h⟩ := h
                    refine xcall rfl trivial kf12 rfl (fun w1 hw1 => gcirc_c _ _ w1 (hs0.keep hw1 (Fr.seg hcBs36 (Fr.seg hcB15_4o Fr.nil))) ho41) ?_
                    rintro w1 vs42 _ hw1 ⟨_, Bs42, rfl, rfl, hJs42, hcBs42⟩
                    refine ⟨_, Mg.news (Cov.fresh hcBs42) (.nil _), ?_⟩
                    replace hcBs42 := Cov.base (w0 := w) hcBs42 hw1.size
                    refine xq rfl trivial (o_lenL rfl Try.underlying25 rfl (OJ.val hJs42)) ?_
                    refine xq rfl trivial (o_mv rfl) ?_
                    refine xo_nil (xq_then ?_)
                    refine xw_block ?_
                    obtain ⟨x5, hx5, h⟩ := h
                    refine xw_wh (fun (x100 : Int) e H => e = [(15, v15_4o), (98, vs42), (99, .int .i64 ((gcirc_F l0).length : Int)), (100, .int .i64 x100)] ∧ H = Bs42 ++ (B15_4o ++ ([]))) (fun x ex e H => match x with | .inl _ => ex = .exit 8 ∧ e = [] ∧ H = Bs42 ++ (B15_4o ++ ([])) | .inr _ => ex = .ret ∧ e = [(6, .bool false)] ∧ H = Bs42 ++ (B15_4o ++ ([]))) hx5 ⟨[(15, v15_4o), (98, vs42), (99, .int .i64 ((gcirc_F l0).length : Int)), (100, .int .i64 0)], Bs42 ++ (B15_4o ++ ([])), (lc rfl (lc rfl (lc rfl (lc rfl ln)))), Kp.st (Kp.segKeep (Kp.segNew (Cov.fresh hcBs36) (Kp.segKeep Kp.nil))), ⟨rfl, rfl⟩⟩ ?_ ?_
                    · rintro x100 o _ _ ⟨rfl, rfl⟩ hb
                      have h : more10_l5 l0 on15 x100 o := hb
                      clear hb
                      unfold more10_l5 at h
                      refine xw_seq (xw_region ?_)
                      refine xq rfl trivial (o_lss rfl rfl) ?_
                      refine xo_nil (xq_then (xw_seq ?_))
                      refine xw_bool 101 rfl (fun hc43 => ?_) (fun hc43 => ?_)
                      · have hq43 : (decide (x100 < ((gcirc_F l0).length : Int))) = true := hc43
                        have hp43 : x100 < ((gcirc_F l0).length : Int) := of_decide_eq_true hq43
                        rw [if_pos hp43] at h
                        refine xw_cond_t rfl rfl (xw_skip (xq_then (xw_seq ?_)))
                        refine xw_block ?_
                        refine xw_seq (xw_region ?_)
                        obtain ⟨ho44, h⟩ := h
                        refine xq rfl trivial (o_ixL el25 rfl rfl (fun w hw => (hJs42.sl hw (Pull.sub (.here _ _)))) rfl ho44) ?_
                        refine xq rfl trivial (o_ldL1 (off := 0) (u := .int .i64 ((gcirc_F l0)[x100.toNat]!)) rfl ts3 rfl (fun w hw => (hJs42.sl hw (Pull.sub (.here _ _)))) (toNat_lt ho44) rfl rfl) ?_
                        refine xq rfl trivial (o_as rfl) ?_
                        refine xo_nil (xq_then (xw_seq (xw_region ?_)))
                        refine xq rfl trivial (o_mv rfl) ?_
                        refine xq rfl trivial (o_mv rfl) ?_
                        refine xq rfl trivial (o_lk (z := false) (k := (gcirc_F l0)[x100.toNat]!) kt3 Try.underlying33 ze4 rfl rfl hJ15_4o (Pull.sub (.there _ (.here _ _)))) ?_
                        refine xq rfl trivial (o_not rfl) ?_
                        refine xo_nil (xq_then ?_)
                        refine xw_bool 107 rfl (fun hc45 => ?_) (fun hc45 => ?_)
                        · have hq45 : ((mget ieq on15 ((gcirc_F l0)[x100.toNat]!) false)) = false := (bnT hc45)
                          have hp45 : ¬ (((mget ieq on15 ((gcirc_F l0)[x100.toNat]!) false)) = true) := bne' hq45
                          rw [if_neg hp45] at h
                          refine xw_cond_t rfl rfl (xw_seq (xw_region ?_))
                          refine xq rfl trivial (o_as rfl) ?_
                          refine xo_nil (xq_then (xw_ret (xq_blk_ret (xq_then_ret ?_))))
                          exact xq_out (r := (.inr () : (Unit) ⊕ (Unit))) (e' := [(6, .bool false)]) (Bs42 ++ (B15_4o ++ ([]))) (lc rfl ln) (fun _ h => h) h (by intro hh; cases hh) ⟨rfl, rfl, rfl⟩
                        · have hq45 : ((mget ieq on15 ((gcirc_F l0)[x100.toNat]!) false)) = true := (bnF hc45)
                          have hp45 : ((mget ieq on15 ((gcirc_F l0)[x100.toNat]!) false)) = true := hq45
                          rw [if_pos hp45] at h
                          refine xw_cond_f rfl rfl (xw_skip ?_)
                          refine xq_blk 9 ?_
                          refine xq_then (xw_region ?_)
                          obtain ⟨ho46, h⟩ := h
                          refine xq rfl trivial (o_add rfl rfl rfl ho46) ?_
                          refine xq rfl trivial (o_mv rfl) ?_
                          refine xo_nil ?_
                          exact xq_next (s' := (x100 + 1 : Int)) (e' := [(15, v15_4o), (98, vs42), (99, .int .i64 ((gcirc_F l0).length : Int)), (100, .int .i64 (x100 + 1))]) (Bs42 ++ (B15_4o ++ ([]))) (lc rfl (lc rfl (lc rfl (lc rfl ln)))) (fun _ h => h) h ⟨rfl, rfl⟩
                      · have hq43 : (decide (x100 < ((gcirc_F l0).length : Int))) = false := hc43
                        have hp43 : ¬ (x100 < ((gcirc_F l0).length : Int)) := of_decide_eq_false hq43
                        rw [if_neg hp43] at h
                        refine xw_cond_f rfl rfl (xw_exit (xq_then_exit ?_))
                        exact xq_out (r := (.inl () : (Unit) ⊕ (Unit))) (e' := []) (Bs42 ++ (B15_4o ++ ([]))) ln (fun _ h => h) h (by intro hh; cases hh) ⟨rfl, rfl, rfl⟩
                    · rcases x5 with _ | x5
                      · rintro _ _ _ ⟨rfl, rfl, rfl⟩
                        replace h : more10_k5a r := h
                        unfold more10_k5a at h
                        refine xq_blk_eq ?_
                        refine xq_then (xw_seq (xw_region ?_))
                        refine xq rfl trivial (o_as rfl) ?_
                        refine xo_nil (xq_then (xw_ret ?_))
                        subst h
                        exact con_ret1 (.inl rfl) Try.results5 rfl [] (Kp.st (Kp.segNew (Cov.fresh hcBs42) (Kp.segNew (Cov.fresh hcB15_4o) Kp.nil))) (⟨rfl, rfl⟩)
                      cases x5
                      rintro _ _ _ ⟨rfl, rfl, rfl⟩
                      replace h : more10_k5b r := h
                      unfold more10_k5b at h
                      refine xq_blk_ret (xq_then_ret ?_)
                      subst h
                      exact con_ret1 (.inl rfl) Try.results5 rfl [] (Kp.st (Kp.segNew (Cov.fresh hcBs42) (Kp.segNew (Cov.fresh hcB15_4o) Kp.nil))) (⟨rfl, rfl⟩)
                cases x3
                rintro _ _ _ ⟨rfl, rfl, rfl⟩
                replace h : more10_k3b r := h
                unfold more10_k3b at h
                refine xq_blk_ret (xq_then_ret ?_)
                subst h
                exact con_ret1 (.inl rfl) Try.results5 rfl [] (Kp.st (Kp.segNew (Cov.fresh hcBs29) (Kp.segNew (Cov.fresh hcB10_2o) (Kp.segNew (Cov.fresh hcBs7) Kp.nil)))) (⟨rfl, rfl⟩)

end Go.Proofs.Ytdmibiefinhneaa
