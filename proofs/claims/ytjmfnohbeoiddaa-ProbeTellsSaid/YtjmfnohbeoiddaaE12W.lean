/- The code answers as the relations say. -/
import Derived.Test.YtjmfnohbeoiddaaTab
import Derived.Test.YtjmfnohbeoiddaaE12S
import Derived.Test.YtjmfnohbeoiddaaD12W
set_option maxHeartbeats 1000000
set_option linter.unusedVariables false
set_option linter.unusedSimpArgs false
set_option maxRecDepth 100000
namespace Go.Proofs.Ytjmfnohbeoiddaa
open Go Go.E

theorem onR_c (shard0 : Int) (m1 : (Nat → Int)) (ww2 : (Nat → Int)) (l3 : (List (Nat → Int))) (v3 : Value) (w : World) (hs3 : SL w 4 iv v3 l3) (hP : onR_P shard0 m1 ww2 l3) : Con Try.prog 32 #[.int .i64 shard0, AI 28 m1, AI 2 ww2, v3] w (fun v F => ∃ (u0 : Value) (C0 : GH), v = .tuple #[u0, .bool ((onR_F shard0 m1 ww2 l3).2)] ∧ F = (C0 ++ []) ∧ OJ 29 28 iv C0 u0 ((onR_F shard0 m1 ww2 l3).1) ∧ Cov w [] C0) :=
  onR_con shard0 m1 ww2 l3 v3 w hs3 _ (onR_ok shard0 m1 ww2 l3 hP)

theorem liveR_c (m0 : (Nat → Int)) (open1 : (List (Nat → Int))) (v1 : Value) (w : World) (hs1 : SL w 2 iv v1 open1) (hP : live_P m0 open1) : Con Try.prog 23 #[AI 28 m0, v1] w (Is (.bool (liveR_F m0 open1)) []) :=
  liveR_con m0 open1 v1 w hs1 _ (liveR_ok m0 open1 hP)

theorem victimR_c (m0 : (Nat → Int)) (w : World) (hP : victimR_P m0) : Con Try.prog 24 #[AI 28 m0] w (Is (.int .i64 (victimR_F m0)) []) :=
  victimR_con m0 w _ (victimR_ok m0 hP)

theorem msgs_c (a0 : (List (Nat → Int))) (b1 : (List (Nat → Int))) (v0 : Value) (v1 : Value) (w : World) (hs0 : SL w 28 iv v0 a0) (hs1 : SL w 28 iv v1 b1) (hP : msgs_P a0 b1) : Con Try.prog 16 #[v0, v1] w (Is (.bool (msgs_F a0 b1)) []) :=
  msgs_con a0 b1 v0 v1 w hs0 hs1 _ (msgs_ok a0 b1 hP)

theorem startR_con (shard0 : Int) (ww1 : (Nat → Int)) (l2 : (List (Nat → Int))) (v2 : Value) (w : World) (hs2 : SL w 4 iv v2 l2) (r : (List (Nat → Int)) × Int) (h : startR_S shard0 ww1 l2 r) : Con Try.prog 15 #[.int .i64 shard0, AI 2 ww1, v2] w (fun v F => ∃ (u0 : Value) (C0 : GH), v = .tuple #[u0, .int .i64 r.2] ∧ F = (C0 ++ []) ∧ OJ 29 28 iv C0 u0 r.1 ∧ Cov w [] C0) := by
  unfold startR_S at h
  refine con_enter (n := 47) [(0, _), (1, _), (2, _)] Try.func15 rfl Try.ntmps15 rfl (lac rfl (lac rfl (lac rfl lan))) ?_
  refine xw_seq (xw_region ?_)
  refine xo rfl trivial (o_boxA rfl) ?_
  rintro _ _ ⟨b4, hb4, rfl, rfl⟩
  refine xq rfl trivial (o_as rfl) ?_
  refine xq rfl trivial (o_as rfl) ?_
  refine xo_nil (xq_then (xw_seq (xw_seq ?_)))
  refine xw_cut [(0, _), (2, _), (4, _)] (lc rfl (lc rfl (lc rfl ln))) [(35, .bool ((((((decide (shard0 < 1)) || (decide (64 < shard0))) || (decide (ww1 0 < 1))) || (decide (1048576 < ww1 0))) || (decide (ww1 1 < 1))) || (decide (1048576 < ww1 1))))] ?_ ?_
  · refine xw_region ?_
    refine xq rfl trivial (o_mv rfl) ?_
    refine xq rfl trivial (o_lss rfl rfl) ?_
    refine xq rfl trivial (o_mv rfl) ?_
    refine xo_bool 12 rfl (fun hg1 => ?_) (fun hg1 => ?_)
    · have hq1 : (decide (shard0 < 1)) = true := hg1
      have hp1 : shard0 < 1 := of_decide_eq_true hq1
      refine xs rfl ⟨_, _, rfl, rfl, rfl⟩ (xs rfl ⟨_, _, rfl, rfl, rfl⟩ ?_)
      refine xq rfl trivial (o_pick_t rfl rfl) ?_
      refine xq rfl trivial (o_mv rfl) ?_
      refine xs rfl ⟨_, _, rfl, rfl, rfl⟩ (xs rfl ⟨_, _, rfl, rfl, rfl⟩ (xs rfl ⟨_, _, rfl, rfl, rfl⟩ ?_))
      refine xq rfl trivial (o_pick_t rfl rfl) ?_
      refine xq rfl trivial (o_mv rfl) ?_
      refine xs rfl ⟨_, _, rfl, rfl, rfl⟩ (xs rfl ⟨_, _, rfl, rfl, rfl⟩ (xs rfl ⟨_, _, rfl, rfl, rfl⟩ ?_))
      refine xq rfl trivial (o_pick_t rfl rfl) ?_
      refine xq rfl trivial (o_mv rfl) ?_
      refine xs rfl ⟨_, _, rfl, rfl, rfl⟩ (xs rfl ⟨_, _, rfl, rfl, rfl⟩ (xs rfl ⟨_, _, rfl, rfl, rfl⟩ ?_))
      refine xq rfl trivial (o_pick_t rfl rfl) ?_
      refine xq rfl trivial (o_mv rfl) ?_
      refine xs rfl ⟨_, _, rfl, rfl, rfl⟩ (xs rfl ⟨_, _, rfl, rfl, rfl⟩ (xs rfl ⟨_, _, rfl, rfl, rfl⟩ ?_))
      refine xq rfl trivial (o_pick_t rfl rfl) ?_
      refine xo_nil ?_
      exact xq_cut ((lce rfl (by first | rfl | (simp only [hq1, if_pos hp1, bS]; done) | (simp [hp1]; done) | (simp_all; done)) (lc rfl (lc rfl (lc rfl ln))))) (fun _ h => h)
    · have hq1 : (decide (shard0 < 1)) = false := hg1
      have hp1 : ¬ (shard0 < 1) := of_decide_eq_false hq1
      refine xq rfl ⟨_, rfl, rfl⟩ (o_mv rfl) ?_
      refine xq rfl ⟨_, rfl, rfl⟩ (o_gtr rfl rfl) ?_
      refine xq rfl trivial (o_pick_f rfl rfl) ?_
      refine xq rfl trivial (o_mv rfl) ?_
      refine xo_bool 16 rfl (fun hg2 => ?_) (fun hg2 => ?_)
      · have hq2 : (decide (64 < shard0)) = true := hg2
        have hp2 : 64 < shard0 := of_decide_eq_true hq2
        refine xs rfl ⟨_, _, rfl, rfl, rfl⟩ (xs rfl ⟨_, _, rfl, rfl, rfl⟩ (xs rfl ⟨_, _, rfl, rfl, rfl⟩ ?_))
        refine xq rfl trivial (o_pick_t rfl rfl) ?_
        refine xq rfl trivial (o_mv rfl) ?_
        refine xs rfl ⟨_, _, rfl, rfl, rfl⟩ (xs rfl ⟨_, _, rfl, rfl, rfl⟩ (xs rfl ⟨_, _, rfl, rfl, rfl⟩ ?_))
        refine xq rfl trivial (o_pick_t rfl rfl) ?_
        refine xq rfl trivial (o_mv rfl) ?_
        refine xs rfl ⟨_, _, rfl, rfl, rfl⟩ (xs rfl ⟨_, _, rfl, rfl, rfl⟩ (xs rfl ⟨_, _, rfl, rfl, rfl⟩ ?_))
        refine xq rfl trivial (o_pick_t rfl rfl) ?_
        refine xq rfl trivial (o_mv rfl) ?_
        refine xs rfl ⟨_, _, rfl, rfl, rfl⟩ (xs rfl ⟨_, _, rfl, rfl, rfl⟩ (xs rfl ⟨_, _, rfl, rfl, rfl⟩ ?_))
        refine xq rfl trivial (o_pick_t rfl rfl) ?_
        refine xo_nil ?_
        exact xq_cut ((lce rfl (by first | rfl | (simp only [hq1, hq2, if_neg hp1, if_pos hp2, bS]; done) | (simp [hp1, hp2]; done) | (simp_all; done)) (lc rfl (lc rfl (lc rfl ln))))) (fun _ h => h)
      · have hq2 : (decide (64 < shard0)) = false := hg2
        have hp2 : ¬ (64 < shard0) := of_decide_eq_false hq2
        first | refine xq rfl ⟨_, rfl, rfl⟩ (o_fa0 fl26_0 rfl) ?_ | refine xq rfl ⟨_, rfl, rfl⟩ (o_fa fl26_0 rfl) ?_
        refine xq rfl ⟨_, rfl, rfl⟩ (o_ldI (v := ww1 0) rfl ts3 (List.Mem.head _) (by omega) rfl) ?_
        refine xq rfl ⟨_, rfl, rfl⟩ (o_lss rfl rfl) ?_
        refine xq rfl trivial (o_pick_f rfl rfl) ?_
        refine xq rfl trivial (o_mv rfl) ?_
        refine xo_bool 21 rfl (fun hg3 => ?_) (fun hg3 => ?_)
        · have hq3 : (decide (ww1 0 < 1)) = true := hg3
          have hp3 : ww1 0 < 1 := of_decide_eq_true hq3
          refine xs rfl ⟨_, _, rfl, rfl, rfl⟩ (xs rfl ⟨_, _, rfl, rfl, rfl⟩ (xs rfl ⟨_, _, rfl, rfl, rfl⟩ ?_))
          refine xq rfl trivial (o_pick_t rfl rfl) ?_
          refine xq rfl trivial (o_mv rfl) ?_
          refine xs rfl ⟨_, _, rfl, rfl, rfl⟩ (xs rfl ⟨_, _, rfl, rfl, rfl⟩ (xs rfl ⟨_, _, rfl, rfl, rfl⟩ ?_))
          refine xq rfl trivial (o_pick_t rfl rfl) ?_
          refine xq rfl trivial (o_mv rfl) ?_
          refine xs rfl ⟨_, _, rfl, rfl, rfl⟩ (xs rfl ⟨_, _, rfl, rfl, rfl⟩ (xs rfl ⟨_, _, rfl, rfl, rfl⟩ ?_))
          refine xq rfl trivial (o_pick_t rfl rfl) ?_
          refine xo_nil ?_
          exact xq_cut ((lce rfl (by first | rfl | (simp only [hq1, hq2, hq3, if_neg hp1, if_neg hp2, if_pos hp3, bS]; done) | (simp [hp1, hp2, hp3]; done) | (simp_all; done)) (lc rfl (lc rfl (lc rfl ln))))) (fun _ h => h)
        · have hq3 : (decide (ww1 0 < 1)) = false := hg3
          have hp3 : ¬ (ww1 0 < 1) := of_decide_eq_false hq3
          first | refine xq rfl ⟨_, rfl, rfl⟩ (o_fa0 fl26_0 rfl) ?_ | refine xq rfl ⟨_, rfl, rfl⟩ (o_fa fl26_0 rfl) ?_
          refine xq rfl ⟨_, rfl, rfl⟩ (o_ldI (v := ww1 0) rfl ts3 (List.Mem.head _) (by omega) rfl) ?_
          refine xq rfl ⟨_, rfl, rfl⟩ (o_gtr rfl rfl) ?_
          refine xq rfl trivial (o_pick_f rfl rfl) ?_
          refine xq rfl trivial (o_mv rfl) ?_
          refine xo_bool 26 rfl (fun hg4 => ?_) (fun hg4 => ?_)
          · have hq4 : (decide (1048576 < ww1 0)) = true := hg4
            have hp4 : 1048576 < ww1 0 := of_decide_eq_true hq4
            refine xs rfl ⟨_, _, rfl, rfl, rfl⟩ (xs rfl ⟨_, _, rfl, rfl, rfl⟩ (xs rfl ⟨_, _, rfl, rfl, rfl⟩ ?_))
            refine xq rfl trivial (o_pick_t rfl rfl) ?_
            refine xq rfl trivial (o_mv rfl) ?_
            refine xs rfl ⟨_, _, rfl, rfl, rfl⟩ (xs rfl ⟨_, _, rfl, rfl, rfl⟩ (xs rfl ⟨_, _, rfl, rfl, rfl⟩ ?_))
            refine xq rfl trivial (o_pick_t rfl rfl) ?_
            refine xo_nil ?_
            exact xq_cut ((lce rfl (by first | rfl | (simp only [hq1, hq2, hq3, hq4, if_neg hp1, if_neg hp2, if_neg hp3, if_pos hp4, bS]; done) | (simp [hp1, hp2, hp3, hp4]; done) | (simp_all; done)) (lc rfl (lc rfl (lc rfl ln))))) (fun _ h => h)
          · have hq4 : (decide (1048576 < ww1 0)) = false := hg4
            have hp4 : ¬ (1048576 < ww1 0) := of_decide_eq_false hq4
            first | refine xq rfl ⟨_, rfl, rfl⟩ (o_fa0 fl26_1 rfl) ?_ | refine xq rfl ⟨_, rfl, rfl⟩ (o_fa fl26_1 rfl) ?_
            refine xq rfl ⟨_, rfl, rfl⟩ (o_ldI (v := ww1 1) rfl ts3 (List.Mem.head _) (by omega) rfl) ?_
            refine xq rfl ⟨_, rfl, rfl⟩ (o_lss rfl rfl) ?_
            refine xq rfl trivial (o_pick_f rfl rfl) ?_
            refine xq rfl trivial (o_mv rfl) ?_
            refine xo_bool 31 rfl (fun hg5 => ?_) (fun hg5 => ?_)
            · have hq5 : (decide (ww1 1 < 1)) = true := hg5
              have hp5 : ww1 1 < 1 := of_decide_eq_true hq5
              refine xs rfl ⟨_, _, rfl, rfl, rfl⟩ (xs rfl ⟨_, _, rfl, rfl, rfl⟩ (xs rfl ⟨_, _, rfl, rfl, rfl⟩ ?_))
              refine xq rfl trivial (o_pick_t rfl rfl) ?_
              refine xo_nil ?_
              exact xq_cut ((lce rfl (by first | rfl | (simp only [hq1, hq2, hq3, hq4, hq5, if_neg hp1, if_neg hp2, if_neg hp3, if_neg hp4, if_pos hp5, bS]; done) | (simp [hp1, hp2, hp3, hp4, hp5]; done) | (simp_all; done)) (lc rfl (lc rfl (lc rfl ln))))) (fun _ h => h)
            · have hq5 : (decide (ww1 1 < 1)) = false := hg5
              have hp5 : ¬ (ww1 1 < 1) := of_decide_eq_false hq5
              first | refine xq rfl ⟨_, rfl, rfl⟩ (o_fa0 fl26_1 rfl) ?_ | refine xq rfl ⟨_, rfl, rfl⟩ (o_fa fl26_1 rfl) ?_
              refine xq rfl ⟨_, rfl, rfl⟩ (o_ldI (v := ww1 1) rfl ts3 (List.Mem.head _) (by omega) rfl) ?_
              refine xq rfl ⟨_, rfl, rfl⟩ (o_gtr rfl rfl) ?_
              refine xq rfl trivial (o_pick_f rfl rfl) ?_
              refine xo_nil ?_
              exact xq_cut ((lce rfl (by first | rfl | (simp only [hq1, hq2, hq3, hq4, hq5, if_neg hp1, if_neg hp2, if_neg hp3, if_neg hp4, if_neg hp5, bS]; done) | (simp [hp1, hp2, hp3, hp4, hp5]; done) | (simp_all; done)) (lc rfl (lc rfl (lc rfl ln))))) (fun _ h => h)
  · refine xq_then ?_
    refine xw_bool 35 rfl (fun hc6 => ?_) (fun hc6 => ?_)
    · have hq6 : ((((((decide (shard0 < 1)) || (decide (64 < shard0))) || (decide (ww1 0 < 1))) || (decide (1048576 < ww1 0))) || (decide (ww1 1 < 1))) || (decide (1048576 < ww1 1))) = true := hc6
      have hp6 : ((((((decide (shard0 < 1)) || (decide (64 < shard0))) || (decide (ww1 0 < 1))) || (decide (1048576 < ww1 0))) || (decide (ww1 1 < 1))) || (decide (1048576 < ww1 1))) = true := hq6
      rw [if_pos hp6] at h
      refine xw_cond_t rfl rfl (xw_seq (xw_region ?_))
      refine xq rfl trivial (o_as rfl) ?_
      refine xq rfl trivial (o_as rfl) ?_
      refine xo_nil (xq_then (xw_ret (xq_then_ret ?_)))
      subst h
      exact con_ret2 (.inl rfl) Try.results15 rfl rfl [] (Kp.st (Kp.new hb4 Kp.nil)) (⟨_, [], rfl, rfl, OJ.nil, Cov.refl _⟩)
    · have hq6 : ((((((decide (shard0 < 1)) || (decide (64 < shard0))) || (decide (ww1 0 < 1))) || (decide (1048576 < ww1 0))) || (decide (ww1 1 < 1))) || (decide (1048576 < ww1 1))) = false := hc6
      have hp6 : ¬ (((((((decide (shard0 < 1)) || (decide (64 < shard0))) || (decide (ww1 0 < 1))) || (decide (1048576 < ww1 0))) || (decide (ww1 1 < 1))) || (decide (1048576 < ww1 1))) = true) := bne' hq6
      rw [if_neg hp6] at h
      refine xw_cond_f rfl rfl (xw_skip (xq_then (xw_seq (xw_region ?_))))
      refine xq rfl trivial (o_mv rfl) ?_
      refine xq rfl trivial (o_build fk29 ze29 (.nil _)) ?_
      refine xq rfl trivial (o_ldW rfl ts26 (List.Mem.head _)) ?_
      refine xq rfl trivial (o_mv rfl) ?_
      obtain ⟨ho7, h⟩ := h
      refine xcall rfl trivial kf32 rfl (fun w1 hw1 => onR_c _ _ _ _ _ w1 (hs2.keep hw1 (Fr.cons hb4 Fr.nil)) ho7) ?_
      rintro w1 _ _ hw1 ⟨vs8, Bs8, rfl, rfl, hJs8, hcBs8⟩
      refine ⟨_, Mg.news (Cov.fresh hcBs8) (.nil _), ?_⟩
      replace hcBs8 := Cov.base (w0 := w) hcBs8 hw1.size
      refine xq rfl trivial (o_mv rfl) ?_
      refine xq rfl trivial (o_ext rfl rfl) ?_
      refine xq rfl trivial (o_ext rfl rfl) ?_
      refine xq rfl trivial (o_as rfl) ?_
      refine xq rfl trivial (o_as rfl) ?_
      refine xo_nil (xq_then (xw_seq (xw_seq (xw_region ?_))))
      refine xq rfl trivial (o_mv rfl) ?_
      refine xq rfl trivial (o_not rfl) ?_
      refine xo_nil (xq_then ?_)
      refine xw_bool 45 rfl (fun hc9 => ?_) (fun hc9 => ?_)
      · have hq9 : ((onR_F shard0 (fun _ => 0) ww1 l2).2) = false := (bnT hc9)
        have hp9 : ¬ (((onR_F shard0 (fun _ => 0) ww1 l2).2) = true) := bne' hq9
        rw [if_neg hp9] at h
        refine xw_cond_t rfl rfl (xw_seq (xw_region ?_))
        refine xq rfl trivial (o_as rfl) ?_
        refine xq rfl trivial (o_as rfl) ?_
        refine xo_nil (xq_then (xw_ret (xq_then_ret ?_)))
        subst h
        exact con_ret2 (.inl rfl) Try.results15 rfl rfl [] (Kp.st (Kp.segNew (Cov.fresh hcBs8) (Kp.new hb4 Kp.nil))) (⟨_, [], rfl, rfl, OJ.nil, Cov.refl _⟩)
      · have hq9 : ((onR_F shard0 (fun _ => 0) ww1 l2).2) = true := (bnF hc9)
        have hp9 : ((onR_F shard0 (fun _ => 0) ww1 l2).2) = true := hq9
        rw [if_pos hp9] at h
        refine xw_cond_f rfl rfl (xw_skip (xq_then (xw_seq (xw_region ?_))))
        refine xq rfl trivial (o_mv rfl) ?_
        refine xq rfl trivial (o_as rfl) ?_
        refine xq rfl trivial (o_as rfl) ?_
        refine xo_nil (xq_then (xw_ret ?_))
        subst h
        exact con_ret2 (.inl rfl) Try.results15 rfl rfl (Bs8 ++ []) (Kp.st (Kp.segKeep (Kp.new hb4 Kp.nil))) (⟨_, Bs8, rfl, rfl, hJs8, hcBs8⟩)

theorem startR_c (shard0 : Int) (ww1 : (Nat → Int)) (l2 : (List (Nat → Int))) (v2 : Value) (w : World) (hs2 : SL w 4 iv v2 l2) (hP : startR_P shard0 ww1 l2) : Con Try.prog 15 #[.int .i64 shard0, AI 2 ww1, v2] w (fun v F => ∃ (u0 : Value) (C0 : GH), v = .tuple #[u0, .int .i64 ((startR_F shard0 ww1 l2).2)] ∧ F = (C0 ++ []) ∧ OJ 29 28 iv C0 u0 ((startR_F shard0 ww1 l2).1) ∧ Cov w [] C0) :=
  startR_con shard0 ww1 l2 v2 w hs2 _ (startR_ok shard0 ww1 l2 hP)

theorem goR_con (shard0 : Int) (m1 : (Nat → Int)) (seq2 : Int) (l3 : (List (Nat → Int))) (v3 : Value) (w : World) (hs3 : SL w 4 iv v3 l3) (r : (List (Nat → Int)) × Int) (h : goR_S shard0 m1 seq2 l3 r) : Con Try.prog 20 #[.int .i64 shard0, AI 28 m1, .int .i64 seq2, v3] w (fun v F => ∃ (u0 : Value) (C0 : GH), v = .tuple #[u0, .int .i64 r.2] ∧ F = (C0 ++ []) ∧ OJ 29 28 iv C0 u0 r.1 ∧ Cov w [] C0) := by
  unfold goR_S at h
  refine con_enter (n := 56) [(0, _), (1, _), (2, _), (3, _)] Try.func20 rfl Try.ntmps20 rfl (lac rfl (lac rfl (lac rfl (lac rfl lan)))) ?_
  refine xw_seq (xw_region ?_)
  refine xo rfl trivial (o_boxA rfl) ?_
  rintro _ _ ⟨b5, hb5, rfl, rfl⟩
  refine xq rfl trivial (o_as rfl) ?_
  refine xq rfl trivial (o_as rfl) ?_
  refine xo_nil (xq_then (xw_seq (xw_seq (xw_region ?_))))
  refine xq rfl trivial (o_ldW rfl ts29 (List.Mem.head _)) ?_
  refine xcallq rfl trivial kf21 rfl (fun w1 hw1 => isR_c _ w1) ?_
  refine xq rfl trivial (o_not rfl) ?_
  refine xo_nil (xq_then ?_)
  refine xw_bool 15 rfl (fun hc1 => ?_) (fun hc1 => ?_)
  · have hq1 : ((isR_F m1)) = false := (bnT hc1)
    have hp1 : ¬ (((isR_F m1)) = true) := bne' hq1
    rw [if_neg hp1] at h
    refine xw_cond_t rfl rfl (xw_seq (xw_region ?_))
    refine xq rfl trivial (o_as rfl) ?_
    refine xq rfl trivial (o_as rfl) ?_
    refine xo_nil (xq_then (xw_ret (xq_then_ret ?_)))
    subst h
    exact con_ret2 (.inl rfl) Try.results20 rfl rfl [] (Kp.st (Kp.new hb5 Kp.nil)) (⟨_, [], rfl, rfl, OJ.nil, Cov.refl _⟩)
  · have hq1 : ((isR_F m1)) = true := (bnF hc1)
    have hp1 : ((isR_F m1)) = true := hq1
    rw [if_pos hp1] at h
    refine xw_cond_f rfl rfl (xw_skip (xq_then (xw_seq (xw_seq ?_))))
    refine xw_cut [(0, _), (2, _), (3, _), (5, _)] (lc rfl (lc rfl (lc rfl (lc rfl ln)))) [(24, .bool ((!(decide (m1 10 = 0))) && (!(decide (m1 10 = seq2)))))] ?_ ?_
    · refine xw_region ?_
      first | refine xq rfl trivial (o_fa0 fl29_9 rfl) ?_ | refine xq rfl trivial (o_fa fl29_9 rfl) ?_
      refine xq rfl trivial (o_ldI (v := m1 10) rfl ts3 (List.Mem.head _) (by omega) rfl) ?_
      refine xq rfl trivial (o_neq rfl rfl) ?_
      refine xq rfl trivial (o_mv rfl) ?_
      refine xo_bool 19 rfl (fun hg2 => ?_) (fun hg2 => ?_)
      · have hq2 : (decide (m1 10 = 0)) = false := (bnT hg2)
        have hp2 : ¬ (m1 10 = 0) := of_decide_eq_false hq2
        first | refine xq rfl ⟨_, rfl, rfl⟩ (o_fa0 fl29_9 rfl) ?_ | refine xq rfl ⟨_, rfl, rfl⟩ (o_fa fl29_9 rfl) ?_
        refine xq rfl ⟨_, rfl, rfl⟩ (o_ldI (v := m1 10) rfl ts3 (List.Mem.head _) (by omega) rfl) ?_
        refine xq rfl ⟨_, rfl, rfl⟩ (o_mv rfl) ?_
        refine xq rfl ⟨_, rfl, rfl⟩ (o_neq rfl rfl) ?_
        refine xq rfl trivial (o_pick_t rfl rfl) ?_
        refine xo_nil ?_
        exact xq_cut ((lce rfl (by first | rfl | (simp only [hq1, hq2, if_pos hp1, if_neg hp2, bS]; done) | (simp [hp1, hp2]; done) | (simp_all; done)) (lc rfl (lc rfl (lc rfl (lc rfl ln)))))) (fun _ h => h)
      · have hq2 : (decide (m1 10 = 0)) = true := (bnF hg2)
        have hp2 : m1 10 = 0 := of_decide_eq_true hq2
        refine xs rfl ⟨_, _, rfl, rfl, rfl⟩ (xs rfl ⟨_, _, rfl, rfl, rfl⟩ (xs rfl ⟨_, _, rfl, rfl, rfl⟩ (xs rfl ⟨_, _, rfl, rfl, rfl⟩ ?_)))
        refine xq rfl trivial (o_pick_f rfl rfl) ?_
        refine xo_nil ?_
        exact xq_cut ((lce rfl (by first | rfl | (simp only [hq1, hq2, if_pos hp1, if_pos hp2, bS]; done) | (simp [hp1, hp2]; done) | (simp_all; done)) (lc rfl (lc rfl (lc rfl (lc rfl ln)))))) (fun _ h => h)
    · refine xq_then ?_
      refine xw_bool 24 rfl (fun hc3 => ?_) (fun hc3 => ?_)
      · have hq3 : ((!(decide (m1 10 = 0))) && (!(decide (m1 10 = seq2)))) = true := hc3
        have hp3 : ((!(decide (m1 10 = 0))) && (!(decide (m1 10 = seq2)))) = true := hq3
        rw [if_pos hp3] at h
        refine xw_cond_t rfl rfl (xw_seq (xw_region ?_))
        refine xq rfl trivial (o_as rfl) ?_
        refine xq rfl trivial (o_as rfl) ?_
        refine xo_nil (xq_then (xw_ret (xq_then_ret ?_)))
        subst h
        exact con_ret2 (.inl rfl) Try.results20 rfl rfl [] (Kp.st (Kp.new hb5 Kp.nil)) (⟨_, [], rfl, rfl, OJ.nil, Cov.refl _⟩)
      · have hq3 : ((!(decide (m1 10 = 0))) && (!(decide (m1 10 = seq2)))) = false := hc3
        have hp3 : ¬ (((!(decide (m1 10 = 0))) && (!(decide (m1 10 = seq2)))) = true) := bne' hq3
        rw [if_neg hp3] at h
        refine xw_cond_f rfl rfl (xw_skip (xq_then (xw_seq (xw_seq (xw_region ?_)))))
        refine xq rfl trivial (o_as rfl) ?_
        refine xo_nil (xq_then ?_)
        refine xw_block ?_
        obtain ⟨x1, hx1, h⟩ := h
        refine xw_wh (fun (i10 : Int) e H => e = [(0, .int .i64 shard0), (2, .int .i64 seq2), (3, v3), (5, .pointer (some ⟨b5, 0, none⟩)), (10, .int .i64 i10)] ∧ H = (b5, BK 28 (iv m1) 29) :: ([])) (fun x ex e H => match x with | .inl _ => ex = .exit 0 ∧ e = [(0, .int .i64 shard0), (2, .int .i64 seq2), (3, v3), (5, .pointer (some ⟨b5, 0, none⟩))] ∧ H = (b5, BK 28 (iv m1) 29) :: ([]) | .inr _ => ex = .ret ∧ e = [(8, .slice none 0 0), (9, .int .i64 11)] ∧ H = (b5, BK 28 (iv m1) 29) :: ([])) hx1 ⟨[(0, .int .i64 shard0), (2, .int .i64 seq2), (3, v3), (5, .pointer (some ⟨b5, 0, none⟩)), (10, .int .i64 0)], (b5, BK 28 (iv m1) 29) :: ([]), (lc rfl (lc rfl (lc rfl (lc rfl (lc rfl ln))))), fun _ h => h, ⟨rfl, rfl⟩⟩ ?_ ?_
        · rintro i10 o _ _ ⟨rfl, rfl⟩ hb
          have h : goR_l1 m1 i10 o := hb
          clear hb
          unfold goR_l1 at h
          refine xw_seq (xw_seq (xw_region ?_))
          refine xq rfl trivial (o_mv rfl) ?_
          first | refine xq rfl trivial (o_fa0 fl29_10 rfl) ?_ | refine xq rfl trivial (o_fa fl29_10 rfl) ?_
          refine xq rfl trivial (o_ldI (v := m1 11) rfl ts3 (List.Mem.head _) (by omega) rfl) ?_
          refine xq rfl trivial (o_lss rfl rfl) ?_
          refine xo_nil (xq_then ?_)
          refine xw_bool 28 rfl (fun hc4 => ?_) (fun hc4 => ?_)
          · have hq4 : (decide (i10 < m1 11)) = true := hc4
            have hp4 : i10 < m1 11 := of_decide_eq_true hq4
            rw [if_pos hp4] at h
            refine xw_cond_t rfl rfl (xw_skip (xq_then (xw_seq ?_)))
            refine xw_block ?_
            refine xw_seq ?_
            refine xd_start (by kernel_rfl) (by kernel_rfl) (fun hok => ?_)
            refine xd_b hok 0 [(10, _)] ([]) rsN rfl rfl rfl (lc rfl ln) (by kernel_rfl) trivial (fun H' hy hK => o_mv rfl) ?_
            first | refine xd_b hok 1 [(5, _)] ([]) rsN rfl rfl rfl (lc rfl ln) (by kernel_rfl) trivial (fun H' hy hK => o_fa0 fl29_11 rfl) ?_ | refine xd_b hok 1 [(5, _)] ([]) rsN rfl rfl rfl (lc rfl ln) (by kernel_rfl) trivial (fun H' hy hK => o_fa fl29_11 rfl) ?_
            obtain ⟨ho5, h⟩ := h
            refine xd_b hok 2 [(32, _), (31, _)] ([]) rsN rfl rfl rfl (lc rfl (lc rfl ln)) (by kernel_rfl) trivial (fun H' hy hK => o_ixa ea27 rfl rfl ho5 rfl) ?_
            first | refine xd_b hok 3 [(33, _)] ([]) rsN rfl rfl rfl (lc rfl ln) (by kernel_rfl) trivial (fun H' hy hK => o_fa0 fl26_0 rfl) ?_ | refine xd_b hok 3 [(33, _)] ([]) rsN rfl rfl rfl (lc rfl ln) (by kernel_rfl) trivial (fun H' hy hK => o_fa fl26_0 rfl) ?_
            refine xd_b hok 4 [(34, _)] ((b5, BK 28 (iv m1) 29) :: ([])) (rsC (List.Mem.head _) rsN) rfl rfl rfl (lc rfl ln) (by kernel_rfl) trivial (fun H' hy hK => o_ldI (v := m1 (12 + (i10.toNat * 2))) rfl ts3 (hy _ (List.Mem.head _)) (by have := ho5; omega) rfl) ?_
            first | refine xd_b hok 5 [(5, _)] ([]) rsN rfl rfl rfl (lc rfl ln) (by kernel_rfl) trivial (fun H' hy hK => o_fa0 fl29_8 rfl) ?_ | refine xd_b hok 5 [(5, _)] ([]) rsN rfl rfl rfl (lc rfl ln) (by kernel_rfl) trivial (fun H' hy hK => o_fa fl29_8 rfl) ?_
            refine xd_b hok 6 [(36, _)] ((b5, BK 28 (iv m1) 29) :: ([])) (rsC (List.Mem.head _) rsN) rfl rfl rfl (lc rfl ln) (by kernel_rfl) trivial (fun H' hy hK => o_ldI (v := m1 9) rfl ts3 (hy _ (List.Mem.head _)) (by omega) rfl) ?_
            refine xd_b hok 7 [(35, _), (37, _)] ([]) rsN rfl rfl rfl (lc rfl (lc rfl ln)) (by kernel_rfl) trivial (fun H' hy hK => o_eql rfl rfl) ?_
            refine xd_end hok (by kernel_rfl) ?_
            refine xq_then ?_
            refine xw_bool 38 rfl (fun hc6 => ?_) (fun hc6 => ?_)
            · have hq6 : (decide (m1 (12 + (i10.toNat * 2)) = m1 9)) = true := hc6
              have hp6 : m1 (12 + (i10.toNat * 2)) = m1 9 := of_decide_eq_true hq6
              rw [if_pos hp6] at h
              refine xw_cond_t rfl rfl (xw_seq (xw_region ?_))
              refine xq rfl trivial (o_as rfl) ?_
              refine xq rfl trivial (o_as rfl) ?_
              refine xo_nil (xq_then (xw_ret (xq_blk_ret (xq_then_ret ?_))))
              exact xq_out (r := (.inr () : (Unit) ⊕ (Unit))) (e' := [(8, .slice none 0 0), (9, .int .i64 11)]) ((b5, BK 28 (iv m1) 29) :: ([])) (lc rfl (lc rfl ln)) (fun _ h => h) h (by intro hh; cases hh) ⟨rfl, rfl, rfl⟩
            · have hq6 : (decide (m1 (12 + (i10.toNat * 2)) = m1 9)) = false := hc6
              have hp6 : ¬ (m1 (12 + (i10.toNat * 2)) = m1 9) := of_decide_eq_false hq6
              rw [if_neg hp6] at h
              refine xw_cond_f rfl rfl (xw_skip ?_)
              refine xq_blk 1 ?_
              refine xq_then (xw_region ?_)
              refine xq rfl trivial (o_mv rfl) ?_
              obtain ⟨ho7, h⟩ := h
              refine xq rfl trivial (o_add rfl rfl rfl ho7) ?_
              refine xq rfl trivial (o_as rfl) ?_
              refine xo_nil ?_
              exact xq_next (s' := (i10 + 1 : Int)) (e' := [(0, .int .i64 shard0), (2, .int .i64 seq2), (3, v3), (5, .pointer (some ⟨b5, 0, none⟩)), (10, .int .i64 (i10 + 1))]) ((b5, BK 28 (iv m1) 29) :: ([])) (lc rfl (lc rfl (lc rfl (lc rfl (lc rfl ln))))) (fun _ h => h) h ⟨rfl, rfl⟩
          · have hq4 : (decide (i10 < m1 11)) = false := hc4
            have hp4 : ¬ (i10 < m1 11) := of_decide_eq_false hq4
            rw [if_neg hp4] at h
            refine xw_cond_f rfl rfl (xw_exit (xq_then_exit ?_))
            exact xq_out (r := (.inl () : (Unit) ⊕ (Unit))) (e' := [(0, .int .i64 shard0), (2, .int .i64 seq2), (3, v3), (5, .pointer (some ⟨b5, 0, none⟩))]) ((b5, BK 28 (iv m1) 29) :: ([])) (lc rfl (lc rfl (lc rfl (lc rfl ln)))) (fun _ h => h) h (by intro hh; cases hh) ⟨rfl, rfl, rfl⟩
        · rcases x1 with _ | x1
          · rintro _ _ _ ⟨rfl, rfl, rfl⟩
            replace h : goR_k1a shard0 m1 seq2 l3 r := h
            unfold goR_k1a at h
            refine xq_blk_eq ?_
            refine xq_then (xw_seq (xw_seq (xw_region ?_)))
            first | refine xq rfl trivial (o_fa0 fl29_10 rfl) ?_ | refine xq rfl trivial (o_fa fl29_10 rfl) ?_
            refine xq rfl trivial (o_ldI (v := m1 11) rfl ts3 (List.Mem.head _) (by omega) rfl) ?_
            refine xq rfl trivial (o_eql rfl rfl) ?_
            refine xo_nil (xq_then ?_)
            refine xw_bool 41 rfl (fun hc8 => ?_) (fun hc8 => ?_)
            · have hq8 : (decide (m1 11 = 8)) = true := hc8
              have hp8 : m1 11 = 8 := of_decide_eq_true hq8
              rw [if_pos hp8] at h
              refine xw_cond_t rfl rfl (xw_seq (xw_region ?_))
              refine xq rfl trivial (o_as rfl) ?_
              refine xq rfl trivial (o_as rfl) ?_
              refine xo_nil (xq_then (xw_ret (xq_then_ret ?_)))
              subst h
              exact con_ret2 (.inl rfl) Try.results20 rfl rfl [] (Kp.st (Kp.new hb5 Kp.nil)) (⟨_, [], rfl, rfl, OJ.nil, Cov.refl _⟩)
            · have hq8 : (decide (m1 11 = 8)) = false := hc8
              have hp8 : ¬ (m1 11 = 8) := of_decide_eq_false hq8
              rw [if_neg hp8] at h
              refine xw_cond_f rfl rfl (xw_skip (xq_then (xw_seq (xw_region ?_))))
              refine xq rfl trivial (o_mv rfl) ?_
              refine xq rfl trivial (o_ldW rfl ts29 (List.Mem.head _)) ?_
              first | refine xq rfl trivial (o_fa0 fl29_8 rfl) ?_ | refine xq rfl trivial (o_fa fl29_8 rfl) ?_
              refine xq rfl trivial (o_ldI (v := m1 9) rfl ts3 (List.Mem.head _) (by omega) rfl) ?_
              refine xq rfl trivial (o_mv rfl) ?_
              refine xq rfl trivial (o_build fk26 ze26 (.int fl26_0 rfl rfl (.int fl26_1 rfl rfl (.nil _)))) ?_
              refine xq rfl trivial (o_mv rfl) ?_
              obtain ⟨ho9, h⟩ := h
              refine xcall rfl trivial kf32 rfl (fun w1 hw1 => onR_c _ _ _ _ _ w1 (hs3.keep hw1 (Fr.cons hb5 Fr.nil)) ho9) ?_
              rintro w1 _ _ hw1 ⟨vs10, Bs10, rfl, rfl, hJs10, hcBs10⟩
              refine ⟨_, Mg.news (Cov.fresh hcBs10) (.nil _), ?_⟩
              replace hcBs10 := Cov.base (w0 := w) hcBs10 hw1.size
              refine xq rfl trivial (o_mv rfl) ?_
              refine xq rfl trivial (o_ext rfl rfl) ?_
              refine xq rfl trivial (o_ext rfl rfl) ?_
              refine xq rfl trivial (o_as rfl) ?_
              refine xq rfl trivial (o_as rfl) ?_
              refine xo_nil (xq_then (xw_seq (xw_seq (xw_region ?_))))
              refine xq rfl trivial (o_mv rfl) ?_
              refine xq rfl trivial (o_not rfl) ?_
              refine xo_nil (xq_then ?_)
              refine xw_bool 54 rfl (fun hc11 => ?_) (fun hc11 => ?_)
              · have hq11 : ((onR_F shard0 m1 (updI (updI (fun _ => 0) 0 (m1 9)) 1 seq2) l3).2) = false := (bnT hc11)
                have hp11 : ¬ (((onR_F shard0 m1 (updI (updI (fun _ => 0) 0 (m1 9)) 1 seq2) l3).2) = true) := bne' hq11
                rw [if_neg hp11] at h
                refine xw_cond_t rfl rfl (xw_seq (xw_region ?_))
                refine xq rfl trivial (o_as rfl) ?_
                refine xq rfl trivial (o_as rfl) ?_
                refine xo_nil (xq_then (xw_ret (xq_then_ret ?_)))
                subst h
                exact con_ret2 (.inl rfl) Try.results20 rfl rfl [] (Kp.st (Kp.segNew (Cov.fresh hcBs10) (Kp.new hb5 Kp.nil))) (⟨_, [], rfl, rfl, OJ.nil, Cov.refl _⟩)
              · have hq11 : ((onR_F shard0 m1 (updI (updI (fun _ => 0) 0 (m1 9)) 1 seq2) l3).2) = true := (bnF hc11)
                have hp11 : ((onR_F shard0 m1 (updI (updI (fun _ => 0) 0 (m1 9)) 1 seq2) l3).2) = true := hq11
                rw [if_pos hp11] at h
                refine xw_cond_f rfl rfl (xw_skip (xq_then (xw_seq (xw_region ?_))))
                refine xq rfl trivial (o_mv rfl) ?_
                refine xq rfl trivial (o_as rfl) ?_
                refine xq rfl trivial (o_as rfl) ?_
                refine xo_nil (xq_then (xw_ret ?_))
                subst h
                exact con_ret2 (.inl rfl) Try.results20 rfl rfl (Bs10 ++ []) (Kp.st (Kp.segKeep (Kp.new hb5 Kp.nil))) (⟨_, Bs10, rfl, rfl, hJs10, hcBs10⟩)
          cases x1
          rintro _ _ _ ⟨rfl, rfl, rfl⟩
          replace h : goR_k1b r := h
          unfold goR_k1b at h
          refine xq_blk_ret (xq_then_ret ?_)
          subst h
          exact con_ret2 (.inl rfl) Try.results20 rfl rfl [] (Kp.st (Kp.new hb5 Kp.nil)) (⟨_, [], rfl, rfl, OJ.nil, Cov.refl _⟩)

end Go.Proofs.Ytjmfnohbeoiddaa
