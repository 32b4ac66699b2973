/- The code answers as the relations say. -/
import Derived.Test.YteomcjiiiilhmaaTab
import Derived.Test.YteomcjiiiilhmaaC16S
import Derived.Test.YteomcjiiiilhmaaB16W
set_option maxHeartbeats 1000000
set_option linter.unusedVariables false
set_option linter.unusedSimpArgs false
set_option maxRecDepth 100000
namespace Go.Proofs.Yteomcjiiiilhmaa
open Go Go.E

theorem clost_c (c0 : (Nat → Int)) (now1 : Int) (span2 : Int) (p0 : Nat) (w : World) (hC : Has w (cat [[(p0, BK 28 (mv (kPA 1 3 (kS [2])) c0) 61)]])) (hP : clost_P c0 now1 span2) : Con Try.prog 9 #[.pointer (some ⟨p0, 0, none⟩), .int .i64 now1, .int .i64 span2] w (CatG fun v Ls => Cov w (cat [[(p0, BK 28 (mv (kPA 1 3 (kS [2])) c0) 61)]]) (cat Ls) ∧ ∃ (u0 : Value) (C0 : GH), v = u0 ∧ Ls = [[(p0, BK 28 (mv (kPA 1 3 (kS [2])) c0) 61)], C0] ∧ OJ 3 1 ic C0 u0 (clost_F c0 now1 span2) ∧ Cov w [] C0) :=
  clost_con c0 now1 span2 p0 w hC _ (clost_ok c0 now1 span2 hP)

theorem lostR_c (l0 : (List (Nat → Int))) (now1 : Int) (span2 : Int) (v0 : Value) (w : World) (hs0 : SL w 3 (mv (kS [1])) v0 l0) (hP : lostR_P l0 now1 span2) : Con Try.prog 18 #[v0, .int .i64 now1, .int .i64 span2] w (fun v F => ∃ (u0 : Value) (C0 : GH), v = u0 ∧ F = (C0 ++ []) ∧ OJ 3 1 ic C0 u0 (lostR_F l0 now1 span2) ∧ Cov w [] C0) :=
  lostR_con l0 now1 span2 v0 w hs0 _ (lostR_ok l0 now1 span2 hP)

theorem act16_con (c0 : (Nat → Int)) (a1 : (Nat → Int)) (p0 : Nat) (w : World) (hC : Has w (cat [[(p0, BK 28 (mv (kPA 1 3 (kS [2])) c0) 61)]])) (r : Int × (Nat → Int)) (h : act16_S c0 a1 r) : Con Try.prog 8 #[.pointer (some ⟨p0, 0, none⟩), AI 4 a1] w (CatG fun v Ls => Cov w (cat [[(p0, BK 28 (mv (kPA 1 3 (kS [2])) c0) 61)]]) (cat Ls) ∧ v = .int .i64 r.1 ∧ Ls = [[(p0, BK 28 (mv (kPA 1 3 (kS [2])) r.2) 61)]]) := by
  unfold act16_S at h
  refine con_enter (n := 30) [(0, _), (1, _)] Try.func8 rfl Try.ntmps8 rfl (lac rfl (lac rfl lan)) ?_
  refine xw_has hC ?_
  refine xw_st ((p0, BK 28 (mv (kPA 1 3 (kS [2])) c0) 61) :: ([])) (fun _ h => h) ?_
  refine xw_seq (xw_region ?_)
  refine xo rfl trivial (o_boxA rfl) ?_
  rintro _ _ ⟨b3, hb3, rfl, rfl⟩
  refine xq rfl trivial (o_as rfl) ?_
  refine xo_nil (xq_then (xw_seq (xw_seq (xw_region ?_))))
  first | refine xq rfl trivial (o_fa0 fl32_0 rfl) ?_ | refine xq rfl trivial (o_fa fl32_0 rfl) ?_
  refine xq rfl trivial (o_ldI (v := a1 0) rfl ts3 (List.Mem.head _) (by omega) rfl) ?_
  refine xo_nil (xq_then ?_)
  refine xw_block ?_
  refine xw_seq (xw_region ?_)
  refine xq rfl trivial (o_eql rfl rfl) ?_
  refine xq rfl trivial (o_as rfl) ?_
  refine xo_nil (xq_then ?_)
  refine xw_bool 7 rfl (fun hc1 => ?_) (fun hc1 => ?_)
  · have hq1 : (decide (a1 0 = 0)) = true := hc1
    have hp1 : a1 0 = 0 := of_decide_eq_true hq1
    rw [if_pos hp1] at h
    refine xw_cond_t rfl rfl (xw_seq (xw_region ?_))
    refine xq rfl trivial (o_mv rfl) ?_
    first | refine xq rfl trivial (o_fa0 fl32_1 rfl) ?_ | refine xq rfl trivial (o_fa fl32_1 rfl) ?_
    refine xq rfl trivial (o_ldI (v := a1 1) rfl ts3 (List.Mem.head _) (by omega) rfl) ?_
    first | refine xq rfl trivial (o_fa0 fl32_2 rfl) ?_ | refine xq rfl trivial (o_fa fl32_2 rfl) ?_
    refine xq rfl trivial (o_ldI (v := a1 2) rfl ts3 (List.Mem.head _) (by omega) rfl) ?_
    obtain ⟨ho2, h⟩ := h
    refine xo rfl trivial (OT.st (fun _ h => St.permI [1, 0] [[(b3, _)], [(p0, _)]] rfl h) (ot_callF (Cs := [[(p0, _)]]) (Rs := [[(b3, _)]]) kf21 rfl (fun w1 hw1 => cbegin_c _ _ _ _ w1 (St.hasC hw1) ho2) (fun _ _ _ h => h.1))) ?_
    rintro _ _ ⟨w1, _, rfl, hle, -, rfl, rfl⟩
    refine xo_st ((p0, BK 28 (mv (kPA 1 3 (kS [2])) ((cbegin_F c0 (a1 1) (a1 2)).2)) 61) :: ((b3, BK 4 (iv a1) 32) :: ([]))) (fun _ h => h) ?_
    refine xcallq rfl trivial kf13 rfl (fun w1 hw1 => code_c _ w1) ?_
    refine xq rfl trivial (o_as rfl) ?_
    refine xo_nil (xq_then (xw_ret (xq_blk_ret (xq_then_ret ?_))))
    subst h
    exact con_ret1 (.inl rfl) Try.results8 rfl (cat [[(p0, BK 28 (mv (kPA 1 3 (kS [2])) ((cbegin_F c0 (a1 1) (a1 2)).2)) 61)]]) (Kp.st (Kp.keep (Kp.new hb3 Kp.nil))) (⟨_, rfl, (Cov.cons Cov.nil), rfl, rfl⟩)
  · have hq1 : (decide (a1 0 = 0)) = false := hc1
    have hp1 : ¬ (a1 0 = 0) := of_decide_eq_false hq1
    rw [if_neg hp1] at h
    refine xw_cond_f rfl rfl (xw_seq (xw_region ?_))
    refine xq rfl trivial (o_eql rfl rfl) ?_
    refine xq rfl trivial (o_as rfl) ?_
    refine xo_nil (xq_then ?_)
    refine xw_bool 16 rfl (fun hc5 => ?_) (fun hc5 => ?_)
    · have hq5 : (decide (a1 0 = 1)) = true := hc5
      have hp5 : a1 0 = 1 := of_decide_eq_true hq5
      rw [if_pos hp5] at h
      refine xw_cond_t rfl rfl (xw_seq (xw_region ?_))
      refine xq rfl trivial (o_mv rfl) ?_
      first | refine xq rfl trivial (o_fa0 fl32_2 rfl) ?_ | refine xq rfl trivial (o_fa fl32_2 rfl) ?_
      refine xq rfl trivial (o_ldI (v := a1 2) rfl ts3 (List.Mem.head _) (by omega) rfl) ?_
      obtain ⟨ho6, h⟩ := h
      refine xo rfl trivial (OT.st (fun _ h => St.permI [1, 0] [[(b3, _)], [(p0, _)]] rfl h) (ot_callF (Cs := [[(p0, _)]]) (Rs := [[(b3, _)]]) kf12 rfl (fun w1 hw1 => cend_c _ _ _ w1 (St.hasC hw1) ho6) (fun _ _ _ h => h.1))) ?_
      rintro _ _ ⟨w1, _, rfl, hle, -, rfl, rfl⟩
      refine xo_st ((p0, BK 28 (mv (kPA 1 3 (kS [2])) ((cend_F c0 (a1 2)).2)) 61) :: ((b3, BK 4 (iv a1) 32) :: ([]))) (fun _ h => h) ?_
      refine xcallq rfl trivial kf13 rfl (fun w1 hw1 => code_c _ w1) ?_
      refine xq rfl trivial (o_as rfl) ?_
      refine xo_nil (xq_then (xw_ret (xq_blk_ret (xq_then_ret ?_))))
      subst h
      exact con_ret1 (.inl rfl) Try.results8 rfl (cat [[(p0, BK 28 (mv (kPA 1 3 (kS [2])) ((cend_F c0 (a1 2)).2)) 61)]]) (Kp.st (Kp.keep (Kp.new hb3 Kp.nil))) (⟨_, rfl, (Cov.cons Cov.nil), rfl, rfl⟩)
    · have hq5 : (decide (a1 0 = 1)) = false := hc5
      have hp5 : ¬ (a1 0 = 1) := of_decide_eq_false hq5
      rw [if_neg hp5] at h
      refine xw_cond_f rfl rfl (xw_skip ?_)
      refine xq_blk 0 ?_
      refine xq_then (xw_seq (xw_region ?_))
      refine xq rfl trivial (o_mv rfl) ?_
      first | refine xq rfl trivial (o_fa0 fl32_1 rfl) ?_ | refine xq rfl trivial (o_fa fl32_1 rfl) ?_
      refine xq rfl trivial (o_ldI (v := a1 1) rfl ts3 (List.Mem.head _) (by omega) rfl) ?_
      first | refine xq rfl trivial (o_fa0 fl32_3 rfl) ?_ | refine xq rfl trivial (o_fa fl32_3 rfl) ?_
      refine xq rfl trivial (o_ldI (v := a1 3) rfl ts3 (List.Mem.head _) (by omega) rfl) ?_
      obtain ⟨ho9, h⟩ := h
      refine xo rfl trivial (OT.st (fun _ h => St.permI [1, 0] [[(b3, _)], [(p0, _)]] rfl h) (ot_callF (Cs := [[(p0, _)]]) (Rs := [[(b3, _)]]) kf22 rfl (fun w1 hw1 => ccrash_c _ _ _ _ w1 (St.hasC hw1) ho9) (fun _ _ _ h => h.1))) ?_
      rintro _ _ ⟨w1, _, rfl, hle, -, rfl, rfl⟩
      refine xo_st ((p0, BK 28 (mv (kPA 1 3 (kS [2])) ((ccrash_F c0 (a1 1) (a1 3)).2)) 61) :: ((b3, BK 4 (iv a1) 32) :: ([]))) (fun _ h => h) ?_
      refine xcallq rfl trivial kf13 rfl (fun w1 hw1 => code_c _ w1) ?_
      refine xq rfl trivial (o_as rfl) ?_
      refine xo_nil (xq_then (xw_ret ?_))
      subst h
      exact con_ret1 (.inl rfl) Try.results8 rfl (cat [[(p0, BK 28 (mv (kPA 1 3 (kS [2])) ((ccrash_F c0 (a1 1) (a1 3)).2)) 61)]]) (Kp.st (Kp.keep (Kp.new hb3 Kp.nil))) (⟨_, rfl, (Cov.cons Cov.nil), rfl, rfl⟩)

theorem act16_c (c0 : (Nat → Int)) (a1 : (Nat → Int)) (p0 : Nat) (w : World) (hC : Has w (cat [[(p0, BK 28 (mv (kPA 1 3 (kS [2])) c0) 61)]])) (hP : act16_P c0 a1) : Con Try.prog 8 #[.pointer (some ⟨p0, 0, none⟩), AI 4 a1] w (CatG fun v Ls => Cov w (cat [[(p0, BK 28 (mv (kPA 1 3 (kS [2])) c0) 61)]]) (cat Ls) ∧ v = .int .i64 ((act16_F c0 a1).1) ∧ Ls = [[(p0, BK 28 (mv (kPA 1 3 (kS [2])) ((act16_F c0 a1).2)) 61)]]) :=
  act16_con c0 a1 p0 w hC _ (act16_ok c0 a1 hP)

theorem alive16_con (w : World) (r : Bool) (h : alive16_S r) : Con Try.prog 6 #[] w (Is (.bool r) []) := by
  unfold alive16_S at h
  refine con_enter (n := 43) [] Try.func6 rfl Try.ntmps6 rfl lan ?_
  refine xw_seq (xw_region ?_)
  refine xq rfl trivial (o_as rfl) ?_
  refine xo_nil (xq_then (xw_seq (xw_region ?_)))
  refine xoR rfl trivial (ot_in (l := [(0, _)]) kf7 rfl Try.func7 rfl Try.ntmps7 rfl (lac rfl lan) ?_)
  refine xw_seq (xw_region ?_)
  refine xq rfl trivial (o_as rfl) ?_
  refine xq rfl trivial (o_as rfl) ?_
  refine xo_nil (xq_then (xw_seq (xw_seq ?_)))
  refine xw_cut [(0, _)] (lc rfl ln) [(9, .bool false)] ?_ ?_
  · refine xw_region ?_
    refine xq rfl trivial (o_mv rfl) ?_
    refine xq rfl trivial (o_lss rfl rfl) ?_
    refine xq rfl trivial (o_mv rfl) ?_
    refine xq rfl ⟨_, rfl, rfl⟩ (o_mv rfl) ?_
    refine xq rfl ⟨_, rfl, rfl⟩ (o_gtr rfl rfl) ?_
    refine xq rfl trivial (o_pick_f rfl rfl) ?_
    refine xo_nil ?_
    exact xq_cut ((lce rfl (by first | rfl | (simp only [bS]; done) | (simp only [bS, reduceIte, Bool.false_eq_true]; done) | (simp []; done) | (simp_all; done)) (lc rfl ln))) (fun _ h => h)
  · refine xq_then (xw_cond_f rfl rfl (xw_skip (xq_then (xw_seq (xw_region ?_)))))
    refine xq rfl trivial (o_mv rfl) ?_
    refine xq rfl trivial (o_buildM (k := (kPA 1 3 (kS [2]))) (m := (updI (fun _ => 0) 0 2)) fk61 ze61 (.one fl61_0 rfl rfl rfl (.nil _)) (fun i hi => match i, hi with | 0, _ => rfl | 1, _ => rfl | 2, _ => rfl | 3, _ => rfl | 4, _ => rfl | 5, _ => rfl | 6, _ => rfl | 7, _ => rfl | 8, _ => rfl | 9, _ => rfl | 10, _ => rfl | 11, _ => rfl | 12, _ => rfl | 13, _ => rfl | 14, _ => rfl | 15, _ => rfl | 16, _ => rfl | 17, _ => rfl | 18, _ => rfl | 19, _ => rfl | 20, _ => rfl | 21, _ => rfl | 22, _ => rfl | 23, _ => rfl | 24, _ => rfl | 25, _ => rfl | 26, _ => rfl | 27, _ => rfl | q + 28, h => absurd h (by omega))) ?_
    refine xo rfl trivial (o_boxA rfl) ?_
    rintro _ _ ⟨b13, hb13, rfl, rfl⟩
    refine xq rfl trivial (o_as rfl) ?_
    refine xq rfl trivial (o_as rfl) ?_
    refine xo_nil (xq_then (xw_ret ?_))
    refine con_ret2 (.inl rfl) Try.results7 rfl rfl _ (fun _ h => h) (?_)
    refine xq rfl trivial (o_mv rfl) ?_
    refine xq rfl trivial (o_ext rfl rfl) ?_
    refine xq rfl trivial (o_ext rfl rfl) ?_
    refine xq rfl trivial (o_as rfl) ?_
    refine xq rfl trivial (o_as rfl) ?_
    refine xo_nil (xq_then (xw_seq (xw_seq (xw_region ?_))))
    refine xq rfl trivial (o_mv rfl) ?_
    refine xq rfl trivial (o_eqn Try.underlying25 rfl rfl rfl rfl) ?_
    refine xq rfl trivial (o_mv rfl) ?_
    refine xq rfl ⟨_, rfl, rfl⟩ (o_mv rfl) ?_
    refine xq rfl ⟨_, rfl, rfl⟩ (o_nen Try.underlying27 rfl rfl rfl rfl) ?_
    refine xq rfl trivial (o_pick_f rfl rfl) ?_
    refine xq rfl trivial (o_mv rfl) ?_
    refine xq rfl ⟨_, rfl, rfl⟩ (o_mv rfl) ?_
    obtain ⟨ho1, h⟩ := h
    refine xo rfl ⟨_, rfl, rfl⟩ (OT.st (fun _ h => h) (ot_callF (Cs := [[(b13, _)]]) (Rs := []) kf21 rfl (fun w1 hw1 => cbegin_c _ _ _ _ w1 (St.hasC hw1) ho1) (fun _ _ _ h => h.1))) ?_
    rintro _ _ ⟨w1, _, rfl, hle, -, rfl, rfl⟩
    refine xo_st ((b13, BK 28 (mv (kPA 1 3 (kS [2])) ((cbegin_F (updI (fun _ => 0) 0 2) 1 7).2)) 61) :: ([])) (fun _ h => h) ?_
    refine xq rfl ⟨_, rfl, rfl⟩ (o_neE Try.underlying27 rfl (fun _ => rfl) rfl rfl) ?_
    refine xq rfl trivial (o_pick_f rfl rfl) ?_
    refine xo_nil (xq_then ?_)
    refine xw_bool 19 rfl (fun hc4 => ?_) (fun hc4 => ?_)
    · have hq4 : (decide ((cbegin_F (updI (fun _ => 0) 0 2) 1 7).1 = 0)) = false := (bnT hc4)
      have hp4 : ¬ ((cbegin_F (updI (fun _ => 0) 0 2) 1 7).1 = 0) := of_decide_eq_false hq4
      rw [if_neg hp4] at h
      refine xw_cond_t rfl rfl (xw_seq (xw_region ?_))
      refine xq rfl trivial (o_as rfl) ?_
      refine xo_nil (xq_then (xw_ret (xq_then_ret ?_)))
      subst h
      exact con_ret1 (.inl rfl) Try.results6 rfl [] (Kp.st (Kp.new hb13 Kp.nil)) (⟨rfl, rfl⟩)
    · have hq4 : (decide ((cbegin_F (updI (fun _ => 0) 0 2) 1 7).1 = 0)) = true := (bnF hc4)
      have hp4 : (cbegin_F (updI (fun _ => 0) 0 2) 1 7).1 = 0 := of_decide_eq_true hq4
      rw [if_pos hp4] at h
      refine xw_cond_f rfl rfl (xw_skip (xq_then (xw_seq (xw_region ?_))))
      refine xq rfl trivial (o_mv rfl) ?_
      obtain ⟨ho5, h⟩ := h
      refine xo rfl trivial (OT.st (fun _ h => h) (ot_callF (Cs := [[(b13, _)]]) (Rs := []) kf21 rfl (fun w1 hw1 => cbegin_c _ _ _ _ w1 (St.hasC hw1) ho5) (fun _ _ _ h => h.1))) ?_
      rintro _ _ ⟨w1, _, rfl, hle, -, rfl, rfl⟩
      refine xo_st ((b13, BK 28 (mv (kPA 1 3 (kS [2])) ((cbegin_F ((cbegin_F (updI (fun _ => 0) 0 2) 1 7).2) 1 8).2)) 61) :: ([])) (fun _ h => h) ?_
      refine xq rfl trivial (o_as rfl) ?_
      refine xo_nil (xq_then (xw_seq (xw_region ?_)))
      refine xq rfl trivial (o_mv rfl) ?_
      obtain ⟨ho8, h⟩ := h
      refine xo rfl trivial (OT.st (fun _ h => h) (ot_callF (Cs := [[(b13, _)]]) (Rs := []) kf22 rfl (fun w1 hw1 => ccrash_c _ _ _ _ w1 (St.hasC hw1) ho8) (fun _ _ _ h => h.1))) ?_
      rintro _ _ ⟨w1, _, rfl, hle, -, rfl, rfl⟩
      refine xo_st ((b13, BK 28 (mv (kPA 1 3 (kS [2])) ((ccrash_F ((cbegin_F ((cbegin_F (updI (fun _ => 0) 0 2) 1 7).2) 1 8).2) 1 10).2)) 61) :: ([])) (fun _ h => h) ?_
      refine xq rfl trivial (o_as rfl) ?_
      refine xo_nil (xq_then (xw_seq (xw_region ?_)))
      refine xq rfl trivial (o_mv rfl) ?_
      refine xcallq rfl trivial kf13 rfl (fun w1 hw1 => code_c _ w1) ?_
      refine xq rfl trivial (o_eql rfl rfl) ?_
      refine xq rfl trivial (o_mv rfl) ?_
      refine xo_bool 27 rfl (fun hg11 => ?_) (fun hg11 => ?_)
      · have hq11 : (decide ((code_F ((cbegin_F ((cbegin_F (updI (fun _ => 0) 0 2) 1 7).2) 1 8).1)) = 8)) = true := hg11
        have hp11 : (code_F ((cbegin_F ((cbegin_F (updI (fun _ => 0) 0 2) 1 7).2) 1 8).1)) = 8 := of_decide_eq_true hq11
        rw [if_pos hp11] at h
        refine xq rfl ⟨_, rfl, rfl⟩ (o_mv rfl) ?_
        refine xq rfl ⟨_, rfl, rfl⟩ (o_eqE Try.underlying27 rfl (fun _ => rfl) rfl rfl) ?_
        refine xq rfl trivial (o_pick_t rfl rfl) ?_
        refine xq rfl trivial (o_mv rfl) ?_
        refine xo_bool 31 rfl (fun hg12 => ?_) (fun hg12 => ?_)
        · have hq12 : (decide ((ccrash_F ((cbegin_F ((cbegin_F (updI (fun _ => 0) 0 2) 1 7).2) 1 8).2) 1 10).1 = 0)) = true := hg12
          have hp12 : (ccrash_F ((cbegin_F ((cbegin_F (updI (fun _ => 0) 0 2) 1 7).2) 1 8).2) 1 10).1 = 0 := of_decide_eq_true hq12
          rw [if_pos hp12] at h
          refine xq rfl ⟨_, rfl, rfl⟩ (o_mv rfl) ?_
          obtain ⟨ho13, h⟩ := h
          refine xo rfl ⟨_, rfl, rfl⟩ (OT.st (fun _ h => h) (ot_callF (Cs := [[(b13, _)]]) (Rs := []) kf9 rfl (fun w1 hw1 => clost_c _ _ _ _ w1 (St.hasC hw1) ho13) (fun _ _ _ h => h.1))) ?_
          rintro vs16 _ ⟨w1, _, rfl, hle, -, _, Bs16, rfl, rfl, hJs16, hcBs16⟩
          replace hcBs16 := Cov.base (w0 := w) hcBs16 hle
          refine xo_st ((b13, BK 28 (mv (kPA 1 3 (kS [2])) ((ccrash_F ((cbegin_F ((cbegin_F (updI (fun _ => 0) 0 2) 1 7).2) 1 8).2) 1 10).2)) 61) :: (Bs16 ++ ([]))) (fun _ h => h) ?_
          refine xq rfl ⟨_, rfl, rfl⟩ (o_lenL rfl Try.underlying33 rfl (OJ.val hJs16)) ?_
          refine xq rfl ⟨_, rfl, rfl⟩ (o_eql rfl rfl) ?_
          refine xq rfl trivial (o_pick_t rfl rfl) ?_
          refine xq rfl trivial (o_mv rfl) ?_
          refine xo_bool 37 rfl (fun hg17 => ?_) (fun hg17 => ?_)
          · have hq17 : (decide (((clost_F ((ccrash_F ((cbegin_F ((cbegin_F (updI (fun _ => 0) 0 2) 1 7).2) 1 8).2) 1 10).2) 14 5).length : Int) = 0)) = true := hg17
            have hp17 : ((clost_F ((ccrash_F ((cbegin_F ((cbegin_F (updI (fun _ => 0) 0 2) 1 7).2) 1 8).2) 1 10).2) 14 5).length : Int) = 0 := of_decide_eq_true hq17
            rw [if_pos hp17] at h
            refine xq rfl ⟨_, rfl, rfl⟩ (o_mv rfl) ?_
            obtain ⟨ho18, h⟩ := h
            refine xo rfl ⟨_, rfl, rfl⟩ (OT.st (fun _ h => h) (ot_callF (Cs := [[(b13, _)]]) (Rs := [Bs16]) kf9 rfl (fun w1 hw1 => clost_c _ _ _ _ w1 (St.hasC hw1) ho18) (fun _ _ _ h => h.1))) ?_
            rintro vs21 _ ⟨w1, _, rfl, hle, -, _, Bs21, rfl, rfl, hJs21, hcBs21⟩
            replace hcBs21 := Cov.base (w0 := w) hcBs21 hle
            refine xo_st ((b13, BK 28 (mv (kPA 1 3 (kS [2])) ((ccrash_F ((cbegin_F ((cbegin_F (updI (fun _ => 0) 0 2) 1 7).2) 1 8).2) 1 10).2)) 61) :: (Bs21 ++ (Bs16 ++ ([])))) (fun _ h => h) ?_
            refine xo rfl ⟨_, rfl, rfl⟩ (o_bsl el33 ze3 (cells_one rfl) rfl rfl (.int rfl rfl (.nil _))) ?_
            rintro _ _ ⟨b40, hb40, rfl, rfl⟩
            obtain ⟨ho22, h⟩ := h
            refine xcallq rfl ⟨_, rfl, rfl⟩ kf17 rfl (fun w1 hw1 => ints_c _ _ _ _ w1 (hJs21.sl hw1 (Pull.sub (.thereC _ (.thereC _ (.here _ _))))) (SL.lit (l := [7]) hw1 (List.Mem.head _) rfl (by omega) (by simp [maxLen]) (by exact (fun i hi => match i, hi with | 0, _ => rfl | q + 1, h => absurd h (by omega)))) ho22) ?_
            refine xq rfl trivial (o_pick_t rfl rfl) ?_
            refine xq rfl trivial (o_as rfl) ?_
            refine xo_nil (xq_then (xw_ret ?_))
            subst h
            exact con_ret1 (.inl rfl) Try.results6 rfl [] (Kp.st (Kp.new hb40 (Kp.new hb13 (Kp.segNew (Cov.fresh hcBs21) (Kp.segNew (Cov.fresh hcBs16) Kp.nil))))) (⟨rfl, rfl⟩)
          · have hq17 : (decide (((clost_F ((ccrash_F ((cbegin_F ((cbegin_F (updI (fun _ => 0) 0 2) 1 7).2) 1 8).2) 1 10).2) 14 5).length : Int) = 0)) = false := hg17
            have hp17 : ¬ (((clost_F ((ccrash_F ((cbegin_F ((cbegin_F (updI (fun _ => 0) 0 2) 1 7).2) 1 8).2) 1 10).2) 14 5).length : Int) = 0) := of_decide_eq_false hq17
            rw [if_neg hp17] at h
            refine xs rfl ⟨_, _, rfl, rfl, rfl⟩ (xs rfl ⟨_, _, rfl, rfl, rfl⟩ (xs rfl ⟨_, _, rfl, rfl, rfl⟩ (xs rfl ⟨_, _, rfl, rfl, rfl⟩ ?_)))
            refine xq rfl trivial (o_pick_f rfl rfl) ?_
            refine xq rfl trivial (o_as rfl) ?_
            refine xo_nil (xq_then (xw_ret ?_))
            subst h
            exact con_ret1 (.inl rfl) Try.results6 rfl [] (Kp.st (Kp.new hb13 (Kp.segNew (Cov.fresh hcBs16) Kp.nil))) (⟨rfl, rfl⟩)
        · have hq12 : (decide ((ccrash_F ((cbegin_F ((cbegin_F (updI (fun _ => 0) 0 2) 1 7).2) 1 8).2) 1 10).1 = 0)) = false := hg12
          have hp12 : ¬ ((ccrash_F ((cbegin_F ((cbegin_F (updI (fun _ => 0) 0 2) 1 7).2) 1 8).2) 1 10).1 = 0) := of_decide_eq_false hq12
          rw [if_neg hp12] at h
          refine xs rfl ⟨_, _, rfl, rfl, rfl⟩ (xs rfl ⟨_, _, rfl, rfl, rfl⟩ (xs rfl ⟨_, _, rfl, rfl, rfl⟩ (xs rfl ⟨_, _, rfl, rfl, rfl⟩ ?_)))
          refine xq rfl trivial (o_pick_f rfl rfl) ?_
          refine xq rfl trivial (o_mv rfl) ?_
          refine xs rfl ⟨_, _, rfl, rfl, rfl⟩ (xs rfl ⟨_, _, rfl, rfl, rfl⟩ (xs rfl ⟨_, _, rfl, rfl, rfl⟩ (xs rfl ⟨_, _, rfl, rfl, rfl⟩ ?_)))
          refine xq rfl trivial (o_pick_f rfl rfl) ?_
          refine xq rfl trivial (o_as rfl) ?_
          refine xo_nil (xq_then (xw_ret ?_))
          subst h
          exact con_ret1 (.inl rfl) Try.results6 rfl [] (Kp.st (Kp.new hb13 Kp.nil)) (⟨rfl, rfl⟩)
      · have hq11 : (decide ((code_F ((cbegin_F ((cbegin_F (updI (fun _ => 0) 0 2) 1 7).2) 1 8).1)) = 8)) = false := hg11
        have hp11 : ¬ ((code_F ((cbegin_F ((cbegin_F (updI (fun _ => 0) 0 2) 1 7).2) 1 8).1)) = 8) := of_decide_eq_false hq11
        rw [if_neg hp11] at h
        refine xs rfl ⟨_, _, rfl, rfl, rfl⟩ (xs rfl ⟨_, _, rfl, rfl, rfl⟩ ?_)
        refine xq rfl trivial (o_pick_f rfl rfl) ?_
        refine xq rfl trivial (o_mv rfl) ?_
        refine xs rfl ⟨_, _, rfl, rfl, rfl⟩ (xs rfl ⟨_, _, rfl, rfl, rfl⟩ (xs rfl ⟨_, _, rfl, rfl, rfl⟩ (xs rfl ⟨_, _, rfl, rfl, rfl⟩ ?_)))
        refine xq rfl trivial (o_pick_f rfl rfl) ?_
        refine xq rfl trivial (o_mv rfl) ?_
        refine xs rfl ⟨_, _, rfl, rfl, rfl⟩ (xs rfl ⟨_, _, rfl, rfl, rfl⟩ (xs rfl ⟨_, _, rfl, rfl, rfl⟩ (xs rfl ⟨_, _, rfl, rfl, rfl⟩ ?_)))
        refine xq rfl trivial (o_pick_f rfl rfl) ?_
        refine xq rfl trivial (o_as rfl) ?_
        refine xo_nil (xq_then (xw_ret ?_))
        subst h
        exact con_ret1 (.inl rfl) Try.results6 rfl [] (Kp.st (Kp.new hb13 Kp.nil)) (⟨rfl, rfl⟩)

theorem alive16_c (w : World) (hP : alive16_P) : Con Try.prog 6 #[] w (Is (.bool alive16_F) []) :=
  alive16_con w _ (alive16_ok hP)

end Go.Proofs.Yteomcjiiiilhmaa
