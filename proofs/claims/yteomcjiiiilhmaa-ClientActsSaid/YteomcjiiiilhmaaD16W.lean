/- The code answers as the relations say. -/
import Derived.Test.YteomcjiiiilhmaaTab
import Derived.Test.YteomcjiiiilhmaaD16S
import Derived.Test.YteomcjiiiilhmaaC16W
set_option maxHeartbeats 1000000
set_option linter.unusedVariables false
set_option linter.unusedSimpArgs false
set_option maxRecDepth 100000
namespace Go.Proofs.Yteomcjiiiilhmaa
open Go Go.E

theorem acts16_con (n0 : Int) (acts1 : (List (Nat → Int))) (now2 : Int) (span3 : Int) (tx4 : Int) (v1 : Value) (w : World) (hs1 : SL w 4 iv v1 acts1) (r : Bool) (h : acts16_S n0 acts1 now2 span3 tx4 r) : Con Try.prog 4 #[.int .i64 n0, v1, .int .i64 now2, .int .i64 span3, .int .i64 tx4] w (Is (.bool r) []) := by
  unfold acts16_S at h
  refine con_enter (n := 231) [(0, _), (1, _), (2, _), (3, _), (4, _)] Try.func4 rfl Try.ntmps4 rfl (lac rfl (lac rfl (lac rfl (lac rfl (lac rfl lan))))) ?_
  refine xw_seq (xw_region ?_)
  refine xq rfl trivial (o_as rfl) ?_
  refine xo_nil (xq_then (xw_seq (xw_seq (xw_region ?_))))
  obtain ⟨ho1, h⟩ := h
  refine xcallq rfl trivial kf6 rfl (fun w1 hw1 => alive16_c w1 ho1) ?_
  refine xq rfl trivial (o_not rfl) ?_
  refine xo_nil (xq_then ?_)
  refine xw_bool 24 rfl (fun hc2 => ?_) (fun hc2 => ?_)
  · have hq2 : (alive16_F) = false := (bnT hc2)
    have hp2 : ¬ ((alive16_F) = true) := bne' hq2
    rw [if_neg hp2] at h
    refine xw_cond_t rfl rfl (xw_seq (xw_region ?_))
    refine xq rfl trivial (o_as rfl) ?_
    refine xo_nil (xq_then (xw_ret (xq_then_ret ?_)))
    subst h
    exact con_ret1 (.inl rfl) Try.results4 rfl [] (fun _ h => h) (⟨rfl, rfl⟩)
  · have hq2 : (alive16_F) = true := (bnF hc2)
    have hp2 : (alive16_F) = true := hq2
    rw [if_pos hp2] at h
    refine xw_cond_f rfl rfl (xw_skip (xq_then (xw_seq (xw_seq (xw_region ?_)))))
    refine xq rfl trivial (o_mv rfl) ?_
    refine xq rfl trivial (o_lenL rfl Try.underlying22 rfl (SL.val hs1)) ?_
    refine xq rfl trivial (o_gtr rfl rfl) ?_
    refine xo_nil (xq_then ?_)
    refine xw_bool 27 rfl (fun hc3 => ?_) (fun hc3 => ?_)
    · have hq3 : (decide (100 < (acts1.length : Int))) = true := hc3
      have hp3 : 100 < (acts1.length : Int) := of_decide_eq_true hq3
      rw [if_pos hp3] at h
      refine xw_cond_t rfl rfl (xw_seq (xw_region ?_))
      refine xq rfl trivial (o_as rfl) ?_
      refine xo_nil (xq_then (xw_ret (xq_then_ret ?_)))
      subst h
      exact con_ret1 (.inl rfl) Try.results4 rfl [] (fun _ h => h) (⟨rfl, rfl⟩)
    · have hq3 : (decide (100 < (acts1.length : Int))) = false := hc3
      have hp3 : ¬ (100 < (acts1.length : Int)) := of_decide_eq_false hq3
      rw [if_neg hp3] at h
      refine xw_cond_f rfl rfl (xw_skip (xq_then (xw_seq (xw_region ?_))))
      refine xq rfl trivial (o_mv rfl) ?_
      refine xoR rfl trivial (ot_in (l := [(0, _)]) kf7 rfl Try.func7 rfl Try.ntmps7 rfl (lac rfl lan) ?_)
      refine xw_seq (xw_region ?_)
      refine xq rfl trivial (o_as rfl) ?_
      refine xq rfl trivial (o_as rfl) ?_
      refine xo_nil (xq_then (xw_seq (xw_seq ?_)))
      refine xw_cut [(0, _)] (lc rfl ln) [(9, .bool ((decide (n0 < 1)) || (decide (8 < n0))))] ?_ ?_
      · refine xw_region ?_
        refine xq rfl trivial (o_mv rfl) ?_
        refine xq rfl trivial (o_lss rfl rfl) ?_
        refine xq rfl trivial (o_mv rfl) ?_
        refine xo_bool 6 rfl (fun hg4 => ?_) (fun hg4 => ?_)
        · have hq4 : (decide (n0 < 1)) = true := hg4
          have hp4 : n0 < 1 := of_decide_eq_true hq4
          refine xs rfl ⟨_, _, rfl, rfl, rfl⟩ (xs rfl ⟨_, _, rfl, rfl, rfl⟩ ?_)
          refine xq rfl trivial (o_pick_t rfl rfl) ?_
          refine xo_nil ?_
          exact xq_cut ((lce rfl (by first | rfl | (simp only [hq2, hq3, hq4, if_pos hp2, if_neg hp3, if_pos hp4, bS]; done) | (simp only [hq2, hq3, hq4, if_pos hp2, if_neg hp3, if_pos hp4, bS, reduceIte, Bool.false_eq_true]; done) | (simp [hp2, hp3, hp4]; done) | (simp_all; done)) (lc rfl ln))) (fun _ h => h)
        · have hq4 : (decide (n0 < 1)) = false := hg4
          have hp4 : ¬ (n0 < 1) := of_decide_eq_false hq4
          refine xq rfl ⟨_, rfl, rfl⟩ (o_mv rfl) ?_
          refine xq rfl ⟨_, rfl, rfl⟩ (o_gtr rfl rfl) ?_
          refine xq rfl trivial (o_pick_f rfl rfl) ?_
          refine xo_nil ?_
          exact xq_cut ((lce rfl (by first | rfl | (simp only [hq2, hq3, hq4, if_pos hp2, if_neg hp3, if_neg hp4, bS]; done) | (simp only [hq2, hq3, hq4, if_pos hp2, if_neg hp3, if_neg hp4, bS, reduceIte, Bool.false_eq_true]; done) | (simp [hp2, hp3, hp4]; done) | (simp_all; done)) (lc rfl ln))) (fun _ h => h)
      · refine xq_then ?_
        refine xw_bool 9 rfl (fun hc5 => ?_) (fun hc5 => ?_)
        · have hq5 : ((decide (n0 < 1)) || (decide (8 < n0))) = true := hc5
          have hp5 : ((decide (n0 < 1)) || (decide (8 < n0))) = true := hq5
          rw [if_pos hp5] at h
          refine xw_cond_t rfl rfl (xw_seq (xw_region ?_))
          refine xq rfl trivial (o_mki rfl Try.underlying56 rfl) ?_
          refine xq rfl trivial (o_as rfl) ?_
          refine xq rfl trivial (o_as rfl) ?_
          refine xo_nil (xq_then (xw_ret (xq_then_ret ?_)))
          refine con_ret2 (.inl rfl) Try.results7 rfl rfl _ (fun _ h => h) (?_)
          refine xq rfl trivial (o_mv rfl) ?_
          refine xq rfl trivial (o_ext rfl rfl) ?_
          refine xq rfl trivial (o_ext rfl rfl) ?_
          refine xq rfl trivial (o_as rfl) ?_
          refine xq rfl trivial (o_as rfl) ?_
          refine xo_nil (xq_then (xw_seq (xw_seq ?_)))
          refine xw_cut [(0, _), (1, _), (2, _), (3, _), (4, _), (11, _), (12, _)] (lc rfl (lc rfl (lc rfl (lc rfl (lc rfl (lc rfl (lc rfl ln))))))) [(38, .bool ((decide (n0 < 1)) || (decide (8 < n0))))] ?_ ?_
          · refine xw_region ?_
            refine xq rfl trivial (o_mv rfl) ?_
            refine xq rfl trivial (o_lss rfl rfl) ?_
            refine xq rfl trivial (o_mv rfl) ?_
            refine xo_bool 35 rfl (fun hg6 => ?_) (fun hg6 => ?_)
            · have hq6 : (decide (n0 < 1)) = true := hg6
              have hp6 : n0 < 1 := of_decide_eq_true hq6
              refine xs rfl ⟨_, _, rfl, rfl, rfl⟩ (xs rfl ⟨_, _, rfl, rfl, rfl⟩ ?_)
              refine xq rfl trivial (o_pick_t rfl rfl) ?_
              refine xo_nil ?_
              exact xq_cut ((lce rfl (by first | rfl | (simp only [hq2, hq3, hq5, hq6, if_pos hp2, if_neg hp3, if_pos hp5, if_pos hp6, bS]; done) | (simp only [hq2, hq3, hq5, hq6, if_pos hp2, if_neg hp3, if_pos hp5, if_pos hp6, bS, reduceIte, Bool.false_eq_true]; done) | (simp [hp2, hp3, hp5, hp6]; done) | (simp_all; done)) (lc rfl (lc rfl (lc rfl (lc rfl (lc rfl (lc rfl (lc rfl ln))))))))) (fun _ h => h)
            · have hq6 : (decide (n0 < 1)) = false := hg6
              have hp6 : ¬ (n0 < 1) := of_decide_eq_false hq6
              refine xq rfl ⟨_, rfl, rfl⟩ (o_mv rfl) ?_
              refine xq rfl ⟨_, rfl, rfl⟩ (o_gtr rfl rfl) ?_
              refine xq rfl trivial (o_pick_f rfl rfl) ?_
              refine xo_nil ?_
              exact xq_cut ((lce rfl (by first | rfl | (simp only [hq2, hq3, hq5, hq6, if_pos hp2, if_neg hp3, if_pos hp5, if_neg hp6, bS]; done) | (simp only [hq2, hq3, hq5, hq6, if_pos hp2, if_neg hp3, if_pos hp5, if_neg hp6, bS, reduceIte, Bool.false_eq_true]; done) | (simp [hp2, hp3, hp5, hp6]; done) | (simp_all; done)) (lc rfl (lc rfl (lc rfl (lc rfl (lc rfl (lc rfl (lc rfl ln))))))))) (fun _ h => h)
          · refine xq_then ?_
            refine xw_cond_t rfl (by simpa using hp5) ?_
            refine xw_seq ?_
            refine xw_cut [] ln [(10, .bool (decide ((code_F 2) = 2)))] ?_ ?_
            · refine xw_region ?_
              refine xq rfl trivial (o_mv rfl) ?_
              refine xq rfl trivial (o_eqn Try.underlying25 rfl rfl rfl rfl) ?_
              refine xq rfl trivial (o_mv rfl) ?_
              refine xq rfl ⟨_, rfl, rfl⟩ (o_mv rfl) ?_
              refine xcallq rfl ⟨_, rfl, rfl⟩ kf13 rfl (fun w1 hw1 => code_c 2 w1) ?_
              refine xq rfl ⟨_, rfl, rfl⟩ (o_eql rfl rfl) ?_
              refine xq rfl trivial (o_pick_t rfl rfl) ?_
              refine xq rfl trivial (o_as rfl) ?_
              refine xo_nil ?_
              exact xq_cut ((lce rfl (by first | rfl | (simp only [hq2, hq3, hq5, if_pos hp2, if_neg hp3, if_pos hp5, bS]; done) | (simp only [hq2, hq3, hq5, if_pos hp2, if_neg hp3, if_pos hp5, bS, reduceIte, Bool.false_eq_true]; done) | (simp [hp2, hp3, hp5]; done) | (simp_all; done)) ln)) (fun _ h => h)
            · refine xq_then (xw_ret (xq_then_ret ?_))
              subst h
              exact con_ret1 (.inl rfl) Try.results4 rfl [] (fun _ h => h) (⟨rfl, rfl⟩)
        · have hq5 : ((decide (n0 < 1)) || (decide (8 < n0))) = false := hc5
          have hp5 : ¬ (((decide (n0 < 1)) || (decide (8 < n0))) = true) := bne' hq5
          rw [if_neg hp5] at h
          refine xw_cond_f rfl rfl (xw_skip (xq_then (xw_seq (xw_region ?_))))
          refine xq rfl trivial (o_mv rfl) ?_
          refine xq rfl trivial (o_buildM (k := (kPA 1 3 (kS [2]))) (m := (updI (fun _ => 0) 0 n0)) fk61 ze61 (.one fl61_0 rfl rfl rfl (.nil _)) (fun i hi => match i, hi with | 0, _ => rfl | 1, _ => rfl | 2, _ => rfl | 3, _ => rfl | 4, _ => rfl | 5, _ => rfl | 6, _ => rfl | 7, _ => rfl | 8, _ => rfl | 9, _ => rfl | 10, _ => rfl | 11, _ => rfl | 12, _ => rfl | 13, _ => rfl | 14, _ => rfl | 15, _ => rfl | 16, _ => rfl | 17, _ => rfl | 18, _ => rfl | 19, _ => rfl | 20, _ => rfl | 21, _ => rfl | 22, _ => rfl | 23, _ => rfl | 24, _ => rfl | 25, _ => rfl | 26, _ => rfl | 27, _ => rfl | q + 28, h => absurd h (by omega))) ?_
          refine xo rfl trivial (o_boxA rfl) ?_
          rintro _ _ ⟨b13, hb13, rfl, rfl⟩
          refine xq rfl trivial (o_as rfl) ?_
          refine xq rfl trivial (o_as rfl) ?_
          refine xo_nil (xq_then (xw_ret ?_))
          refine con_ret2 (.inl rfl) Try.results7 rfl rfl _ (fun _ h => h) (?_)
          refine xq rfl trivial (o_mv rfl) ?_
          refine xq rfl trivial (o_ext rfl rfl) ?_
          refine xq rfl trivial (o_ext rfl rfl) ?_
          refine xq rfl trivial (o_as rfl) ?_
          refine xq rfl trivial (o_as rfl) ?_
          refine xo_nil (xq_then (xw_seq (xw_seq ?_)))
          refine xw_cut [(0, _), (1, _), (2, _), (3, _), (4, _), (11, _), (12, _)] (lc rfl (lc rfl (lc rfl (lc rfl (lc rfl (lc rfl (lc rfl ln))))))) [(38, .bool ((decide (n0 < 1)) || (decide (8 < n0))))] ?_ ?_
          · refine xw_region ?_
            refine xq rfl trivial (o_mv rfl) ?_
            refine xq rfl trivial (o_lss rfl rfl) ?_
            refine xq rfl trivial (o_mv rfl) ?_
            refine xo_bool 35 rfl (fun hg7 => ?_) (fun hg7 => ?_)
            · have hq7 : (decide (n0 < 1)) = true := hg7
              have hp7 : n0 < 1 := of_decide_eq_true hq7
              refine xs rfl ⟨_, _, rfl, rfl, rfl⟩ (xs rfl ⟨_, _, rfl, rfl, rfl⟩ ?_)
              refine xq rfl trivial (o_pick_t rfl rfl) ?_
              refine xo_nil ?_
              exact xq_cut ((lce rfl (by first | rfl | (simp only [hq2, hq3, hq5, hq7, if_pos hp2, if_neg hp3, if_neg hp5, if_pos hp7, bS]; done) | (simp only [hq2, hq3, hq5, hq7, if_pos hp2, if_neg hp3, if_neg hp5, if_pos hp7, bS, reduceIte, Bool.false_eq_true]; done) | (simp [hp2, hp3, hp5, hp7]; done) | (simp_all; done)) (lc rfl (lc rfl (lc rfl (lc rfl (lc rfl (lc rfl (lc rfl ln))))))))) (fun _ h => h)
            · have hq7 : (decide (n0 < 1)) = false := hg7
              have hp7 : ¬ (n0 < 1) := of_decide_eq_false hq7
              refine xq rfl ⟨_, rfl, rfl⟩ (o_mv rfl) ?_
              refine xq rfl ⟨_, rfl, rfl⟩ (o_gtr rfl rfl) ?_
              refine xq rfl trivial (o_pick_f rfl rfl) ?_
              refine xo_nil ?_
              exact xq_cut ((lce rfl (by first | rfl | (simp only [hq2, hq3, hq5, hq7, if_pos hp2, if_neg hp3, if_neg hp5, if_neg hp7, bS]; done) | (simp only [hq2, hq3, hq5, hq7, if_pos hp2, if_neg hp3, if_neg hp5, if_neg hp7, bS, reduceIte, Bool.false_eq_true]; done) | (simp [hp2, hp3, hp5, hp7]; done) | (simp_all; done)) (lc rfl (lc rfl (lc rfl (lc rfl (lc rfl (lc rfl (lc rfl ln))))))))) (fun _ h => h)
          · refine xq_then ?_
            refine xw_cond_f rfl (by simpa using hp5) ?_
            refine xw_skip (xq_then (xw_seq (xw_seq ?_)))
            refine xw_cut [(0, _), (1, _), (2, _), (3, _), (4, _), (11, _)] (lc rfl (lc rfl (lc rfl (lc rfl (lc rfl (lc rfl ln)))))) [(51, .bool false)] ?_ ?_
            · refine xw_region ?_
              refine xq rfl trivial (o_mv rfl) ?_
              refine xq rfl trivial (o_eqn Try.underlying25 rfl rfl rfl rfl) ?_
              refine xq rfl trivial (o_mv rfl) ?_
              refine xq rfl ⟨_, rfl, rfl⟩ (o_mv rfl) ?_
              refine xq rfl ⟨_, rfl, rfl⟩ (o_nen Try.underlying27 rfl rfl rfl rfl) ?_
              refine xq rfl trivial (o_pick_f rfl rfl) ?_
              refine xo_nil ?_
              exact xq_cut ((lce rfl (by first | rfl | (simp only [hq2, hq3, hq5, if_pos hp2, if_neg hp3, if_neg hp5, bS]; done) | (simp only [hq2, hq3, hq5, if_pos hp2, if_neg hp3, if_neg hp5, bS, reduceIte, Bool.false_eq_true]; done) | (simp [hp2, hp3, hp5]; done) | (simp_all; done)) (lc rfl (lc rfl (lc rfl (lc rfl (lc rfl (lc rfl ln)))))))) (fun _ h => h)
            · refine xq_then (xw_cond_f rfl rfl (xw_skip (xq_then (xw_seq (xw_region ?_)))))
              refine xq rfl trivial (o_mv rfl) ?_
              obtain ⟨ho9, h⟩ := h
              obtain ⟨ho10, h⟩ := h
              obtain ⟨ho11, h⟩ := h
              refine xo rfl trivial (o_mksl (c := (mv (kS [1]))) (fun _ => 0) ap41 rfl rfl rfl (AG_cells _ _) ho9 (by have := ho10; omega) ho11) ?_
              rintro vs8 _ ⟨Bs8, rfl, hns8, hJs8⟩
              have hcBs8 := hns8
              refine xq rfl trivial (o_as rfl) ?_
              refine xo_nil (xq_then (xw_seq (xw_seq (xw_region ?_))))
              refine xq rfl trivial (o_as rfl) ?_
              refine xo_nil (xq_then ?_)
              refine xw_block ?_
              obtain ⟨x1, hx1, h⟩ := h
              refine xw_wh (fun s e H => match s with | (v13, i14, fb13) => ∃ (v13_1 : Value) (B13_1 : GH), e = [(0, .int .i64 n0), (1, v1), (2, .int .i64 now2), (3, .int .i64 span3), (4, .int .i64 tx4), (11, .pointer (some ⟨b13, 0, none⟩)), (13, v13_1), (14, .int .i64 i14)] ∧ H = B13_1 ++ ((b13, BK 28 (mv (kPA 1 3 (kS [2])) fb13) 61) :: ([])) ∧ OJ 48 3 (mv (kS [1])) B13_1 v13_1 v13 ∧ Cov w [] B13_1) (fun x ex e H => match x with | .inl (v13, fb13) => ∃ (v13_1o : Value) (B13_1o : GH), ex = .exit 0 ∧ e = [(0, .int .i64 n0), (2, .int .i64 now2), (3, .int .i64 span3), (4, .int .i64 tx4), (11, .pointer (some ⟨b13, 0, none⟩)), (13, v13_1o)] ∧ H = B13_1o ++ ((b13, BK 28 (mv (kPA 1 3 (kS [2])) fb13) 61) :: ([])) ∧ OJ 48 3 (mv (kS [1])) B13_1o v13_1o v13 ∧ Cov w [] B13_1o | .inr fb13 => ∃ (B13_1o : GH), ex = .ret ∧ e = [(10, .bool false)] ∧ H = B13_1o ++ ((b13, BK 28 (mv (kPA 1 3 (kS [2])) fb13) 61) :: ([])) ∧ Cov w [] B13_1o) hx1 ⟨[(0, .int .i64 n0), (1, v1), (2, .int .i64 now2), (3, .int .i64 span3), (4, .int .i64 tx4), (11, .pointer (some ⟨b13, 0, none⟩)), (13, vs8), (14, .int .i64 0)], Bs8 ++ ((b13, BK 28 (mv (kPA 1 3 (kS [2])) (updI (fun _ => 0) 0 n0)) 61) :: ([])), (lc rfl (lc rfl (lc rfl (lc rfl (lc rfl (lc rfl (lc rfl (lc rfl ln)))))))), fun _ h => h, ⟨vs8, Bs8, rfl, rfl, hJs8, hcBs8⟩⟩ ?_ ?_
              · rintro ⟨v13, i14, fb13⟩ o _ _ ⟨v13_1, B13_1, rfl, rfl, hJ13_1, hcB13_1⟩ hb
                have h : acts16_l1 acts1 now2 span3 v13 i14 fb13 o := hb
                clear hb
                unfold acts16_l1 at h
                refine xw_seq (xw_seq (xw_region ?_))
                refine xq rfl trivial (o_mv rfl) ?_
                refine xq rfl trivial (o_mv rfl) ?_
                refine xq rfl trivial (o_lenL rfl Try.underlying22 rfl (SL.val hs1)) ?_
                refine xq rfl trivial (o_lss rfl rfl) ?_
                refine xo_nil (xq_then ?_)
                refine xw_bool 57 rfl (fun hc12 => ?_) (fun hc12 => ?_)
                · have hq12 : (decide (i14 < (acts1.length : Int))) = true := hc12
                  have hp12 : i14 < (acts1.length : Int) := of_decide_eq_true hq12
                  rw [if_pos hp12] at h
                  refine xw_cond_t rfl rfl (xw_skip (xq_then (xw_seq ?_)))
                  refine xw_block ?_
                  refine xw_seq (xw_region ?_)
                  refine xq rfl trivial (o_mv rfl) ?_
                  refine xq rfl trivial (o_mv rfl) ?_
                  obtain ⟨ho13, h⟩ := h
                  refine xq rfl trivial (o_ixL el22 rfl rfl (fun w hw => (hs1.keep hw (Fr.seg hcB13_1 (Fr.cons hb13 Fr.nil)))) rfl ho13) ?_
                  refine xq rfl trivial (o_ldLI rfl ts32 rfl (fun w hw => (hs1.keep hw (Fr.seg hcB13_1 (Fr.cons hb13 Fr.nil)))) (toNat_lt ho13) rfl) ?_
                  refine xo rfl trivial (o_alloc ze32 rfl) ?_
                  rintro _ _ ⟨b15, hb15, rfl, rfl⟩
                  refine xq0 trivial (o_stWI rfl rfl ts32 (List.Mem.head _) (.here _ _ _ _)) ?_
                  refine xo_nil (xq_then (xw_seq (xw_region ?_)))
                  refine xq rfl trivial (o_as rfl) ?_
                  refine xo_nil (xq_then (xw_seq (xw_seq (xw_region ?_))))
                  first | refine xq rfl trivial (o_fa0 fl32_0 rfl) ?_ | refine xq rfl trivial (o_fa fl32_0 rfl) ?_
                  refine xq rfl trivial (o_ldI (v := (acts1[i14.toNat]!) 0) rfl ts3 (List.Mem.head _) (by omega) rfl) ?_
                  refine xq rfl trivial (o_eql rfl rfl) ?_
                  refine xo_nil (xq_then ?_)
                  refine xw_bool 66 rfl (fun hc14 => ?_) (fun hc14 => ?_)
                  · have hq14 : (decide ((acts1[i14.toNat]!) 0 = 0)) = true := hc14
                    have hp14 : (acts1[i14.toNat]!) 0 = 0 := of_decide_eq_true hq14
                    rw [if_pos hp14] at h
                    refine xw_cond_t rfl rfl (xw_region ?_)
                    refine xq rfl trivial (o_mv rfl) ?_
                    first | refine xq rfl trivial (o_fa0 fl32_1 rfl) ?_ | refine xq rfl trivial (o_fa fl32_1 rfl) ?_
                    refine xq rfl trivial (o_ldI (v := (acts1[i14.toNat]!) 1) rfl ts3 (List.Mem.head _) (by omega) rfl) ?_
                    first | refine xq rfl trivial (o_fa0 fl32_2 rfl) ?_ | refine xq rfl trivial (o_fa fl32_2 rfl) ?_
                    refine xq rfl trivial (o_ldI (v := (acts1[i14.toNat]!) 2) rfl ts3 (List.Mem.head _) (by omega) rfl) ?_
                    refine xoR rfl trivial (ot_in (l := [(0, _), (1, _), (2, _)]) kf14 rfl Try.func14 rfl Try.ntmps14 rfl (lac rfl (lac rfl (lac rfl lan))) ?_)
                    refine xw_seq (xw_region ?_)
                    refine xq rfl trivial (o_as rfl) ?_
                    refine xq rfl trivial (o_as rfl) ?_
                    refine xo_nil (xq_then (xw_seq (xw_seq ?_)))
                    refine xw_cut [(0, _), (1, _), (2, _)] (lc rfl (lc rfl (lc rfl ln))) [(16, .bool ((decide ((acts1[i14.toNat]!) 1 < 1)) || (decide ((v13.length : Int) < (acts1[i14.toNat]!) 1))))] ?_ ?_
                    · refine xw_region ?_
                      refine xq rfl trivial (o_mv rfl) ?_
                      refine xq rfl trivial (o_lss rfl rfl) ?_
                      refine xq rfl trivial (o_mv rfl) ?_
                      refine xo_bool 11 rfl (fun hg15 => ?_) (fun hg15 => ?_)
                      · have hq15 : (decide ((acts1[i14.toNat]!) 1 < 1)) = true := hg15
                        have hp15 : (acts1[i14.toNat]!) 1 < 1 := of_decide_eq_true hq15
                        refine xs rfl ⟨_, _, rfl, rfl, rfl⟩ (xs rfl ⟨_, _, rfl, rfl, rfl⟩ (xs rfl ⟨_, _, rfl, rfl, rfl⟩ (xs rfl ⟨_, _, rfl, rfl, rfl⟩ ?_)))
                        refine xq rfl trivial (o_pick_t rfl rfl) ?_
                        refine xo_nil ?_
                        exact xq_cut ((lce rfl (by first | rfl | (simp only [hq12, hq14, hq15, if_pos hp12, if_pos hp14, if_pos hp15, bS]; done) | (simp only [hq12, hq14, hq15, if_pos hp12, if_pos hp14, if_pos hp15, bS, reduceIte, Bool.false_eq_true]; done) | (simp [hp12, hp14, hp15]; done) | (simp_all; done)) (lc rfl (lc rfl (lc rfl ln))))) (fun _ h => h)
                      · have hq15 : (decide ((acts1[i14.toNat]!) 1 < 1)) = false := hg15
                        have hp15 : ¬ ((acts1[i14.toNat]!) 1 < 1) := of_decide_eq_false hq15
                        refine xq rfl ⟨_, rfl, rfl⟩ (o_mv rfl) ?_
                        refine xq rfl ⟨_, rfl, rfl⟩ (o_mv rfl) ?_
                        refine xq rfl ⟨_, rfl, rfl⟩ (o_lenL rfl Try.underlying41 rfl (OJ.val hJ13_1)) ?_
                        refine xq rfl ⟨_, rfl, rfl⟩ (o_gtr rfl rfl) ?_
                        refine xq rfl trivial (o_pick_f rfl rfl) ?_
                        refine xo_nil ?_
                        exact xq_cut ((lce rfl (by first | rfl | (simp only [hq12, hq14, hq15, if_pos hp12, if_pos hp14, if_neg hp15, bS]; done) | (simp only [hq12, hq14, hq15, if_pos hp12, if_pos hp14, if_neg hp15, bS, reduceIte, Bool.false_eq_true]; done) | (simp [hp12, hp14, hp15]; done) | (simp_all; done)) (lc rfl (lc rfl (lc rfl ln))))) (fun _ h => h)
                    · refine xq_then ?_
                      refine xw_bool 16 rfl (fun hc16 => ?_) (fun hc16 => ?_)
                      · have hq16 : ((decide ((acts1[i14.toNat]!) 1 < 1)) || (decide ((v13.length : Int) < (acts1[i14.toNat]!) 1))) = true := hc16
                        have hp16 : ((decide ((acts1[i14.toNat]!) 1 < 1)) || (decide ((v13.length : Int) < (acts1[i14.toNat]!) 1))) = true := hq16
                        rw [if_pos hp16] at h
                        refine xw_cond_t rfl rfl (xw_seq (xw_region ?_))
                        refine xq rfl trivial (o_mv rfl) ?_
                        refine xq rfl trivial (o_as rfl) ?_
                        refine xq rfl trivial (o_as rfl) ?_
                        refine xo_nil (xq_then (xw_ret (xq_then_ret ?_)))
                        refine con_ret2 (.inl rfl) Try.results14 rfl rfl _ (fun _ h => h) (?_)
                        refine xq rfl trivial (o_mv rfl) ?_
                        refine xq rfl trivial (o_ext rfl rfl) ?_
                        refine xq rfl trivial (o_ext rfl rfl) ?_
                        refine xq rfl trivial (o_as rfl) ?_
                        refine xq rfl trivial (o_as rfl) ?_
                        refine xo_nil (xq_then (xw_seq (xw_region ?_)))
                        refine xq rfl trivial (o_mv rfl) ?_
                        refine xq rfl trivial (o_ldW rfl ts32 (List.Mem.head _)) ?_
                        obtain ⟨ho17, h⟩ := h
                        refine xo rfl trivial (OT.st (fun _ h => St.permI [2, 0, 1] [[(b15, _)], B13_1, [(b13, _)]] rfl h) (ot_callF (Cs := [[(b13, _)]]) (Rs := [[(b15, _)], B13_1]) kf8 rfl (fun w1 hw1 => act16_c _ _ _ w1 (St.hasC hw1) ho17) (fun _ _ _ h => h.1))) ?_
                        rintro _ _ ⟨w1, _, rfl, hle, -, rfl, rfl⟩
                        refine xo_st ((b13, BK 28 (mv (kPA 1 3 (kS [2])) ((act16_F fb13 (acts1[i14.toNat]!)).2)) 61) :: ((b15, BK 4 (iv (acts1[i14.toNat]!)) 32) :: (B13_1 ++ ([])))) (fun _ h => h) ?_
                        refine xq rfl trivial (o_mv rfl) ?_
                        refine xq rfl trivial (o_neq rfl rfl) ?_
                        refine xq rfl trivial (o_mv rfl) ?_
                        refine xo_bool 100 rfl (fun hg20 => ?_) (fun hg20 => ?_)
                        · have hq20 : (decide ((act16_F fb13 (acts1[i14.toNat]!)).1 = 10)) = false := (bnT hg20)
                          have hp20 : ¬ ((act16_F fb13 (acts1[i14.toNat]!)).1 = 10) := of_decide_eq_false hq20
                          rw [if_neg hp20] at h
                          refine xs rfl ⟨_, _, rfl, rfl, rfl⟩ (xs rfl ⟨_, _, rfl, rfl, rfl⟩ (xs rfl ⟨_, _, rfl, rfl, rfl⟩ (xs rfl ⟨_, _, rfl, rfl, rfl⟩ (xs rfl ⟨_, _, rfl, rfl, rfl⟩ (xs rfl ⟨_, _, rfl, rfl, rfl⟩ (xs rfl ⟨_, _, rfl, rfl, rfl⟩ (xs rfl ⟨_, _, rfl, rfl, rfl⟩ ?_)))))))
                          refine xs rfl ⟨_, _, rfl, rfl, rfl⟩ (xs rfl ⟨_, _, rfl, rfl, rfl⟩ ?_)
                          refine xq rfl trivial (o_pick_t rfl rfl) ?_
                          refine xo_nil (xq_then (xw_cond_t rfl rfl (xw_seq (xw_region ?_))))
                          refine xq rfl trivial (o_as rfl) ?_
                          refine xo_nil (xq_then (xw_ret (xq_blk_ret (xq_then_ret ?_))))
                          exact xq_out (r := (.inr ((act16_F fb13 (acts1[i14.toNat]!)).2) : ((List (Nat → Int)) × (Nat → Int)) ⊕ ((Nat → Int)))) (e' := [(10, .bool false)]) (B13_1 ++ ((b13, BK 28 (mv (kPA 1 3 (kS [2])) ((act16_F fb13 (acts1[i14.toNat]!)).2)) 61) :: ([]))) (lc rfl ln) (fun _ h => St.permI [1, 0] [[(b13, _)], B13_1] rfl (Kp.st (Kp.keep (Kp.new hb15 (Kp.segKeep Kp.nil))) _ h)) h (by intro hh; cases hh) ⟨B13_1, rfl, rfl, rfl, hcB13_1⟩
                        · have hq20 : (decide ((act16_F fb13 (acts1[i14.toNat]!)).1 = 10)) = true := (bnF hg20)
                          have hp20 : (act16_F fb13 (acts1[i14.toNat]!)).1 = 10 := of_decide_eq_true hq20
                          rw [if_pos hp20] at h
                          refine xq rfl ⟨_, rfl, rfl⟩ (o_mv rfl) ?_
                          refine xq rfl ⟨_, rfl, rfl⟩ (o_mv rfl) ?_
                          refine xq rfl ⟨_, rfl, rfl⟩ (o_mv rfl) ?_
                          obtain ⟨ho21, h⟩ := h
                          refine xo rfl ⟨_, rfl, rfl⟩ (OT.st (fun _ h => h) (ot_callF (Cs := [[(b13, _)]]) (Rs := [[(b15, _)], B13_1]) kf9 rfl (fun w1 hw1 => clost_c _ _ _ _ w1 (St.hasC hw1) ho21) (fun _ _ _ h => h.1))) ?_
                          rintro vs24 _ ⟨w1, _, rfl, hle, -, _, Bs24, rfl, rfl, hJs24, hcBs24⟩
                          replace hcBs24 := Cov.base (w0 := w) hcBs24 hle
                          refine xo_st ((b13, BK 28 (mv (kPA 1 3 (kS [2])) ((act16_F fb13 (acts1[i14.toNat]!)).2)) 61) :: (Bs24 ++ ((b15, BK 4 (iv (acts1[i14.toNat]!)) 32) :: (B13_1 ++ ([]))))) (fun _ h => h) ?_
                          refine xq rfl ⟨_, rfl, rfl⟩ (o_mv rfl) ?_
                          refine xq rfl ⟨_, rfl, rfl⟩ (o_mv rfl) ?_
                          refine xq rfl ⟨_, rfl, rfl⟩ (o_mv rfl) ?_
                          obtain ⟨ho25, h⟩ := h
                          refine xcall rfl ⟨_, rfl, rfl⟩ kf18 rfl (fun w1 hw1 => lostR_c _ _ _ _ w1 (hJ13_1.sl hw1 (Pull.sub (.thereC _ (.there _ (.thereC _ (.here _ _)))))) ho25) ?_
                          rintro w1 vs26 _ hw1 ⟨_, Bs26, rfl, rfl, hJs26, hcBs26⟩
                          refine ⟨_, Mg.news (Cov.fresh hcBs26) (.nil _), ?_⟩
                          replace hcBs26 := Cov.base (w0 := w) hcBs26 hw1.size
                          obtain ⟨ho27, h⟩ := h
                          refine xcallq rfl ⟨_, rfl, rfl⟩ kf17 rfl (fun w1 hw1 => ints_c _ _ _ _ w1 (hJs24.sl hw1 (Pull.sub (.there _ (.thereC _ (.here _ _))))) (hJs26.sl hw1 (Pull.sub (.here _ _))) ho27) ?_
                          refine xq rfl ⟨_, rfl, rfl⟩ (o_not rfl) ?_
                          refine xq rfl trivial (o_pick_f rfl rfl) ?_
                          refine xo_nil (xq_then ?_)
                          refine xw_bool 111 rfl (fun hc28 => ?_) (fun hc28 => ?_)
                          · have hq28 : ((ints_F (clost_F ((act16_F fb13 (acts1[i14.toNat]!)).2) now2 span3) (lostR_F v13 now2 span3))) = false := (bnT hc28)
                            have hp28 : ¬ (((ints_F (clost_F ((act16_F fb13 (acts1[i14.toNat]!)).2) now2 span3) (lostR_F v13 now2 span3))) = true) := bne' hq28
                            rw [if_neg hp28] at h
                            refine xw_cond_t rfl rfl (xw_seq (xw_region ?_))
                            refine xq rfl trivial (o_as rfl) ?_
                            refine xo_nil (xq_then (xw_ret (xq_blk_ret (xq_then_ret ?_))))
                            exact xq_out (r := (.inr ((act16_F fb13 (acts1[i14.toNat]!)).2) : ((List (Nat → Int)) × (Nat → Int)) ⊕ ((Nat → Int)))) (e' := [(10, .bool false)]) (B13_1 ++ ((b13, BK 28 (mv (kPA 1 3 (kS [2])) ((act16_F fb13 (acts1[i14.toNat]!)).2)) 61) :: ([]))) (lc rfl ln) (fun _ h => St.permI [1, 0] [[(b13, _)], B13_1] rfl (Kp.st (Kp.segNew (Cov.fresh hcBs26) (Kp.keep (Kp.segNew (Cov.fresh hcBs24) (Kp.new hb15 (Kp.segKeep Kp.nil))))) _ h)) h (by intro hh; cases hh) ⟨B13_1, rfl, rfl, rfl, hcB13_1⟩
                          · have hq28 : ((ints_F (clost_F ((act16_F fb13 (acts1[i14.toNat]!)).2) now2 span3) (lostR_F v13 now2 span3))) = true := (bnF hc28)
                            have hp28 : ((ints_F (clost_F ((act16_F fb13 (acts1[i14.toNat]!)).2) now2 span3) (lostR_F v13 now2 span3))) = true := hq28
                            rw [if_pos hp28] at h
                            refine xw_cond_f rfl rfl (xw_skip ?_)
                            refine xq_blk 1 ?_
                            refine xq_then (xw_region ?_)
                            refine xq rfl trivial (o_mv rfl) ?_
                            obtain ⟨ho29, h⟩ := h
                            refine xq rfl trivial (o_add rfl rfl rfl ho29) ?_
                            refine xq rfl trivial (o_as rfl) ?_
                            refine xo_nil ?_
                            exact xq_next (s' := ((v13, i14 + 1, (act16_F fb13 (acts1[i14.toNat]!)).2) : (List (Nat → Int)) × Int × (Nat → Int))) (e' := [(0, .int .i64 n0), (1, v1), (2, .int .i64 now2), (3, .int .i64 span3), (4, .int .i64 tx4), (11, .pointer (some ⟨b13, 0, none⟩)), (13, v13_1), (14, .int .i64 (i14 + 1))]) (B13_1 ++ ((b13, BK 28 (mv (kPA 1 3 (kS [2])) ((act16_F fb13 (acts1[i14.toNat]!)).2)) 61) :: ([]))) (lc rfl (lc rfl (lc rfl (lc rfl (lc rfl (lc rfl (lc rfl (lc rfl ln)))))))) (fun _ h => St.permI [1, 0] [[(b13, _)], B13_1] rfl (Kp.st (Kp.segNew (Cov.fresh hcBs26) (Kp.keep (Kp.segNew (Cov.fresh hcBs24) (Kp.new hb15 (Kp.segKeep Kp.nil))))) _ h)) h ⟨v13_1, B13_1, rfl, rfl, hJ13_1, hcB13_1⟩
                      · have hq16 : ((decide ((acts1[i14.toNat]!) 1 < 1)) || (decide ((v13.length : Int) < (acts1[i14.toNat]!) 1))) = false := hc16
                        have hp16 : ¬ (((decide ((acts1[i14.toNat]!) 1 < 1)) || (decide ((v13.length : Int) < (acts1[i14.toNat]!) 1))) = true) := bne' hq16
                        rw [if_neg hp16] at h
                        refine xw_cond_f rfl rfl (xw_skip (xq_then (xw_seq (xw_seq ?_))))
                        refine xw_cut [(0, _), (1, _), (2, _)] (lc rfl (lc rfl (lc rfl ln))) [(23, .bool ((decide ((acts1[i14.toNat]!) 2 < 1)) || (decide (1048576 < (acts1[i14.toNat]!) 2))))] ?_ ?_
                        · refine xw_region ?_
                          refine xq rfl trivial (o_mv rfl) ?_
                          refine xq rfl trivial (o_lss rfl rfl) ?_
                          refine xq rfl trivial (o_mv rfl) ?_
                          refine xo_bool 20 rfl (fun hg30 => ?_) (fun hg30 => ?_)
                          · have hq30 : (decide ((acts1[i14.toNat]!) 2 < 1)) = true := hg30
                            have hp30 : (acts1[i14.toNat]!) 2 < 1 := of_decide_eq_true hq30
                            refine xs rfl ⟨_, _, rfl, rfl, rfl⟩ (xs rfl ⟨_, _, rfl, rfl, rfl⟩ ?_)
                            refine xq rfl trivial (o_pick_t rfl rfl) ?_
                            refine xo_nil ?_
                            exact xq_cut ((lce rfl (by first | rfl | (simp only [hq12, hq14, hq16, hq30, if_pos hp12, if_pos hp14, if_neg hp16, if_pos hp30, bS]; done) | (simp only [hq12, hq14, hq16, hq30, if_pos hp12, if_pos hp14, if_neg hp16, if_pos hp30, bS, reduceIte, Bool.false_eq_true]; done) | (simp [hp12, hp14, hp16, hp30]; done) | (simp_all; done)) (lc rfl (lc rfl (lc rfl ln))))) (fun _ h => h)
                          · have hq30 : (decide ((acts1[i14.toNat]!) 2 < 1)) = false := hg30
                            have hp30 : ¬ ((acts1[i14.toNat]!) 2 < 1) := of_decide_eq_false hq30
                            refine xq rfl ⟨_, rfl, rfl⟩ (o_mv rfl) ?_
                            refine xq rfl ⟨_, rfl, rfl⟩ (o_gtr rfl rfl) ?_
                            refine xq rfl trivial (o_pick_f rfl rfl) ?_
                            refine xo_nil ?_
                            exact xq_cut ((lce rfl (by first | rfl | (simp only [hq12, hq14, hq16, hq30, if_pos hp12, if_pos hp14, if_neg hp16, if_neg hp30, bS]; done) | (simp only [hq12, hq14, hq16, hq30, if_pos hp12, if_pos hp14, if_neg hp16, if_neg hp30, bS, reduceIte, Bool.false_eq_true]; done) | (simp [hp12, hp14, hp16, hp30]; done) | (simp_all; done)) (lc rfl (lc rfl (lc rfl ln))))) (fun _ h => h)
                        · refine xq_then ?_
                          refine xw_bool 23 rfl (fun hc31 => ?_) (fun hc31 => ?_)
                          · have hq31 : ((decide ((acts1[i14.toNat]!) 2 < 1)) || (decide (1048576 < (acts1[i14.toNat]!) 2))) = true := hc31
                            have hp31 : ((decide ((acts1[i14.toNat]!) 2 < 1)) || (decide (1048576 < (acts1[i14.toNat]!) 2))) = true := hq31
                            rw [if_pos hp31] at h
                            refine xw_cond_t rfl rfl (xw_seq (xw_region ?_))
                            refine xq rfl trivial (o_mv rfl) ?_
                            refine xq rfl trivial (o_as rfl) ?_
                            refine xq rfl trivial (o_as rfl) ?_
                            refine xo_nil (xq_then (xw_ret (xq_then_ret ?_)))
                            refine con_ret2 (.inl rfl) Try.results14 rfl rfl _ (fun _ h => h) (?_)
                            refine xq rfl trivial (o_mv rfl) ?_
                            refine xq rfl trivial (o_ext rfl rfl) ?_
                            refine xq rfl trivial (o_ext rfl rfl) ?_
                            refine xq rfl trivial (o_as rfl) ?_
                            refine xq rfl trivial (o_as rfl) ?_
                            refine xo_nil (xq_then (xw_seq (xw_region ?_)))
                            refine xq rfl trivial (o_mv rfl) ?_
                            refine xq rfl trivial (o_ldW rfl ts32 (List.Mem.head _)) ?_
                            obtain ⟨ho32, h⟩ := h
                            refine xo rfl trivial (OT.st (fun _ h => St.permI [2, 0, 1] [[(b15, _)], B13_1, [(b13, _)]] rfl h) (ot_callF (Cs := [[(b13, _)]]) (Rs := [[(b15, _)], B13_1]) kf8 rfl (fun w1 hw1 => act16_c _ _ _ w1 (St.hasC hw1) ho32) (fun _ _ _ h => h.1))) ?_
                            rintro _ _ ⟨w1, _, rfl, hle, -, rfl, rfl⟩
                            refine xo_st ((b13, BK 28 (mv (kPA 1 3 (kS [2])) ((act16_F fb13 (acts1[i14.toNat]!)).2)) 61) :: ((b15, BK 4 (iv (acts1[i14.toNat]!)) 32) :: (B13_1 ++ ([])))) (fun _ h => h) ?_
                            refine xq rfl trivial (o_mv rfl) ?_
                            refine xq rfl trivial (o_neq rfl rfl) ?_
                            refine xq rfl trivial (o_mv rfl) ?_
                            refine xo_bool 100 rfl (fun hg35 => ?_) (fun hg35 => ?_)
                            · have hq35 : (decide ((act16_F fb13 (acts1[i14.toNat]!)).1 = 1)) = false := (bnT hg35)
                              have hp35 : ¬ ((act16_F fb13 (acts1[i14.toNat]!)).1 = 1) := of_decide_eq_false hq35
                              rw [if_neg hp35] at h
                              refine xs rfl ⟨_, _, rfl, rfl, rfl⟩ (xs rfl ⟨_, _, rfl, rfl, rfl⟩ (xs rfl ⟨_, _, rfl, rfl, rfl⟩ (xs rfl ⟨_, _, rfl, rfl, rfl⟩ (xs rfl ⟨_, _, rfl, rfl, rfl⟩ (xs rfl ⟨_, _, rfl, rfl, rfl⟩ (xs rfl ⟨_, _, rfl, rfl, rfl⟩ (xs rfl ⟨_, _, rfl, rfl, rfl⟩ ?_)))))))
                              refine xs rfl ⟨_, _, rfl, rfl, rfl⟩ (xs rfl ⟨_, _, rfl, rfl, rfl⟩ ?_)
                              refine xq rfl trivial (o_pick_t rfl rfl) ?_
                              refine xo_nil (xq_then (xw_cond_t rfl rfl (xw_seq (xw_region ?_))))
                              refine xq rfl trivial (o_as rfl) ?_
                              refine xo_nil (xq_then (xw_ret (xq_blk_ret (xq_then_ret ?_))))
                              exact xq_out (r := (.inr ((act16_F fb13 (acts1[i14.toNat]!)).2) : ((List (Nat → Int)) × (Nat → Int)) ⊕ ((Nat → Int)))) (e' := [(10, .bool false)]) (B13_1 ++ ((b13, BK 28 (mv (kPA 1 3 (kS [2])) ((act16_F fb13 (acts1[i14.toNat]!)).2)) 61) :: ([]))) (lc rfl ln) (fun _ h => St.permI [1, 0] [[(b13, _)], B13_1] rfl (Kp.st (Kp.keep (Kp.new hb15 (Kp.segKeep Kp.nil))) _ h)) h (by intro hh; cases hh) ⟨B13_1, rfl, rfl, rfl, hcB13_1⟩
                            · have hq35 : (decide ((act16_F fb13 (acts1[i14.toNat]!)).1 = 1)) = true := (bnF hg35)
                              have hp35 : (act16_F fb13 (acts1[i14.toNat]!)).1 = 1 := of_decide_eq_true hq35
                              rw [if_pos hp35] at h
                              refine xq rfl ⟨_, rfl, rfl⟩ (o_mv rfl) ?_
                              refine xq rfl ⟨_, rfl, rfl⟩ (o_mv rfl) ?_
                              refine xq rfl ⟨_, rfl, rfl⟩ (o_mv rfl) ?_
                              obtain ⟨ho36, h⟩ := h
                              refine xo rfl ⟨_, rfl, rfl⟩ (OT.st (fun _ h => h) (ot_callF (Cs := [[(b13, _)]]) (Rs := [[(b15, _)], B13_1]) kf9 rfl (fun w1 hw1 => clost_c _ _ _ _ w1 (St.hasC hw1) ho36) (fun _ _ _ h => h.1))) ?_
                              rintro vs39 _ ⟨w1, _, rfl, hle, -, _, Bs39, rfl, rfl, hJs39, hcBs39⟩
                              replace hcBs39 := Cov.base (w0 := w) hcBs39 hle
                              refine xo_st ((b13, BK 28 (mv (kPA 1 3 (kS [2])) ((act16_F fb13 (acts1[i14.toNat]!)).2)) 61) :: (Bs39 ++ ((b15, BK 4 (iv (acts1[i14.toNat]!)) 32) :: (B13_1 ++ ([]))))) (fun _ h => h) ?_
                              refine xq rfl ⟨_, rfl, rfl⟩ (o_mv rfl) ?_
                              refine xq rfl ⟨_, rfl, rfl⟩ (o_mv rfl) ?_
                              refine xq rfl ⟨_, rfl, rfl⟩ (o_mv rfl) ?_
                              obtain ⟨ho40, h⟩ := h
                              refine xcall rfl ⟨_, rfl, rfl⟩ kf18 rfl (fun w1 hw1 => lostR_c _ _ _ _ w1 (hJ13_1.sl hw1 (Pull.sub (.thereC _ (.there _ (.thereC _ (.here _ _)))))) ho40) ?_
                              rintro w1 vs41 _ hw1 ⟨_, Bs41, rfl, rfl, hJs41, hcBs41⟩
                              refine ⟨_, Mg.news (Cov.fresh hcBs41) (.nil _), ?_⟩
                              replace hcBs41 := Cov.base (w0 := w) hcBs41 hw1.size
                              obtain ⟨ho42, h⟩ := h
                              refine xcallq rfl ⟨_, rfl, rfl⟩ kf17 rfl (fun w1 hw1 => ints_c _ _ _ _ w1 (hJs39.sl hw1 (Pull.sub (.there _ (.thereC _ (.here _ _))))) (hJs41.sl hw1 (Pull.sub (.here _ _))) ho42) ?_
                              refine xq rfl ⟨_, rfl, rfl⟩ (o_not rfl) ?_
                              refine xq rfl trivial (o_pick_f rfl rfl) ?_
                              refine xo_nil (xq_then ?_)
                              refine xw_bool 111 rfl (fun hc43 => ?_) (fun hc43 => ?_)
                              · have hq43 : ((ints_F (clost_F ((act16_F fb13 (acts1[i14.toNat]!)).2) now2 span3) (lostR_F v13 now2 span3))) = false := (bnT hc43)
                                have hp43 : ¬ (((ints_F (clost_F ((act16_F fb13 (acts1[i14.toNat]!)).2) now2 span3) (lostR_F v13 now2 span3))) = true) := bne' hq43
                                rw [if_neg hp43] at h
                                refine xw_cond_t rfl rfl (xw_seq (xw_region ?_))
                                refine xq rfl trivial (o_as rfl) ?_
                                refine xo_nil (xq_then (xw_ret (xq_blk_ret (xq_then_ret ?_))))
                                exact xq_out (r := (.inr ((act16_F fb13 (acts1[i14.toNat]!)).2) : ((List (Nat → Int)) × (Nat → Int)) ⊕ ((Nat → Int)))) (e' := [(10, .bool false)]) (B13_1 ++ ((b13, BK 28 (mv (kPA 1 3 (kS [2])) ((act16_F fb13 (acts1[i14.toNat]!)).2)) 61) :: ([]))) (lc rfl ln) (fun _ h => St.permI [1, 0] [[(b13, _)], B13_1] rfl (Kp.st (Kp.segNew (Cov.fresh hcBs41) (Kp.keep (Kp.segNew (Cov.fresh hcBs39) (Kp.new hb15 (Kp.segKeep Kp.nil))))) _ h)) h (by intro hh; cases hh) ⟨B13_1, rfl, rfl, rfl, hcB13_1⟩
                              · have hq43 : ((ints_F (clost_F ((act16_F fb13 (acts1[i14.toNat]!)).2) now2 span3) (lostR_F v13 now2 span3))) = true := (bnF hc43)
                                have hp43 : ((ints_F (clost_F ((act16_F fb13 (acts1[i14.toNat]!)).2) now2 span3) (lostR_F v13 now2 span3))) = true := hq43
                                rw [if_pos hp43] at h
                                refine xw_cond_f rfl rfl (xw_skip ?_)
                                refine xq_blk 1 ?_
                                refine xq_then (xw_region ?_)
                                refine xq rfl trivial (o_mv rfl) ?_
                                obtain ⟨ho44, h⟩ := h
                                refine xq rfl trivial (o_add rfl rfl rfl ho44) ?_
                                refine xq rfl trivial (o_as rfl) ?_
                                refine xo_nil ?_
                                exact xq_next (s' := ((v13, i14 + 1, (act16_F fb13 (acts1[i14.toNat]!)).2) : (List (Nat → Int)) × Int × (Nat → Int))) (e' := [(0, .int .i64 n0), (1, v1), (2, .int .i64 now2), (3, .int .i64 span3), (4, .int .i64 tx4), (11, .pointer (some ⟨b13, 0, none⟩)), (13, v13_1), (14, .int .i64 (i14 + 1))]) (B13_1 ++ ((b13, BK 28 (mv (kPA 1 3 (kS [2])) ((act16_F fb13 (acts1[i14.toNat]!)).2)) 61) :: ([]))) (lc rfl (lc rfl (lc rfl (lc rfl (lc rfl (lc rfl (lc rfl (lc rfl ln)))))))) (fun _ h => St.permI [1, 0] [[(b13, _)], B13_1] rfl (Kp.st (Kp.segNew (Cov.fresh hcBs41) (Kp.keep (Kp.segNew (Cov.fresh hcBs39) (Kp.new hb15 (Kp.segKeep Kp.nil))))) _ h)) h ⟨v13_1, B13_1, rfl, rfl, hJ13_1, hcB13_1⟩
                          · have hq31 : ((decide ((acts1[i14.toNat]!) 2 < 1)) || (decide (1048576 < (acts1[i14.toNat]!) 2))) = false := hc31
                            have hp31 : ¬ (((decide ((acts1[i14.toNat]!) 2 < 1)) || (decide (1048576 < (acts1[i14.toNat]!) 2))) = true) := bne' hq31
                            rw [if_neg hp31] at h
                            refine xw_cond_f rfl rfl (xw_skip (xq_then (xw_seq (xw_region ?_))))
                            refine xq rfl trivial (o_mv rfl) ?_
                            refine xq rfl trivial (o_mv rfl) ?_
                            obtain ⟨ho45, h⟩ := h
                            refine xq rfl trivial (o_sub rfl rfl rfl ho45) ?_
                            obtain ⟨ho46, h⟩ := h
                            refine xq rfl trivial (o_ixL el41 rfl rfl (fun w hw => (hJ13_1.sl hw (Pull.sub (.thereC _ (.here _ _))))) rfl ho46) ?_
                            refine xq rfl trivial (o_ldLA (off := 0) (f := mv (kS [1]) (v13[(((acts1[i14.toNat]!) 1) - 1).toNat]!)) rfl ts48 rfl rfl (fun w hw => (hJ13_1.sl hw (Pull.sub (.thereC _ (.here _ _))))) (toNat_lt ho46) rfl (fun i _ => by rw [Nat.zero_add])) ?_
                            refine xo rfl trivial (o_alloc ze48 rfl) ?_
                            rintro _ _ ⟨b8, hb8, rfl, rfl⟩
                            refine xq0 trivial (o_stW rfl rfl ts48 (fun _ _ => mv_one) (List.Mem.head _) (.here _ _ _ _)) ?_
                            refine xo_nil (xq_then (xw_seq (xw_seq (xw_region ?_))))
                            first | refine xq rfl trivial (o_fa0 fl48_1 rfl) ?_ | refine xq rfl trivial (o_fa fl48_1 rfl) ?_
                            refine xq rfl trivial (o_ld (v := .bool (nz ((v13[(((acts1[i14.toNat]!) 1) - 1).toNat]!) 1))) rfl ts4 (List.Mem.head _) (by omega) (mv_b rfl)) ?_
                            refine xo_nil (xq_then ?_)
                            refine xw_bool 31 rfl (fun hc47 => ?_) (fun hc47 => ?_)
                            · have hq47 : ((nz ((v13[(((acts1[i14.toNat]!) 1) - 1).toNat]!) 1))) = true := hc47
                              have hp47 : ((nz ((v13[(((acts1[i14.toNat]!) 1) - 1).toNat]!) 1))) = true := hq47
                              rw [if_pos hp47] at h
                              refine xw_cond_t rfl rfl (xw_seq (xw_region ?_))
                              refine xq rfl trivial (o_mv rfl) ?_
                              refine xq rfl trivial (o_as rfl) ?_
                              refine xq rfl trivial (o_as rfl) ?_
                              refine xo_nil (xq_then (xw_ret (xq_then_ret ?_)))
                              refine con_ret2 (.inl rfl) Try.results14 rfl rfl _ (fun _ h => h) (?_)
                              refine xq rfl trivial (o_mv rfl) ?_
                              refine xq rfl trivial (o_ext rfl rfl) ?_
                              refine xq rfl trivial (o_ext rfl rfl) ?_
                              refine xq rfl trivial (o_as rfl) ?_
                              refine xq rfl trivial (o_as rfl) ?_
                              refine xo_nil (xq_then (xw_seq (xw_region ?_)))
                              refine xq rfl trivial (o_mv rfl) ?_
                              refine xq rfl trivial (o_ldW rfl ts32 (List.Mem.tail _ (List.Mem.head _))) ?_
                              obtain ⟨ho48, h⟩ := h
                              refine xo rfl trivial (OT.st (fun _ h => St.permI [3, 0, 1, 2] [[(b8, _)], [(b15, _)], B13_1, [(b13, _)]] rfl h) (ot_callF (Cs := [[(b13, _)]]) (Rs := [[(b8, _)], [(b15, _)], B13_1]) kf8 rfl (fun w1 hw1 => act16_c _ _ _ w1 (St.hasC hw1) ho48) (fun _ _ _ h => h.1))) ?_
                              rintro _ _ ⟨w1, _, rfl, hle, -, rfl, rfl⟩
                              refine xo_st ((b13, BK 28 (mv (kPA 1 3 (kS [2])) ((act16_F fb13 (acts1[i14.toNat]!)).2)) 61) :: ((b8, BK 3 (mv (kS [1]) (v13[(((acts1[i14.toNat]!) 1) - 1).toNat]!)) 48) :: ((b15, BK 4 (iv (acts1[i14.toNat]!)) 32) :: (B13_1 ++ ([]))))) (fun _ h => h) ?_
                              refine xq rfl trivial (o_mv rfl) ?_
                              refine xq rfl trivial (o_neq rfl rfl) ?_
                              refine xq rfl trivial (o_mv rfl) ?_
                              refine xo_bool 100 rfl (fun hg51 => ?_) (fun hg51 => ?_)
                              · have hq51 : (decide ((act16_F fb13 (acts1[i14.toNat]!)).1 = 11)) = false := (bnT hg51)
                                have hp51 : ¬ ((act16_F fb13 (acts1[i14.toNat]!)).1 = 11) := of_decide_eq_false hq51
                                rw [if_neg hp51] at h
                                refine xs rfl ⟨_, _, rfl, rfl, rfl⟩ (xs rfl ⟨_, _, rfl, rfl, rfl⟩ (xs rfl ⟨_, _, rfl, rfl, rfl⟩ (xs rfl ⟨_, _, rfl, rfl, rfl⟩ (xs rfl ⟨_, _, rfl, rfl, rfl⟩ (xs rfl ⟨_, _, rfl, rfl, rfl⟩ (xs rfl ⟨_, _, rfl, rfl, rfl⟩ (xs rfl ⟨_, _, rfl, rfl, rfl⟩ ?_)))))))
                                refine xs rfl ⟨_, _, rfl, rfl, rfl⟩ (xs rfl ⟨_, _, rfl, rfl, rfl⟩ ?_)
                                refine xq rfl trivial (o_pick_t rfl rfl) ?_
                                refine xo_nil (xq_then (xw_cond_t rfl rfl (xw_seq (xw_region ?_))))
                                refine xq rfl trivial (o_as rfl) ?_
                                refine xo_nil (xq_then (xw_ret (xq_blk_ret (xq_then_ret ?_))))
                                exact xq_out (r := (.inr ((act16_F fb13 (acts1[i14.toNat]!)).2) : ((List (Nat → Int)) × (Nat → Int)) ⊕ ((Nat → Int)))) (e' := [(10, .bool false)]) (B13_1 ++ ((b13, BK 28 (mv (kPA 1 3 (kS [2])) ((act16_F fb13 (acts1[i14.toNat]!)).2)) 61) :: ([]))) (lc rfl ln) (fun _ h => St.permI [1, 0] [[(b13, _)], B13_1] rfl (Kp.st (Kp.keep (Kp.new hb8 (Kp.new hb15 (Kp.segKeep Kp.nil)))) _ h)) h (by intro hh; cases hh) ⟨B13_1, rfl, rfl, rfl, hcB13_1⟩
                              · have hq51 : (decide ((act16_F fb13 (acts1[i14.toNat]!)).1 = 11)) = true := (bnF hg51)
                                have hp51 : (act16_F fb13 (acts1[i14.toNat]!)).1 = 11 := of_decide_eq_true hq51
                                rw [if_pos hp51] at h
                                refine xq rfl ⟨_, rfl, rfl⟩ (o_mv rfl) ?_
                                refine xq rfl ⟨_, rfl, rfl⟩ (o_mv rfl) ?_
                                refine xq rfl ⟨_, rfl, rfl⟩ (o_mv rfl) ?_
                                obtain ⟨ho52, h⟩ := h
                                refine xo rfl ⟨_, rfl, rfl⟩ (OT.st (fun _ h => h) (ot_callF (Cs := [[(b13, _)]]) (Rs := [[(b8, _)], [(b15, _)], B13_1]) kf9 rfl (fun w1 hw1 => clost_c _ _ _ _ w1 (St.hasC hw1) ho52) (fun _ _ _ h => h.1))) ?_
                                rintro vs55 _ ⟨w1, _, rfl, hle, -, _, Bs55, rfl, rfl, hJs55, hcBs55⟩
                                replace hcBs55 := Cov.base (w0 := w) hcBs55 hle
                                refine xo_st ((b13, BK 28 (mv (kPA 1 3 (kS [2])) ((act16_F fb13 (acts1[i14.toNat]!)).2)) 61) :: (Bs55 ++ ((b8, BK 3 (mv (kS [1]) (v13[(((acts1[i14.toNat]!) 1) - 1).toNat]!)) 48) :: ((b15, BK 4 (iv (acts1[i14.toNat]!)) 32) :: (B13_1 ++ ([])))))) (fun _ h => h) ?_
                                refine xq rfl ⟨_, rfl, rfl⟩ (o_mv rfl) ?_
                                refine xq rfl ⟨_, rfl, rfl⟩ (o_mv rfl) ?_
                                refine xq rfl ⟨_, rfl, rfl⟩ (o_mv rfl) ?_
                                obtain ⟨ho56, h⟩ := h
                                refine xcall rfl ⟨_, rfl, rfl⟩ kf18 rfl (fun w1 hw1 => lostR_c _ _ _ _ w1 (hJ13_1.sl hw1 (Pull.sub (.thereC _ (.there _ (.thereC _ (.thereC _ (.here _ _))))))) ho56) ?_
                                rintro w1 vs57 _ hw1 ⟨_, Bs57, rfl, rfl, hJs57, hcBs57⟩
                                refine ⟨_, Mg.news (Cov.fresh hcBs57) (.nil _), ?_⟩
                                replace hcBs57 := Cov.base (w0 := w) hcBs57 hw1.size
                                obtain ⟨ho58, h⟩ := h
                                refine xcallq rfl ⟨_, rfl, rfl⟩ kf17 rfl (fun w1 hw1 => ints_c _ _ _ _ w1 (hJs55.sl hw1 (Pull.sub (.there _ (.thereC _ (.here _ _))))) (hJs57.sl hw1 (Pull.sub (.here _ _))) ho58) ?_
                                refine xq rfl ⟨_, rfl, rfl⟩ (o_not rfl) ?_
                                refine xq rfl trivial (o_pick_f rfl rfl) ?_
                                refine xo_nil (xq_then ?_)
                                refine xw_bool 111 rfl (fun hc59 => ?_) (fun hc59 => ?_)
                                · have hq59 : ((ints_F (clost_F ((act16_F fb13 (acts1[i14.toNat]!)).2) now2 span3) (lostR_F v13 now2 span3))) = false := (bnT hc59)
                                  have hp59 : ¬ (((ints_F (clost_F ((act16_F fb13 (acts1[i14.toNat]!)).2) now2 span3) (lostR_F v13 now2 span3))) = true) := bne' hq59
                                  rw [if_neg hp59] at h
                                  refine xw_cond_t rfl rfl (xw_seq (xw_region ?_))
                                  refine xq rfl trivial (o_as rfl) ?_
                                  refine xo_nil (xq_then (xw_ret (xq_blk_ret (xq_then_ret ?_))))
                                  exact xq_out (r := (.inr ((act16_F fb13 (acts1[i14.toNat]!)).2) : ((List (Nat → Int)) × (Nat → Int)) ⊕ ((Nat → Int)))) (e' := [(10, .bool false)]) (B13_1 ++ ((b13, BK 28 (mv (kPA 1 3 (kS [2])) ((act16_F fb13 (acts1[i14.toNat]!)).2)) 61) :: ([]))) (lc rfl ln) (fun _ h => St.permI [1, 0] [[(b13, _)], B13_1] rfl (Kp.st (Kp.segNew (Cov.fresh hcBs57) (Kp.keep (Kp.segNew (Cov.fresh hcBs55) (Kp.new hb8 (Kp.new hb15 (Kp.segKeep Kp.nil)))))) _ h)) h (by intro hh; cases hh) ⟨B13_1, rfl, rfl, rfl, hcB13_1⟩
                                · have hq59 : ((ints_F (clost_F ((act16_F fb13 (acts1[i14.toNat]!)).2) now2 span3) (lostR_F v13 now2 span3))) = true := (bnF hc59)
                                  have hp59 : ((ints_F (clost_F ((act16_F fb13 (acts1[i14.toNat]!)).2) now2 span3) (lostR_F v13 now2 span3))) = true := hq59
                                  rw [if_pos hp59] at h
                                  refine xw_cond_f rfl rfl (xw_skip ?_)
                                  refine xq_blk 1 ?_
                                  refine xq_then (xw_region ?_)
                                  refine xq rfl trivial (o_mv rfl) ?_
                                  obtain ⟨ho60, h⟩ := h
                                  refine xq rfl trivial (o_add rfl rfl rfl ho60) ?_
                                  refine xq rfl trivial (o_as rfl) ?_
                                  refine xo_nil ?_
                                  exact xq_next (s' := ((v13, i14 + 1, (act16_F fb13 (acts1[i14.toNat]!)).2) : (List (Nat → Int)) × Int × (Nat → Int))) (e' := [(0, .int .i64 n0), (1, v1), (2, .int .i64 now2), (3, .int .i64 span3), (4, .int .i64 tx4), (11, .pointer (some ⟨b13, 0, none⟩)), (13, v13_1), (14, .int .i64 (i14 + 1))]) (B13_1 ++ ((b13, BK 28 (mv (kPA 1 3 (kS [2])) ((act16_F fb13 (acts1[i14.toNat]!)).2)) 61) :: ([]))) (lc rfl (lc rfl (lc rfl (lc rfl (lc rfl (lc rfl (lc rfl (lc rfl ln)))))))) (fun _ h => St.permI [1, 0] [[(b13, _)], B13_1] rfl (Kp.st (Kp.segNew (Cov.fresh hcBs57) (Kp.keep (Kp.segNew (Cov.fresh hcBs55) (Kp.new hb8 (Kp.new hb15 (Kp.segKeep Kp.nil)))))) _ h)) h ⟨v13_1, B13_1, rfl, rfl, hJ13_1, hcB13_1⟩
                            · have hq47 : ((nz ((v13[(((acts1[i14.toNat]!) 1) - 1).toNat]!) 1))) = false := hc47
                              have hp47 : ¬ (((nz ((v13[(((acts1[i14.toNat]!) 1) - 1).toNat]!) 1))) = true) := bne' hq47
                              rw [if_neg hp47] at h
                              refine xw_cond_f rfl rfl (xw_skip (xq_then (xw_seq (xw_seq (xw_region ?_)))))
                              first | refine xq rfl trivial (o_fa0 fl48_0 rfl) ?_ | refine xq rfl trivial (o_fa fl48_0 rfl) ?_
                              refine xq rfl trivial (o_ld (v := .int .i64 ((v13[(((acts1[i14.toNat]!) 1) - 1).toNat]!) 0)) rfl ts3 (List.Mem.head _) (by omega) (mv_i rfl)) ?_
                              refine xq rfl trivial (o_gtr rfl rfl) ?_
                              refine xo_nil (xq_then ?_)
                              refine xw_bool 35 rfl (fun hc61 => ?_) (fun hc61 => ?_)
                              · have hq61 : (decide (0 < (v13[(((acts1[i14.toNat]!) 1) - 1).toNat]!) 0)) = true := hc61
                                have hp61 : 0 < (v13[(((acts1[i14.toNat]!) 1) - 1).toNat]!) 0 := of_decide_eq_true hq61
                                rw [if_pos hp61] at h
                                refine xw_cond_t rfl rfl (xw_seq (xw_region ?_))
                                refine xq rfl trivial (o_mv rfl) ?_
                                refine xq rfl trivial (o_as rfl) ?_
                                refine xq rfl trivial (o_as rfl) ?_
                                refine xo_nil (xq_then (xw_ret (xq_then_ret ?_)))
                                refine con_ret2 (.inl rfl) Try.results14 rfl rfl _ (fun _ h => h) (?_)
                                refine xq rfl trivial (o_mv rfl) ?_
                                refine xq rfl trivial (o_ext rfl rfl) ?_
                                refine xq rfl trivial (o_ext rfl rfl) ?_
                                refine xq rfl trivial (o_as rfl) ?_
                                refine xq rfl trivial (o_as rfl) ?_
                                refine xo_nil (xq_then (xw_seq (xw_region ?_)))
                                refine xq rfl trivial (o_mv rfl) ?_
                                refine xq rfl trivial (o_ldW rfl ts32 (List.Mem.tail _ (List.Mem.head _))) ?_
                                obtain ⟨ho62, h⟩ := h
                                refine xo rfl trivial (OT.st (fun _ h => St.permI [3, 0, 1, 2] [[(b8, _)], [(b15, _)], B13_1, [(b13, _)]] rfl h) (ot_callF (Cs := [[(b13, _)]]) (Rs := [[(b8, _)], [(b15, _)], B13_1]) kf8 rfl (fun w1 hw1 => act16_c _ _ _ w1 (St.hasC hw1) ho62) (fun _ _ _ h => h.1))) ?_
                                rintro _ _ ⟨w1, _, rfl, hle, -, rfl, rfl⟩
                                refine xo_st ((b13, BK 28 (mv (kPA 1 3 (kS [2])) ((act16_F fb13 (acts1[i14.toNat]!)).2)) 61) :: ((b8, BK 3 (mv (kS [1]) (v13[(((acts1[i14.toNat]!) 1) - 1).toNat]!)) 48) :: ((b15, BK 4 (iv (acts1[i14.toNat]!)) 32) :: (B13_1 ++ ([]))))) (fun _ h => h) ?_
                                refine xq rfl trivial (o_mv rfl) ?_
                                refine xq rfl trivial (o_neq rfl rfl) ?_
                                refine xq rfl trivial (o_mv rfl) ?_
                                refine xo_bool 100 rfl (fun hg65 => ?_) (fun hg65 => ?_)
                                · have hq65 : (decide ((act16_F fb13 (acts1[i14.toNat]!)).1 = 8)) = false := (bnT hg65)
                                  have hp65 : ¬ ((act16_F fb13 (acts1[i14.toNat]!)).1 = 8) := of_decide_eq_false hq65
                                  rw [if_neg hp65] at h
                                  refine xs rfl ⟨_, _, rfl, rfl, rfl⟩ (xs rfl ⟨_, _, rfl, rfl, rfl⟩ (xs rfl ⟨_, _, rfl, rfl, rfl⟩ (xs rfl ⟨_, _, rfl, rfl, rfl⟩ (xs rfl ⟨_, _, rfl, rfl, rfl⟩ (xs rfl ⟨_, _, rfl, rfl, rfl⟩ (xs rfl ⟨_, _, rfl, rfl, rfl⟩ (xs rfl ⟨_, _, rfl, rfl, rfl⟩ ?_)))))))
                                  refine xs rfl ⟨_, _, rfl, rfl, rfl⟩ (xs rfl ⟨_, _, rfl, rfl, rfl⟩ ?_)
                                  refine xq rfl trivial (o_pick_t rfl rfl) ?_
                                  refine xo_nil (xq_then (xw_cond_t rfl rfl (xw_seq (xw_region ?_))))
                                  refine xq rfl trivial (o_as rfl) ?_
                                  refine xo_nil (xq_then (xw_ret (xq_blk_ret (xq_then_ret ?_))))
                                  exact xq_out (r := (.inr ((act16_F fb13 (acts1[i14.toNat]!)).2) : ((List (Nat → Int)) × (Nat → Int)) ⊕ ((Nat → Int)))) (e' := [(10, .bool false)]) (B13_1 ++ ((b13, BK 28 (mv (kPA 1 3 (kS [2])) ((act16_F fb13 (acts1[i14.toNat]!)).2)) 61) :: ([]))) (lc rfl ln) (fun _ h => St.permI [1, 0] [[(b13, _)], B13_1] rfl (Kp.st (Kp.keep (Kp.new hb8 (Kp.new hb15 (Kp.segKeep Kp.nil)))) _ h)) h (by intro hh; cases hh) ⟨B13_1, rfl, rfl, rfl, hcB13_1⟩
                                · have hq65 : (decide ((act16_F fb13 (acts1[i14.toNat]!)).1 = 8)) = true := (bnF hg65)
                                  have hp65 : (act16_F fb13 (acts1[i14.toNat]!)).1 = 8 := of_decide_eq_true hq65
                                  rw [if_pos hp65] at h
                                  refine xq rfl ⟨_, rfl, rfl⟩ (o_mv rfl) ?_
                                  refine xq rfl ⟨_, rfl, rfl⟩ (o_mv rfl) ?_
                                  refine xq rfl ⟨_, rfl, rfl⟩ (o_mv rfl) ?_
                                  obtain ⟨ho66, h⟩ := h
                                  refine xo rfl ⟨_, rfl, rfl⟩ (OT.st (fun _ h => h) (ot_callF (Cs := [[(b13, _)]]) (Rs := [[(b8, _)], [(b15, _)], B13_1]) kf9 rfl (fun w1 hw1 => clost_c _ _ _ _ w1 (St.hasC hw1) ho66) (fun _ _ _ h => h.1))) ?_
                                  rintro vs69 _ ⟨w1, _, rfl, hle, -, _, Bs69, rfl, rfl, hJs69, hcBs69⟩
                                  replace hcBs69 := Cov.base (w0 := w) hcBs69 hle
                                  refine xo_st ((b13, BK 28 (mv (kPA 1 3 (kS [2])) ((act16_F fb13 (acts1[i14.toNat]!)).2)) 61) :: (Bs69 ++ ((b8, BK 3 (mv (kS [1]) (v13[(((acts1[i14.toNat]!) 1) - 1).toNat]!)) 48) :: ((b15, BK 4 (iv (acts1[i14.toNat]!)) 32) :: (B13_1 ++ ([])))))) (fun _ h => h) ?_
                                  refine xq rfl ⟨_, rfl, rfl⟩ (o_mv rfl) ?_
                                  refine xq rfl ⟨_, rfl, rfl⟩ (o_mv rfl) ?_
                                  refine xq rfl ⟨_, rfl, rfl⟩ (o_mv rfl) ?_
                                  obtain ⟨ho70, h⟩ := h
                                  refine xcall rfl ⟨_, rfl, rfl⟩ kf18 rfl (fun w1 hw1 => lostR_c _ _ _ _ w1 (hJ13_1.sl hw1 (Pull.sub (.thereC _ (.there _ (.thereC _ (.thereC _ (.here _ _))))))) ho70) ?_
                                  rintro w1 vs71 _ hw1 ⟨_, Bs71, rfl, rfl, hJs71, hcBs71⟩
                                  refine ⟨_, Mg.news (Cov.fresh hcBs71) (.nil _), ?_⟩
                                  replace hcBs71 := Cov.base (w0 := w) hcBs71 hw1.size
                                  obtain ⟨ho72, h⟩ := h
                                  refine xcallq rfl ⟨_, rfl, rfl⟩ kf17 rfl (fun w1 hw1 => ints_c _ _ _ _ w1 (hJs69.sl hw1 (Pull.sub (.there _ (.thereC _ (.here _ _))))) (hJs71.sl hw1 (Pull.sub (.here _ _))) ho72) ?_
                                  refine xq rfl ⟨_, rfl, rfl⟩ (o_not rfl) ?_
                                  refine xq rfl trivial (o_pick_f rfl rfl) ?_
                                  refine xo_nil (xq_then ?_)
                                  refine xw_bool 111 rfl (fun hc73 => ?_) (fun hc73 => ?_)
                                  · have hq73 : ((ints_F (clost_F ((act16_F fb13 (acts1[i14.toNat]!)).2) now2 span3) (lostR_F v13 now2 span3))) = false := (bnT hc73)
                                    have hp73 : ¬ (((ints_F (clost_F ((act16_F fb13 (acts1[i14.toNat]!)).2) now2 span3) (lostR_F v13 now2 span3))) = true) := bne' hq73
                                    rw [if_neg hp73] at h
                                    refine xw_cond_t rfl rfl (xw_seq (xw_region ?_))
                                    refine xq rfl trivial (o_as rfl) ?_
                                    refine xo_nil (xq_then (xw_ret (xq_blk_ret (xq_then_ret ?_))))
                                    exact xq_out (r := (.inr ((act16_F fb13 (acts1[i14.toNat]!)).2) : ((List (Nat → Int)) × (Nat → Int)) ⊕ ((Nat → Int)))) (e' := [(10, .bool false)]) (B13_1 ++ ((b13, BK 28 (mv (kPA 1 3 (kS [2])) ((act16_F fb13 (acts1[i14.toNat]!)).2)) 61) :: ([]))) (lc rfl ln) (fun _ h => St.permI [1, 0] [[(b13, _)], B13_1] rfl (Kp.st (Kp.segNew (Cov.fresh hcBs71) (Kp.keep (Kp.segNew (Cov.fresh hcBs69) (Kp.new hb8 (Kp.new hb15 (Kp.segKeep Kp.nil)))))) _ h)) h (by intro hh; cases hh) ⟨B13_1, rfl, rfl, rfl, hcB13_1⟩
                                  · have hq73 : ((ints_F (clost_F ((act16_F fb13 (acts1[i14.toNat]!)).2) now2 span3) (lostR_F v13 now2 span3))) = true := (bnF hc73)
                                    have hp73 : ((ints_F (clost_F ((act16_F fb13 (acts1[i14.toNat]!)).2) now2 span3) (lostR_F v13 now2 span3))) = true := hq73
                                    rw [if_pos hp73] at h
                                    refine xw_cond_f rfl rfl (xw_skip ?_)
                                    refine xq_blk 1 ?_
                                    refine xq_then (xw_region ?_)
                                    refine xq rfl trivial (o_mv rfl) ?_
                                    obtain ⟨ho74, h⟩ := h
                                    refine xq rfl trivial (o_add rfl rfl rfl ho74) ?_
                                    refine xq rfl trivial (o_as rfl) ?_
                                    refine xo_nil ?_
                                    exact xq_next (s' := ((v13, i14 + 1, (act16_F fb13 (acts1[i14.toNat]!)).2) : (List (Nat → Int)) × Int × (Nat → Int))) (e' := [(0, .int .i64 n0), (1, v1), (2, .int .i64 now2), (3, .int .i64 span3), (4, .int .i64 tx4), (11, .pointer (some ⟨b13, 0, none⟩)), (13, v13_1), (14, .int .i64 (i14 + 1))]) (B13_1 ++ ((b13, BK 28 (mv (kPA 1 3 (kS [2])) ((act16_F fb13 (acts1[i14.toNat]!)).2)) 61) :: ([]))) (lc rfl (lc rfl (lc rfl (lc rfl (lc rfl (lc rfl (lc rfl (lc rfl ln)))))))) (fun _ h => St.permI [1, 0] [[(b13, _)], B13_1] rfl (Kp.st (Kp.segNew (Cov.fresh hcBs71) (Kp.keep (Kp.segNew (Cov.fresh hcBs69) (Kp.new hb8 (Kp.new hb15 (Kp.segKeep Kp.nil)))))) _ h)) h ⟨v13_1, B13_1, rfl, rfl, hJ13_1, hcB13_1⟩
                              · have hq61 : (decide (0 < (v13[(((acts1[i14.toNat]!) 1) - 1).toNat]!) 0)) = false := hc61
                                have hp61 : ¬ (0 < (v13[(((acts1[i14.toNat]!) 1) - 1).toNat]!) 0) := of_decide_eq_false hq61
                                rw [if_neg hp61] at h
                                refine xw_cond_f rfl rfl (xw_skip (xq_then (xw_seq (xw_seq (xw_region ?_)))))
                                refine xq rfl trivial (o_mv rfl) ?_
                                refine xq rfl trivial (o_mv rfl) ?_
                                obtain ⟨ho75, h⟩ := h
                                refine xcallq rfl trivial kf20 rfl (fun w1 hw1 => ofR_c _ _ _ w1 (hJ13_1.sl hw1 (Pull.sub (.thereC _ (.thereC _ (.here _ _))))) ho75) ?_
                                refine xq rfl trivial (o_gtr rfl rfl) ?_
                                refine xo_nil (xq_then ?_)
                                refine xw_bool 40 rfl (fun hc76 => ?_) (fun hc76 => ?_)
                                · have hq76 : (decide (0 < (ofR_F v13 ((acts1[i14.toNat]!) 2)))) = true := hc76
                                  have hp76 : 0 < (ofR_F v13 ((acts1[i14.toNat]!) 2)) := of_decide_eq_true hq76
                                  rw [if_pos hp76] at h
                                  refine xw_cond_t rfl rfl (xw_seq (xw_region ?_))
                                  refine xq rfl trivial (o_mv rfl) ?_
                                  refine xq rfl trivial (o_as rfl) ?_
                                  refine xq rfl trivial (o_as rfl) ?_
                                  refine xo_nil (xq_then (xw_ret (xq_then_ret ?_)))
                                  refine con_ret2 (.inl rfl) Try.results14 rfl rfl _ (fun _ h => h) (?_)
                                  refine xq rfl trivial (o_mv rfl) ?_
                                  refine xq rfl trivial (o_ext rfl rfl) ?_
                                  refine xq rfl trivial (o_ext rfl rfl) ?_
                                  refine xq rfl trivial (o_as rfl) ?_
                                  refine xq rfl trivial (o_as rfl) ?_
                                  refine xo_nil (xq_then (xw_seq (xw_region ?_)))
                                  refine xq rfl trivial (o_mv rfl) ?_
                                  refine xq rfl trivial (o_ldW rfl ts32 (List.Mem.tail _ (List.Mem.head _))) ?_
                                  obtain ⟨ho77, h⟩ := h
                                  refine xo rfl trivial (OT.st (fun _ h => St.permI [3, 0, 1, 2] [[(b8, _)], [(b15, _)], B13_1, [(b13, _)]] rfl h) (ot_callF (Cs := [[(b13, _)]]) (Rs := [[(b8, _)], [(b15, _)], B13_1]) kf8 rfl (fun w1 hw1 => act16_c _ _ _ w1 (St.hasC hw1) ho77) (fun _ _ _ h => h.1))) ?_
                                  rintro _ _ ⟨w1, _, rfl, hle, -, rfl, rfl⟩
                                  refine xo_st ((b13, BK 28 (mv (kPA 1 3 (kS [2])) ((act16_F fb13 (acts1[i14.toNat]!)).2)) 61) :: ((b8, BK 3 (mv (kS [1]) (v13[(((acts1[i14.toNat]!) 1) - 1).toNat]!)) 48) :: ((b15, BK 4 (iv (acts1[i14.toNat]!)) 32) :: (B13_1 ++ ([]))))) (fun _ h => h) ?_
                                  refine xq rfl trivial (o_mv rfl) ?_
                                  refine xq rfl trivial (o_neq rfl rfl) ?_
                                  refine xq rfl trivial (o_mv rfl) ?_
                                  refine xo_bool 100 rfl (fun hg80 => ?_) (fun hg80 => ?_)
                                  · have hq80 : (decide ((act16_F fb13 (acts1[i14.toNat]!)).1 = 15)) = false := (bnT hg80)
                                    have hp80 : ¬ ((act16_F fb13 (acts1[i14.toNat]!)).1 = 15) := of_decide_eq_false hq80
                                    rw [if_neg hp80] at h
                                    refine xs rfl ⟨_, _, rfl, rfl, rfl⟩ (xs rfl ⟨_, _, rfl, rfl, rfl⟩ (xs rfl ⟨_, _, rfl, rfl, rfl⟩ (xs rfl ⟨_, _, rfl, rfl, rfl⟩ (xs rfl ⟨_, _, rfl, rfl, rfl⟩ (xs rfl ⟨_, _, rfl, rfl, rfl⟩ (xs rfl ⟨_, _, rfl, rfl, rfl⟩ (xs rfl ⟨_, _, rfl, rfl, rfl⟩ ?_)))))))
                                    refine xs rfl ⟨_, _, rfl, rfl, rfl⟩ (xs rfl ⟨_, _, rfl, rfl, rfl⟩ ?_)
                                    refine xq rfl trivial (o_pick_t rfl rfl) ?_
                                    refine xo_nil (xq_then (xw_cond_t rfl rfl (xw_seq (xw_region ?_))))
                                    refine xq rfl trivial (o_as rfl) ?_
                                    refine xo_nil (xq_then (xw_ret (xq_blk_ret (xq_then_ret ?_))))
                                    exact xq_out (r := (.inr ((act16_F fb13 (acts1[i14.toNat]!)).2) : ((List (Nat → Int)) × (Nat → Int)) ⊕ ((Nat → Int)))) (e' := [(10, .bool false)]) (B13_1 ++ ((b13, BK 28 (mv (kPA 1 3 (kS [2])) ((act16_F fb13 (acts1[i14.toNat]!)).2)) 61) :: ([]))) (lc rfl ln) (fun _ h => St.permI [1, 0] [[(b13, _)], B13_1] rfl (Kp.st (Kp.keep (Kp.new hb8 (Kp.new hb15 (Kp.segKeep Kp.nil)))) _ h)) h (by intro hh; cases hh) ⟨B13_1, rfl, rfl, rfl, hcB13_1⟩
                                  · have hq80 : (decide ((act16_F fb13 (acts1[i14.toNat]!)).1 = 15)) = true := (bnF hg80)
                                    have hp80 : (act16_F fb13 (acts1[i14.toNat]!)).1 = 15 := of_decide_eq_true hq80
                                    rw [if_pos hp80] at h
                                    refine xq rfl ⟨_, rfl, rfl⟩ (o_mv rfl) ?_
                                    refine xq rfl ⟨_, rfl, rfl⟩ (o_mv rfl) ?_
                                    refine xq rfl ⟨_, rfl, rfl⟩ (o_mv rfl) ?_
                                    obtain ⟨ho81, h⟩ := h
                                    refine xo rfl ⟨_, rfl, rfl⟩ (OT.st (fun _ h => h) (ot_callF (Cs := [[(b13, _)]]) (Rs := [[(b8, _)], [(b15, _)], B13_1]) kf9 rfl (fun w1 hw1 => clost_c _ _ _ _ w1 (St.hasC hw1) ho81) (fun _ _ _ h => h.1))) ?_
                                    rintro vs84 _ ⟨w1, _, rfl, hle, -, _, Bs84, rfl, rfl, hJs84, hcBs84⟩
                                    replace hcBs84 := Cov.base (w0 := w) hcBs84 hle
                                    refine xo_st ((b13, BK 28 (mv (kPA 1 3 (kS [2])) ((act16_F fb13 (acts1[i14.toNat]!)).2)) 61) :: (Bs84 ++ ((b8, BK 3 (mv (kS [1]) (v13[(((acts1[i14.toNat]!) 1) - 1).toNat]!)) 48) :: ((b15, BK 4 (iv (acts1[i14.toNat]!)) 32) :: (B13_1 ++ ([])))))) (fun _ h => h) ?_
                                    refine xq rfl ⟨_, rfl, rfl⟩ (o_mv rfl) ?_
                                    refine xq rfl ⟨_, rfl, rfl⟩ (o_mv rfl) ?_
                                    refine xq rfl ⟨_, rfl, rfl⟩ (o_mv rfl) ?_
                                    obtain ⟨ho85, h⟩ := h
                                    refine xcall rfl ⟨_, rfl, rfl⟩ kf18 rfl (fun w1 hw1 => lostR_c _ _ _ _ w1 (hJ13_1.sl hw1 (Pull.sub (.thereC _ (.there _ (.thereC _ (.thereC _ (.here _ _))))))) ho85) ?_
                                    rintro w1 vs86 _ hw1 ⟨_, Bs86, rfl, rfl, hJs86, hcBs86⟩
                                    refine ⟨_, Mg.news (Cov.fresh hcBs86) (.nil _), ?_⟩
                                    replace hcBs86 := Cov.base (w0 := w) hcBs86 hw1.size
                                    obtain ⟨ho87, h⟩ := h
                                    refine xcallq rfl ⟨_, rfl, rfl⟩ kf17 rfl (fun w1 hw1 => ints_c _ _ _ _ w1 (hJs84.sl hw1 (Pull.sub (.there _ (.thereC _ (.here _ _))))) (hJs86.sl hw1 (Pull.sub (.here _ _))) ho87) ?_
                                    refine xq rfl ⟨_, rfl, rfl⟩ (o_not rfl) ?_
                                    refine xq rfl trivial (o_pick_f rfl rfl) ?_
                                    refine xo_nil (xq_then ?_)
                                    refine xw_bool 111 rfl (fun hc88 => ?_) (fun hc88 => ?_)
                                    · have hq88 : ((ints_F (clost_F ((act16_F fb13 (acts1[i14.toNat]!)).2) now2 span3) (lostR_F v13 now2 span3))) = false := (bnT hc88)
                                      have hp88 : ¬ (((ints_F (clost_F ((act16_F fb13 (acts1[i14.toNat]!)).2) now2 span3) (lostR_F v13 now2 span3))) = true) := bne' hq88
                                      rw [if_neg hp88] at h
                                      refine xw_cond_t rfl rfl (xw_seq (xw_region ?_))
                                      refine xq rfl trivial (o_as rfl) ?_
                                      refine xo_nil (xq_then (xw_ret (xq_blk_ret (xq_then_ret ?_))))
                                      exact xq_out (r := (.inr ((act16_F fb13 (acts1[i14.toNat]!)).2) : ((List (Nat → Int)) × (Nat → Int)) ⊕ ((Nat → Int)))) (e' := [(10, .bool false)]) (B13_1 ++ ((b13, BK 28 (mv (kPA 1 3 (kS [2])) ((act16_F fb13 (acts1[i14.toNat]!)).2)) 61) :: ([]))) (lc rfl ln) (fun _ h => St.permI [1, 0] [[(b13, _)], B13_1] rfl (Kp.st (Kp.segNew (Cov.fresh hcBs86) (Kp.keep (Kp.segNew (Cov.fresh hcBs84) (Kp.new hb8 (Kp.new hb15 (Kp.segKeep Kp.nil)))))) _ h)) h (by intro hh; cases hh) ⟨B13_1, rfl, rfl, rfl, hcB13_1⟩
                                    · have hq88 : ((ints_F (clost_F ((act16_F fb13 (acts1[i14.toNat]!)).2) now2 span3) (lostR_F v13 now2 span3))) = true := (bnF hc88)
                                      have hp88 : ((ints_F (clost_F ((act16_F fb13 (acts1[i14.toNat]!)).2) now2 span3) (lostR_F v13 now2 span3))) = true := hq88
                                      rw [if_pos hp88] at h
                                      refine xw_cond_f rfl rfl (xw_skip ?_)
                                      refine xq_blk 1 ?_
                                      refine xq_then (xw_region ?_)
                                      refine xq rfl trivial (o_mv rfl) ?_
                                      obtain ⟨ho89, h⟩ := h
                                      refine xq rfl trivial (o_add rfl rfl rfl ho89) ?_
                                      refine xq rfl trivial (o_as rfl) ?_
                                      refine xo_nil ?_
                                      exact xq_next (s' := ((v13, i14 + 1, (act16_F fb13 (acts1[i14.toNat]!)).2) : (List (Nat → Int)) × Int × (Nat → Int))) (e' := [(0, .int .i64 n0), (1, v1), (2, .int .i64 now2), (3, .int .i64 span3), (4, .int .i64 tx4), (11, .pointer (some ⟨b13, 0, none⟩)), (13, v13_1), (14, .int .i64 (i14 + 1))]) (B13_1 ++ ((b13, BK 28 (mv (kPA 1 3 (kS [2])) ((act16_F fb13 (acts1[i14.toNat]!)).2)) 61) :: ([]))) (lc rfl (lc rfl (lc rfl (lc rfl (lc rfl (lc rfl (lc rfl (lc rfl ln)))))))) (fun _ h => St.permI [1, 0] [[(b13, _)], B13_1] rfl (Kp.st (Kp.segNew (Cov.fresh hcBs86) (Kp.keep (Kp.segNew (Cov.fresh hcBs84) (Kp.new hb8 (Kp.new hb15 (Kp.segKeep Kp.nil)))))) _ h)) h ⟨v13_1, B13_1, rfl, rfl, hJ13_1, hcB13_1⟩
                                · have hq76 : (decide (0 < (ofR_F v13 ((acts1[i14.toNat]!) 2)))) = false := hc76
                                  have hp76 : ¬ (0 < (ofR_F v13 ((acts1[i14.toNat]!) 2))) := of_decide_eq_false hq76
                                  rw [if_neg hp76] at h
                                  refine xw_cond_f rfl rfl (xw_skip (xq_then (xw_seq (xw_region ?_))))
                                  refine xq rfl trivial (o_mv rfl) ?_
                                  first | refine xq rfl trivial (o_fa0 fl48_0 rfl) ?_ | refine xq rfl trivial (o_fa fl48_0 rfl) ?_
                                  refine xq0 trivial (o_stMI rfl rfl ts3 (List.Mem.head _) (by omega) rfl (.here _ _ _ _)) ?_
                                  refine xo_nil (xq_then (xw_seq (xw_region ?_)))
                                  refine xq rfl trivial (o_mv rfl) ?_
                                  refine xq rfl trivial (o_mv rfl) ?_
                                  refine xq rfl trivial (o_ldW rfl ts48 (List.Mem.head _)) ?_
                                  refine xoR rfl trivial (ot_in (l := [(0, _), (1, _), (2, _)]) kf26 rfl Try.func26 rfl Try.ntmps26 rfl (lac rfl (lac rfl (lac rfl lan))) ?_)
                                  refine xw_seq (xw_region ?_)
                                  refine xo rfl trivial (o_boxA rfl) ?_
                                  rintro _ _ ⟨b5, hb5, rfl, rfl⟩
                                  refine xq rfl trivial (o_as rfl) ?_
                                  refine xo_nil (xq_then (xw_seq (xw_region ?_)))
                                  refine xo rfl trivial (o_bsl el41 ze48 rfl rfl rfl (.nil _)) ?_
                                  rintro _ _ ⟨b8a, hb8a, rfl, rfl⟩
                                  refine xq rfl trivial (o_mv rfl) ?_
                                  obtain ⟨ho91, h⟩ := h
                                  refine xo rfl trivial (OT.st (fun _ h => Pull.st (.hereC _ _) h) (o_appJ (l := []) (l' := v13) (B := [_]) ap41 rfl rfl (OJ.lit (l := []) (List.Mem.head _) rfl (by omega) (by simp [maxLen]) (by exact (fun i hi => match i, hi with  | q + 0, h => absurd h (by omega)))) (fun w2 hw2 => (hJ13_1.sl hw2 (Pull.sub (.there _ (.thereC _ (.thereC _ (.thereC _ (.here _ _)))))))) (fun _ _ => mv_one) ho91 (len_max ho91 (by decide)))) ?_
                                  rintro vs90 _ ⟨Bs90, rfl, hns90, hJs90⟩
                                  have hcBs90 := Cov.trans (Cov.new hb8a) hns90
                                  refine xq rfl trivial (o_as rfl) ?_
                                  refine xo_nil (xq_then (xw_seq (xw_region ?_)))
                                  refine xq rfl trivial (o_mv rfl) ?_
                                  refine xq rfl trivial (o_mv rfl) ?_
                                  obtain ⟨ho92, h⟩ := h
                                  refine xq rfl trivial (o_sub rfl rfl rfl ho92) ?_
                                  refine xq rfl trivial (o_ldW rfl ts48 (List.mem_append_right _ (List.Mem.head _))) ?_
                                  obtain ⟨ho93, h⟩ := h
                                  refine xq rfl trivial (o_ixL el41 rfl rfl (fun w hw => (hJs90.sl hw (Pull.sub (.here _ _)))) rfl ho93) ?_
                                  refine xo0 trivial (OT.st (fun _ h => Pull.st (.here _ _) h) (o_stLA (e := (updI (v13[(((acts1[i14.toNat]!) 1) - 1).toNat]!) 0 ((acts1[i14.toNat]!) 2))) rfl rfl ts48 rfl (fun _ _ => mv_one) hJs90 (toNat_lt ho93) rfl)) ?_
                                  rintro _ _ ⟨Bs94, rfl, hcnBs94, hJBs94⟩
                                  have hcBs94 := hcBs90.trans hcnBs94
                                  refine xo_nil (xq_then (xw_seq (xw_region ?_)))
                                  refine xq rfl trivial (o_mv rfl) ?_
                                  refine xq rfl trivial (o_as rfl) ?_
                                  refine xo_nil (xq_then (xw_ret ?_))
                                  refine con_ret1 (.inl rfl) Try.results26 rfl _ (fun _ h => h) (?_)
                                  refine xq rfl trivial (o_as rfl) ?_
                                  refine xq rfl trivial (o_as rfl) ?_
                                  refine xo_nil (xq_then (xw_ret ?_))
                                  refine con_ret2 (.inl rfl) Try.results14 rfl rfl _ (fun _ h => h) (?_)
                                  refine xq rfl trivial (o_mv rfl) ?_
                                  refine xq rfl trivial (o_ext rfl rfl) ?_
                                  refine xq rfl trivial (o_ext rfl rfl) ?_
                                  refine xq rfl trivial (o_as rfl) ?_
                                  refine xq rfl trivial (o_as rfl) ?_
                                  refine xo_nil (xq_then (xw_seq (xw_region ?_)))
                                  refine xq rfl trivial (o_mv rfl) ?_
                                  refine xq rfl trivial (o_ldW rfl ts32 (List.mem_append_right _ (List.Mem.tail _ (List.Mem.tail _ (List.Mem.head _))))) ?_
                                  obtain ⟨ho95, h⟩ := h
                                  refine xo rfl trivial (OT.st (fun _ h => St.permI [5, 0, 1, 2, 3, 4] [Bs94, [(b5, _)], [(b8, _)], [(b15, _)], B13_1, [(b13, _)]] rfl h) (ot_callF (Cs := [[(b13, _)]]) (Rs := [Bs94, [(b5, _)], [(b8, _)], [(b15, _)], B13_1]) kf8 rfl (fun w1 hw1 => act16_c _ _ _ w1 (St.hasC hw1) ho95) (fun _ _ _ h => h.1))) ?_
                                  rintro _ _ ⟨w1, _, rfl, hle, -, rfl, rfl⟩
                                  refine xo_st ((b13, BK 28 (mv (kPA 1 3 (kS [2])) ((act16_F fb13 (acts1[i14.toNat]!)).2)) 61) :: (Bs94 ++ ((b5, BK 3 (mv (kS [1]) (updI (v13[(((acts1[i14.toNat]!) 1) - 1).toNat]!) 0 ((acts1[i14.toNat]!) 2))) 48) :: ((b8, BK 3 (mv (kS [1]) (updI (v13[(((acts1[i14.toNat]!) 1) - 1).toNat]!) 0 ((acts1[i14.toNat]!) 2))) 48) :: ((b15, BK 4 (iv (acts1[i14.toNat]!)) 32) :: (B13_1 ++ ([]))))))) (fun _ h => h) ?_
                                  refine xq rfl trivial (o_mv rfl) ?_
                                  refine xq rfl trivial (o_neq rfl rfl) ?_
                                  refine xq rfl trivial (o_mv rfl) ?_
                                  refine xo_bool 100 rfl (fun hg98 => ?_) (fun hg98 => ?_)
                                  · have hq98 : (decide ((act16_F fb13 (acts1[i14.toNat]!)).1 = 0)) = false := (bnT hg98)
                                    have hp98 : ¬ ((act16_F fb13 (acts1[i14.toNat]!)).1 = 0) := of_decide_eq_false hq98
                                    rw [if_neg hp98] at h
                                    refine xs rfl ⟨_, _, rfl, rfl, rfl⟩ (xs rfl ⟨_, _, rfl, rfl, rfl⟩ (xs rfl ⟨_, _, rfl, rfl, rfl⟩ (xs rfl ⟨_, _, rfl, rfl, rfl⟩ (xs rfl ⟨_, _, rfl, rfl, rfl⟩ (xs rfl ⟨_, _, rfl, rfl, rfl⟩ (xs rfl ⟨_, _, rfl, rfl, rfl⟩ (xs rfl ⟨_, _, rfl, rfl, rfl⟩ ?_)))))))
                                    refine xs rfl ⟨_, _, rfl, rfl, rfl⟩ (xs rfl ⟨_, _, rfl, rfl, rfl⟩ ?_)
                                    refine xq rfl trivial (o_pick_t rfl rfl) ?_
                                    refine xo_nil (xq_then (xw_cond_t rfl rfl (xw_seq (xw_region ?_))))
                                    refine xq rfl trivial (o_as rfl) ?_
                                    refine xo_nil (xq_then (xw_ret (xq_blk_ret (xq_then_ret ?_))))
                                    exact xq_out (r := (.inr ((act16_F fb13 (acts1[i14.toNat]!)).2) : ((List (Nat → Int)) × (Nat → Int)) ⊕ ((Nat → Int)))) (e' := [(10, .bool false)]) (Bs94 ++ ((b13, BK 28 (mv (kPA 1 3 (kS [2])) ((act16_F fb13 (acts1[i14.toNat]!)).2)) 61) :: ([]))) (lc rfl ln) (fun _ h => St.permI [1, 0] [[(b13, _)], Bs94] rfl (Kp.st (Kp.keep (Kp.segKeep (Kp.new hb5 (Kp.new hb8 (Kp.new hb15 (Kp.segNew (Cov.fresh hcB13_1) Kp.nil)))))) _ h)) h (by intro hh; cases hh) ⟨Bs94, rfl, rfl, rfl, hcBs94⟩
                                  · have hq98 : (decide ((act16_F fb13 (acts1[i14.toNat]!)).1 = 0)) = true := (bnF hg98)
                                    have hp98 : (act16_F fb13 (acts1[i14.toNat]!)).1 = 0 := of_decide_eq_true hq98
                                    rw [if_pos hp98] at h
                                    refine xq rfl ⟨_, rfl, rfl⟩ (o_mv rfl) ?_
                                    refine xq rfl ⟨_, rfl, rfl⟩ (o_mv rfl) ?_
                                    refine xq rfl ⟨_, rfl, rfl⟩ (o_mv rfl) ?_
                                    obtain ⟨ho99, h⟩ := h
                                    refine xo rfl ⟨_, rfl, rfl⟩ (OT.st (fun _ h => h) (ot_callF (Cs := [[(b13, _)]]) (Rs := [Bs94, [(b5, _)], [(b8, _)], [(b15, _)], B13_1]) kf9 rfl (fun w1 hw1 => clost_c _ _ _ _ w1 (St.hasC hw1) ho99) (fun _ _ _ h => h.1))) ?_
                                    rintro vs102 _ ⟨w1, _, rfl, hle, -, _, Bs102, rfl, rfl, hJs102, hcBs102⟩
                                    replace hcBs102 := Cov.base (w0 := w) hcBs102 hle
                                    refine xo_st ((b13, BK 28 (mv (kPA 1 3 (kS [2])) ((act16_F fb13 (acts1[i14.toNat]!)).2)) 61) :: (Bs102 ++ (Bs94 ++ ((b5, BK 3 (mv (kS [1]) (updI (v13[(((acts1[i14.toNat]!) 1) - 1).toNat]!) 0 ((acts1[i14.toNat]!) 2))) 48) :: ((b8, BK 3 (mv (kS [1]) (updI (v13[(((acts1[i14.toNat]!) 1) - 1).toNat]!) 0 ((acts1[i14.toNat]!) 2))) 48) :: ((b15, BK 4 (iv (acts1[i14.toNat]!)) 32) :: (B13_1 ++ ([])))))))) (fun _ h => h) ?_
                                    refine xq rfl ⟨_, rfl, rfl⟩ (o_mv rfl) ?_
                                    refine xq rfl ⟨_, rfl, rfl⟩ (o_mv rfl) ?_
                                    refine xq rfl ⟨_, rfl, rfl⟩ (o_mv rfl) ?_
                                    obtain ⟨ho103, h⟩ := h
                                    refine xcall rfl ⟨_, rfl, rfl⟩ kf18 rfl (fun w1 hw1 => lostR_c _ _ _ _ w1 (hJBs94.sl hw1 (Pull.sub (.thereC _ (.there _ (.here _ _))))) ho103) ?_
                                    rintro w1 vs104 _ hw1 ⟨_, Bs104, rfl, rfl, hJs104, hcBs104⟩
                                    refine ⟨_, Mg.news (Cov.fresh hcBs104) (.nil _), ?_⟩
                                    replace hcBs104 := Cov.base (w0 := w) hcBs104 hw1.size
                                    obtain ⟨ho105, h⟩ := h
                                    refine xcallq rfl ⟨_, rfl, rfl⟩ kf17 rfl (fun w1 hw1 => ints_c _ _ _ _ w1 (hJs102.sl hw1 (Pull.sub (.there _ (.thereC _ (.here _ _))))) (hJs104.sl hw1 (Pull.sub (.here _ _))) ho105) ?_
                                    refine xq rfl ⟨_, rfl, rfl⟩ (o_not rfl) ?_
                                    refine xq rfl trivial (o_pick_f rfl rfl) ?_
                                    refine xo_nil (xq_then ?_)
                                    refine xw_bool 111 rfl (fun hc106 => ?_) (fun hc106 => ?_)
                                    · have hq106 : ((ints_F (clost_F ((act16_F fb13 (acts1[i14.toNat]!)).2) now2 span3) (lostR_F (([] ++ v13).set ((((acts1[i14.toNat]!) 1) - 1).toNat) ((updI (v13[(((acts1[i14.toNat]!) 1) - 1).toNat]!) 0 ((acts1[i14.toNat]!) 2)))) now2 span3))) = false := (bnT hc106)
                                      have hp106 : ¬ (((ints_F (clost_F ((act16_F fb13 (acts1[i14.toNat]!)).2) now2 span3) (lostR_F (([] ++ v13).set ((((acts1[i14.toNat]!) 1) - 1).toNat) ((updI (v13[(((acts1[i14.toNat]!) 1) - 1).toNat]!) 0 ((acts1[i14.toNat]!) 2)))) now2 span3))) = true) := bne' hq106
                                      rw [if_neg hp106] at h
                                      refine xw_cond_t rfl rfl (xw_seq (xw_region ?_))
                                      refine xq rfl trivial (o_as rfl) ?_
                                      refine xo_nil (xq_then (xw_ret (xq_blk_ret (xq_then_ret ?_))))
                                      exact xq_out (r := (.inr ((act16_F fb13 (acts1[i14.toNat]!)).2) : ((List (Nat → Int)) × (Nat → Int)) ⊕ ((Nat → Int)))) (e' := [(10, .bool false)]) (Bs94 ++ ((b13, BK 28 (mv (kPA 1 3 (kS [2])) ((act16_F fb13 (acts1[i14.toNat]!)).2)) 61) :: ([]))) (lc rfl ln) (fun _ h => St.permI [1, 0] [[(b13, _)], Bs94] rfl (Kp.st (Kp.segNew (Cov.fresh hcBs104) (Kp.keep (Kp.segNew (Cov.fresh hcBs102) (Kp.segKeep (Kp.new hb5 (Kp.new hb8 (Kp.new hb15 (Kp.segNew (Cov.fresh hcB13_1) Kp.nil)))))))) _ h)) h (by intro hh; cases hh) ⟨Bs94, rfl, rfl, rfl, hcBs94⟩
                                    · have hq106 : ((ints_F (clost_F ((act16_F fb13 (acts1[i14.toNat]!)).2) now2 span3) (lostR_F (([] ++ v13).set ((((acts1[i14.toNat]!) 1) - 1).toNat) ((updI (v13[(((acts1[i14.toNat]!) 1) - 1).toNat]!) 0 ((acts1[i14.toNat]!) 2)))) now2 span3))) = true := (bnF hc106)
                                      have hp106 : ((ints_F (clost_F ((act16_F fb13 (acts1[i14.toNat]!)).2) now2 span3) (lostR_F (([] ++ v13).set ((((acts1[i14.toNat]!) 1) - 1).toNat) ((updI (v13[(((acts1[i14.toNat]!) 1) - 1).toNat]!) 0 ((acts1[i14.toNat]!) 2)))) now2 span3))) = true := hq106
                                      rw [if_pos hp106] at h
                                      refine xw_cond_f rfl rfl (xw_skip ?_)
                                      refine xq_blk 1 ?_
                                      refine xq_then (xw_region ?_)
                                      refine xq rfl trivial (o_mv rfl) ?_
                                      obtain ⟨ho107, h⟩ := h
                                      refine xq rfl trivial (o_add rfl rfl rfl ho107) ?_
                                      refine xq rfl trivial (o_as rfl) ?_
                                      refine xo_nil ?_
                                      exact xq_next (s' := ((([] ++ v13).set ((((acts1[i14.toNat]!) 1) - 1).toNat) ((updI (v13[(((acts1[i14.toNat]!) 1) - 1).toNat]!) 0 ((acts1[i14.toNat]!) 2))), i14 + 1, (act16_F fb13 (acts1[i14.toNat]!)).2) : (List (Nat → Int)) × Int × (Nat → Int))) (e' := [(0, .int .i64 n0), (1, v1), (2, .int .i64 now2), (3, .int .i64 span3), (4, .int .i64 tx4), (11, .pointer (some ⟨b13, 0, none⟩)), (13, vs90), (14, .int .i64 (i14 + 1))]) (Bs94 ++ ((b13, BK 28 (mv (kPA 1 3 (kS [2])) ((act16_F fb13 (acts1[i14.toNat]!)).2)) 61) :: ([]))) (lc rfl (lc rfl (lc rfl (lc rfl (lc rfl (lc rfl (lc rfl (lc rfl ln)))))))) (fun _ h => St.permI [1, 0] [[(b13, _)], Bs94] rfl (Kp.st (Kp.segNew (Cov.fresh hcBs104) (Kp.keep (Kp.segNew (Cov.fresh hcBs102) (Kp.segKeep (Kp.new hb5 (Kp.new hb8 (Kp.new hb15 (Kp.segNew (Cov.fresh hcB13_1) Kp.nil)))))))) _ h)) h ⟨vs90, Bs94, rfl, rfl, hJBs94, hcBs94⟩
                  · have hq14 : (decide ((acts1[i14.toNat]!) 0 = 0)) = false := hc14
                    have hp14 : ¬ ((acts1[i14.toNat]!) 0 = 0) := of_decide_eq_false hq14
                    rw [if_neg hp14] at h
                    refine xw_cond_f rfl rfl (xw_seq (xw_region ?_))
                    first | refine xq rfl trivial (o_fa0 fl32_0 rfl) ?_ | refine xq rfl trivial (o_fa fl32_0 rfl) ?_
                    refine xq rfl trivial (o_ldI (v := (acts1[i14.toNat]!) 0) rfl ts3 (List.Mem.head _) (by omega) rfl) ?_
                    refine xq rfl trivial (o_eql rfl rfl) ?_
                    refine xo_nil (xq_then ?_)
                    refine xw_bool 78 rfl (fun hc108 => ?_) (fun hc108 => ?_)
                    · have hq108 : (decide ((acts1[i14.toNat]!) 0 = 1)) = true := hc108
                      have hp108 : (acts1[i14.toNat]!) 0 = 1 := of_decide_eq_true hq108
                      rw [if_pos hp108] at h
                      refine xw_cond_t rfl rfl (xw_region ?_)
                      refine xq rfl trivial (o_mv rfl) ?_
                      first | refine xq rfl trivial (o_fa0 fl32_2 rfl) ?_ | refine xq rfl trivial (o_fa fl32_2 rfl) ?_
                      refine xq rfl trivial (o_ldI (v := (acts1[i14.toNat]!) 2) rfl ts3 (List.Mem.head _) (by omega) rfl) ?_
                      refine xoR rfl trivial (ot_in (l := [(0, _), (1, _)]) kf15 rfl Try.func15 rfl Try.ntmps15 rfl (lac rfl (lac rfl lan)) ?_)
                      refine xw_seq (xw_region ?_)
                      refine xq rfl trivial (o_as rfl) ?_
                      refine xq rfl trivial (o_as rfl) ?_
                      refine xo_nil (xq_then (xw_seq (xw_region ?_)))
                      refine xq rfl trivial (o_mv rfl) ?_
                      refine xq rfl trivial (o_mv rfl) ?_
                      obtain ⟨ho109, h⟩ := h
                      refine xcallq rfl trivial kf20 rfl (fun w1 hw1 => ofR_c _ _ _ w1 (hJ13_1.sl hw1 (Pull.sub (.thereC _ (.here _ _)))) ho109) ?_
                      refine xq rfl trivial (o_as rfl) ?_
                      refine xo_nil (xq_then (xw_seq (xw_seq (xw_region ?_))))
                      refine xq rfl trivial (o_mv rfl) ?_
                      refine xq rfl trivial (o_eql rfl rfl) ?_
                      refine xo_nil (xq_then ?_)
                      refine xw_bool 12 rfl (fun hc110 => ?_) (fun hc110 => ?_)
                      · have hq110 : (decide ((ofR_F v13 ((acts1[i14.toNat]!) 2)) = 0)) = true := hc110
                        have hp110 : (ofR_F v13 ((acts1[i14.toNat]!) 2)) = 0 := of_decide_eq_true hq110
                        rw [if_pos hp110] at h
                        refine xw_cond_t rfl rfl (xw_seq (xw_region ?_))
                        refine xq rfl trivial (o_mv rfl) ?_
                        refine xq rfl trivial (o_as rfl) ?_
                        refine xq rfl trivial (o_as rfl) ?_
                        refine xo_nil (xq_then (xw_ret (xq_then_ret ?_)))
                        refine con_ret2 (.inl rfl) Try.results15 rfl rfl _ (fun _ h => h) (?_)
                        refine xq rfl trivial (o_mv rfl) ?_
                        refine xq rfl trivial (o_ext rfl rfl) ?_
                        refine xq rfl trivial (o_ext rfl rfl) ?_
                        refine xq rfl trivial (o_as rfl) ?_
                        refine xq rfl trivial (o_as rfl) ?_
                        refine xo_nil (xq_then (xw_seq (xw_region ?_)))
                        refine xq rfl trivial (o_mv rfl) ?_
                        refine xq rfl trivial (o_ldW rfl ts32 (List.Mem.head _)) ?_
                        obtain ⟨ho111, h⟩ := h
                        refine xo rfl trivial (OT.st (fun _ h => St.permI [2, 0, 1] [[(b15, _)], B13_1, [(b13, _)]] rfl h) (ot_callF (Cs := [[(b13, _)]]) (Rs := [[(b15, _)], B13_1]) kf8 rfl (fun w1 hw1 => act16_c _ _ _ w1 (St.hasC hw1) ho111) (fun _ _ _ h => h.1))) ?_
                        rintro _ _ ⟨w1, _, rfl, hle, -, rfl, rfl⟩
                        refine xo_st ((b13, BK 28 (mv (kPA 1 3 (kS [2])) ((act16_F fb13 (acts1[i14.toNat]!)).2)) 61) :: ((b15, BK 4 (iv (acts1[i14.toNat]!)) 32) :: (B13_1 ++ ([])))) (fun _ h => h) ?_
                        refine xq rfl trivial (o_mv rfl) ?_
                        refine xq rfl trivial (o_neq rfl rfl) ?_
                        refine xq rfl trivial (o_mv rfl) ?_
                        refine xo_bool 100 rfl (fun hg114 => ?_) (fun hg114 => ?_)
                        · have hq114 : (decide ((act16_F fb13 (acts1[i14.toNat]!)).1 = 10)) = false := (bnT hg114)
                          have hp114 : ¬ ((act16_F fb13 (acts1[i14.toNat]!)).1 = 10) := of_decide_eq_false hq114
                          rw [if_neg hp114] at h
                          refine xs rfl ⟨_, _, rfl, rfl, rfl⟩ (xs rfl ⟨_, _, rfl, rfl, rfl⟩ (xs rfl ⟨_, _, rfl, rfl, rfl⟩ (xs rfl ⟨_, _, rfl, rfl, rfl⟩ (xs rfl ⟨_, _, rfl, rfl, rfl⟩ (xs rfl ⟨_, _, rfl, rfl, rfl⟩ (xs rfl ⟨_, _, rfl, rfl, rfl⟩ (xs rfl ⟨_, _, rfl, rfl, rfl⟩ ?_)))))))
                          refine xs rfl ⟨_, _, rfl, rfl, rfl⟩ (xs rfl ⟨_, _, rfl, rfl, rfl⟩ ?_)
                          refine xq rfl trivial (o_pick_t rfl rfl) ?_
                          refine xo_nil (xq_then (xw_cond_t rfl rfl (xw_seq (xw_region ?_))))
                          refine xq rfl trivial (o_as rfl) ?_
                          refine xo_nil (xq_then (xw_ret (xq_blk_ret (xq_then_ret ?_))))
                          exact xq_out (r := (.inr ((act16_F fb13 (acts1[i14.toNat]!)).2) : ((List (Nat → Int)) × (Nat → Int)) ⊕ ((Nat → Int)))) (e' := [(10, .bool false)]) (B13_1 ++ ((b13, BK 28 (mv (kPA 1 3 (kS [2])) ((act16_F fb13 (acts1[i14.toNat]!)).2)) 61) :: ([]))) (lc rfl ln) (fun _ h => St.permI [1, 0] [[(b13, _)], B13_1] rfl (Kp.st (Kp.keep (Kp.new hb15 (Kp.segKeep Kp.nil))) _ h)) h (by intro hh; cases hh) ⟨B13_1, rfl, rfl, rfl, hcB13_1⟩
                        · have hq114 : (decide ((act16_F fb13 (acts1[i14.toNat]!)).1 = 10)) = true := (bnF hg114)
                          have hp114 : (act16_F fb13 (acts1[i14.toNat]!)).1 = 10 := of_decide_eq_true hq114
                          rw [if_pos hp114] at h
                          refine xq rfl ⟨_, rfl, rfl⟩ (o_mv rfl) ?_
                          refine xq rfl ⟨_, rfl, rfl⟩ (o_mv rfl) ?_
                          refine xq rfl ⟨_, rfl, rfl⟩ (o_mv rfl) ?_
                          obtain ⟨ho115, h⟩ := h
                          refine xo rfl ⟨_, rfl, rfl⟩ (OT.st (fun _ h => h) (ot_callF (Cs := [[(b13, _)]]) (Rs := [[(b15, _)], B13_1]) kf9 rfl (fun w1 hw1 => clost_c _ _ _ _ w1 (St.hasC hw1) ho115) (fun _ _ _ h => h.1))) ?_
                          rintro vs118 _ ⟨w1, _, rfl, hle, -, _, Bs118, rfl, rfl, hJs118, hcBs118⟩
                          replace hcBs118 := Cov.base (w0 := w) hcBs118 hle
                          refine xo_st ((b13, BK 28 (mv (kPA 1 3 (kS [2])) ((act16_F fb13 (acts1[i14.toNat]!)).2)) 61) :: (Bs118 ++ ((b15, BK 4 (iv (acts1[i14.toNat]!)) 32) :: (B13_1 ++ ([]))))) (fun _ h => h) ?_
                          refine xq rfl ⟨_, rfl, rfl⟩ (o_mv rfl) ?_
                          refine xq rfl ⟨_, rfl, rfl⟩ (o_mv rfl) ?_
                          refine xq rfl ⟨_, rfl, rfl⟩ (o_mv rfl) ?_
                          obtain ⟨ho119, h⟩ := h
                          refine xcall rfl ⟨_, rfl, rfl⟩ kf18 rfl (fun w1 hw1 => lostR_c _ _ _ _ w1 (hJ13_1.sl hw1 (Pull.sub (.thereC _ (.there _ (.thereC _ (.here _ _)))))) ho119) ?_
                          rintro w1 vs120 _ hw1 ⟨_, Bs120, rfl, rfl, hJs120, hcBs120⟩
                          refine ⟨_, Mg.news (Cov.fresh hcBs120) (.nil _), ?_⟩
                          replace hcBs120 := Cov.base (w0 := w) hcBs120 hw1.size
                          obtain ⟨ho121, h⟩ := h
                          refine xcallq rfl ⟨_, rfl, rfl⟩ kf17 rfl (fun w1 hw1 => ints_c _ _ _ _ w1 (hJs118.sl hw1 (Pull.sub (.there _ (.thereC _ (.here _ _))))) (hJs120.sl hw1 (Pull.sub (.here _ _))) ho121) ?_
                          refine xq rfl ⟨_, rfl, rfl⟩ (o_not rfl) ?_
                          refine xq rfl trivial (o_pick_f rfl rfl) ?_
                          refine xo_nil (xq_then ?_)
                          refine xw_bool 111 rfl (fun hc122 => ?_) (fun hc122 => ?_)
                          · have hq122 : ((ints_F (clost_F ((act16_F fb13 (acts1[i14.toNat]!)).2) now2 span3) (lostR_F v13 now2 span3))) = false := (bnT hc122)
                            have hp122 : ¬ (((ints_F (clost_F ((act16_F fb13 (acts1[i14.toNat]!)).2) now2 span3) (lostR_F v13 now2 span3))) = true) := bne' hq122
                            rw [if_neg hp122] at h
                            refine xw_cond_t rfl rfl (xw_seq (xw_region ?_))
                            refine xq rfl trivial (o_as rfl) ?_
                            refine xo_nil (xq_then (xw_ret (xq_blk_ret (xq_then_ret ?_))))
                            exact xq_out (r := (.inr ((act16_F fb13 (acts1[i14.toNat]!)).2) : ((List (Nat → Int)) × (Nat → Int)) ⊕ ((Nat → Int)))) (e' := [(10, .bool false)]) (B13_1 ++ ((b13, BK 28 (mv (kPA 1 3 (kS [2])) ((act16_F fb13 (acts1[i14.toNat]!)).2)) 61) :: ([]))) (lc rfl ln) (fun _ h => St.permI [1, 0] [[(b13, _)], B13_1] rfl (Kp.st (Kp.segNew (Cov.fresh hcBs120) (Kp.keep (Kp.segNew (Cov.fresh hcBs118) (Kp.new hb15 (Kp.segKeep Kp.nil))))) _ h)) h (by intro hh; cases hh) ⟨B13_1, rfl, rfl, rfl, hcB13_1⟩
                          · have hq122 : ((ints_F (clost_F ((act16_F fb13 (acts1[i14.toNat]!)).2) now2 span3) (lostR_F v13 now2 span3))) = true := (bnF hc122)
                            have hp122 : ((ints_F (clost_F ((act16_F fb13 (acts1[i14.toNat]!)).2) now2 span3) (lostR_F v13 now2 span3))) = true := hq122
                            rw [if_pos hp122] at h
                            refine xw_cond_f rfl rfl (xw_skip ?_)
                            refine xq_blk 1 ?_
                            refine xq_then (xw_region ?_)
                            refine xq rfl trivial (o_mv rfl) ?_
                            obtain ⟨ho123, h⟩ := h
                            refine xq rfl trivial (o_add rfl rfl rfl ho123) ?_
                            refine xq rfl trivial (o_as rfl) ?_
                            refine xo_nil ?_
                            exact xq_next (s' := ((v13, i14 + 1, (act16_F fb13 (acts1[i14.toNat]!)).2) : (List (Nat → Int)) × Int × (Nat → Int))) (e' := [(0, .int .i64 n0), (1, v1), (2, .int .i64 now2), (3, .int .i64 span3), (4, .int .i64 tx4), (11, .pointer (some ⟨b13, 0, none⟩)), (13, v13_1), (14, .int .i64 (i14 + 1))]) (B13_1 ++ ((b13, BK 28 (mv (kPA 1 3 (kS [2])) ((act16_F fb13 (acts1[i14.toNat]!)).2)) 61) :: ([]))) (lc rfl (lc rfl (lc rfl (lc rfl (lc rfl (lc rfl (lc rfl (lc rfl ln)))))))) (fun _ h => St.permI [1, 0] [[(b13, _)], B13_1] rfl (Kp.st (Kp.segNew (Cov.fresh hcBs120) (Kp.keep (Kp.segNew (Cov.fresh hcBs118) (Kp.new hb15 (Kp.segKeep Kp.nil))))) _ h)) h ⟨v13_1, B13_1, rfl, rfl, hJ13_1, hcB13_1⟩
                      · have hq110 : (decide ((ofR_F v13 ((acts1[i14.toNat]!) 2)) = 0)) = false := hc110
                        have hp110 : ¬ ((ofR_F v13 ((acts1[i14.toNat]!) 2)) = 0) := of_decide_eq_false hq110
                        rw [if_neg hp110] at h
                        refine xw_cond_f rfl rfl (xw_skip (xq_then (xw_seq (xw_region ?_))))
                        refine xq rfl trivial (o_mv rfl) ?_
                        refine xq rfl trivial (o_mv rfl) ?_
                        obtain ⟨ho124, h⟩ := h
                        refine xq rfl trivial (o_sub rfl rfl rfl ho124) ?_
                        obtain ⟨ho125, h⟩ := h
                        refine xq rfl trivial (o_ixL el41 rfl rfl (fun w hw => (hJ13_1.sl hw (Pull.sub (.thereC _ (.here _ _))))) rfl ho125) ?_
                        refine xq rfl trivial (o_ldLA (off := 0) (f := mv (kS [1]) (v13[((ofR_F v13 ((acts1[i14.toNat]!) 2)) - 1).toNat]!)) rfl ts48 rfl rfl (fun w hw => (hJ13_1.sl hw (Pull.sub (.thereC _ (.here _ _))))) (toNat_lt ho125) rfl (fun i _ => by rw [Nat.zero_add])) ?_
                        refine xo rfl trivial (o_alloc ze48 rfl) ?_
                        rintro _ _ ⟨b7, hb7, rfl, rfl⟩
                        refine xq0 trivial (o_stW rfl rfl ts48 (fun _ _ => mv_one) (List.Mem.head _) (.here _ _ _ _)) ?_
                        refine xo_nil (xq_then (xw_seq (xw_region ?_)))
                        first | refine xq rfl trivial (o_fa0 fl48_0 rfl) ?_ | refine xq rfl trivial (o_fa fl48_0 rfl) ?_
                        refine xq0 trivial (o_stMI rfl rfl ts3 (List.Mem.head _) (by omega) rfl (.here _ _ _ _)) ?_
                        refine xo_nil (xq_then (xw_seq (xw_region ?_)))
                        refine xq rfl trivial (o_mv rfl) ?_
                        refine xq rfl trivial (o_mv rfl) ?_
                        refine xq rfl trivial (o_ldW rfl ts48 (List.Mem.head _)) ?_
                        refine xoR rfl trivial (ot_in (l := [(0, _), (1, _), (2, _)]) kf26 rfl Try.func26 rfl Try.ntmps26 rfl (lac rfl (lac rfl (lac rfl lan))) ?_)
                        refine xw_seq (xw_region ?_)
                        refine xo rfl trivial (o_boxA rfl) ?_
                        rintro _ _ ⟨b5, hb5, rfl, rfl⟩
                        refine xq rfl trivial (o_as rfl) ?_
                        refine xo_nil (xq_then (xw_seq (xw_region ?_)))
                        refine xo rfl trivial (o_bsl el41 ze48 rfl rfl rfl (.nil _)) ?_
                        rintro _ _ ⟨b8, hb8, rfl, rfl⟩
                        refine xq rfl trivial (o_mv rfl) ?_
                        obtain ⟨ho127, h⟩ := h
                        refine xo rfl trivial (OT.st (fun _ h => Pull.st (.hereC _ _) h) (o_appJ (l := []) (l' := v13) (B := [_]) ap41 rfl rfl (OJ.lit (l := []) (List.Mem.head _) rfl (by omega) (by simp [maxLen]) (by exact (fun i hi => match i, hi with  | q + 0, h => absurd h (by omega)))) (fun w2 hw2 => (hJ13_1.sl hw2 (Pull.sub (.there _ (.thereC _ (.thereC _ (.thereC _ (.here _ _)))))))) (fun _ _ => mv_one) ho127 (len_max ho127 (by decide)))) ?_
                        rintro vs126 _ ⟨Bs126, rfl, hns126, hJs126⟩
                        have hcBs126 := Cov.trans (Cov.new hb8) hns126
                        refine xq rfl trivial (o_as rfl) ?_
                        refine xo_nil (xq_then (xw_seq (xw_region ?_)))
                        refine xq rfl trivial (o_mv rfl) ?_
                        refine xq rfl trivial (o_mv rfl) ?_
                        obtain ⟨ho128, h⟩ := h
                        refine xq rfl trivial (o_sub rfl rfl rfl ho128) ?_
                        refine xq rfl trivial (o_ldW rfl ts48 (List.mem_append_right _ (List.Mem.head _))) ?_
                        obtain ⟨ho129, h⟩ := h
                        refine xq rfl trivial (o_ixL el41 rfl rfl (fun w hw => (hJs126.sl hw (Pull.sub (.here _ _)))) rfl ho129) ?_
                        refine xo0 trivial (OT.st (fun _ h => Pull.st (.here _ _) h) (o_stLA (e := (updI (v13[((ofR_F v13 ((acts1[i14.toNat]!) 2)) - 1).toNat]!) 0 0)) rfl rfl ts48 rfl (fun _ _ => mv_one) hJs126 (toNat_lt ho129) rfl)) ?_
                        rintro _ _ ⟨Bs130, rfl, hcnBs130, hJBs130⟩
                        have hcBs130 := hcBs126.trans hcnBs130
                        refine xo_nil (xq_then (xw_seq (xw_region ?_)))
                        refine xq rfl trivial (o_mv rfl) ?_
                        refine xq rfl trivial (o_as rfl) ?_
                        refine xo_nil (xq_then (xw_ret ?_))
                        refine con_ret1 (.inl rfl) Try.results26 rfl _ (fun _ h => h) (?_)
                        refine xq rfl trivial (o_as rfl) ?_
                        refine xq rfl trivial (o_as rfl) ?_
                        refine xo_nil (xq_then (xw_ret ?_))
                        refine con_ret2 (.inl rfl) Try.results15 rfl rfl _ (fun _ h => h) (?_)
                        refine xq rfl trivial (o_mv rfl) ?_
                        refine xq rfl trivial (o_ext rfl rfl) ?_
                        refine xq rfl trivial (o_ext rfl rfl) ?_
                        refine xq rfl trivial (o_as rfl) ?_
                        refine xq rfl trivial (o_as rfl) ?_
                        refine xo_nil (xq_then (xw_seq (xw_region ?_)))
                        refine xq rfl trivial (o_mv rfl) ?_
                        refine xq rfl trivial (o_ldW rfl ts32 (List.mem_append_right _ (List.Mem.tail _ (List.Mem.tail _ (List.Mem.head _))))) ?_
                        obtain ⟨ho131, h⟩ := h
                        refine xo rfl trivial (OT.st (fun _ h => St.permI [5, 0, 1, 2, 3, 4] [Bs130, [(b5, _)], [(b7, _)], [(b15, _)], B13_1, [(b13, _)]] rfl h) (ot_callF (Cs := [[(b13, _)]]) (Rs := [Bs130, [(b5, _)], [(b7, _)], [(b15, _)], B13_1]) kf8 rfl (fun w1 hw1 => act16_c _ _ _ w1 (St.hasC hw1) ho131) (fun _ _ _ h => h.1))) ?_
                        rintro _ _ ⟨w1, _, rfl, hle, -, rfl, rfl⟩
                        refine xo_st ((b13, BK 28 (mv (kPA 1 3 (kS [2])) ((act16_F fb13 (acts1[i14.toNat]!)).2)) 61) :: (Bs130 ++ ((b5, BK 3 (mv (kS [1]) (updI (v13[((ofR_F v13 ((acts1[i14.toNat]!) 2)) - 1).toNat]!) 0 0)) 48) :: ((b7, BK 3 (mv (kS [1]) (updI (v13[((ofR_F v13 ((acts1[i14.toNat]!) 2)) - 1).toNat]!) 0 0)) 48) :: ((b15, BK 4 (iv (acts1[i14.toNat]!)) 32) :: (B13_1 ++ ([]))))))) (fun _ h => h) ?_
                        refine xq rfl trivial (o_mv rfl) ?_
                        refine xq rfl trivial (o_neq rfl rfl) ?_
                        refine xq rfl trivial (o_mv rfl) ?_
                        refine xo_bool 100 rfl (fun hg134 => ?_) (fun hg134 => ?_)
                        · have hq134 : (decide ((act16_F fb13 (acts1[i14.toNat]!)).1 = 0)) = false := (bnT hg134)
                          have hp134 : ¬ ((act16_F fb13 (acts1[i14.toNat]!)).1 = 0) := of_decide_eq_false hq134
                          rw [if_neg hp134] at h
                          refine xs rfl ⟨_, _, rfl, rfl, rfl⟩ (xs rfl ⟨_, _, rfl, rfl, rfl⟩ (xs rfl ⟨_, _, rfl, rfl, rfl⟩ (xs rfl ⟨_, _, rfl, rfl, rfl⟩ (xs rfl ⟨_, _, rfl, rfl, rfl⟩ (xs rfl ⟨_, _, rfl, rfl, rfl⟩ (xs rfl ⟨_, _, rfl, rfl, rfl⟩ (xs rfl ⟨_, _, rfl, rfl, rfl⟩ ?_)))))))
                          refine xs rfl ⟨_, _, rfl, rfl, rfl⟩ (xs rfl ⟨_, _, rfl, rfl, rfl⟩ ?_)
                          refine xq rfl trivial (o_pick_t rfl rfl) ?_
                          refine xo_nil (xq_then (xw_cond_t rfl rfl (xw_seq (xw_region ?_))))
                          refine xq rfl trivial (o_as rfl) ?_
                          refine xo_nil (xq_then (xw_ret (xq_blk_ret (xq_then_ret ?_))))
                          exact xq_out (r := (.inr ((act16_F fb13 (acts1[i14.toNat]!)).2) : ((List (Nat → Int)) × (Nat → Int)) ⊕ ((Nat → Int)))) (e' := [(10, .bool false)]) (Bs130 ++ ((b13, BK 28 (mv (kPA 1 3 (kS [2])) ((act16_F fb13 (acts1[i14.toNat]!)).2)) 61) :: ([]))) (lc rfl ln) (fun _ h => St.permI [1, 0] [[(b13, _)], Bs130] rfl (Kp.st (Kp.keep (Kp.segKeep (Kp.new hb5 (Kp.new hb7 (Kp.new hb15 (Kp.segNew (Cov.fresh hcB13_1) Kp.nil)))))) _ h)) h (by intro hh; cases hh) ⟨Bs130, rfl, rfl, rfl, hcBs130⟩
                        · have hq134 : (decide ((act16_F fb13 (acts1[i14.toNat]!)).1 = 0)) = true := (bnF hg134)
                          have hp134 : (act16_F fb13 (acts1[i14.toNat]!)).1 = 0 := of_decide_eq_true hq134
                          rw [if_pos hp134] at h
                          refine xq rfl ⟨_, rfl, rfl⟩ (o_mv rfl) ?_
                          refine xq rfl ⟨_, rfl, rfl⟩ (o_mv rfl) ?_
                          refine xq rfl ⟨_, rfl, rfl⟩ (o_mv rfl) ?_
                          obtain ⟨ho135, h⟩ := h
                          refine xo rfl ⟨_, rfl, rfl⟩ (OT.st (fun _ h => h) (ot_callF (Cs := [[(b13, _)]]) (Rs := [Bs130, [(b5, _)], [(b7, _)], [(b15, _)], B13_1]) kf9 rfl (fun w1 hw1 => clost_c _ _ _ _ w1 (St.hasC hw1) ho135) (fun _ _ _ h => h.1))) ?_
                          rintro vs138 _ ⟨w1, _, rfl, hle, -, _, Bs138, rfl, rfl, hJs138, hcBs138⟩
                          replace hcBs138 := Cov.base (w0 := w) hcBs138 hle
                          refine xo_st ((b13, BK 28 (mv (kPA 1 3 (kS [2])) ((act16_F fb13 (acts1[i14.toNat]!)).2)) 61) :: (Bs138 ++ (Bs130 ++ ((b5, BK 3 (mv (kS [1]) (updI (v13[((ofR_F v13 ((acts1[i14.toNat]!) 2)) - 1).toNat]!) 0 0)) 48) :: ((b7, BK 3 (mv (kS [1]) (updI (v13[((ofR_F v13 ((acts1[i14.toNat]!) 2)) - 1).toNat]!) 0 0)) 48) :: ((b15, BK 4 (iv (acts1[i14.toNat]!)) 32) :: (B13_1 ++ ([])))))))) (fun _ h => h) ?_
                          refine xq rfl ⟨_, rfl, rfl⟩ (o_mv rfl) ?_
                          refine xq rfl ⟨_, rfl, rfl⟩ (o_mv rfl) ?_
                          refine xq rfl ⟨_, rfl, rfl⟩ (o_mv rfl) ?_
                          obtain ⟨ho139, h⟩ := h
                          refine xcall rfl ⟨_, rfl, rfl⟩ kf18 rfl (fun w1 hw1 => lostR_c _ _ _ _ w1 (hJBs130.sl hw1 (Pull.sub (.thereC _ (.there _ (.here _ _))))) ho139) ?_
                          rintro w1 vs140 _ hw1 ⟨_, Bs140, rfl, rfl, hJs140, hcBs140⟩
                          refine ⟨_, Mg.news (Cov.fresh hcBs140) (.nil _), ?_⟩
                          replace hcBs140 := Cov.base (w0 := w) hcBs140 hw1.size
                          obtain ⟨ho141, h⟩ := h
                          refine xcallq rfl ⟨_, rfl, rfl⟩ kf17 rfl (fun w1 hw1 => ints_c _ _ _ _ w1 (hJs138.sl hw1 (Pull.sub (.there _ (.thereC _ (.here _ _))))) (hJs140.sl hw1 (Pull.sub (.here _ _))) ho141) ?_
                          refine xq rfl ⟨_, rfl, rfl⟩ (o_not rfl) ?_
                          refine xq rfl trivial (o_pick_f rfl rfl) ?_
                          refine xo_nil (xq_then ?_)
                          refine xw_bool 111 rfl (fun hc142 => ?_) (fun hc142 => ?_)
                          · have hq142 : ((ints_F (clost_F ((act16_F fb13 (acts1[i14.toNat]!)).2) now2 span3) (lostR_F (([] ++ v13).set (((ofR_F v13 ((acts1[i14.toNat]!) 2)) - 1).toNat) ((updI (v13[((ofR_F v13 ((acts1[i14.toNat]!) 2)) - 1).toNat]!) 0 0))) now2 span3))) = false := (bnT hc142)
                            have hp142 : ¬ (((ints_F (clost_F ((act16_F fb13 (acts1[i14.toNat]!)).2) now2 span3) (lostR_F (([] ++ v13).set (((ofR_F v13 ((acts1[i14.toNat]!) 2)) - 1).toNat) ((updI (v13[((ofR_F v13 ((acts1[i14.toNat]!) 2)) - 1).toNat]!) 0 0))) now2 span3))) = true) := bne' hq142
                            rw [if_neg hp142] at h
                            refine xw_cond_t rfl rfl (xw_seq (xw_region ?_))
                            refine xq rfl trivial (o_as rfl) ?_
                            refine xo_nil (xq_then (xw_ret (xq_blk_ret (xq_then_ret ?_))))
                            exact xq_out (r := (.inr ((act16_F fb13 (acts1[i14.toNat]!)).2) : ((List (Nat → Int)) × (Nat → Int)) ⊕ ((Nat → Int)))) (e' := [(10, .bool false)]) (Bs130 ++ ((b13, BK 28 (mv (kPA 1 3 (kS [2])) ((act16_F fb13 (acts1[i14.toNat]!)).2)) 61) :: ([]))) (lc rfl ln) (fun _ h => St.permI [1, 0] [[(b13, _)], Bs130] rfl (Kp.st (Kp.segNew (Cov.fresh hcBs140) (Kp.keep (Kp.segNew (Cov.fresh hcBs138) (Kp.segKeep (Kp.new hb5 (Kp.new hb7 (Kp.new hb15 (Kp.segNew (Cov.fresh hcB13_1) Kp.nil)))))))) _ h)) h (by intro hh; cases hh) ⟨Bs130, rfl, rfl, rfl, hcBs130⟩
                          · have hq142 : ((ints_F (clost_F ((act16_F fb13 (acts1[i14.toNat]!)).2) now2 span3) (lostR_F (([] ++ v13).set (((ofR_F v13 ((acts1[i14.toNat]!) 2)) - 1).toNat) ((updI (v13[((ofR_F v13 ((acts1[i14.toNat]!) 2)) - 1).toNat]!) 0 0))) now2 span3))) = true := (bnF hc142)
                            have hp142 : ((ints_F (clost_F ((act16_F fb13 (acts1[i14.toNat]!)).2) now2 span3) (lostR_F (([] ++ v13).set (((ofR_F v13 ((acts1[i14.toNat]!) 2)) - 1).toNat) ((updI (v13[((ofR_F v13 ((acts1[i14.toNat]!) 2)) - 1).toNat]!) 0 0))) now2 span3))) = true := hq142
                            rw [if_pos hp142] at h
                            refine xw_cond_f rfl rfl (xw_skip ?_)
                            refine xq_blk 1 ?_
                            refine xq_then (xw_region ?_)
                            refine xq rfl trivial (o_mv rfl) ?_
                            obtain ⟨ho143, h⟩ := h
                            refine xq rfl trivial (o_add rfl rfl rfl ho143) ?_
                            refine xq rfl trivial (o_as rfl) ?_
                            refine xo_nil ?_
                            exact xq_next (s' := ((([] ++ v13).set (((ofR_F v13 ((acts1[i14.toNat]!) 2)) - 1).toNat) ((updI (v13[((ofR_F v13 ((acts1[i14.toNat]!) 2)) - 1).toNat]!) 0 0)), i14 + 1, (act16_F fb13 (acts1[i14.toNat]!)).2) : (List (Nat → Int)) × Int × (Nat → Int))) (e' := [(0, .int .i64 n0), (1, v1), (2, .int .i64 now2), (3, .int .i64 span3), (4, .int .i64 tx4), (11, .pointer (some ⟨b13, 0, none⟩)), (13, vs126), (14, .int .i64 (i14 + 1))]) (Bs130 ++ ((b13, BK 28 (mv (kPA 1 3 (kS [2])) ((act16_F fb13 (acts1[i14.toNat]!)).2)) 61) :: ([]))) (lc rfl (lc rfl (lc rfl (lc rfl (lc rfl (lc rfl (lc rfl (lc rfl ln)))))))) (fun _ h => St.permI [1, 0] [[(b13, _)], Bs130] rfl (Kp.st (Kp.segNew (Cov.fresh hcBs140) (Kp.keep (Kp.segNew (Cov.fresh hcBs138) (Kp.segKeep (Kp.new hb5 (Kp.new hb7 (Kp.new hb15 (Kp.segNew (Cov.fresh hcB13_1) Kp.nil)))))))) _ h)) h ⟨vs126, Bs130, rfl, rfl, hJBs130, hcBs130⟩
                    · have hq108 : (decide ((acts1[i14.toNat]!) 0 = 1)) = false := hc108
                      have hp108 : ¬ ((acts1[i14.toNat]!) 0 = 1) := of_decide_eq_false hq108
                      rw [if_neg hp108] at h
                      refine xw_cond_f rfl rfl (xw_region ?_)
                      refine xq rfl trivial (o_mv rfl) ?_
                      first | refine xq rfl trivial (o_fa0 fl32_1 rfl) ?_ | refine xq rfl trivial (o_fa fl32_1 rfl) ?_
                      refine xq rfl trivial (o_ldI (v := (acts1[i14.toNat]!) 1) rfl ts3 (List.Mem.head _) (by omega) rfl) ?_
                      first | refine xq rfl trivial (o_fa0 fl32_3 rfl) ?_ | refine xq rfl trivial (o_fa fl32_3 rfl) ?_
                      refine xq rfl trivial (o_ldI (v := (acts1[i14.toNat]!) 3) rfl ts3 (List.Mem.head _) (by omega) rfl) ?_
                      refine xoR rfl trivial (ot_in (l := [(0, _), (1, _), (2, _)]) kf16 rfl Try.func16 rfl Try.ntmps16 rfl (lac rfl (lac rfl (lac rfl lan))) ?_)
                      refine xw_seq (xw_region ?_)
                      refine xq rfl trivial (o_as rfl) ?_
                      refine xq rfl trivial (o_as rfl) ?_
                      refine xo_nil (xq_then (xw_seq (xw_seq ?_)))
                      refine xw_cut [(0, _), (1, _), (2, _)] (lc rfl (lc rfl (lc rfl ln))) [(16, .bool ((decide ((acts1[i14.toNat]!) 1 < 1)) || (decide ((v13.length : Int) < (acts1[i14.toNat]!) 1))))] ?_ ?_
                      · refine xw_region ?_
                        refine xq rfl trivial (o_mv rfl) ?_
                        refine xq rfl trivial (o_lss rfl rfl) ?_
                        refine xq rfl trivial (o_mv rfl) ?_
                        refine xo_bool 11 rfl (fun hg144 => ?_) (fun hg144 => ?_)
                        · have hq144 : (decide ((acts1[i14.toNat]!) 1 < 1)) = true := hg144
                          have hp144 : (acts1[i14.toNat]!) 1 < 1 := of_decide_eq_true hq144
                          refine xs rfl ⟨_, _, rfl, rfl, rfl⟩ (xs rfl ⟨_, _, rfl, rfl, rfl⟩ (xs rfl ⟨_, _, rfl, rfl, rfl⟩ (xs rfl ⟨_, _, rfl, rfl, rfl⟩ ?_)))
                          refine xq rfl trivial (o_pick_t rfl rfl) ?_
                          refine xo_nil ?_
                          exact xq_cut ((lce rfl (by first | rfl | (simp only [hq12, hq14, hq108, hq144, if_pos hp12, if_neg hp14, if_neg hp108, if_pos hp144, bS]; done) | (simp only [hq12, hq14, hq108, hq144, if_pos hp12, if_neg hp14, if_neg hp108, if_pos hp144, bS, reduceIte, Bool.false_eq_true]; done) | (simp [hp12, hp14, hp108, hp144]; done) | (simp_all; done)) (lc rfl (lc rfl (lc rfl ln))))) (fun _ h => h)
                        · have hq144 : (decide ((acts1[i14.toNat]!) 1 < 1)) = false := hg144
                          have hp144 : ¬ ((acts1[i14.toNat]!) 1 < 1) := of_decide_eq_false hq144
                          refine xq rfl ⟨_, rfl, rfl⟩ (o_mv rfl) ?_
                          refine xq rfl ⟨_, rfl, rfl⟩ (o_mv rfl) ?_
                          refine xq rfl ⟨_, rfl, rfl⟩ (o_lenL rfl Try.underlying41 rfl (OJ.val hJ13_1)) ?_
                          refine xq rfl ⟨_, rfl, rfl⟩ (o_gtr rfl rfl) ?_
                          refine xq rfl trivial (o_pick_f rfl rfl) ?_
                          refine xo_nil ?_
                          exact xq_cut ((lce rfl (by first | rfl | (simp only [hq12, hq14, hq108, hq144, if_pos hp12, if_neg hp14, if_neg hp108, if_neg hp144, bS]; done) | (simp only [hq12, hq14, hq108, hq144, if_pos hp12, if_neg hp14, if_neg hp108, if_neg hp144, bS, reduceIte, Bool.false_eq_true]; done) | (simp [hp12, hp14, hp108, hp144]; done) | (simp_all; done)) (lc rfl (lc rfl (lc rfl ln))))) (fun _ h => h)
                      · refine xq_then ?_
                        refine xw_bool 16 rfl (fun hc145 => ?_) (fun hc145 => ?_)
                        · have hq145 : ((decide ((acts1[i14.toNat]!) 1 < 1)) || (decide ((v13.length : Int) < (acts1[i14.toNat]!) 1))) = true := hc145
                          have hp145 : ((decide ((acts1[i14.toNat]!) 1 < 1)) || (decide ((v13.length : Int) < (acts1[i14.toNat]!) 1))) = true := hq145
                          rw [if_pos hp145] at h
                          refine xw_cond_t rfl rfl (xw_seq (xw_region ?_))
                          refine xq rfl trivial (o_mv rfl) ?_
                          refine xq rfl trivial (o_as rfl) ?_
                          refine xq rfl trivial (o_as rfl) ?_
                          refine xo_nil (xq_then (xw_ret (xq_then_ret ?_)))
                          refine con_ret2 (.inl rfl) Try.results16 rfl rfl _ (fun _ h => h) (?_)
                          refine xq rfl trivial (o_mv rfl) ?_
                          refine xq rfl trivial (o_ext rfl rfl) ?_
                          refine xq rfl trivial (o_ext rfl rfl) ?_
                          refine xq rfl trivial (o_as rfl) ?_
                          refine xq rfl trivial (o_as rfl) ?_
                          refine xo_nil (xq_then (xw_seq (xw_region ?_)))
                          refine xq rfl trivial (o_mv rfl) ?_
                          refine xq rfl trivial (o_ldW rfl ts32 (List.Mem.head _)) ?_
                          obtain ⟨ho146, h⟩ := h
                          refine xo rfl trivial (OT.st (fun _ h => St.permI [2, 0, 1] [[(b15, _)], B13_1, [(b13, _)]] rfl h) (ot_callF (Cs := [[(b13, _)]]) (Rs := [[(b15, _)], B13_1]) kf8 rfl (fun w1 hw1 => act16_c _ _ _ w1 (St.hasC hw1) ho146) (fun _ _ _ h => h.1))) ?_
                          rintro _ _ ⟨w1, _, rfl, hle, -, rfl, rfl⟩
                          refine xo_st ((b13, BK 28 (mv (kPA 1 3 (kS [2])) ((act16_F fb13 (acts1[i14.toNat]!)).2)) 61) :: ((b15, BK 4 (iv (acts1[i14.toNat]!)) 32) :: (B13_1 ++ ([])))) (fun _ h => h) ?_
                          refine xq rfl trivial (o_mv rfl) ?_
                          refine xq rfl trivial (o_neq rfl rfl) ?_
                          refine xq rfl trivial (o_mv rfl) ?_
                          refine xo_bool 100 rfl (fun hg149 => ?_) (fun hg149 => ?_)
                          · have hq149 : (decide ((act16_F fb13 (acts1[i14.toNat]!)).1 = 10)) = false := (bnT hg149)
                            have hp149 : ¬ ((act16_F fb13 (acts1[i14.toNat]!)).1 = 10) := of_decide_eq_false hq149
                            rw [if_neg hp149] at h
                            refine xs rfl ⟨_, _, rfl, rfl, rfl⟩ (xs rfl ⟨_, _, rfl, rfl, rfl⟩ (xs rfl ⟨_, _, rfl, rfl, rfl⟩ (xs rfl ⟨_, _, rfl, rfl, rfl⟩ (xs rfl ⟨_, _, rfl, rfl, rfl⟩ (xs rfl ⟨_, _, rfl, rfl, rfl⟩ (xs rfl ⟨_, _, rfl, rfl, rfl⟩ (xs rfl ⟨_, _, rfl, rfl, rfl⟩ ?_)))))))
                            refine xs rfl ⟨_, _, rfl, rfl, rfl⟩ (xs rfl ⟨_, _, rfl, rfl, rfl⟩ ?_)
                            refine xq rfl trivial (o_pick_t rfl rfl) ?_
                            refine xo_nil (xq_then (xw_cond_t rfl rfl (xw_seq (xw_region ?_))))
                            refine xq rfl trivial (o_as rfl) ?_
                            refine xo_nil (xq_then (xw_ret (xq_blk_ret (xq_then_ret ?_))))
                            exact xq_out (r := (.inr ((act16_F fb13 (acts1[i14.toNat]!)).2) : ((List (Nat → Int)) × (Nat → Int)) ⊕ ((Nat → Int)))) (e' := [(10, .bool false)]) (B13_1 ++ ((b13, BK 28 (mv (kPA 1 3 (kS [2])) ((act16_F fb13 (acts1[i14.toNat]!)).2)) 61) :: ([]))) (lc rfl ln) (fun _ h => St.permI [1, 0] [[(b13, _)], B13_1] rfl (Kp.st (Kp.keep (Kp.new hb15 (Kp.segKeep Kp.nil))) _ h)) h (by intro hh; cases hh) ⟨B13_1, rfl, rfl, rfl, hcB13_1⟩
                          · have hq149 : (decide ((act16_F fb13 (acts1[i14.toNat]!)).1 = 10)) = true := (bnF hg149)
                            have hp149 : (act16_F fb13 (acts1[i14.toNat]!)).1 = 10 := of_decide_eq_true hq149
                            rw [if_pos hp149] at h
                            refine xq rfl ⟨_, rfl, rfl⟩ (o_mv rfl) ?_
                            refine xq rfl ⟨_, rfl, rfl⟩ (o_mv rfl) ?_
                            refine xq rfl ⟨_, rfl, rfl⟩ (o_mv rfl) ?_
                            obtain ⟨ho150, h⟩ := h
                            refine xo rfl ⟨_, rfl, rfl⟩ (OT.st (fun _ h => h) (ot_callF (Cs := [[(b13, _)]]) (Rs := [[(b15, _)], B13_1]) kf9 rfl (fun w1 hw1 => clost_c _ _ _ _ w1 (St.hasC hw1) ho150) (fun _ _ _ h => h.1))) ?_
                            rintro vs153 _ ⟨w1, _, rfl, hle, -, _, Bs153, rfl, rfl, hJs153, hcBs153⟩
                            replace hcBs153 := Cov.base (w0 := w) hcBs153 hle
                            refine xo_st ((b13, BK 28 (mv (kPA 1 3 (kS [2])) ((act16_F fb13 (acts1[i14.toNat]!)).2)) 61) :: (Bs153 ++ ((b15, BK 4 (iv (acts1[i14.toNat]!)) 32) :: (B13_1 ++ ([]))))) (fun _ h => h) ?_
                            refine xq rfl ⟨_, rfl, rfl⟩ (o_mv rfl) ?_
                            refine xq rfl ⟨_, rfl, rfl⟩ (o_mv rfl) ?_
                            refine xq rfl ⟨_, rfl, rfl⟩ (o_mv rfl) ?_
                            obtain ⟨ho154, h⟩ := h
                            refine xcall rfl ⟨_, rfl, rfl⟩ kf18 rfl (fun w1 hw1 => lostR_c _ _ _ _ w1 (hJ13_1.sl hw1 (Pull.sub (.thereC _ (.there _ (.thereC _ (.here _ _)))))) ho154) ?_
                            rintro w1 vs155 _ hw1 ⟨_, Bs155, rfl, rfl, hJs155, hcBs155⟩
                            refine ⟨_, Mg.news (Cov.fresh hcBs155) (.nil _), ?_⟩
                            replace hcBs155 := Cov.base (w0 := w) hcBs155 hw1.size
                            obtain ⟨ho156, h⟩ := h
                            refine xcallq rfl ⟨_, rfl, rfl⟩ kf17 rfl (fun w1 hw1 => ints_c _ _ _ _ w1 (hJs153.sl hw1 (Pull.sub (.there _ (.thereC _ (.here _ _))))) (hJs155.sl hw1 (Pull.sub (.here _ _))) ho156) ?_
                            refine xq rfl ⟨_, rfl, rfl⟩ (o_not rfl) ?_
                            refine xq rfl trivial (o_pick_f rfl rfl) ?_
                            refine xo_nil (xq_then ?_)
                            refine xw_bool 111 rfl (fun hc157 => ?_) (fun hc157 => ?_)
                            · have hq157 : ((ints_F (clost_F ((act16_F fb13 (acts1[i14.toNat]!)).2) now2 span3) (lostR_F v13 now2 span3))) = false := (bnT hc157)
                              have hp157 : ¬ (((ints_F (clost_F ((act16_F fb13 (acts1[i14.toNat]!)).2) now2 span3) (lostR_F v13 now2 span3))) = true) := bne' hq157
                              rw [if_neg hp157] at h
                              refine xw_cond_t rfl rfl (xw_seq (xw_region ?_))
                              refine xq rfl trivial (o_as rfl) ?_
                              refine xo_nil (xq_then (xw_ret (xq_blk_ret (xq_then_ret ?_))))
                              exact xq_out (r := (.inr ((act16_F fb13 (acts1[i14.toNat]!)).2) : ((List (Nat → Int)) × (Nat → Int)) ⊕ ((Nat → Int)))) (e' := [(10, .bool false)]) (B13_1 ++ ((b13, BK 28 (mv (kPA 1 3 (kS [2])) ((act16_F fb13 (acts1[i14.toNat]!)).2)) 61) :: ([]))) (lc rfl ln) (fun _ h => St.permI [1, 0] [[(b13, _)], B13_1] rfl (Kp.st (Kp.segNew (Cov.fresh hcBs155) (Kp.keep (Kp.segNew (Cov.fresh hcBs153) (Kp.new hb15 (Kp.segKeep Kp.nil))))) _ h)) h (by intro hh; cases hh) ⟨B13_1, rfl, rfl, rfl, hcB13_1⟩
                            · have hq157 : ((ints_F (clost_F ((act16_F fb13 (acts1[i14.toNat]!)).2) now2 span3) (lostR_F v13 now2 span3))) = true := (bnF hc157)
                              have hp157 : ((ints_F (clost_F ((act16_F fb13 (acts1[i14.toNat]!)).2) now2 span3) (lostR_F v13 now2 span3))) = true := hq157
                              rw [if_pos hp157] at h
                              refine xw_cond_f rfl rfl (xw_skip ?_)
                              refine xq_blk 1 ?_
                              refine xq_then (xw_region ?_)
                              refine xq rfl trivial (o_mv rfl) ?_
                              obtain ⟨ho158, h⟩ := h
                              refine xq rfl trivial (o_add rfl rfl rfl ho158) ?_
                              refine xq rfl trivial (o_as rfl) ?_
                              refine xo_nil ?_
                              exact xq_next (s' := ((v13, i14 + 1, (act16_F fb13 (acts1[i14.toNat]!)).2) : (List (Nat → Int)) × Int × (Nat → Int))) (e' := [(0, .int .i64 n0), (1, v1), (2, .int .i64 now2), (3, .int .i64 span3), (4, .int .i64 tx4), (11, .pointer (some ⟨b13, 0, none⟩)), (13, v13_1), (14, .int .i64 (i14 + 1))]) (B13_1 ++ ((b13, BK 28 (mv (kPA 1 3 (kS [2])) ((act16_F fb13 (acts1[i14.toNat]!)).2)) 61) :: ([]))) (lc rfl (lc rfl (lc rfl (lc rfl (lc rfl (lc rfl (lc rfl (lc rfl ln)))))))) (fun _ h => St.permI [1, 0] [[(b13, _)], B13_1] rfl (Kp.st (Kp.segNew (Cov.fresh hcBs155) (Kp.keep (Kp.segNew (Cov.fresh hcBs153) (Kp.new hb15 (Kp.segKeep Kp.nil))))) _ h)) h ⟨v13_1, B13_1, rfl, rfl, hJ13_1, hcB13_1⟩
                        · have hq145 : ((decide ((acts1[i14.toNat]!) 1 < 1)) || (decide ((v13.length : Int) < (acts1[i14.toNat]!) 1))) = false := hc145
                          have hp145 : ¬ (((decide ((acts1[i14.toNat]!) 1 < 1)) || (decide ((v13.length : Int) < (acts1[i14.toNat]!) 1))) = true) := bne' hq145
                          rw [if_neg hp145] at h
                          refine xw_cond_f rfl rfl (xw_skip (xq_then (xw_seq (xw_seq (xw_region ?_)))))
                          refine xq rfl trivial (o_mv rfl) ?_
                          refine xcallq rfl trivial kf27 rfl (fun w1 hw1 => timeR_c _ w1) ?_
                          refine xq rfl trivial (o_not rfl) ?_
                          refine xo_nil (xq_then ?_)
                          refine xw_bool 20 rfl (fun hc159 => ?_) (fun hc159 => ?_)
                          · have hq159 : ((timeR_F ((acts1[i14.toNat]!) 3))) = false := (bnT hc159)
                            have hp159 : ¬ (((timeR_F ((acts1[i14.toNat]!) 3))) = true) := bne' hq159
                            rw [if_neg hp159] at h
                            refine xw_cond_t rfl rfl (xw_seq (xw_region ?_))
                            refine xq rfl trivial (o_mv rfl) ?_
                            refine xq rfl trivial (o_as rfl) ?_
                            refine xq rfl trivial (o_as rfl) ?_
                            refine xo_nil (xq_then (xw_ret (xq_then_ret ?_)))
                            refine con_ret2 (.inl rfl) Try.results16 rfl rfl _ (fun _ h => h) (?_)
                            refine xq rfl trivial (o_mv rfl) ?_
                            refine xq rfl trivial (o_ext rfl rfl) ?_
                            refine xq rfl trivial (o_ext rfl rfl) ?_
                            refine xq rfl trivial (o_as rfl) ?_
                            refine xq rfl trivial (o_as rfl) ?_
                            refine xo_nil (xq_then (xw_seq (xw_region ?_)))
                            refine xq rfl trivial (o_mv rfl) ?_
                            refine xq rfl trivial (o_ldW rfl ts32 (List.Mem.head _)) ?_
                            obtain ⟨ho160, h⟩ := h
                            refine xo rfl trivial (OT.st (fun _ h => St.permI [2, 0, 1] [[(b15, _)], B13_1, [(b13, _)]] rfl h) (ot_callF (Cs := [[(b13, _)]]) (Rs := [[(b15, _)], B13_1]) kf8 rfl (fun w1 hw1 => act16_c _ _ _ w1 (St.hasC hw1) ho160) (fun _ _ _ h => h.1))) ?_
                            rintro _ _ ⟨w1, _, rfl, hle, -, rfl, rfl⟩
                            refine xo_st ((b13, BK 28 (mv (kPA 1 3 (kS [2])) ((act16_F fb13 (acts1[i14.toNat]!)).2)) 61) :: ((b15, BK 4 (iv (acts1[i14.toNat]!)) 32) :: (B13_1 ++ ([])))) (fun _ h => h) ?_
                            refine xq rfl trivial (o_mv rfl) ?_
                            refine xq rfl trivial (o_neq rfl rfl) ?_
                            refine xq rfl trivial (o_mv rfl) ?_
                            refine xo_bool 100 rfl (fun hg163 => ?_) (fun hg163 => ?_)
                            · have hq163 : (decide ((act16_F fb13 (acts1[i14.toNat]!)).1 = 1)) = false := (bnT hg163)
                              have hp163 : ¬ ((act16_F fb13 (acts1[i14.toNat]!)).1 = 1) := of_decide_eq_false hq163
                              rw [if_neg hp163] at h
                              refine xs rfl ⟨_, _, rfl, rfl, rfl⟩ (xs rfl ⟨_, _, rfl, rfl, rfl⟩ (xs rfl ⟨_, _, rfl, rfl, rfl⟩ (xs rfl ⟨_, _, rfl, rfl, rfl⟩ (xs rfl ⟨_, _, rfl, rfl, rfl⟩ (xs rfl ⟨_, _, rfl, rfl, rfl⟩ (xs rfl ⟨_, _, rfl, rfl, rfl⟩ (xs rfl ⟨_, _, rfl, rfl, rfl⟩ ?_)))))))
                              refine xs rfl ⟨_, _, rfl, rfl, rfl⟩ (xs rfl ⟨_, _, rfl, rfl, rfl⟩ ?_)
                              refine xq rfl trivial (o_pick_t rfl rfl) ?_
                              refine xo_nil (xq_then (xw_cond_t rfl rfl (xw_seq (xw_region ?_))))
                              refine xq rfl trivial (o_as rfl) ?_
                              refine xo_nil (xq_then (xw_ret (xq_blk_ret (xq_then_ret ?_))))
                              exact xq_out (r := (.inr ((act16_F fb13 (acts1[i14.toNat]!)).2) : ((List (Nat → Int)) × (Nat → Int)) ⊕ ((Nat → Int)))) (e' := [(10, .bool false)]) (B13_1 ++ ((b13, BK 28 (mv (kPA 1 3 (kS [2])) ((act16_F fb13 (acts1[i14.toNat]!)).2)) 61) :: ([]))) (lc rfl ln) (fun _ h => St.permI [1, 0] [[(b13, _)], B13_1] rfl (Kp.st (Kp.keep (Kp.new hb15 (Kp.segKeep Kp.nil))) _ h)) h (by intro hh; cases hh) ⟨B13_1, rfl, rfl, rfl, hcB13_1⟩
                            · have hq163 : (decide ((act16_F fb13 (acts1[i14.toNat]!)).1 = 1)) = true := (bnF hg163)
                              have hp163 : (act16_F fb13 (acts1[i14.toNat]!)).1 = 1 := of_decide_eq_true hq163
                              rw [if_pos hp163] at h
                              refine xq rfl ⟨_, rfl, rfl⟩ (o_mv rfl) ?_
                              refine xq rfl ⟨_, rfl, rfl⟩ (o_mv rfl) ?_
                              refine xq rfl ⟨_, rfl, rfl⟩ (o_mv rfl) ?_
                              obtain ⟨ho164, h⟩ := h
                              refine xo rfl ⟨_, rfl, rfl⟩ (OT.st (fun _ h => h) (ot_callF (Cs := [[(b13, _)]]) (Rs := [[(b15, _)], B13_1]) kf9 rfl (fun w1 hw1 => clost_c _ _ _ _ w1 (St.hasC hw1) ho164) (fun _ _ _ h => h.1))) ?_
                              rintro vs167 _ ⟨w1, _, rfl, hle, -, _, Bs167, rfl, rfl, hJs167, hcBs167⟩
                              replace hcBs167 := Cov.base (w0 := w) hcBs167 hle
                              refine xo_st ((b13, BK 28 (mv (kPA 1 3 (kS [2])) ((act16_F fb13 (acts1[i14.toNat]!)).2)) 61) :: (Bs167 ++ ((b15, BK 4 (iv (acts1[i14.toNat]!)) 32) :: (B13_1 ++ ([]))))) (fun _ h => h) ?_
                              refine xq rfl ⟨_, rfl, rfl⟩ (o_mv rfl) ?_
                              refine xq rfl ⟨_, rfl, rfl⟩ (o_mv rfl) ?_
                              refine xq rfl ⟨_, rfl, rfl⟩ (o_mv rfl) ?_
                              obtain ⟨ho168, h⟩ := h
                              refine xcall rfl ⟨_, rfl, rfl⟩ kf18 rfl (fun w1 hw1 => lostR_c _ _ _ _ w1 (hJ13_1.sl hw1 (Pull.sub (.thereC _ (.there _ (.thereC _ (.here _ _)))))) ho168) ?_
                              rintro w1 vs169 _ hw1 ⟨_, Bs169, rfl, rfl, hJs169, hcBs169⟩
                              refine ⟨_, Mg.news (Cov.fresh hcBs169) (.nil _), ?_⟩
                              replace hcBs169 := Cov.base (w0 := w) hcBs169 hw1.size
                              obtain ⟨ho170, h⟩ := h
                              refine xcallq rfl ⟨_, rfl, rfl⟩ kf17 rfl (fun w1 hw1 => ints_c _ _ _ _ w1 (hJs167.sl hw1 (Pull.sub (.there _ (.thereC _ (.here _ _))))) (hJs169.sl hw1 (Pull.sub (.here _ _))) ho170) ?_
                              refine xq rfl ⟨_, rfl, rfl⟩ (o_not rfl) ?_
                              refine xq rfl trivial (o_pick_f rfl rfl) ?_
                              refine xo_nil (xq_then ?_)
                              refine xw_bool 111 rfl (fun hc171 => ?_) (fun hc171 => ?_)
                              · have hq171 : ((ints_F (clost_F ((act16_F fb13 (acts1[i14.toNat]!)).2) now2 span3) (lostR_F v13 now2 span3))) = false := (bnT hc171)
                                have hp171 : ¬ (((ints_F (clost_F ((act16_F fb13 (acts1[i14.toNat]!)).2) now2 span3) (lostR_F v13 now2 span3))) = true) := bne' hq171
                                rw [if_neg hp171] at h
                                refine xw_cond_t rfl rfl (xw_seq (xw_region ?_))
                                refine xq rfl trivial (o_as rfl) ?_
                                refine xo_nil (xq_then (xw_ret (xq_blk_ret (xq_then_ret ?_))))
                                exact xq_out (r := (.inr ((act16_F fb13 (acts1[i14.toNat]!)).2) : ((List (Nat → Int)) × (Nat → Int)) ⊕ ((Nat → Int)))) (e' := [(10, .bool false)]) (B13_1 ++ ((b13, BK 28 (mv (kPA 1 3 (kS [2])) ((act16_F fb13 (acts1[i14.toNat]!)).2)) 61) :: ([]))) (lc rfl ln) (fun _ h => St.permI [1, 0] [[(b13, _)], B13_1] rfl (Kp.st (Kp.segNew (Cov.fresh hcBs169) (Kp.keep (Kp.segNew (Cov.fresh hcBs167) (Kp.new hb15 (Kp.segKeep Kp.nil))))) _ h)) h (by intro hh; cases hh) ⟨B13_1, rfl, rfl, rfl, hcB13_1⟩
                              · have hq171 : ((ints_F (clost_F ((act16_F fb13 (acts1[i14.toNat]!)).2) now2 span3) (lostR_F v13 now2 span3))) = true := (bnF hc171)
                                have hp171 : ((ints_F (clost_F ((act16_F fb13 (acts1[i14.toNat]!)).2) now2 span3) (lostR_F v13 now2 span3))) = true := hq171
                                rw [if_pos hp171] at h
                                refine xw_cond_f rfl rfl (xw_skip ?_)
                                refine xq_blk 1 ?_
                                refine xq_then (xw_region ?_)
                                refine xq rfl trivial (o_mv rfl) ?_
                                obtain ⟨ho172, h⟩ := h
                                refine xq rfl trivial (o_add rfl rfl rfl ho172) ?_
                                refine xq rfl trivial (o_as rfl) ?_
                                refine xo_nil ?_
                                exact xq_next (s' := ((v13, i14 + 1, (act16_F fb13 (acts1[i14.toNat]!)).2) : (List (Nat → Int)) × Int × (Nat → Int))) (e' := [(0, .int .i64 n0), (1, v1), (2, .int .i64 now2), (3, .int .i64 span3), (4, .int .i64 tx4), (11, .pointer (some ⟨b13, 0, none⟩)), (13, v13_1), (14, .int .i64 (i14 + 1))]) (B13_1 ++ ((b13, BK 28 (mv (kPA 1 3 (kS [2])) ((act16_F fb13 (acts1[i14.toNat]!)).2)) 61) :: ([]))) (lc rfl (lc rfl (lc rfl (lc rfl (lc rfl (lc rfl (lc rfl (lc rfl ln)))))))) (fun _ h => St.permI [1, 0] [[(b13, _)], B13_1] rfl (Kp.st (Kp.segNew (Cov.fresh hcBs169) (Kp.keep (Kp.segNew (Cov.fresh hcBs167) (Kp.new hb15 (Kp.segKeep Kp.nil))))) _ h)) h ⟨v13_1, B13_1, rfl, rfl, hJ13_1, hcB13_1⟩
                          · have hq159 : ((timeR_F ((acts1[i14.toNat]!) 3))) = true := (bnF hc159)
                            have hp159 : ((timeR_F ((acts1[i14.toNat]!) 3))) = true := hq159
                            rw [if_pos hp159] at h
                            refine xw_cond_f rfl rfl (xw_skip (xq_then (xw_seq (xw_region ?_))))
                            refine xq rfl trivial (o_mv rfl) ?_
                            refine xq rfl trivial (o_mv rfl) ?_
                            obtain ⟨ho173, h⟩ := h
                            refine xq rfl trivial (o_sub rfl rfl rfl ho173) ?_
                            obtain ⟨ho174, h⟩ := h
                            refine xq rfl trivial (o_ixL el41 rfl rfl (fun w hw => (hJ13_1.sl hw (Pull.sub (.thereC _ (.here _ _))))) rfl ho174) ?_
                            refine xq rfl trivial (o_ldLA (off := 0) (f := mv (kS [1]) (v13[(((acts1[i14.toNat]!) 1) - 1).toNat]!)) rfl ts48 rfl rfl (fun w hw => (hJ13_1.sl hw (Pull.sub (.thereC _ (.here _ _))))) (toNat_lt ho174) rfl (fun i _ => by rw [Nat.zero_add])) ?_
                            refine xo rfl trivial (o_alloc ze48 rfl) ?_
                            rintro _ _ ⟨b8, hb8, rfl, rfl⟩
                            refine xq0 trivial (o_stW rfl rfl ts48 (fun _ _ => mv_one) (List.Mem.head _) (.here _ _ _ _)) ?_
                            refine xo_nil (xq_then (xw_seq (xw_seq (xw_region ?_))))
                            first | refine xq rfl trivial (o_fa0 fl48_1 rfl) ?_ | refine xq rfl trivial (o_fa fl48_1 rfl) ?_
                            refine xq rfl trivial (o_ld (v := .bool (nz ((v13[(((acts1[i14.toNat]!) 1) - 1).toNat]!) 1))) rfl ts4 (List.Mem.head _) (by omega) (mv_b rfl)) ?_
                            refine xo_nil (xq_then ?_)
                            refine xw_bool 28 rfl (fun hc175 => ?_) (fun hc175 => ?_)
                            · have hq175 : ((nz ((v13[(((acts1[i14.toNat]!) 1) - 1).toNat]!) 1))) = true := hc175
                              have hp175 : ((nz ((v13[(((acts1[i14.toNat]!) 1) - 1).toNat]!) 1))) = true := hq175
                              rw [if_pos hp175] at h
                              refine xw_cond_t rfl rfl (xw_seq (xw_region ?_))
                              refine xq rfl trivial (o_mv rfl) ?_
                              refine xq rfl trivial (o_as rfl) ?_
                              refine xq rfl trivial (o_as rfl) ?_
                              refine xo_nil (xq_then (xw_ret (xq_then_ret ?_)))
                              refine con_ret2 (.inl rfl) Try.results16 rfl rfl _ (fun _ h => h) (?_)
                              refine xq rfl trivial (o_mv rfl) ?_
                              refine xq rfl trivial (o_ext rfl rfl) ?_
                              refine xq rfl trivial (o_ext rfl rfl) ?_
                              refine xq rfl trivial (o_as rfl) ?_
                              refine xq rfl trivial (o_as rfl) ?_
                              refine xo_nil (xq_then (xw_seq (xw_region ?_)))
                              refine xq rfl trivial (o_mv rfl) ?_
                              refine xq rfl trivial (o_ldW rfl ts32 (List.Mem.tail _ (List.Mem.head _))) ?_
                              obtain ⟨ho176, h⟩ := h
                              refine xo rfl trivial (OT.st (fun _ h => St.permI [3, 0, 1, 2] [[(b8, _)], [(b15, _)], B13_1, [(b13, _)]] rfl h) (ot_callF (Cs := [[(b13, _)]]) (Rs := [[(b8, _)], [(b15, _)], B13_1]) kf8 rfl (fun w1 hw1 => act16_c _ _ _ w1 (St.hasC hw1) ho176) (fun _ _ _ h => h.1))) ?_
                              rintro _ _ ⟨w1, _, rfl, hle, -, rfl, rfl⟩
                              refine xo_st ((b13, BK 28 (mv (kPA 1 3 (kS [2])) ((act16_F fb13 (acts1[i14.toNat]!)).2)) 61) :: ((b8, BK 3 (mv (kS [1]) (v13[(((acts1[i14.toNat]!) 1) - 1).toNat]!)) 48) :: ((b15, BK 4 (iv (acts1[i14.toNat]!)) 32) :: (B13_1 ++ ([]))))) (fun _ h => h) ?_
                              refine xq rfl trivial (o_mv rfl) ?_
                              refine xq rfl trivial (o_neq rfl rfl) ?_
                              refine xq rfl trivial (o_mv rfl) ?_
                              refine xo_bool 100 rfl (fun hg179 => ?_) (fun hg179 => ?_)
                              · have hq179 : (decide ((act16_F fb13 (acts1[i14.toNat]!)).1 = 11)) = false := (bnT hg179)
                                have hp179 : ¬ ((act16_F fb13 (acts1[i14.toNat]!)).1 = 11) := of_decide_eq_false hq179
                                rw [if_neg hp179] at h
                                refine xs rfl ⟨_, _, rfl, rfl, rfl⟩ (xs rfl ⟨_, _, rfl, rfl, rfl⟩ (xs rfl ⟨_, _, rfl, rfl, rfl⟩ (xs rfl ⟨_, _, rfl, rfl, rfl⟩ (xs rfl ⟨_, _, rfl, rfl, rfl⟩ (xs rfl ⟨_, _, rfl, rfl, rfl⟩ (xs rfl ⟨_, _, rfl, rfl, rfl⟩ (xs rfl ⟨_, _, rfl, rfl, rfl⟩ ?_)))))))
                                refine xs rfl ⟨_, _, rfl, rfl, rfl⟩ (xs rfl ⟨_, _, rfl, rfl, rfl⟩ ?_)
                                refine xq rfl trivial (o_pick_t rfl rfl) ?_
                                refine xo_nil (xq_then (xw_cond_t rfl rfl (xw_seq (xw_region ?_))))
                                refine xq rfl trivial (o_as rfl) ?_
                                refine xo_nil (xq_then (xw_ret (xq_blk_ret (xq_then_ret ?_))))
                                exact xq_out (r := (.inr ((act16_F fb13 (acts1[i14.toNat]!)).2) : ((List (Nat → Int)) × (Nat → Int)) ⊕ ((Nat → Int)))) (e' := [(10, .bool false)]) (B13_1 ++ ((b13, BK 28 (mv (kPA 1 3 (kS [2])) ((act16_F fb13 (acts1[i14.toNat]!)).2)) 61) :: ([]))) (lc rfl ln) (fun _ h => St.permI [1, 0] [[(b13, _)], B13_1] rfl (Kp.st (Kp.keep (Kp.new hb8 (Kp.new hb15 (Kp.segKeep Kp.nil)))) _ h)) h (by intro hh; cases hh) ⟨B13_1, rfl, rfl, rfl, hcB13_1⟩
                              · have hq179 : (decide ((act16_F fb13 (acts1[i14.toNat]!)).1 = 11)) = true := (bnF hg179)
                                have hp179 : (act16_F fb13 (acts1[i14.toNat]!)).1 = 11 := of_decide_eq_true hq179
                                rw [if_pos hp179] at h
                                refine xq rfl ⟨_, rfl, rfl⟩ (o_mv rfl) ?_
                                refine xq rfl ⟨_, rfl, rfl⟩ (o_mv rfl) ?_
                                refine xq rfl ⟨_, rfl, rfl⟩ (o_mv rfl) ?_
                                obtain ⟨ho180, h⟩ := h
                                refine xo rfl ⟨_, rfl, rfl⟩ (OT.st (fun _ h => h) (ot_callF (Cs := [[(b13, _)]]) (Rs := [[(b8, _)], [(b15, _)], B13_1]) kf9 rfl (fun w1 hw1 => clost_c _ _ _ _ w1 (St.hasC hw1) ho180) (fun _ _ _ h => h.1))) ?_
                                rintro vs183 _ ⟨w1, _, rfl, hle, -, _, Bs183, rfl, rfl, hJs183, hcBs183⟩
                                replace hcBs183 := Cov.base (w0 := w) hcBs183 hle
                                refine xo_st ((b13, BK 28 (mv (kPA 1 3 (kS [2])) ((act16_F fb13 (acts1[i14.toNat]!)).2)) 61) :: (Bs183 ++ ((b8, BK 3 (mv (kS [1]) (v13[(((acts1[i14.toNat]!) 1) - 1).toNat]!)) 48) :: ((b15, BK 4 (iv (acts1[i14.toNat]!)) 32) :: (B13_1 ++ ([])))))) (fun _ h => h) ?_
                                refine xq rfl ⟨_, rfl, rfl⟩ (o_mv rfl) ?_
                                refine xq rfl ⟨_, rfl, rfl⟩ (o_mv rfl) ?_
                                refine xq rfl ⟨_, rfl, rfl⟩ (o_mv rfl) ?_
                                obtain ⟨ho184, h⟩ := h
                                refine xcall rfl ⟨_, rfl, rfl⟩ kf18 rfl (fun w1 hw1 => lostR_c _ _ _ _ w1 (hJ13_1.sl hw1 (Pull.sub (.thereC _ (.there _ (.thereC _ (.thereC _ (.here _ _))))))) ho184) ?_
                                rintro w1 vs185 _ hw1 ⟨_, Bs185, rfl, rfl, hJs185, hcBs185⟩
                                refine ⟨_, Mg.news (Cov.fresh hcBs185) (.nil _), ?_⟩
                                replace hcBs185 := Cov.base (w0 := w) hcBs185 hw1.size
                                obtain ⟨ho186, h⟩ := h
                                refine xcallq rfl ⟨_, rfl, rfl⟩ kf17 rfl (fun w1 hw1 => ints_c _ _ _ _ w1 (hJs183.sl hw1 (Pull.sub (.there _ (.thereC _ (.here _ _))))) (hJs185.sl hw1 (Pull.sub (.here _ _))) ho186) ?_
                                refine xq rfl ⟨_, rfl, rfl⟩ (o_not rfl) ?_
                                refine xq rfl trivial (o_pick_f rfl rfl) ?_
                                refine xo_nil (xq_then ?_)
                                refine xw_bool 111 rfl (fun hc187 => ?_) (fun hc187 => ?_)
                                · have hq187 : ((ints_F (clost_F ((act16_F fb13 (acts1[i14.toNat]!)).2) now2 span3) (lostR_F v13 now2 span3))) = false := (bnT hc187)
                                  have hp187 : ¬ (((ints_F (clost_F ((act16_F fb13 (acts1[i14.toNat]!)).2) now2 span3) (lostR_F v13 now2 span3))) = true) := bne' hq187
                                  rw [if_neg hp187] at h
                                  refine xw_cond_t rfl rfl (xw_seq (xw_region ?_))
                                  refine xq rfl trivial (o_as rfl) ?_
                                  refine xo_nil (xq_then (xw_ret (xq_blk_ret (xq_then_ret ?_))))
                                  exact xq_out (r := (.inr ((act16_F fb13 (acts1[i14.toNat]!)).2) : ((List (Nat → Int)) × (Nat → Int)) ⊕ ((Nat → Int)))) (e' := [(10, .bool false)]) (B13_1 ++ ((b13, BK 28 (mv (kPA 1 3 (kS [2])) ((act16_F fb13 (acts1[i14.toNat]!)).2)) 61) :: ([]))) (lc rfl ln) (fun _ h => St.permI [1, 0] [[(b13, _)], B13_1] rfl (Kp.st (Kp.segNew (Cov.fresh hcBs185) (Kp.keep (Kp.segNew (Cov.fresh hcBs183) (Kp.new hb8 (Kp.new hb15 (Kp.segKeep Kp.nil)))))) _ h)) h (by intro hh; cases hh) ⟨B13_1, rfl, rfl, rfl, hcB13_1⟩
                                · have hq187 : ((ints_F (clost_F ((act16_F fb13 (acts1[i14.toNat]!)).2) now2 span3) (lostR_F v13 now2 span3))) = true := (bnF hc187)
                                  have hp187 : ((ints_F (clost_F ((act16_F fb13 (acts1[i14.toNat]!)).2) now2 span3) (lostR_F v13 now2 span3))) = true := hq187
                                  rw [if_pos hp187] at h
                                  refine xw_cond_f rfl rfl (xw_skip ?_)
                                  refine xq_blk 1 ?_
                                  refine xq_then (xw_region ?_)
                                  refine xq rfl trivial (o_mv rfl) ?_
                                  obtain ⟨ho188, h⟩ := h
                                  refine xq rfl trivial (o_add rfl rfl rfl ho188) ?_
                                  refine xq rfl trivial (o_as rfl) ?_
                                  refine xo_nil ?_
                                  exact xq_next (s' := ((v13, i14 + 1, (act16_F fb13 (acts1[i14.toNat]!)).2) : (List (Nat → Int)) × Int × (Nat → Int))) (e' := [(0, .int .i64 n0), (1, v1), (2, .int .i64 now2), (3, .int .i64 span3), (4, .int .i64 tx4), (11, .pointer (some ⟨b13, 0, none⟩)), (13, v13_1), (14, .int .i64 (i14 + 1))]) (B13_1 ++ ((b13, BK 28 (mv (kPA 1 3 (kS [2])) ((act16_F fb13 (acts1[i14.toNat]!)).2)) 61) :: ([]))) (lc rfl (lc rfl (lc rfl (lc rfl (lc rfl (lc rfl (lc rfl (lc rfl ln)))))))) (fun _ h => St.permI [1, 0] [[(b13, _)], B13_1] rfl (Kp.st (Kp.segNew (Cov.fresh hcBs185) (Kp.keep (Kp.segNew (Cov.fresh hcBs183) (Kp.new hb8 (Kp.new hb15 (Kp.segKeep Kp.nil)))))) _ h)) h ⟨v13_1, B13_1, rfl, rfl, hJ13_1, hcB13_1⟩
                            · have hq175 : ((nz ((v13[(((acts1[i14.toNat]!) 1) - 1).toNat]!) 1))) = false := hc175
                              have hp175 : ¬ (((nz ((v13[(((acts1[i14.toNat]!) 1) - 1).toNat]!) 1))) = true) := bne' hq175
                              rw [if_neg hp175] at h
                              refine xw_cond_f rfl rfl (xw_skip (xq_then (xw_seq (xw_region ?_))))
                              first | refine xq rfl trivial (o_fa0 fl48_1 rfl) ?_ | refine xq rfl trivial (o_fa fl48_1 rfl) ?_
                              refine xq0 trivial (o_stMB rfl rfl ts4 (List.Mem.head _) (by omega) rfl (.here _ _ _ _)) ?_
                              refine xo_nil (xq_then (xw_seq (xw_region ?_)))
                              refine xq rfl trivial (o_mv rfl) ?_
                              first | refine xq rfl trivial (o_fa0 fl48_2 rfl) ?_ | refine xq rfl trivial (o_fa fl48_2 rfl) ?_
                              refine xq0 trivial (o_stMI rfl rfl ts3 (List.Mem.head _) (by omega) rfl (.here _ _ _ _)) ?_
                              refine xo_nil (xq_then (xw_seq (xw_region ?_)))
                              refine xq rfl trivial (o_mv rfl) ?_
                              refine xq rfl trivial (o_mv rfl) ?_
                              refine xq rfl trivial (o_ldW rfl ts48 (List.Mem.head _)) ?_
                              refine xoR rfl trivial (ot_in (l := [(0, _), (1, _), (2, _)]) kf26 rfl Try.func26 rfl Try.ntmps26 rfl (lac rfl (lac rfl (lac rfl lan))) ?_)
                              refine xw_seq (xw_region ?_)
                              refine xo rfl trivial (o_boxA rfl) ?_
                              rintro _ _ ⟨b5, hb5, rfl, rfl⟩
                              refine xq rfl trivial (o_as rfl) ?_
                              refine xo_nil (xq_then (xw_seq (xw_region ?_)))
                              refine xo rfl trivial (o_bsl el41 ze48 rfl rfl rfl (.nil _)) ?_
                              rintro _ _ ⟨b8a, hb8a, rfl, rfl⟩
                              refine xq rfl trivial (o_mv rfl) ?_
                              obtain ⟨ho190, h⟩ := h
                              refine xo rfl trivial (OT.st (fun _ h => Pull.st (.hereC _ _) h) (o_appJ (l := []) (l' := v13) (B := [_]) ap41 rfl rfl (OJ.lit (l := []) (List.Mem.head _) rfl (by omega) (by simp [maxLen]) (by exact (fun i hi => match i, hi with  | q + 0, h => absurd h (by omega)))) (fun w2 hw2 => (hJ13_1.sl hw2 (Pull.sub (.there _ (.thereC _ (.thereC _ (.thereC _ (.here _ _)))))))) (fun _ _ => mv_one) ho190 (len_max ho190 (by decide)))) ?_
                              rintro vs189 _ ⟨Bs189, rfl, hns189, hJs189⟩
                              have hcBs189 := Cov.trans (Cov.new hb8a) hns189
                              refine xq rfl trivial (o_as rfl) ?_
                              refine xo_nil (xq_then (xw_seq (xw_region ?_)))
                              refine xq rfl trivial (o_mv rfl) ?_
                              refine xq rfl trivial (o_mv rfl) ?_
                              obtain ⟨ho191, h⟩ := h
                              refine xq rfl trivial (o_sub rfl rfl rfl ho191) ?_
                              refine xq rfl trivial (o_ldW rfl ts48 (List.mem_append_right _ (List.Mem.head _))) ?_
                              obtain ⟨ho192, h⟩ := h
                              refine xq rfl trivial (o_ixL el41 rfl rfl (fun w hw => (hJs189.sl hw (Pull.sub (.here _ _)))) rfl ho192) ?_
                              refine xo0 trivial (OT.st (fun _ h => Pull.st (.here _ _) h) (o_stLA (e := (updI (updI (v13[(((acts1[i14.toNat]!) 1) - 1).toNat]!) 1 (bI true)) 2 ((acts1[i14.toNat]!) 3))) rfl rfl ts48 rfl (fun _ _ => mv_one) hJs189 (toNat_lt ho192) rfl)) ?_
                              rintro _ _ ⟨Bs193, rfl, hcnBs193, hJBs193⟩
                              have hcBs193 := hcBs189.trans hcnBs193
                              refine xo_nil (xq_then (xw_seq (xw_region ?_)))
                              refine xq rfl trivial (o_mv rfl) ?_
                              refine xq rfl trivial (o_as rfl) ?_
                              refine xo_nil (xq_then (xw_ret ?_))
                              refine con_ret1 (.inl rfl) Try.results26 rfl _ (fun _ h => h) (?_)
                              refine xq rfl trivial (o_as rfl) ?_
                              refine xq rfl trivial (o_as rfl) ?_
                              refine xo_nil (xq_then (xw_ret ?_))
                              refine con_ret2 (.inl rfl) Try.results16 rfl rfl _ (fun _ h => h) (?_)
                              refine xq rfl trivial (o_mv rfl) ?_
                              refine xq rfl trivial (o_ext rfl rfl) ?_
                              refine xq rfl trivial (o_ext rfl rfl) ?_
                              refine xq rfl trivial (o_as rfl) ?_
                              refine xq rfl trivial (o_as rfl) ?_
                              refine xo_nil (xq_then (xw_seq (xw_region ?_)))
                              refine xq rfl trivial (o_mv rfl) ?_
                              refine xq rfl trivial (o_ldW rfl ts32 (List.mem_append_right _ (List.Mem.tail _ (List.Mem.tail _ (List.Mem.head _))))) ?_
                              obtain ⟨ho194, h⟩ := h
                              refine xo rfl trivial (OT.st (fun _ h => St.permI [5, 0, 1, 2, 3, 4] [Bs193, [(b5, _)], [(b8, _)], [(b15, _)], B13_1, [(b13, _)]] rfl h) (ot_callF (Cs := [[(b13, _)]]) (Rs := [Bs193, [(b5, _)], [(b8, _)], [(b15, _)], B13_1]) kf8 rfl (fun w1 hw1 => act16_c _ _ _ w1 (St.hasC hw1) ho194) (fun _ _ _ h => h.1))) ?_
                              rintro _ _ ⟨w1, _, rfl, hle, -, rfl, rfl⟩
                              refine xo_st ((b13, BK 28 (mv (kPA 1 3 (kS [2])) ((act16_F fb13 (acts1[i14.toNat]!)).2)) 61) :: (Bs193 ++ ((b5, BK 3 (mv (kS [1]) (updI (updI (v13[(((acts1[i14.toNat]!) 1) - 1).toNat]!) 1 (bI true)) 2 ((acts1[i14.toNat]!) 3))) 48) :: ((b8, BK 3 (mv (kS [1]) (updI (updI (v13[(((acts1[i14.toNat]!) 1) - 1).toNat]!) 1 (bI true)) 2 ((acts1[i14.toNat]!) 3))) 48) :: ((b15, BK 4 (iv (acts1[i14.toNat]!)) 32) :: (B13_1 ++ ([]))))))) (fun _ h => h) ?_
                              refine xq rfl trivial (o_mv rfl) ?_
                              refine xq rfl trivial (o_neq rfl rfl) ?_
                              refine xq rfl trivial (o_mv rfl) ?_
                              refine xo_bool 100 rfl (fun hg197 => ?_) (fun hg197 => ?_)
                              · have hq197 : (decide ((act16_F fb13 (acts1[i14.toNat]!)).1 = 0)) = false := (bnT hg197)
                                have hp197 : ¬ ((act16_F fb13 (acts1[i14.toNat]!)).1 = 0) := of_decide_eq_false hq197
                                rw [if_neg hp197] at h
                                refine xs rfl ⟨_, _, rfl, rfl, rfl⟩ (xs rfl ⟨_, _, rfl, rfl, rfl⟩ (xs rfl ⟨_, _, rfl, rfl, rfl⟩ (xs rfl ⟨_, _, rfl, rfl, rfl⟩ (xs rfl ⟨_, _, rfl, rfl, rfl⟩ (xs rfl ⟨_, _, rfl, rfl, rfl⟩ (xs rfl ⟨_, _, rfl, rfl, rfl⟩ (xs rfl ⟨_, _, rfl, rfl, rfl⟩ ?_)))))))
                                refine xs rfl ⟨_, _, rfl, rfl, rfl⟩ (xs rfl ⟨_, _, rfl, rfl, rfl⟩ ?_)
                                refine xq rfl trivial (o_pick_t rfl rfl) ?_
                                refine xo_nil (xq_then (xw_cond_t rfl rfl (xw_seq (xw_region ?_))))
                                refine xq rfl trivial (o_as rfl) ?_
                                refine xo_nil (xq_then (xw_ret (xq_blk_ret (xq_then_ret ?_))))
                                exact xq_out (r := (.inr ((act16_F fb13 (acts1[i14.toNat]!)).2) : ((List (Nat → Int)) × (Nat → Int)) ⊕ ((Nat → Int)))) (e' := [(10, .bool false)]) (Bs193 ++ ((b13, BK 28 (mv (kPA 1 3 (kS [2])) ((act16_F fb13 (acts1[i14.toNat]!)).2)) 61) :: ([]))) (lc rfl ln) (fun _ h => St.permI [1, 0] [[(b13, _)], Bs193] rfl (Kp.st (Kp.keep (Kp.segKeep (Kp.new hb5 (Kp.new hb8 (Kp.new hb15 (Kp.segNew (Cov.fresh hcB13_1) Kp.nil)))))) _ h)) h (by intro hh; cases hh) ⟨Bs193, rfl, rfl, rfl, hcBs193⟩
                              · have hq197 : (decide ((act16_F fb13 (acts1[i14.toNat]!)).1 = 0)) = true := (bnF hg197)
                                have hp197 : (act16_F fb13 (acts1[i14.toNat]!)).1 = 0 := of_decide_eq_true hq197
                                rw [if_pos hp197] at h
                                refine xq rfl ⟨_, rfl, rfl⟩ (o_mv rfl) ?_
                                refine xq rfl ⟨_, rfl, rfl⟩ (o_mv rfl) ?_
                                refine xq rfl ⟨_, rfl, rfl⟩ (o_mv rfl) ?_
                                obtain ⟨ho198, h⟩ := h
                                refine xo rfl ⟨_, rfl, rfl⟩ (OT.st (fun _ h => h) (ot_callF (Cs := [[(b13, _)]]) (Rs := [Bs193, [(b5, _)], [(b8, _)], [(b15, _)], B13_1]) kf9 rfl (fun w1 hw1 => clost_c _ _ _ _ w1 (St.hasC hw1) ho198) (fun _ _ _ h => h.1))) ?_
                                rintro vs201 _ ⟨w1, _, rfl, hle, -, _, Bs201, rfl, rfl, hJs201, hcBs201⟩
                                replace hcBs201 := Cov.base (w0 := w) hcBs201 hle
                                refine xo_st ((b13, BK 28 (mv (kPA 1 3 (kS [2])) ((act16_F fb13 (acts1[i14.toNat]!)).2)) 61) :: (Bs201 ++ (Bs193 ++ ((b5, BK 3 (mv (kS [1]) (updI (updI (v13[(((acts1[i14.toNat]!) 1) - 1).toNat]!) 1 (bI true)) 2 ((acts1[i14.toNat]!) 3))) 48) :: ((b8, BK 3 (mv (kS [1]) (updI (updI (v13[(((acts1[i14.toNat]!) 1) - 1).toNat]!) 1 (bI true)) 2 ((acts1[i14.toNat]!) 3))) 48) :: ((b15, BK 4 (iv (acts1[i14.toNat]!)) 32) :: (B13_1 ++ ([])))))))) (fun _ h => h) ?_
                                refine xq rfl ⟨_, rfl, rfl⟩ (o_mv rfl) ?_
                                refine xq rfl ⟨_, rfl, rfl⟩ (o_mv rfl) ?_
                                refine xq rfl ⟨_, rfl, rfl⟩ (o_mv rfl) ?_
                                obtain ⟨ho202, h⟩ := h
                                refine xcall rfl ⟨_, rfl, rfl⟩ kf18 rfl (fun w1 hw1 => lostR_c _ _ _ _ w1 (hJBs193.sl hw1 (Pull.sub (.thereC _ (.there _ (.here _ _))))) ho202) ?_
                                rintro w1 vs203 _ hw1 ⟨_, Bs203, rfl, rfl, hJs203, hcBs203⟩
                                refine ⟨_, Mg.news (Cov.fresh hcBs203) (.nil _), ?_⟩
                                replace hcBs203 := Cov.base (w0 := w) hcBs203 hw1.size
                                obtain ⟨ho204, h⟩ := h
                                refine xcallq rfl ⟨_, rfl, rfl⟩ kf17 rfl (fun w1 hw1 => ints_c _ _ _ _ w1 (hJs201.sl hw1 (Pull.sub (.there _ (.thereC _ (.here _ _))))) (hJs203.sl hw1 (Pull.sub (.here _ _))) ho204) ?_
                                refine xq rfl ⟨_, rfl, rfl⟩ (o_not rfl) ?_
                                refine xq rfl trivial (o_pick_f rfl rfl) ?_
                                refine xo_nil (xq_then ?_)
                                refine xw_bool 111 rfl (fun hc205 => ?_) (fun hc205 => ?_)
                                · have hq205 : ((ints_F (clost_F ((act16_F fb13 (acts1[i14.toNat]!)).2) now2 span3) (lostR_F (([] ++ v13).set ((((acts1[i14.toNat]!) 1) - 1).toNat) ((updI (updI (v13[(((acts1[i14.toNat]!) 1) - 1).toNat]!) 1 (bI true)) 2 ((acts1[i14.toNat]!) 3)))) now2 span3))) = false := (bnT hc205)
                                  have hp205 : ¬ (((ints_F (clost_F ((act16_F fb13 (acts1[i14.toNat]!)).2) now2 span3) (lostR_F (([] ++ v13).set ((((acts1[i14.toNat]!) 1) - 1).toNat) ((updI (updI (v13[(((acts1[i14.toNat]!) 1) - 1).toNat]!) 1 (bI true)) 2 ((acts1[i14.toNat]!) 3)))) now2 span3))) = true) := bne' hq205
                                  rw [if_neg hp205] at h
                                  refine xw_cond_t rfl rfl (xw_seq (xw_region ?_))
                                  refine xq rfl trivial (o_as rfl) ?_
                                  refine xo_nil (xq_then (xw_ret (xq_blk_ret (xq_then_ret ?_))))
                                  exact xq_out (r := (.inr ((act16_F fb13 (acts1[i14.toNat]!)).2) : ((List (Nat → Int)) × (Nat → Int)) ⊕ ((Nat → Int)))) (e' := [(10, .bool false)]) (Bs193 ++ ((b13, BK 28 (mv (kPA 1 3 (kS [2])) ((act16_F fb13 (acts1[i14.toNat]!)).2)) 61) :: ([]))) (lc rfl ln) (fun _ h => St.permI [1, 0] [[(b13, _)], Bs193] rfl (Kp.st (Kp.segNew (Cov.fresh hcBs203) (Kp.keep (Kp.segNew (Cov.fresh hcBs201) (Kp.segKeep (Kp.new hb5 (Kp.new hb8 (Kp.new hb15 (Kp.segNew (Cov.fresh hcB13_1) Kp.nil)))))))) _ h)) h (by intro hh; cases hh) ⟨Bs193, rfl, rfl, rfl, hcBs193⟩
                                · have hq205 : ((ints_F (clost_F ((act16_F fb13 (acts1[i14.toNat]!)).2) now2 span3) (lostR_F (([] ++ v13).set ((((acts1[i14.toNat]!) 1) - 1).toNat) ((updI (updI (v13[(((acts1[i14.toNat]!) 1) - 1).toNat]!) 1 (bI true)) 2 ((acts1[i14.toNat]!) 3)))) now2 span3))) = true := (bnF hc205)
                                  have hp205 : ((ints_F (clost_F ((act16_F fb13 (acts1[i14.toNat]!)).2) now2 span3) (lostR_F (([] ++ v13).set ((((acts1[i14.toNat]!) 1) - 1).toNat) ((updI (updI (v13[(((acts1[i14.toNat]!) 1) - 1).toNat]!) 1 (bI true)) 2 ((acts1[i14.toNat]!) 3)))) now2 span3))) = true := hq205
                                  rw [if_pos hp205] at h
                                  refine xw_cond_f rfl rfl (xw_skip ?_)
                                  refine xq_blk 1 ?_
                                  refine xq_then (xw_region ?_)
                                  refine xq rfl trivial (o_mv rfl) ?_
                                  obtain ⟨ho206, h⟩ := h
                                  refine xq rfl trivial (o_add rfl rfl rfl ho206) ?_
                                  refine xq rfl trivial (o_as rfl) ?_
                                  refine xo_nil ?_
                                  exact xq_next (s' := ((([] ++ v13).set ((((acts1[i14.toNat]!) 1) - 1).toNat) ((updI (updI (v13[(((acts1[i14.toNat]!) 1) - 1).toNat]!) 1 (bI true)) 2 ((acts1[i14.toNat]!) 3))), i14 + 1, (act16_F fb13 (acts1[i14.toNat]!)).2) : (List (Nat → Int)) × Int × (Nat → Int))) (e' := [(0, .int .i64 n0), (1, v1), (2, .int .i64 now2), (3, .int .i64 span3), (4, .int .i64 tx4), (11, .pointer (some ⟨b13, 0, none⟩)), (13, vs189), (14, .int .i64 (i14 + 1))]) (Bs193 ++ ((b13, BK 28 (mv (kPA 1 3 (kS [2])) ((act16_F fb13 (acts1[i14.toNat]!)).2)) 61) :: ([]))) (lc rfl (lc rfl (lc rfl (lc rfl (lc rfl (lc rfl (lc rfl (lc rfl ln)))))))) (fun _ h => St.permI [1, 0] [[(b13, _)], Bs193] rfl (Kp.st (Kp.segNew (Cov.fresh hcBs203) (Kp.keep (Kp.segNew (Cov.fresh hcBs201) (Kp.segKeep (Kp.new hb5 (Kp.new hb8 (Kp.new hb15 (Kp.segNew (Cov.fresh hcB13_1) Kp.nil)))))))) _ h)) h ⟨vs189, Bs193, rfl, rfl, hJBs193, hcBs193⟩
                · have hq12 : (decide (i14 < (acts1.length : Int))) = false := hc12
                  have hp12 : ¬ (i14 < (acts1.length : Int)) := of_decide_eq_false hq12
                  rw [if_neg hp12] at h
                  refine xw_cond_f rfl rfl (xw_exit (xq_then_exit ?_))
                  exact xq_out (r := (.inl (v13, fb13) : ((List (Nat → Int)) × (Nat → Int)) ⊕ ((Nat → Int)))) (e' := [(0, .int .i64 n0), (2, .int .i64 now2), (3, .int .i64 span3), (4, .int .i64 tx4), (11, .pointer (some ⟨b13, 0, none⟩)), (13, v13_1)]) (B13_1 ++ ((b13, BK 28 (mv (kPA 1 3 (kS [2])) fb13) 61) :: ([]))) (lc rfl (lc rfl (lc rfl (lc rfl (lc rfl (lc rfl ln)))))) (fun _ h => h) h (by intro hh; cases hh) ⟨v13_1, B13_1, rfl, rfl, rfl, hJ13_1, hcB13_1⟩
              · rcases x1 with ⟨v13, fb13⟩ | fb13
                · rintro _ _ _ ⟨v13_1o, B13_1o, rfl, rfl, rfl, hJ13_1o, hcB13_1o⟩
                  replace h : acts16_k1a n0 now2 span3 tx4 v13 fb13 r := h
                  unfold acts16_k1a at h
                  refine xq_blk_eq ?_
                  refine xq_then (xw_seq (xw_seq (xw_region ?_)))
                  refine xq rfl trivial (o_as rfl) ?_
                  refine xo_nil (xq_then ?_)
                  refine xw_block ?_
                  obtain ⟨x2, hx2, h⟩ := h
                  refine xw_wh (fun (id17 : Int) e H => e = [(0, .int .i64 n0), (2, .int .i64 now2), (3, .int .i64 span3), (4, .int .i64 tx4), (11, .pointer (some ⟨b13, 0, none⟩)), (13, v13_1o), (17, .int .i64 id17)] ∧ H = B13_1o ++ ((b13, BK 28 (mv (kPA 1 3 (kS [2])) fb13) 61) :: ([]))) (fun x ex e H => match x with | .inl _ => ex = .exit 2 ∧ e = [(2, .int .i64 now2), (3, .int .i64 span3), (4, .int .i64 tx4), (11, .pointer (some ⟨b13, 0, none⟩)), (13, v13_1o)] ∧ H = B13_1o ++ ((b13, BK 28 (mv (kPA 1 3 (kS [2])) fb13) 61) :: ([])) | .inr _ => ex = .ret ∧ e = [(10, .bool false)] ∧ H = B13_1o ++ ((b13, BK 28 (mv (kPA 1 3 (kS [2])) fb13) 61) :: ([]))) hx2 ⟨[(0, .int .i64 n0), (2, .int .i64 now2), (3, .int .i64 span3), (4, .int .i64 tx4), (11, .pointer (some ⟨b13, 0, none⟩)), (13, v13_1o), (17, .int .i64 0)], B13_1o ++ ((b13, BK 28 (mv (kPA 1 3 (kS [2])) fb13) 61) :: ([])), (lc rfl (lc rfl (lc rfl (lc rfl (lc rfl (lc rfl (lc rfl ln))))))), fun _ h => h, ⟨rfl, rfl⟩⟩ ?_ ?_
                  · rintro id17 o _ _ ⟨rfl, rfl⟩ hb
                    have h : acts16_l2 n0 v13 fb13 id17 o := hb
                    clear hb
                    unfold acts16_l2 at h
                    refine xw_seq (xw_seq (xw_region ?_))
                    refine xq rfl trivial (o_mv rfl) ?_
                    refine xq rfl trivial (o_mv rfl) ?_
                    obtain ⟨ho207, h⟩ := h
                    refine xq rfl trivial (o_add rfl rfl rfl ho207) ?_
                    refine xq rfl trivial (o_leq rfl rfl) ?_
                    refine xo_nil (xq_then ?_)
                    refine xw_bool 115 rfl (fun hc208 => ?_) (fun hc208 => ?_)
                    · have hq208 : (decide (id17 ≤ n0 + 1)) = true := hc208
                      have hp208 : id17 ≤ n0 + 1 := of_decide_eq_true hq208
                      rw [if_pos hp208] at h
                      refine xw_cond_t rfl rfl (xw_skip (xq_then (xw_seq ?_)))
                      refine xw_block ?_
                      refine xw_seq (xw_region ?_)
                      refine xq rfl trivial (o_mv rfl) ?_
                      refine xq rfl trivial (o_mv rfl) ?_
                      obtain ⟨ho209, h⟩ := h
                      refine xo rfl trivial (OT.st (fun _ h => St.permI [1, 0] [B13_1o, [(b13, _)]] rfl h) (ot_callF (Cs := [[(b13, _)]]) (Rs := [B13_1o]) kf19 rfl (fun w1 hw1 => cnow_c _ _ _ w1 (St.hasC hw1) ho209) (fun _ _ _ h => h.1))) ?_
                      rintro _ _ ⟨w1, _, rfl, hle, -, rfl, rfl⟩
                      refine xo_st ((b13, BK 28 (mv (kPA 1 3 (kS [2])) fb13) 61) :: (B13_1o ++ ([]))) (fun _ h => h) ?_
                      refine xq rfl trivial (o_mv rfl) ?_
                      refine xq rfl trivial (o_ext rfl rfl) ?_
                      refine xq rfl trivial (o_ext rfl rfl) ?_
                      refine xq rfl trivial (o_as rfl) ?_
                      refine xq rfl trivial (o_as rfl) ?_
                      refine xo_nil (xq_then (xw_seq (xw_seq ?_)))
                      obtain ⟨ho212, ho213, h⟩ := h
                      refine xw_cut [(0, _), (2, _), (3, _), (4, _), (11, _), (13, _), (17, _), (18, _), (19, _)] (lc rfl (lc rfl (lc rfl (lc rfl (lc rfl (lc rfl (lc rfl (lc rfl (lc rfl ln))))))))) [(139, .bool (((decide (id17 < 1)) || (decide (n0 < id17))) || (decide ((v13[(id17 - 1).toNat]!) 0 = 0))))] ?_ ?_
                      · refine xw_region ?_
                        refine xq rfl trivial (o_mv rfl) ?_
                        refine xq rfl trivial (o_lss rfl rfl) ?_
                        refine xq rfl trivial (o_mv rfl) ?_
                        refine xo_bool 126 rfl (fun hg214 => ?_) (fun hg214 => ?_)
                        · have hq214 : (decide (id17 < 1)) = true := hg214
                          have hp214 : id17 < 1 := of_decide_eq_true hq214
                          refine xs rfl ⟨_, _, rfl, rfl, rfl⟩ (xs rfl ⟨_, _, rfl, rfl, rfl⟩ (xs rfl ⟨_, _, rfl, rfl, rfl⟩ ?_))
                          refine xq rfl trivial (o_pick_t rfl rfl) ?_
                          refine xq rfl trivial (o_mv rfl) ?_
                          refine xs rfl ⟨_, _, rfl, rfl, rfl⟩ (xs rfl ⟨_, _, rfl, rfl, rfl⟩ (xs rfl ⟨_, _, rfl, rfl, rfl⟩ (xs rfl ⟨_, _, rfl, rfl, rfl⟩ (xs rfl ⟨_, _, rfl, rfl, rfl⟩ (xs rfl ⟨_, _, rfl, rfl, rfl⟩ (xs rfl ⟨_, _, rfl, rfl, rfl⟩ ?_))))))
                          refine xq rfl trivial (o_pick_t rfl rfl) ?_
                          refine xo_nil ?_
                          exact xq_cut ((lce rfl (by first | rfl | (simp only [hq208, hq214, if_pos hp208, if_pos hp214, bS]; done) | (simp only [hq208, hq214, if_pos hp208, if_pos hp214, bS, reduceIte, Bool.false_eq_true]; done) | (simp [hp208, hp214]; done) | (simp_all; done)) (lc rfl (lc rfl (lc rfl (lc rfl (lc rfl (lc rfl (lc rfl (lc rfl (lc rfl ln))))))))))) (fun _ h => h)
                        · have hq214 : (decide (id17 < 1)) = false := hg214
                          have hp214 : ¬ (id17 < 1) := of_decide_eq_false hq214
                          refine xq rfl ⟨_, rfl, rfl⟩ (o_mv rfl) ?_
                          refine xq rfl ⟨_, rfl, rfl⟩ (o_mv rfl) ?_
                          refine xq rfl ⟨_, rfl, rfl⟩ (o_gtr rfl rfl) ?_
                          refine xq rfl trivial (o_pick_f rfl rfl) ?_
                          refine xq rfl trivial (o_mv rfl) ?_
                          refine xo_bool 131 rfl (fun hg215 => ?_) (fun hg215 => ?_)
                          · have hq215 : (decide (n0 < id17)) = true := hg215
                            have hp215 : n0 < id17 := of_decide_eq_true hq215
                            refine xs rfl ⟨_, _, rfl, rfl, rfl⟩ (xs rfl ⟨_, _, rfl, rfl, rfl⟩ (xs rfl ⟨_, _, rfl, rfl, rfl⟩ (xs rfl ⟨_, _, rfl, rfl, rfl⟩ (xs rfl ⟨_, _, rfl, rfl, rfl⟩ (xs rfl ⟨_, _, rfl, rfl, rfl⟩ (xs rfl ⟨_, _, rfl, rfl, rfl⟩ ?_))))))
                            refine xq rfl trivial (o_pick_t rfl rfl) ?_
                            refine xo_nil ?_
                            exact xq_cut ((lce rfl (by first | rfl | (simp only [hq208, hq214, hq215, if_pos hp208, if_neg hp214, if_pos hp215, bS]; done) | (simp only [hq208, hq214, hq215, if_pos hp208, if_neg hp214, if_pos hp215, bS, reduceIte, Bool.false_eq_true]; done) | (simp [hp208, hp214, hp215]; done) | (simp_all; done)) (lc rfl (lc rfl (lc rfl (lc rfl (lc rfl (lc rfl (lc rfl (lc rfl (lc rfl ln))))))))))) (fun _ h => h)
                          · have hq215 : (decide (n0 < id17)) = false := hg215
                            have hp215 : ¬ (n0 < id17) := of_decide_eq_false hq215
                            refine xq rfl ⟨_, rfl, rfl⟩ (o_mv rfl) ?_
                            refine xq rfl ⟨_, rfl, rfl⟩ (o_mv rfl) ?_
                            refine xq rfl ⟨_, rfl, rfl⟩ (o_sub rfl rfl rfl (ho212 (by first | exact hg215 | (simp only [hq208, hq214, hq215, if_pos hp208, if_neg hp214, if_neg hp215, bS]; done) | (simp only [hq208, hq214, hq215, if_pos hp208, if_neg hp214, if_neg hp215, bS, reduceIte, Bool.false_eq_true]; done) | (simp [hp208, hp214, hp215]; done) | (simp_all; done)))) ?_
                            refine xq rfl ⟨_, rfl, rfl⟩ (o_ixL el41 rfl rfl (fun w hw => (hJ13_1o.sl hw (Pull.sub (.thereC _ (.here _ _))))) rfl (ho213 (by first | exact hg215 | (simp only [hq208, hq214, hq215, if_pos hp208, if_neg hp214, if_neg hp215, bS]; done) | (simp only [hq208, hq214, hq215, if_pos hp208, if_neg hp214, if_neg hp215, bS, reduceIte, Bool.false_eq_true]; done) | (simp [hp208, hp214, hp215]; done) | (simp_all; done)))) ?_
                            refine xq rfl ⟨_, rfl, rfl⟩ (o_faL fl48_0 rfl rfl (fun w hw => (hJ13_1o.sl hw (Pull.sub (.thereC _ (.here _ _))))) (toNat_lt (ho213 (by first | exact hg215 | (simp only [hq208, hq214, hq215, if_pos hp208, if_neg hp214, if_neg hp215, bS]; done) | (simp only [hq208, hq214, hq215, if_pos hp208, if_neg hp214, if_neg hp215, bS, reduceIte, Bool.false_eq_true]; done) | (simp [hp208, hp214, hp215]; done) | (simp_all; done))))) ?_
                            refine xq rfl ⟨_, rfl, rfl⟩ (o_ldL1 (off := 0) (u := .int .i64 ((v13[(id17 - 1).toNat]!) 0)) rfl ts3 rfl (fun w hw => (hJ13_1o.sl hw (Pull.sub (.thereC _ (.here _ _))))) (toNat_lt (ho213 (by first | exact hg215 | (simp only [hq208, hq214, hq215, if_pos hp208, if_neg hp214, if_neg hp215, bS]; done) | (simp only [hq208, hq214, hq215, if_pos hp208, if_neg hp214, if_neg hp215, bS, reduceIte, Bool.false_eq_true]; done) | (simp [hp208, hp214, hp215]; done) | (simp_all; done)))) rfl rfl) ?_
                            refine xq rfl ⟨_, rfl, rfl⟩ (o_eql rfl rfl) ?_
                            refine xq rfl trivial (o_pick_f rfl rfl) ?_
                            refine xo_nil ?_
                            exact xq_cut ((lce rfl (by first | rfl | (simp only [hq208, hq214, hq215, if_pos hp208, if_neg hp214, if_neg hp215, bS]; done) | (simp only [hq208, hq214, hq215, if_pos hp208, if_neg hp214, if_neg hp215, bS, reduceIte, Bool.false_eq_true]; done) | (simp [hp208, hp214, hp215]; done) | (simp_all; done)) (lc rfl (lc rfl (lc rfl (lc rfl (lc rfl (lc rfl (lc rfl (lc rfl (lc rfl ln))))))))))) (fun _ h => h)
                      · refine xq_then ?_
                        refine xw_bool 139 rfl (fun hc216 => ?_) (fun hc216 => ?_)
                        · have hq216 : (((decide (id17 < 1)) || (decide (n0 < id17))) || (decide ((v13[(id17 - 1).toNat]!) 0 = 0))) = true := hc216
                          have hp216 : (((decide (id17 < 1)) || (decide (n0 < id17))) || (decide ((v13[(id17 - 1).toNat]!) 0 = 0))) = true := hq216
                          rw [if_pos hp216] at h
                          refine xw_cond_t rfl rfl (xw_seq (xw_region ?_))
                          refine xq rfl trivial (o_mv rfl) ?_
                          refine xq rfl trivial (o_neq rfl rfl) ?_
                          refine xq rfl trivial (o_mv rfl) ?_
                          refine xo_bool 142 rfl (fun hg217 => ?_) (fun hg217 => ?_)
                          · have hq217 : (decide ((cnow_F fb13 id17).1 = 0)) = false := (bnT hg217)
                            have hp217 : ¬ ((cnow_F fb13 id17).1 = 0) := of_decide_eq_false hq217
                            rw [if_neg hp217] at h
                            refine xs rfl ⟨_, _, rfl, rfl, rfl⟩ (xs rfl ⟨_, _, rfl, rfl, rfl⟩ (xs rfl ⟨_, _, rfl, rfl, rfl⟩ ?_))
                            refine xq rfl trivial (o_pick_t rfl rfl) ?_
                            refine xq rfl trivial (o_mv rfl) ?_
                            refine xs rfl ⟨_, _, rfl, rfl, rfl⟩ (xs rfl ⟨_, _, rfl, rfl, rfl⟩ (xs rfl ⟨_, _, rfl, rfl, rfl⟩ (xs rfl ⟨_, _, rfl, rfl, rfl⟩ (xs rfl ⟨_, _, rfl, rfl, rfl⟩ (xs rfl ⟨_, _, rfl, rfl, rfl⟩ (xs rfl ⟨_, _, rfl, rfl, rfl⟩ (xs rfl ⟨_, _, rfl, rfl, rfl⟩ ?_)))))))
                            refine xs rfl ⟨_, _, rfl, rfl, rfl⟩ (xs rfl ⟨_, _, rfl, rfl, rfl⟩ (xs rfl ⟨_, _, rfl, rfl, rfl⟩ (xs rfl ⟨_, _, rfl, rfl, rfl⟩ ?_)))
                            refine xq rfl trivial (o_pick_t rfl rfl) ?_
                            refine xo_nil (xq_then (xw_cond_t rfl rfl (xw_seq (xw_region ?_))))
                            refine xq rfl trivial (o_as rfl) ?_
                            refine xo_nil (xq_then (xw_ret (xq_then_ret (xq_blk_ret (xq_then_ret ?_)))))
                            exact xq_out (r := (.inr () : (Unit) ⊕ (Unit))) (e' := [(10, .bool false)]) (B13_1o ++ ((b13, BK 28 (mv (kPA 1 3 (kS [2])) fb13) 61) :: ([]))) (lc rfl ln) (fun _ h => St.permI [1, 0] [[(b13, _)], B13_1o] rfl (h)) h (by intro hh; cases hh) ⟨rfl, rfl, rfl⟩
                          · have hq217 : (decide ((cnow_F fb13 id17).1 = 0)) = true := (bnF hg217)
                            have hp217 : (cnow_F fb13 id17).1 = 0 := of_decide_eq_true hq217
                            rw [if_pos hp217] at h
                            refine xq rfl ⟨_, rfl, rfl⟩ (o_mv rfl) ?_
                            refine xcallq rfl ⟨_, rfl, rfl⟩ kf13 rfl (fun w1 hw1 => code_c _ w1) ?_
                            refine xq rfl ⟨_, rfl, rfl⟩ (o_neq rfl rfl) ?_
                            refine xq rfl trivial (o_pick_f rfl rfl) ?_
                            refine xq rfl trivial (o_mv rfl) ?_
                            refine xo_bool 147 rfl (fun hg218 => ?_) (fun hg218 => ?_)
                            · have hq218 : (decide ((code_F ((cnow_F fb13 id17).2)) = 10)) = false := (bnT hg218)
                              have hp218 : ¬ ((code_F ((cnow_F fb13 id17).2)) = 10) := of_decide_eq_false hq218
                              rw [if_neg hp218] at h
                              refine xs rfl ⟨_, _, rfl, rfl, rfl⟩ (xs rfl ⟨_, _, rfl, rfl, rfl⟩ (xs rfl ⟨_, _, rfl, rfl, rfl⟩ (xs rfl ⟨_, _, rfl, rfl, rfl⟩ (xs rfl ⟨_, _, rfl, rfl, rfl⟩ (xs rfl ⟨_, _, rfl, rfl, rfl⟩ (xs rfl ⟨_, _, rfl, rfl, rfl⟩ (xs rfl ⟨_, _, rfl, rfl, rfl⟩ ?_)))))))
                              refine xs rfl ⟨_, _, rfl, rfl, rfl⟩ (xs rfl ⟨_, _, rfl, rfl, rfl⟩ (xs rfl ⟨_, _, rfl, rfl, rfl⟩ (xs rfl ⟨_, _, rfl, rfl, rfl⟩ ?_)))
                              refine xq rfl trivial (o_pick_t rfl rfl) ?_
                              refine xo_nil (xq_then (xw_cond_t rfl rfl (xw_seq (xw_region ?_))))
                              refine xq rfl trivial (o_as rfl) ?_
                              refine xo_nil (xq_then (xw_ret (xq_then_ret (xq_blk_ret (xq_then_ret ?_)))))
                              exact xq_out (r := (.inr () : (Unit) ⊕ (Unit))) (e' := [(10, .bool false)]) (B13_1o ++ ((b13, BK 28 (mv (kPA 1 3 (kS [2])) fb13) 61) :: ([]))) (lc rfl ln) (fun _ h => St.permI [1, 0] [[(b13, _)], B13_1o] rfl (h)) h (by intro hh; cases hh) ⟨rfl, rfl, rfl⟩
                            · have hq218 : (decide ((code_F ((cnow_F fb13 id17).2)) = 10)) = true := (bnF hg218)
                              have hp218 : (code_F ((cnow_F fb13 id17).2)) = 10 := of_decide_eq_true hq218
                              rw [if_pos hp218] at h
                              refine xq rfl ⟨_, rfl, rfl⟩ (o_mv rfl) ?_
                              refine xq rfl ⟨_, rfl, rfl⟩ (o_lss rfl rfl) ?_
                              refine xq rfl ⟨_, rfl, rfl⟩ (o_mv rfl) ?_
                              refine xo_bool 150 rfl (fun hg219 => ?_) (fun hg219 => ?_)
                              · have hq219 : (decide (id17 < 1)) = true := hg219
                                have hp219 : id17 < 1 := of_decide_eq_true hq219
                                rw [if_pos hp219] at h
                                refine xs rfl ⟨_, _, rfl, rfl, rfl⟩ (xs rfl ⟨_, _, rfl, rfl, rfl⟩ (xs rfl ⟨_, _, rfl, rfl, rfl⟩ ?_))
                                refine xq rfl ⟨_, rfl, rfl⟩ (o_pick_t rfl rfl) ?_
                                refine xq rfl ⟨_, rfl, rfl⟩ (o_mv rfl) ?_
                                refine xq rfl ⟨_, rfl, rfl⟩ (o_mv rfl) ?_
                                refine xq rfl ⟨_, rfl, rfl⟩ (o_mv rfl) ?_
                                obtain ⟨ho220, h⟩ := h
                                refine xo rfl ⟨_, rfl, rfl⟩ (OT.st (fun _ h => h) (ot_callF (Cs := [[(b13, _)]]) (Rs := [B13_1o]) kf11 rfl (fun w1 hw1 => calive_c _ _ _ w1 (St.hasC hw1) ho220) (fun _ _ _ h => h.1))) ?_
                                rintro _ _ ⟨w1, _, rfl, hle, -, rfl, rfl⟩
                                refine xo_st ((b13, BK 28 (mv (kPA 1 3 (kS [2])) fb13) 61) :: (B13_1o ++ ([]))) (fun _ h => h) ?_
                                refine xq rfl ⟨_, rfl, rfl⟩ (o_pick_t rfl rfl) ?_
                                refine xq rfl trivial (o_pick_f rfl rfl) ?_
                                refine xo_nil (xq_then ?_)
                                refine xw_bool 160 rfl (fun hc223 => ?_) (fun hc223 => ?_)
                                · have hq223 : ((calive_F fb13 id17)) = true := hc223
                                  have hp223 : ((calive_F fb13 id17)) = true := hq223
                                  rw [if_pos hp223] at h
                                  refine xw_cond_t rfl rfl (xw_seq (xw_region ?_))
                                  refine xq rfl trivial (o_as rfl) ?_
                                  refine xo_nil (xq_then (xw_ret (xq_then_ret (xq_blk_ret (xq_then_ret ?_)))))
                                  exact xq_out (r := (.inr () : (Unit) ⊕ (Unit))) (e' := [(10, .bool false)]) (B13_1o ++ ((b13, BK 28 (mv (kPA 1 3 (kS [2])) fb13) 61) :: ([]))) (lc rfl ln) (fun _ h => St.permI [1, 0] [[(b13, _)], B13_1o] rfl (h)) h (by intro hh; cases hh) ⟨rfl, rfl, rfl⟩
                                · have hq223 : ((calive_F fb13 id17)) = false := hc223
                                  have hp223 : ¬ (((calive_F fb13 id17)) = true) := bne' hq223
                                  rw [if_neg hp223] at h
                                  refine xw_cond_f rfl rfl (xw_skip (xq_then (xw_seq ?_)))
                                  refine xd_start (by kernel_rfl) (by kernel_rfl) (fun hok => ?_)
                                  refine xd_b hok 0 [(17, _)] ([]) rsN rfl rfl rfl (lc rfl ln) (by kernel_rfl) trivial (fun H' hy hK => o_mv rfl) ?_
                                  refine xd_b hok 1 [(173, _)] ([]) rsN rfl rfl rfl (lc rfl ln) (by kernel_rfl) trivial (fun H' hy hK => o_geq rfl rfl) ?_
                                  refine xd_b hok 2 [(174, _)] ([]) rsN rfl rfl rfl (lc rfl ln) (by kernel_rfl) trivial (fun H' hy hK => o_mv rfl) ?_
                                  refine xd_bool 175 rfl (fun hg224 => ?_) (fun hg224 => ?_)
                                  · have hq224 : (decide (1 ≤ id17)) = true := hg224
                                    have hp224 : 1 ≤ id17 := of_decide_eq_true hq224
                                    rw [if_pos hp224] at h
                                    refine xd_b hok 3 [(17, _), (175, _)] ([]) rsN rfl rfl rfl (lc rfl (lc rfl ln)) (by kernel_rfl) ⟨_, rfl, rfl⟩ (fun H' hy hK => o_mv rfl) ?_
                                    refine xd_b hok 4 [(0, _), (175, _)] ([]) rsN rfl rfl rfl (lc rfl (lc rfl ln)) (by kernel_rfl) ⟨_, rfl, rfl⟩ (fun H' hy hK => o_mv rfl) ?_
                                    refine xd_b hok 5 [(176, _), (177, _), (175, _)] ([]) rsN rfl rfl rfl (lc rfl (lc rfl (lc rfl ln))) (by kernel_rfl) ⟨_, rfl, rfl⟩ (fun H' hy hK => o_leq rfl rfl) ?_
                                    refine xd_b hok 6 [(175, _), (178, _)] ([]) rsN rfl rfl rfl (lc rfl (lc rfl ln)) (by kernel_rfl) trivial (fun H' hy hK => o_pick_t rfl rfl) ?_
                                    refine xd_b hok 7 [(179, _)] ([]) rsN rfl rfl rfl (lc rfl ln) (by kernel_rfl) trivial (fun H' hy hK => o_mv rfl) ?_
                                    refine xd_bool 180 rfl (fun hg225 => ?_) (fun hg225 => ?_)
                                    · have hq225 : (decide (id17 ≤ n0)) = true := hg225
                                      have hp225 : id17 ≤ n0 := of_decide_eq_true hq225
                                      rw [if_pos hp225] at h
                                      refine xd_b hok 8 [(11, _), (180, _)] ([]) rsN rfl rfl rfl (lc rfl (lc rfl ln)) (by kernel_rfl) ⟨_, rfl, rfl⟩ (fun H' hy hK => o_mv rfl) ?_
                                      refine xd_b hok 9 [(17, _), (180, _)] ([]) rsN rfl rfl rfl (lc rfl (lc rfl ln)) (by kernel_rfl) ⟨_, rfl, rfl⟩ (fun H' hy hK => o_mv rfl) ?_
                                      refine xd_b hok 11 [(13, _), (180, _)] ([]) rsN rfl rfl rfl (lc rfl (lc rfl ln)) (by kernel_rfl) ⟨_, rfl, rfl⟩ (fun H' hy hK => o_mv rfl) ?_
                                      refine xd_b hok 12 [(17, _), (180, _)] ([]) rsN rfl rfl rfl (lc rfl (lc rfl ln)) (by kernel_rfl) ⟨_, rfl, rfl⟩ (fun H' hy hK => o_mv rfl) ?_
                                      obtain ⟨ho226, h⟩ := h
                                      refine xd_b hok 13 [(185, _), (180, _)] ([]) rsN rfl rfl rfl (lc rfl (lc rfl ln)) (by kernel_rfl) ⟨_, rfl, rfl⟩ (fun H' hy hK => o_sub rfl rfl rfl ho226) ?_
                                      obtain ⟨ho227, h⟩ := h
                                      refine xd_b hok 14 [(184, _), (186, _), (180, _)] (B13_1o ++ ([])) (rsA (Pull.sub (.thereC _ (.here _ _))) rsN) rfl rfl rfl (lc rfl (lc rfl (lc rfl ln))) (by kernel_rfl) ⟨_, rfl, rfl⟩ (fun H' hy hK => o_ixL el41 rfl rfl (fun w hw => (hJ13_1o.sl hw (fun x hx => hy x (Pull.sub (.here _ _) x hx)))) rfl ho227) ?_
                                      refine xd_b hok 15 [(187, _), (180, _)] (B13_1o ++ ([])) (rsA (Pull.sub (.thereC _ (.here _ _))) rsN) rfl rfl rfl (lc rfl (lc rfl ln)) (by kernel_rfl) ⟨_, rfl, rfl⟩ (fun H' hy hK => o_faL fl48_1 rfl rfl (fun w hw => (hJ13_1o.sl hw (fun x hx => hy x (Pull.sub (.here _ _) x hx)))) (toNat_lt ho227)) ?_
                                      refine xd_b hok 16 [(188, _), (180, _)] (B13_1o ++ ([])) (rsA (Pull.sub (.thereC _ (.here _ _))) rsN) rfl rfl rfl (lc rfl (lc rfl ln)) (by kernel_rfl) ⟨_, rfl, rfl⟩ (fun H' hy hK => o_ldL1 (off := 1) (u := .bool (nz ((v13[(id17 - 1).toNat]!) 1))) rfl ts4 rfl (fun w hw => (hJ13_1o.sl hw (fun x hx => hy x (Pull.sub (.here _ _) x hx)))) (toNat_lt ho227) rfl rfl) ?_
                                      obtain ⟨ho228, h⟩ := h
                                      refine xd_step hok 10 [(181, _), (182, _), (180, _)] rfl rfl (by kernel_rfl) (lc rfl (lc rfl (lc rfl ln))) (by kernel_rfl) ⟨_, rfl, rfl⟩ (OT.st (fun _ h => h) (ot_callF (Cs := [[(b13, _)]]) (Rs := [B13_1o]) kf11 rfl (fun w1 hw1 => calive_c _ _ _ w1 (St.hasC hw1) ho228) (fun _ _ _ h => h.1))) ?_
                                      rintro _ _ ⟨w1, _, rfl, hle, -, rfl, rfl⟩
                                      refine xd_sh2 (H' := (b13, BK 28 (mv (kPA 1 3 (kS [2])) fb13) 61) :: (B13_1o ++ ([]))) rfl ?_
                                      refine ⟨(rsA (rsA (Pull.sub (.thereC _ (.here _ _))) rsN) (rsA (rsA (Pull.sub (.thereC _ (.here _ _))) rsN) (rsA (rsA (Pull.sub (.thereC _ (.here _ _))) rsN) (rsA rsN (rsA rsN (rsA rsN (rsA rsN (rsA rsN (rsA rsN (rsA rsN (rsA rsN (rsA rsN (rsA rsN (rsA rsN (rsA rsN (rsA rsN rsN)))))))))))))))), (Ks.consK (by simp) (Ks.segK (fun k hk => by simp [hk]) Ks.nil)), ?_⟩
                                      refine xd_b hok 17 [(183, _), (189, _), (180, _)] ([]) rsN rfl rfl rfl (lc rfl (lc rfl (lc rfl ln))) (by kernel_rfl) ⟨_, rfl, rfl⟩ (fun H' hy hK => o_eqlB Try.underlying4 rfl rfl) ?_
                                      refine xd_b hok 18 [(180, _), (190, _)] ([]) rsN rfl rfl rfl (lc rfl (lc rfl ln)) (by kernel_rfl) trivial (fun H' hy hK => o_pick_t rfl rfl) ?_
                                      refine xd_end hok (by kernel_rfl) ?_
                                      refine xq_then ?_
                                      refine xw_bool 191 rfl (fun hc231 => ?_) (fun hc231 => ?_)
                                      · have hq231 : ((((calive_F fb13 id17)) == ((nz ((v13[(id17 - 1).toNat]!) 1))))) = true := hc231
                                        have hp231 : ((((calive_F fb13 id17)) == ((nz ((v13[(id17 - 1).toNat]!) 1))))) = true := hq231
                                        rw [if_pos hp231] at h
                                        refine xw_cond_t rfl rfl (xw_seq (xw_region ?_))
                                        refine xq rfl trivial (o_as rfl) ?_
                                        refine xo_nil (xq_then (xw_ret (xq_blk_ret (xq_then_ret ?_))))
                                        exact xq_out (r := (.inr () : (Unit) ⊕ (Unit))) (e' := [(10, .bool false)]) (B13_1o ++ ((b13, BK 28 (mv (kPA 1 3 (kS [2])) fb13) 61) :: ([]))) (lc rfl ln) (fun _ h => St.permI [1, 0] [[(b13, _)], B13_1o] rfl (h)) h (by intro hh; cases hh) ⟨rfl, rfl, rfl⟩
                                      · have hq231 : ((((calive_F fb13 id17)) == ((nz ((v13[(id17 - 1).toNat]!) 1))))) = false := hc231
                                        have hp231 : ¬ (((((calive_F fb13 id17)) == ((nz ((v13[(id17 - 1).toNat]!) 1))))) = true) := bne' hq231
                                        rw [if_neg hp231] at h
                                        refine xw_cond_f rfl rfl (xw_skip ?_)
                                        refine xq_blk 3 ?_
                                        refine xq_then (xw_region ?_)
                                        refine xq rfl trivial (o_mv rfl) ?_
                                        obtain ⟨ho232, h⟩ := h
                                        refine xq rfl trivial (o_add rfl rfl rfl ho232) ?_
                                        refine xq rfl trivial (o_as rfl) ?_
                                        refine xo_nil ?_
                                        exact xq_next (s' := (id17 + 1 : Int)) (e' := [(0, .int .i64 n0), (2, .int .i64 now2), (3, .int .i64 span3), (4, .int .i64 tx4), (11, .pointer (some ⟨b13, 0, none⟩)), (13, v13_1o), (17, .int .i64 (id17 + 1))]) (B13_1o ++ ((b13, BK 28 (mv (kPA 1 3 (kS [2])) fb13) 61) :: ([]))) (lc rfl (lc rfl (lc rfl (lc rfl (lc rfl (lc rfl (lc rfl ln))))))) (fun _ h => St.permI [1, 0] [[(b13, _)], B13_1o] rfl (h)) h ⟨rfl, rfl⟩
                                    · have hq225 : (decide (id17 ≤ n0)) = false := hg225
                                      have hp225 : ¬ (id17 ≤ n0) := of_decide_eq_false hq225
                                      rw [if_neg hp225] at h
                                      refine xd_skip hok 8 [(11, _), (180, _)] rfl rfl rfl (lc rfl (lc rfl ln)) (by kernel_rfl) ⟨_, _, rfl, rfl, rfl⟩ ?_
                                      refine xd_skip hok 9 [(17, _), (180, _)] rfl rfl rfl (lc rfl (lc rfl ln)) (by kernel_rfl) ⟨_, _, rfl, rfl, rfl⟩ ?_
                                      refine xd_skip hok 10 [(181, _), (182, _), (180, _)] rfl rfl rfl (lc rfl (lc rfl (lc rfl ln))) (by kernel_rfl) ⟨_, _, rfl, rfl, rfl⟩ ?_
                                      refine xd_skip hok 11 [(13, _), (180, _)] rfl rfl rfl (lc rfl (lc rfl ln)) (by kernel_rfl) ⟨_, _, rfl, rfl, rfl⟩ ?_
                                      refine xd_skip hok 12 [(17, _), (180, _)] rfl rfl rfl (lc rfl (lc rfl ln)) (by kernel_rfl) ⟨_, _, rfl, rfl, rfl⟩ ?_
                                      refine xd_skip hok 13 [(185, _), (180, _)] rfl rfl rfl (lc rfl (lc rfl ln)) (by kernel_rfl) ⟨_, _, rfl, rfl, rfl⟩ ?_
                                      refine xd_skip hok 14 [(184, _), (186, _), (180, _)] rfl rfl rfl (lc rfl (lc rfl (lc rfl ln))) (by kernel_rfl) ⟨_, _, rfl, rfl, rfl⟩ ?_
                                      refine xd_skip hok 15 [(187, _), (180, _)] rfl rfl rfl (lc rfl (lc rfl ln)) (by kernel_rfl) ⟨_, _, rfl, rfl, rfl⟩ ?_
                                      refine xd_skip hok 16 [(188, _), (180, _)] rfl rfl rfl (lc rfl (lc rfl ln)) (by kernel_rfl) ⟨_, _, rfl, rfl, rfl⟩ ?_
                                      refine xd_skip hok 17 [(183, _), (189, _), (180, _)] rfl rfl rfl (lc rfl (lc rfl (lc rfl ln))) (by kernel_rfl) ⟨_, _, rfl, rfl, rfl⟩ ?_
                                      refine xd_b hok 18 [(180, _), (190, _)] ([]) rsN rfl rfl rfl (lc rfl (lc rfl ln)) (by kernel_rfl) trivial (fun H' hy hK => o_pick_f rfl rfl) ?_
                                      refine xd_end hok (by kernel_rfl) ?_
                                      refine xq_then (xw_cond_f rfl rfl (xw_skip ?_))
                                      refine xq_blk 3 ?_
                                      refine xq_then (xw_region ?_)
                                      refine xq rfl trivial (o_mv rfl) ?_
                                      obtain ⟨ho233, h⟩ := h
                                      refine xq rfl trivial (o_add rfl rfl rfl ho233) ?_
                                      refine xq rfl trivial (o_as rfl) ?_
                                      refine xo_nil ?_
                                      exact xq_next (s' := (id17 + 1 : Int)) (e' := [(0, .int .i64 n0), (2, .int .i64 now2), (3, .int .i64 span3), (4, .int .i64 tx4), (11, .pointer (some ⟨b13, 0, none⟩)), (13, v13_1o), (17, .int .i64 (id17 + 1))]) (B13_1o ++ ((b13, BK 28 (mv (kPA 1 3 (kS [2])) fb13) 61) :: ([]))) (lc rfl (lc rfl (lc rfl (lc rfl (lc rfl (lc rfl (lc rfl ln))))))) (fun _ h => St.permI [1, 0] [[(b13, _)], B13_1o] rfl (h)) h ⟨rfl, rfl⟩
                                  · have hq224 : (decide (1 ≤ id17)) = false := hg224
                                    have hp224 : ¬ (1 ≤ id17) := of_decide_eq_false hq224
                                    rw [if_neg hp224] at h
                                    refine xd_skip hok 3 [(17, _), (175, _)] rfl rfl rfl (lc rfl (lc rfl ln)) (by kernel_rfl) ⟨_, _, rfl, rfl, rfl⟩ ?_
                                    refine xd_skip hok 4 [(0, _), (175, _)] rfl rfl rfl (lc rfl (lc rfl ln)) (by kernel_rfl) ⟨_, _, rfl, rfl, rfl⟩ ?_
                                    refine xd_skip hok 5 [(176, _), (177, _), (175, _)] rfl rfl rfl (lc rfl (lc rfl (lc rfl ln))) (by kernel_rfl) ⟨_, _, rfl, rfl, rfl⟩ ?_
                                    refine xd_b hok 6 [(175, _), (178, _)] ([]) rsN rfl rfl rfl (lc rfl (lc rfl ln)) (by kernel_rfl) trivial (fun H' hy hK => o_pick_f rfl rfl) ?_
                                    refine xd_b hok 7 [(179, _)] ([]) rsN rfl rfl rfl (lc rfl ln) (by kernel_rfl) trivial (fun H' hy hK => o_mv rfl) ?_
                                    refine xd_skip hok 8 [(11, _), (180, _)] rfl rfl rfl (lc rfl (lc rfl ln)) (by kernel_rfl) ⟨_, _, rfl, rfl, rfl⟩ ?_
                                    refine xd_skip hok 9 [(17, _), (180, _)] rfl rfl rfl (lc rfl (lc rfl ln)) (by kernel_rfl) ⟨_, _, rfl, rfl, rfl⟩ ?_
                                    refine xd_skip hok 10 [(181, _), (182, _), (180, _)] rfl rfl rfl (lc rfl (lc rfl (lc rfl ln))) (by kernel_rfl) ⟨_, _, rfl, rfl, rfl⟩ ?_
                                    refine xd_skip hok 11 [(13, _), (180, _)] rfl rfl rfl (lc rfl (lc rfl ln)) (by kernel_rfl) ⟨_, _, rfl, rfl, rfl⟩ ?_
                                    refine xd_skip hok 12 [(17, _), (180, _)] rfl rfl rfl (lc rfl (lc rfl ln)) (by kernel_rfl) ⟨_, _, rfl, rfl, rfl⟩ ?_
                                    refine xd_skip hok 13 [(185, _), (180, _)] rfl rfl rfl (lc rfl (lc rfl ln)) (by kernel_rfl) ⟨_, _, rfl, rfl, rfl⟩ ?_
                                    refine xd_skip hok 14 [(184, _), (186, _), (180, _)] rfl rfl rfl (lc rfl (lc rfl (lc rfl ln))) (by kernel_rfl) ⟨_, _, rfl, rfl, rfl⟩ ?_
                                    refine xd_skip hok 15 [(187, _), (180, _)] rfl rfl rfl (lc rfl (lc rfl ln)) (by kernel_rfl) ⟨_, _, rfl, rfl, rfl⟩ ?_
                                    refine xd_skip hok 16 [(188, _), (180, _)] rfl rfl rfl (lc rfl (lc rfl ln)) (by kernel_rfl) ⟨_, _, rfl, rfl, rfl⟩ ?_
                                    refine xd_skip hok 17 [(183, _), (189, _), (180, _)] rfl rfl rfl (lc rfl (lc rfl (lc rfl ln))) (by kernel_rfl) ⟨_, _, rfl, rfl, rfl⟩ ?_
                                    refine xd_b hok 18 [(180, _), (190, _)] ([]) rsN rfl rfl rfl (lc rfl (lc rfl ln)) (by kernel_rfl) trivial (fun H' hy hK => o_pick_f rfl rfl) ?_
                                    refine xd_end hok (by kernel_rfl) ?_
                                    refine xq_then (xw_cond_f rfl rfl (xw_skip ?_))
                                    refine xq_blk 3 ?_
                                    refine xq_then (xw_region ?_)
                                    refine xq rfl trivial (o_mv rfl) ?_
                                    obtain ⟨ho234, h⟩ := h
                                    refine xq rfl trivial (o_add rfl rfl rfl ho234) ?_
                                    refine xq rfl trivial (o_as rfl) ?_
                                    refine xo_nil ?_
                                    exact xq_next (s' := (id17 + 1 : Int)) (e' := [(0, .int .i64 n0), (2, .int .i64 now2), (3, .int .i64 span3), (4, .int .i64 tx4), (11, .pointer (some ⟨b13, 0, none⟩)), (13, v13_1o), (17, .int .i64 (id17 + 1))]) (B13_1o ++ ((b13, BK 28 (mv (kPA 1 3 (kS [2])) fb13) 61) :: ([]))) (lc rfl (lc rfl (lc rfl (lc rfl (lc rfl (lc rfl (lc rfl ln))))))) (fun _ h => St.permI [1, 0] [[(b13, _)], B13_1o] rfl (h)) h ⟨rfl, rfl⟩
                              · have hq219 : (decide (id17 < 1)) = false := hg219
                                have hp219 : ¬ (id17 < 1) := of_decide_eq_false hq219
                                rw [if_neg hp219] at h
                                refine xq rfl ⟨_, rfl, rfl⟩ (o_mv rfl) ?_
                                refine xq rfl ⟨_, rfl, rfl⟩ (o_mv rfl) ?_
                                refine xq rfl ⟨_, rfl, rfl⟩ (o_gtr rfl rfl) ?_
                                refine xq rfl ⟨_, rfl, rfl⟩ (o_pick_f rfl rfl) ?_
                                refine xq rfl ⟨_, rfl, rfl⟩ (o_mv rfl) ?_
                                refine xo_bool 155 rfl (fun hg235 => ?_) (fun hg235 => ?_)
                                · have hq235 : (decide (n0 < id17)) = true := hg235
                                  have hp235 : n0 < id17 := of_decide_eq_true hq235
                                  rw [if_pos hp235] at h
                                  refine xq rfl ⟨_, rfl, rfl⟩ (o_mv rfl) ?_
                                  refine xq rfl ⟨_, rfl, rfl⟩ (o_mv rfl) ?_
                                  obtain ⟨ho236, h⟩ := h
                                  refine xo rfl ⟨_, rfl, rfl⟩ (OT.st (fun _ h => h) (ot_callF (Cs := [[(b13, _)]]) (Rs := [B13_1o]) kf11 rfl (fun w1 hw1 => calive_c _ _ _ w1 (St.hasC hw1) ho236) (fun _ _ _ h => h.1))) ?_
                                  rintro _ _ ⟨w1, _, rfl, hle, -, rfl, rfl⟩
                                  refine xo_st ((b13, BK 28 (mv (kPA 1 3 (kS [2])) fb13) 61) :: (B13_1o ++ ([]))) (fun _ h => h) ?_
                                  refine xq rfl ⟨_, rfl, rfl⟩ (o_pick_t rfl rfl) ?_
                                  refine xq rfl trivial (o_pick_f rfl rfl) ?_
                                  refine xo_nil (xq_then ?_)
                                  refine xw_bool 160 rfl (fun hc239 => ?_) (fun hc239 => ?_)
                                  · have hq239 : ((calive_F fb13 id17)) = true := hc239
                                    have hp239 : ((calive_F fb13 id17)) = true := hq239
                                    rw [if_pos hp239] at h
                                    refine xw_cond_t rfl rfl (xw_seq (xw_region ?_))
                                    refine xq rfl trivial (o_as rfl) ?_
                                    refine xo_nil (xq_then (xw_ret (xq_then_ret (xq_blk_ret (xq_then_ret ?_)))))
                                    exact xq_out (r := (.inr () : (Unit) ⊕ (Unit))) (e' := [(10, .bool false)]) (B13_1o ++ ((b13, BK 28 (mv (kPA 1 3 (kS [2])) fb13) 61) :: ([]))) (lc rfl ln) (fun _ h => St.permI [1, 0] [[(b13, _)], B13_1o] rfl (h)) h (by intro hh; cases hh) ⟨rfl, rfl, rfl⟩
                                  · have hq239 : ((calive_F fb13 id17)) = false := hc239
                                    have hp239 : ¬ (((calive_F fb13 id17)) = true) := bne' hq239
                                    rw [if_neg hp239] at h
                                    refine xw_cond_f rfl rfl (xw_skip (xq_then (xw_seq ?_)))
                                    refine xd_start (by kernel_rfl) (by kernel_rfl) (fun hok => ?_)
                                    refine xd_b hok 0 [(17, _)] ([]) rsN rfl rfl rfl (lc rfl ln) (by kernel_rfl) trivial (fun H' hy hK => o_mv rfl) ?_
                                    refine xd_b hok 1 [(173, _)] ([]) rsN rfl rfl rfl (lc rfl ln) (by kernel_rfl) trivial (fun H' hy hK => o_geq rfl rfl) ?_
                                    refine xd_b hok 2 [(174, _)] ([]) rsN rfl rfl rfl (lc rfl ln) (by kernel_rfl) trivial (fun H' hy hK => o_mv rfl) ?_
                                    refine xd_bool 175 rfl (fun hg240 => ?_) (fun hg240 => ?_)
                                    · have hq240 : (decide (1 ≤ id17)) = true := hg240
                                      have hp240 : 1 ≤ id17 := of_decide_eq_true hq240
                                      rw [if_pos hp240] at h
                                      refine xd_b hok 3 [(17, _), (175, _)] ([]) rsN rfl rfl rfl (lc rfl (lc rfl ln)) (by kernel_rfl) ⟨_, rfl, rfl⟩ (fun H' hy hK => o_mv rfl) ?_
                                      refine xd_b hok 4 [(0, _), (175, _)] ([]) rsN rfl rfl rfl (lc rfl (lc rfl ln)) (by kernel_rfl) ⟨_, rfl, rfl⟩ (fun H' hy hK => o_mv rfl) ?_
                                      refine xd_b hok 5 [(176, _), (177, _), (175, _)] ([]) rsN rfl rfl rfl (lc rfl (lc rfl (lc rfl ln))) (by kernel_rfl) ⟨_, rfl, rfl⟩ (fun H' hy hK => o_leq rfl rfl) ?_
                                      refine xd_b hok 6 [(175, _), (178, _)] ([]) rsN rfl rfl rfl (lc rfl (lc rfl ln)) (by kernel_rfl) trivial (fun H' hy hK => o_pick_t rfl rfl) ?_
                                      refine xd_b hok 7 [(179, _)] ([]) rsN rfl rfl rfl (lc rfl ln) (by kernel_rfl) trivial (fun H' hy hK => o_mv rfl) ?_
                                      refine xd_bool 180 rfl (fun hg241 => ?_) (fun hg241 => ?_)
                                      · have hq241 : (decide (id17 ≤ n0)) = true := hg241
                                        have hp241 : id17 ≤ n0 := of_decide_eq_true hq241
                                        rw [if_pos hp241] at h
                                        refine xd_b hok 8 [(11, _), (180, _)] ([]) rsN rfl rfl rfl (lc rfl (lc rfl ln)) (by kernel_rfl) ⟨_, rfl, rfl⟩ (fun H' hy hK => o_mv rfl) ?_
                                        refine xd_b hok 9 [(17, _), (180, _)] ([]) rsN rfl rfl rfl (lc rfl (lc rfl ln)) (by kernel_rfl) ⟨_, rfl, rfl⟩ (fun H' hy hK => o_mv rfl) ?_
                                        refine xd_b hok 11 [(13, _), (180, _)] ([]) rsN rfl rfl rfl (lc rfl (lc rfl ln)) (by kernel_rfl) ⟨_, rfl, rfl⟩ (fun H' hy hK => o_mv rfl) ?_
                                        refine xd_b hok 12 [(17, _), (180, _)] ([]) rsN rfl rfl rfl (lc rfl (lc rfl ln)) (by kernel_rfl) ⟨_, rfl, rfl⟩ (fun H' hy hK => o_mv rfl) ?_
                                        obtain ⟨ho242, h⟩ := h
                                        refine xd_b hok 13 [(185, _), (180, _)] ([]) rsN rfl rfl rfl (lc rfl (lc rfl ln)) (by kernel_rfl) ⟨_, rfl, rfl⟩ (fun H' hy hK => o_sub rfl rfl rfl ho242) ?_
                                        obtain ⟨ho243, h⟩ := h
                                        refine xd_b hok 14 [(184, _), (186, _), (180, _)] (B13_1o ++ ([])) (rsA (Pull.sub (.thereC _ (.here _ _))) rsN) rfl rfl rfl (lc rfl (lc rfl (lc rfl ln))) (by kernel_rfl) ⟨_, rfl, rfl⟩ (fun H' hy hK => o_ixL el41 rfl rfl (fun w hw => (hJ13_1o.sl hw (fun x hx => hy x (Pull.sub (.here _ _) x hx)))) rfl ho243) ?_
                                        refine xd_b hok 15 [(187, _), (180, _)] (B13_1o ++ ([])) (rsA (Pull.sub (.thereC _ (.here _ _))) rsN) rfl rfl rfl (lc rfl (lc rfl ln)) (by kernel_rfl) ⟨_, rfl, rfl⟩ (fun H' hy hK => o_faL fl48_1 rfl rfl (fun w hw => (hJ13_1o.sl hw (fun x hx => hy x (Pull.sub (.here _ _) x hx)))) (toNat_lt ho243)) ?_
                                        refine xd_b hok 16 [(188, _), (180, _)] (B13_1o ++ ([])) (rsA (Pull.sub (.thereC _ (.here _ _))) rsN) rfl rfl rfl (lc rfl (lc rfl ln)) (by kernel_rfl) ⟨_, rfl, rfl⟩ (fun H' hy hK => o_ldL1 (off := 1) (u := .bool (nz ((v13[(id17 - 1).toNat]!) 1))) rfl ts4 rfl (fun w hw => (hJ13_1o.sl hw (fun x hx => hy x (Pull.sub (.here _ _) x hx)))) (toNat_lt ho243) rfl rfl) ?_
                                        obtain ⟨ho244, h⟩ := h
                                        refine xd_step hok 10 [(181, _), (182, _), (180, _)] rfl rfl (by kernel_rfl) (lc rfl (lc rfl (lc rfl ln))) (by kernel_rfl) ⟨_, rfl, rfl⟩ (OT.st (fun _ h => h) (ot_callF (Cs := [[(b13, _)]]) (Rs := [B13_1o]) kf11 rfl (fun w1 hw1 => calive_c _ _ _ w1 (St.hasC hw1) ho244) (fun _ _ _ h => h.1))) ?_
                                        rintro _ _ ⟨w1, _, rfl, hle, -, rfl, rfl⟩
                                        refine xd_sh2 (H' := (b13, BK 28 (mv (kPA 1 3 (kS [2])) fb13) 61) :: (B13_1o ++ ([]))) rfl ?_
                                        refine ⟨(rsA (rsA (Pull.sub (.thereC _ (.here _ _))) rsN) (rsA (rsA (Pull.sub (.thereC _ (.here _ _))) rsN) (rsA (rsA (Pull.sub (.thereC _ (.here _ _))) rsN) (rsA rsN (rsA rsN (rsA rsN (rsA rsN (rsA rsN (rsA rsN (rsA rsN (rsA rsN (rsA rsN (rsA rsN (rsA rsN (rsA rsN (rsA rsN rsN)))))))))))))))), (Ks.consK (by simp) (Ks.segK (fun k hk => by simp [hk]) Ks.nil)), ?_⟩
                                        refine xd_b hok 17 [(183, _), (189, _), (180, _)] ([]) rsN rfl rfl rfl (lc rfl (lc rfl (lc rfl ln))) (by kernel_rfl) ⟨_, rfl, rfl⟩ (fun H' hy hK => o_eqlB Try.underlying4 rfl rfl) ?_
                                        refine xd_b hok 18 [(180, _), (190, _)] ([]) rsN rfl rfl rfl (lc rfl (lc rfl ln)) (by kernel_rfl) trivial (fun H' hy hK => o_pick_t rfl rfl) ?_
                                        refine xd_end hok (by kernel_rfl) ?_
                                        refine xq_then ?_
                                        refine xw_bool 191 rfl (fun hc247 => ?_) (fun hc247 => ?_)
                                        · have hq247 : ((((calive_F fb13 id17)) == ((nz ((v13[(id17 - 1).toNat]!) 1))))) = true := hc247
                                          have hp247 : ((((calive_F fb13 id17)) == ((nz ((v13[(id17 - 1).toNat]!) 1))))) = true := hq247
                                          rw [if_pos hp247] at h
                                          refine xw_cond_t rfl rfl (xw_seq (xw_region ?_))
                                          refine xq rfl trivial (o_as rfl) ?_
                                          refine xo_nil (xq_then (xw_ret (xq_blk_ret (xq_then_ret ?_))))
                                          exact xq_out (r := (.inr () : (Unit) ⊕ (Unit))) (e' := [(10, .bool false)]) (B13_1o ++ ((b13, BK 28 (mv (kPA 1 3 (kS [2])) fb13) 61) :: ([]))) (lc rfl ln) (fun _ h => St.permI [1, 0] [[(b13, _)], B13_1o] rfl (h)) h (by intro hh; cases hh) ⟨rfl, rfl, rfl⟩
                                        · have hq247 : ((((calive_F fb13 id17)) == ((nz ((v13[(id17 - 1).toNat]!) 1))))) = false := hc247
                                          have hp247 : ¬ (((((calive_F fb13 id17)) == ((nz ((v13[(id17 - 1).toNat]!) 1))))) = true) := bne' hq247
                                          rw [if_neg hp247] at h
                                          refine xw_cond_f rfl rfl (xw_skip ?_)
                                          refine xq_blk 3 ?_
                                          refine xq_then (xw_region ?_)
                                          refine xq rfl trivial (o_mv rfl) ?_
                                          obtain ⟨ho248, h⟩ := h
                                          refine xq rfl trivial (o_add rfl rfl rfl ho248) ?_
                                          refine xq rfl trivial (o_as rfl) ?_
                                          refine xo_nil ?_
                                          exact xq_next (s' := (id17 + 1 : Int)) (e' := [(0, .int .i64 n0), (2, .int .i64 now2), (3, .int .i64 span3), (4, .int .i64 tx4), (11, .pointer (some ⟨b13, 0, none⟩)), (13, v13_1o), (17, .int .i64 (id17 + 1))]) (B13_1o ++ ((b13, BK 28 (mv (kPA 1 3 (kS [2])) fb13) 61) :: ([]))) (lc rfl (lc rfl (lc rfl (lc rfl (lc rfl (lc rfl (lc rfl ln))))))) (fun _ h => St.permI [1, 0] [[(b13, _)], B13_1o] rfl (h)) h ⟨rfl, rfl⟩
                                      · have hq241 : (decide (id17 ≤ n0)) = false := hg241
                                        have hp241 : ¬ (id17 ≤ n0) := of_decide_eq_false hq241
                                        rw [if_neg hp241] at h
                                        refine xd_skip hok 8 [(11, _), (180, _)] rfl rfl rfl (lc rfl (lc rfl ln)) (by kernel_rfl) ⟨_, _, rfl, rfl, rfl⟩ ?_
                                        refine xd_skip hok 9 [(17, _), (180, _)] rfl rfl rfl (lc rfl (lc rfl ln)) (by kernel_rfl) ⟨_, _, rfl, rfl, rfl⟩ ?_
                                        refine xd_skip hok 10 [(181, _), (182, _), (180, _)] rfl rfl rfl (lc rfl (lc rfl (lc rfl ln))) (by kernel_rfl) ⟨_, _, rfl, rfl, rfl⟩ ?_
                                        refine xd_skip hok 11 [(13, _), (180, _)] rfl rfl rfl (lc rfl (lc rfl ln)) (by kernel_rfl) ⟨_, _, rfl, rfl, rfl⟩ ?_
                                        refine xd_skip hok 12 [(17, _), (180, _)] rfl rfl rfl (lc rfl (lc rfl ln)) (by kernel_rfl) ⟨_, _, rfl, rfl, rfl⟩ ?_
                                        refine xd_skip hok 13 [(185, _), (180, _)] rfl rfl rfl (lc rfl (lc rfl ln)) (by kernel_rfl) ⟨_, _, rfl, rfl, rfl⟩ ?_
                                        refine xd_skip hok 14 [(184, _), (186, _), (180, _)] rfl rfl rfl (lc rfl (lc rfl (lc rfl ln))) (by kernel_rfl) ⟨_, _, rfl, rfl, rfl⟩ ?_
                                        refine xd_skip hok 15 [(187, _), (180, _)] rfl rfl rfl (lc rfl (lc rfl ln)) (by kernel_rfl) ⟨_, _, rfl, rfl, rfl⟩ ?_
                                        refine xd_skip hok 16 [(188, _), (180, _)] rfl rfl rfl (lc rfl (lc rfl ln)) (by kernel_rfl) ⟨_, _, rfl, rfl, rfl⟩ ?_
                                        refine xd_skip hok 17 [(183, _), (189, _), (180, _)] rfl rfl rfl (lc rfl (lc rfl (lc rfl ln))) (by kernel_rfl) ⟨_, _, rfl, rfl, rfl⟩ ?_
                                        refine xd_b hok 18 [(180, _), (190, _)] ([]) rsN rfl rfl rfl (lc rfl (lc rfl ln)) (by kernel_rfl) trivial (fun H' hy hK => o_pick_f rfl rfl) ?_
                                        refine xd_end hok (by kernel_rfl) ?_
                                        refine xq_then (xw_cond_f rfl rfl (xw_skip ?_))
                                        refine xq_blk 3 ?_
                                        refine xq_then (xw_region ?_)
                                        refine xq rfl trivial (o_mv rfl) ?_
                                        obtain ⟨ho249, h⟩ := h
                                        refine xq rfl trivial (o_add rfl rfl rfl ho249) ?_
                                        refine xq rfl trivial (o_as rfl) ?_
                                        refine xo_nil ?_
                                        exact xq_next (s' := (id17 + 1 : Int)) (e' := [(0, .int .i64 n0), (2, .int .i64 now2), (3, .int .i64 span3), (4, .int .i64 tx4), (11, .pointer (some ⟨b13, 0, none⟩)), (13, v13_1o), (17, .int .i64 (id17 + 1))]) (B13_1o ++ ((b13, BK 28 (mv (kPA 1 3 (kS [2])) fb13) 61) :: ([]))) (lc rfl (lc rfl (lc rfl (lc rfl (lc rfl (lc rfl (lc rfl ln))))))) (fun _ h => St.permI [1, 0] [[(b13, _)], B13_1o] rfl (h)) h ⟨rfl, rfl⟩
                                    · have hq240 : (decide (1 ≤ id17)) = false := hg240
                                      have hp240 : ¬ (1 ≤ id17) := of_decide_eq_false hq240
                                      rw [if_neg hp240] at h
                                      refine xd_skip hok 3 [(17, _), (175, _)] rfl rfl rfl (lc rfl (lc rfl ln)) (by kernel_rfl) ⟨_, _, rfl, rfl, rfl⟩ ?_
                                      refine xd_skip hok 4 [(0, _), (175, _)] rfl rfl rfl (lc rfl (lc rfl ln)) (by kernel_rfl) ⟨_, _, rfl, rfl, rfl⟩ ?_
                                      refine xd_skip hok 5 [(176, _), (177, _), (175, _)] rfl rfl rfl (lc rfl (lc rfl (lc rfl ln))) (by kernel_rfl) ⟨_, _, rfl, rfl, rfl⟩ ?_
                                      refine xd_b hok 6 [(175, _), (178, _)] ([]) rsN rfl rfl rfl (lc rfl (lc rfl ln)) (by kernel_rfl) trivial (fun H' hy hK => o_pick_f rfl rfl) ?_
                                      refine xd_b hok 7 [(179, _)] ([]) rsN rfl rfl rfl (lc rfl ln) (by kernel_rfl) trivial (fun H' hy hK => o_mv rfl) ?_
                                      refine xd_skip hok 8 [(11, _), (180, _)] rfl rfl rfl (lc rfl (lc rfl ln)) (by kernel_rfl) ⟨_, _, rfl, rfl, rfl⟩ ?_
                                      refine xd_skip hok 9 [(17, _), (180, _)] rfl rfl rfl (lc rfl (lc rfl ln)) (by kernel_rfl) ⟨_, _, rfl, rfl, rfl⟩ ?_
                                      refine xd_skip hok 10 [(181, _), (182, _), (180, _)] rfl rfl rfl (lc rfl (lc rfl (lc rfl ln))) (by kernel_rfl) ⟨_, _, rfl, rfl, rfl⟩ ?_
                                      refine xd_skip hok 11 [(13, _), (180, _)] rfl rfl rfl (lc rfl (lc rfl ln)) (by kernel_rfl) ⟨_, _, rfl, rfl, rfl⟩ ?_
                                      refine xd_skip hok 12 [(17, _), (180, _)] rfl rfl rfl (lc rfl (lc rfl ln)) (by kernel_rfl) ⟨_, _, rfl, rfl, rfl⟩ ?_
                                      refine xd_skip hok 13 [(185, _), (180, _)] rfl rfl rfl (lc rfl (lc rfl ln)) (by kernel_rfl) ⟨_, _, rfl, rfl, rfl⟩ ?_
                                      refine xd_skip hok 14 [(184, _), (186, _), (180, _)] rfl rfl rfl (lc rfl (lc rfl (lc rfl ln))) (by kernel_rfl) ⟨_, _, rfl, rfl, rfl⟩ ?_
                                      refine xd_skip hok 15 [(187, _), (180, _)] rfl rfl rfl (lc rfl (lc rfl ln)) (by kernel_rfl) ⟨_, _, rfl, rfl, rfl⟩ ?_
                                      refine xd_skip hok 16 [(188, _), (180, _)] rfl rfl rfl (lc rfl (lc rfl ln)) (by kernel_rfl) ⟨_, _, rfl, rfl, rfl⟩ ?_
                                      refine xd_skip hok 17 [(183, _), (189, _), (180, _)] rfl rfl rfl (lc rfl (lc rfl (lc rfl ln))) (by kernel_rfl) ⟨_, _, rfl, rfl, rfl⟩ ?_
                                      refine xd_b hok 18 [(180, _), (190, _)] ([]) rsN rfl rfl rfl (lc rfl (lc rfl ln)) (by kernel_rfl) trivial (fun H' hy hK => o_pick_f rfl rfl) ?_
                                      refine xd_end hok (by kernel_rfl) ?_
                                      refine xq_then (xw_cond_f rfl rfl (xw_skip ?_))
                                      refine xq_blk 3 ?_
                                      refine xq_then (xw_region ?_)
                                      refine xq rfl trivial (o_mv rfl) ?_
                                      obtain ⟨ho250, h⟩ := h
                                      refine xq rfl trivial (o_add rfl rfl rfl ho250) ?_
                                      refine xq rfl trivial (o_as rfl) ?_
                                      refine xo_nil ?_
                                      exact xq_next (s' := (id17 + 1 : Int)) (e' := [(0, .int .i64 n0), (2, .int .i64 now2), (3, .int .i64 span3), (4, .int .i64 tx4), (11, .pointer (some ⟨b13, 0, none⟩)), (13, v13_1o), (17, .int .i64 (id17 + 1))]) (B13_1o ++ ((b13, BK 28 (mv (kPA 1 3 (kS [2])) fb13) 61) :: ([]))) (lc rfl (lc rfl (lc rfl (lc rfl (lc rfl (lc rfl (lc rfl ln))))))) (fun _ h => St.permI [1, 0] [[(b13, _)], B13_1o] rfl (h)) h ⟨rfl, rfl⟩
                                · have hq235 : (decide (n0 < id17)) = false := hg235
                                  have hp235 : ¬ (n0 < id17) := of_decide_eq_false hq235
                                  rw [if_neg hp235] at h
                                  refine xs rfl ⟨_, _, rfl, rfl, rfl⟩ (xs rfl ⟨_, _, rfl, rfl, rfl⟩ (xs rfl ⟨_, _, rfl, rfl, rfl⟩ ?_))
                                  refine xq rfl ⟨_, rfl, rfl⟩ (o_pick_f rfl rfl) ?_
                                  refine xq rfl trivial (o_pick_f rfl rfl) ?_
                                  refine xo_nil (xq_then (xw_cond_f rfl rfl (xw_skip (xq_then (xw_seq ?_)))))
                                  refine xd_start (by kernel_rfl) (by kernel_rfl) (fun hok => ?_)
                                  refine xd_b hok 0 [(17, _)] ([]) rsN rfl rfl rfl (lc rfl ln) (by kernel_rfl) trivial (fun H' hy hK => o_mv rfl) ?_
                                  refine xd_b hok 1 [(173, _)] ([]) rsN rfl rfl rfl (lc rfl ln) (by kernel_rfl) trivial (fun H' hy hK => o_geq rfl rfl) ?_
                                  refine xd_b hok 2 [(174, _)] ([]) rsN rfl rfl rfl (lc rfl ln) (by kernel_rfl) trivial (fun H' hy hK => o_mv rfl) ?_
                                  refine xd_bool 175 rfl (fun hg251 => ?_) (fun hg251 => ?_)
                                  · have hq251 : (decide (1 ≤ id17)) = true := hg251
                                    have hp251 : 1 ≤ id17 := of_decide_eq_true hq251
                                    rw [if_pos hp251] at h
                                    refine xd_b hok 3 [(17, _), (175, _)] ([]) rsN rfl rfl rfl (lc rfl (lc rfl ln)) (by kernel_rfl) ⟨_, rfl, rfl⟩ (fun H' hy hK => o_mv rfl) ?_
                                    refine xd_b hok 4 [(0, _), (175, _)] ([]) rsN rfl rfl rfl (lc rfl (lc rfl ln)) (by kernel_rfl) ⟨_, rfl, rfl⟩ (fun H' hy hK => o_mv rfl) ?_
                                    refine xd_b hok 5 [(176, _), (177, _), (175, _)] ([]) rsN rfl rfl rfl (lc rfl (lc rfl (lc rfl ln))) (by kernel_rfl) ⟨_, rfl, rfl⟩ (fun H' hy hK => o_leq rfl rfl) ?_
                                    refine xd_b hok 6 [(175, _), (178, _)] ([]) rsN rfl rfl rfl (lc rfl (lc rfl ln)) (by kernel_rfl) trivial (fun H' hy hK => o_pick_t rfl rfl) ?_
                                    refine xd_b hok 7 [(179, _)] ([]) rsN rfl rfl rfl (lc rfl ln) (by kernel_rfl) trivial (fun H' hy hK => o_mv rfl) ?_
                                    refine xd_bool 180 rfl (fun hg252 => ?_) (fun hg252 => ?_)
                                    · have hq252 : (decide (id17 ≤ n0)) = true := hg252
                                      have hp252 : id17 ≤ n0 := of_decide_eq_true hq252
                                      rw [if_pos hp252] at h
                                      refine xd_b hok 8 [(11, _), (180, _)] ([]) rsN rfl rfl rfl (lc rfl (lc rfl ln)) (by kernel_rfl) ⟨_, rfl, rfl⟩ (fun H' hy hK => o_mv rfl) ?_
                                      refine xd_b hok 9 [(17, _), (180, _)] ([]) rsN rfl rfl rfl (lc rfl (lc rfl ln)) (by kernel_rfl) ⟨_, rfl, rfl⟩ (fun H' hy hK => o_mv rfl) ?_
                                      refine xd_b hok 11 [(13, _), (180, _)] ([]) rsN rfl rfl rfl (lc rfl (lc rfl ln)) (by kernel_rfl) ⟨_, rfl, rfl⟩ (fun H' hy hK => o_mv rfl) ?_
                                      refine xd_b hok 12 [(17, _), (180, _)] ([]) rsN rfl rfl rfl (lc rfl (lc rfl ln)) (by kernel_rfl) ⟨_, rfl, rfl⟩ (fun H' hy hK => o_mv rfl) ?_
                                      obtain ⟨ho253, h⟩ := h
                                      refine xd_b hok 13 [(185, _), (180, _)] ([]) rsN rfl rfl rfl (lc rfl (lc rfl ln)) (by kernel_rfl) ⟨_, rfl, rfl⟩ (fun H' hy hK => o_sub rfl rfl rfl ho253) ?_
                                      obtain ⟨ho254, h⟩ := h
                                      refine xd_b hok 14 [(184, _), (186, _), (180, _)] (B13_1o ++ ([])) (rsA (Pull.sub (.thereC _ (.here _ _))) rsN) rfl rfl rfl (lc rfl (lc rfl (lc rfl ln))) (by kernel_rfl) ⟨_, rfl, rfl⟩ (fun H' hy hK => o_ixL el41 rfl rfl (fun w hw => (hJ13_1o.sl hw (fun x hx => hy x (Pull.sub (.here _ _) x hx)))) rfl ho254) ?_
                                      refine xd_b hok 15 [(187, _), (180, _)] (B13_1o ++ ([])) (rsA (Pull.sub (.thereC _ (.here _ _))) rsN) rfl rfl rfl (lc rfl (lc rfl ln)) (by kernel_rfl) ⟨_, rfl, rfl⟩ (fun H' hy hK => o_faL fl48_1 rfl rfl (fun w hw => (hJ13_1o.sl hw (fun x hx => hy x (Pull.sub (.here _ _) x hx)))) (toNat_lt ho254)) ?_
                                      refine xd_b hok 16 [(188, _), (180, _)] (B13_1o ++ ([])) (rsA (Pull.sub (.thereC _ (.here _ _))) rsN) rfl rfl rfl (lc rfl (lc rfl ln)) (by kernel_rfl) ⟨_, rfl, rfl⟩ (fun H' hy hK => o_ldL1 (off := 1) (u := .bool (nz ((v13[(id17 - 1).toNat]!) 1))) rfl ts4 rfl (fun w hw => (hJ13_1o.sl hw (fun x hx => hy x (Pull.sub (.here _ _) x hx)))) (toNat_lt ho254) rfl rfl) ?_
                                      obtain ⟨ho255, h⟩ := h
                                      refine xd_step hok 10 [(181, _), (182, _), (180, _)] rfl rfl (by kernel_rfl) (lc rfl (lc rfl (lc rfl ln))) (by kernel_rfl) ⟨_, rfl, rfl⟩ (OT.st (fun _ h => h) (ot_callF (Cs := [[(b13, _)]]) (Rs := [B13_1o]) kf11 rfl (fun w1 hw1 => calive_c _ _ _ w1 (St.hasC hw1) ho255) (fun _ _ _ h => h.1))) ?_
                                      rintro _ _ ⟨w1, _, rfl, hle, -, rfl, rfl⟩
                                      refine xd_sh2 (H' := (b13, BK 28 (mv (kPA 1 3 (kS [2])) fb13) 61) :: (B13_1o ++ ([]))) rfl ?_
                                      refine ⟨(rsA (rsA (Pull.sub (.thereC _ (.here _ _))) rsN) (rsA (rsA (Pull.sub (.thereC _ (.here _ _))) rsN) (rsA (rsA (Pull.sub (.thereC _ (.here _ _))) rsN) (rsA rsN (rsA rsN (rsA rsN (rsA rsN (rsA rsN (rsA rsN (rsA rsN (rsA rsN (rsA rsN (rsA rsN (rsA rsN (rsA rsN (rsA rsN rsN)))))))))))))))), (Ks.consK (by simp) (Ks.segK (fun k hk => by simp [hk]) Ks.nil)), ?_⟩
                                      refine xd_b hok 17 [(183, _), (189, _), (180, _)] ([]) rsN rfl rfl rfl (lc rfl (lc rfl (lc rfl ln))) (by kernel_rfl) ⟨_, rfl, rfl⟩ (fun H' hy hK => o_eqlB Try.underlying4 rfl rfl) ?_
                                      refine xd_b hok 18 [(180, _), (190, _)] ([]) rsN rfl rfl rfl (lc rfl (lc rfl ln)) (by kernel_rfl) trivial (fun H' hy hK => o_pick_t rfl rfl) ?_
                                      refine xd_end hok (by kernel_rfl) ?_
                                      refine xq_then ?_
                                      refine xw_bool 191 rfl (fun hc258 => ?_) (fun hc258 => ?_)
                                      · have hq258 : ((((calive_F fb13 id17)) == ((nz ((v13[(id17 - 1).toNat]!) 1))))) = true := hc258
                                        have hp258 : ((((calive_F fb13 id17)) == ((nz ((v13[(id17 - 1).toNat]!) 1))))) = true := hq258
                                        rw [if_pos hp258] at h
                                        refine xw_cond_t rfl rfl (xw_seq (xw_region ?_))
                                        refine xq rfl trivial (o_as rfl) ?_
                                        refine xo_nil (xq_then (xw_ret (xq_blk_ret (xq_then_ret ?_))))
                                        exact xq_out (r := (.inr () : (Unit) ⊕ (Unit))) (e' := [(10, .bool false)]) (B13_1o ++ ((b13, BK 28 (mv (kPA 1 3 (kS [2])) fb13) 61) :: ([]))) (lc rfl ln) (fun _ h => St.permI [1, 0] [[(b13, _)], B13_1o] rfl (h)) h (by intro hh; cases hh) ⟨rfl, rfl, rfl⟩
                                      · have hq258 : ((((calive_F fb13 id17)) == ((nz ((v13[(id17 - 1).toNat]!) 1))))) = false := hc258
                                        have hp258 : ¬ (((((calive_F fb13 id17)) == ((nz ((v13[(id17 - 1).toNat]!) 1))))) = true) := bne' hq258
                                        rw [if_neg hp258] at h
                                        refine xw_cond_f rfl rfl (xw_skip ?_)
                                        refine xq_blk 3 ?_
                                        refine xq_then (xw_region ?_)
                                        refine xq rfl trivial (o_mv rfl) ?_
                                        obtain ⟨ho259, h⟩ := h
                                        refine xq rfl trivial (o_add rfl rfl rfl ho259) ?_
                                        refine xq rfl trivial (o_as rfl) ?_
                                        refine xo_nil ?_
                                        exact xq_next (s' := (id17 + 1 : Int)) (e' := [(0, .int .i64 n0), (2, .int .i64 now2), (3, .int .i64 span3), (4, .int .i64 tx4), (11, .pointer (some ⟨b13, 0, none⟩)), (13, v13_1o), (17, .int .i64 (id17 + 1))]) (B13_1o ++ ((b13, BK 28 (mv (kPA 1 3 (kS [2])) fb13) 61) :: ([]))) (lc rfl (lc rfl (lc rfl (lc rfl (lc rfl (lc rfl (lc rfl ln))))))) (fun _ h => St.permI [1, 0] [[(b13, _)], B13_1o] rfl (h)) h ⟨rfl, rfl⟩
                                    · have hq252 : (decide (id17 ≤ n0)) = false := hg252
                                      have hp252 : ¬ (id17 ≤ n0) := of_decide_eq_false hq252
                                      rw [if_neg hp252] at h
                                      refine xd_skip hok 8 [(11, _), (180, _)] rfl rfl rfl (lc rfl (lc rfl ln)) (by kernel_rfl) ⟨_, _, rfl, rfl, rfl⟩ ?_
                                      refine xd_skip hok 9 [(17, _), (180, _)] rfl rfl rfl (lc rfl (lc rfl ln)) (by kernel_rfl) ⟨_, _, rfl, rfl, rfl⟩ ?_
                                      refine xd_skip hok 10 [(181, _), (182, _), (180, _)] rfl rfl rfl (lc rfl (lc rfl (lc rfl ln))) (by kernel_rfl) ⟨_, _, rfl, rfl, rfl⟩ ?_
                                      refine xd_skip hok 11 [(13, _), (180, _)] rfl rfl rfl (lc rfl (lc rfl ln)) (by kernel_rfl) ⟨_, _, rfl, rfl, rfl⟩ ?_
                                      refine xd_skip hok 12 [(17, _), (180, _)] rfl rfl rfl (lc rfl (lc rfl ln)) (by kernel_rfl) ⟨_, _, rfl, rfl, rfl⟩ ?_
                                      refine xd_skip hok 13 [(185, _), (180, _)] rfl rfl rfl (lc rfl (lc rfl ln)) (by kernel_rfl) ⟨_, _, rfl, rfl, rfl⟩ ?_
                                      refine xd_skip hok 14 [(184, _), (186, _), (180, _)] rfl rfl rfl (lc rfl (lc rfl (lc rfl ln))) (by kernel_rfl) ⟨_, _, rfl, rfl, rfl⟩ ?_
                                      refine xd_skip hok 15 [(187, _), (180, _)] rfl rfl rfl (lc rfl (lc rfl ln)) (by kernel_rfl) ⟨_, _, rfl, rfl, rfl⟩ ?_
                                      refine xd_skip hok 16 [(188, _), (180, _)] rfl rfl rfl (lc rfl (lc rfl ln)) (by kernel_rfl) ⟨_, _, rfl, rfl, rfl⟩ ?_
                                      refine xd_skip hok 17 [(183, _), (189, _), (180, _)] rfl rfl rfl (lc rfl (lc rfl (lc rfl ln))) (by kernel_rfl) ⟨_, _, rfl, rfl, rfl⟩ ?_
                                      refine xd_b hok 18 [(180, _), (190, _)] ([]) rsN rfl rfl rfl (lc rfl (lc rfl ln)) (by kernel_rfl) trivial (fun H' hy hK => o_pick_f rfl rfl) ?_
                                      refine xd_end hok (by kernel_rfl) ?_
                                      refine xq_then (xw_cond_f rfl rfl (xw_skip ?_))
                                      refine xq_blk 3 ?_
                                      refine xq_then (xw_region ?_)
                                      refine xq rfl trivial (o_mv rfl) ?_
                                      obtain ⟨ho260, h⟩ := h
                                      refine xq rfl trivial (o_add rfl rfl rfl ho260) ?_
                                      refine xq rfl trivial (o_as rfl) ?_
                                      refine xo_nil ?_
                                      exact xq_next (s' := (id17 + 1 : Int)) (e' := [(0, .int .i64 n0), (2, .int .i64 now2), (3, .int .i64 span3), (4, .int .i64 tx4), (11, .pointer (some ⟨b13, 0, none⟩)), (13, v13_1o), (17, .int .i64 (id17 + 1))]) (B13_1o ++ ((b13, BK 28 (mv (kPA 1 3 (kS [2])) fb13) 61) :: ([]))) (lc rfl (lc rfl (lc rfl (lc rfl (lc rfl (lc rfl (lc rfl ln))))))) (fun _ h => St.permI [1, 0] [[(b13, _)], B13_1o] rfl (h)) h ⟨rfl, rfl⟩
                                  · have hq251 : (decide (1 ≤ id17)) = false := hg251
                                    have hp251 : ¬ (1 ≤ id17) := of_decide_eq_false hq251
                                    rw [if_neg hp251] at h
                                    refine xd_skip hok 3 [(17, _), (175, _)] rfl rfl rfl (lc rfl (lc rfl ln)) (by kernel_rfl) ⟨_, _, rfl, rfl, rfl⟩ ?_
                                    refine xd_skip hok 4 [(0, _), (175, _)] rfl rfl rfl (lc rfl (lc rfl ln)) (by kernel_rfl) ⟨_, _, rfl, rfl, rfl⟩ ?_
                                    refine xd_skip hok 5 [(176, _), (177, _), (175, _)] rfl rfl rfl (lc rfl (lc rfl (lc rfl ln))) (by kernel_rfl) ⟨_, _, rfl, rfl, rfl⟩ ?_
                                    refine xd_b hok 6 [(175, _), (178, _)] ([]) rsN rfl rfl rfl (lc rfl (lc rfl ln)) (by kernel_rfl) trivial (fun H' hy hK => o_pick_f rfl rfl) ?_
                                    refine xd_b hok 7 [(179, _)] ([]) rsN rfl rfl rfl (lc rfl ln) (by kernel_rfl) trivial (fun H' hy hK => o_mv rfl) ?_
                                    refine xd_skip hok 8 [(11, _), (180, _)] rfl rfl rfl (lc rfl (lc rfl ln)) (by kernel_rfl) ⟨_, _, rfl, rfl, rfl⟩ ?_
                                    refine xd_skip hok 9 [(17, _), (180, _)] rfl rfl rfl (lc rfl (lc rfl ln)) (by kernel_rfl) ⟨_, _, rfl, rfl, rfl⟩ ?_
                                    refine xd_skip hok 10 [(181, _), (182, _), (180, _)] rfl rfl rfl (lc rfl (lc rfl (lc rfl ln))) (by kernel_rfl) ⟨_, _, rfl, rfl, rfl⟩ ?_
                                    refine xd_skip hok 11 [(13, _), (180, _)] rfl rfl rfl (lc rfl (lc rfl ln)) (by kernel_rfl) ⟨_, _, rfl, rfl, rfl⟩ ?_
                                    refine xd_skip hok 12 [(17, _), (180, _)] rfl rfl rfl (lc rfl (lc rfl ln)) (by kernel_rfl) ⟨_, _, rfl, rfl, rfl⟩ ?_
                                    refine xd_skip hok 13 [(185, _), (180, _)] rfl rfl rfl (lc rfl (lc rfl ln)) (by kernel_rfl) ⟨_, _, rfl, rfl, rfl⟩ ?_
                                    refine xd_skip hok 14 [(184, _), (186, _), (180, _)] rfl rfl rfl (lc rfl (lc rfl (lc rfl ln))) (by kernel_rfl) ⟨_, _, rfl, rfl, rfl⟩ ?_
                                    refine xd_skip hok 15 [(187, _), (180, _)] rfl rfl rfl (lc rfl (lc rfl ln)) (by kernel_rfl) ⟨_, _, rfl, rfl, rfl⟩ ?_
                                    refine xd_skip hok 16 [(188, _), (180, _)] rfl rfl rfl (lc rfl (lc rfl ln)) (by kernel_rfl) ⟨_, _, rfl, rfl, rfl⟩ ?_
                                    refine xd_skip hok 17 [(183, _), (189, _), (180, _)] rfl rfl rfl (lc rfl (lc rfl (lc rfl ln))) (by kernel_rfl) ⟨_, _, rfl, rfl, rfl⟩ ?_
                                    refine xd_b hok 18 [(180, _), (190, _)] ([]) rsN rfl rfl rfl (lc rfl (lc rfl ln)) (by kernel_rfl) trivial (fun H' hy hK => o_pick_f rfl rfl) ?_
                                    refine xd_end hok (by kernel_rfl) ?_
                                    refine xq_then (xw_cond_f rfl rfl (xw_skip ?_))
                                    refine xq_blk 3 ?_
                                    refine xq_then (xw_region ?_)
                                    refine xq rfl trivial (o_mv rfl) ?_
                                    obtain ⟨ho261, h⟩ := h
                                    refine xq rfl trivial (o_add rfl rfl rfl ho261) ?_
                                    refine xq rfl trivial (o_as rfl) ?_
                                    refine xo_nil ?_
                                    exact xq_next (s' := (id17 + 1 : Int)) (e' := [(0, .int .i64 n0), (2, .int .i64 now2), (3, .int .i64 span3), (4, .int .i64 tx4), (11, .pointer (some ⟨b13, 0, none⟩)), (13, v13_1o), (17, .int .i64 (id17 + 1))]) (B13_1o ++ ((b13, BK 28 (mv (kPA 1 3 (kS [2])) fb13) 61) :: ([]))) (lc rfl (lc rfl (lc rfl (lc rfl (lc rfl (lc rfl (lc rfl ln))))))) (fun _ h => St.permI [1, 0] [[(b13, _)], B13_1o] rfl (h)) h ⟨rfl, rfl⟩
                        · have hq216 : (((decide (id17 < 1)) || (decide (n0 < id17))) || (decide ((v13[(id17 - 1).toNat]!) 0 = 0))) = false := hc216
                          have hp216 : ¬ ((((decide (id17 < 1)) || (decide (n0 < id17))) || (decide ((v13[(id17 - 1).toNat]!) 0 = 0))) = true) := bne' hq216
                          rw [if_neg hp216] at h
                          refine xw_cond_f rfl rfl (xw_seq ?_)
                          obtain ⟨ho262, ho263, h⟩ := h
                          refine xw_cut [(0, _), (2, _), (3, _), (4, _), (11, _), (13, _), (17, _)] (lc rfl (lc rfl (lc rfl (lc rfl (lc rfl (lc rfl (lc rfl ln))))))) [(172, .bool ((!(decide ((cnow_F fb13 id17).1 = (v13[(id17 - 1).toNat]!) 0))) || (!(decide ((cnow_F fb13 id17).2 = 0)))))] ?_ ?_
                          · refine xw_region ?_
                            refine xq rfl trivial (o_mv rfl) ?_
                            refine xq rfl trivial (o_mv rfl) ?_
                            refine xq rfl trivial (o_mv rfl) ?_
                            refine xq rfl trivial (o_sub rfl rfl rfl (ho262)) ?_
                            refine xq rfl trivial (o_ixL el41 rfl rfl (fun w hw => (hJ13_1o.sl hw (Pull.sub (.thereC _ (.here _ _))))) rfl (ho263)) ?_
                            refine xq rfl trivial (o_faL fl48_0 rfl rfl (fun w hw => (hJ13_1o.sl hw (Pull.sub (.thereC _ (.here _ _))))) (toNat_lt (ho263))) ?_
                            refine xq rfl trivial (o_ldL1 (off := 0) (u := .int .i64 ((v13[(id17 - 1).toNat]!) 0)) rfl ts3 rfl (fun w hw => (hJ13_1o.sl hw (Pull.sub (.thereC _ (.here _ _))))) (toNat_lt (ho263)) rfl rfl) ?_
                            refine xq rfl trivial (o_neq rfl rfl) ?_
                            refine xq rfl trivial (o_mv rfl) ?_
                            refine xo_bool 169 rfl (fun hg264 => ?_) (fun hg264 => ?_)
                            · have hq264 : (decide ((cnow_F fb13 id17).1 = (v13[(id17 - 1).toNat]!) 0)) = false := (bnT hg264)
                              have hp264 : ¬ ((cnow_F fb13 id17).1 = (v13[(id17 - 1).toNat]!) 0) := of_decide_eq_false hq264
                              refine xs rfl ⟨_, _, rfl, rfl, rfl⟩ (xs rfl ⟨_, _, rfl, rfl, rfl⟩ ?_)
                              refine xq rfl trivial (o_pick_t rfl rfl) ?_
                              refine xo_nil ?_
                              exact xq_cut ((lce rfl (by first | rfl | (simp only [hq208, hq216, hq264, if_pos hp208, if_neg hp216, if_neg hp264, bS]; done) | (simp only [hq208, hq216, hq264, if_pos hp208, if_neg hp216, if_neg hp264, bS, reduceIte, Bool.false_eq_true]; done) | (simp [hp208, hp216, hp264]; done) | (simp_all; done)) (lc rfl (lc rfl (lc rfl (lc rfl (lc rfl (lc rfl (lc rfl ln))))))))) (fun _ h => h)
                            · have hq264 : (decide ((cnow_F fb13 id17).1 = (v13[(id17 - 1).toNat]!) 0)) = true := (bnF hg264)
                              have hp264 : (cnow_F fb13 id17).1 = (v13[(id17 - 1).toNat]!) 0 := of_decide_eq_true hq264
                              refine xq rfl ⟨_, rfl, rfl⟩ (o_mv rfl) ?_
                              refine xq rfl ⟨_, rfl, rfl⟩ (o_neE Try.underlying27 rfl (fun _ => rfl) rfl rfl) ?_
                              refine xq rfl trivial (o_pick_f rfl rfl) ?_
                              refine xo_nil ?_
                              exact xq_cut ((lce rfl (by first | rfl | (simp only [hq208, hq216, hq264, if_pos hp208, if_neg hp216, if_pos hp264, bS]; done) | (simp only [hq208, hq216, hq264, if_pos hp208, if_neg hp216, if_pos hp264, bS, reduceIte, Bool.false_eq_true]; done) | (simp [hp208, hp216, hp264]; done) | (simp_all; done)) (lc rfl (lc rfl (lc rfl (lc rfl (lc rfl (lc rfl (lc rfl ln))))))))) (fun _ h => h)
                          · refine xq_then ?_
                            refine xw_bool 172 rfl (fun hc265 => ?_) (fun hc265 => ?_)
                            · have hq265 : ((!(decide ((cnow_F fb13 id17).1 = (v13[(id17 - 1).toNat]!) 0))) || (!(decide ((cnow_F fb13 id17).2 = 0)))) = true := hc265
                              have hp265 : ((!(decide ((cnow_F fb13 id17).1 = (v13[(id17 - 1).toNat]!) 0))) || (!(decide ((cnow_F fb13 id17).2 = 0)))) = true := hq265
                              rw [if_pos hp265] at h
                              refine xw_cond_t rfl rfl (xw_seq (xw_region ?_))
                              refine xq rfl trivial (o_as rfl) ?_
                              refine xo_nil (xq_then (xw_ret (xq_then_ret (xq_blk_ret (xq_then_ret ?_)))))
                              exact xq_out (r := (.inr () : (Unit) ⊕ (Unit))) (e' := [(10, .bool false)]) (B13_1o ++ ((b13, BK 28 (mv (kPA 1 3 (kS [2])) fb13) 61) :: ([]))) (lc rfl ln) (fun _ h => St.permI [1, 0] [[(b13, _)], B13_1o] rfl (h)) h (by intro hh; cases hh) ⟨rfl, rfl, rfl⟩
                            · have hq265 : ((!(decide ((cnow_F fb13 id17).1 = (v13[(id17 - 1).toNat]!) 0))) || (!(decide ((cnow_F fb13 id17).2 = 0)))) = false := hc265
                              have hp265 : ¬ (((!(decide ((cnow_F fb13 id17).1 = (v13[(id17 - 1).toNat]!) 0))) || (!(decide ((cnow_F fb13 id17).2 = 0)))) = true) := bne' hq265
                              rw [if_neg hp265] at h
                              refine xw_cond_f rfl rfl (xw_skip (xq_then (xw_seq ?_)))
                              refine xd_start (by kernel_rfl) (by kernel_rfl) (fun hok => ?_)
                              refine xd_b hok 0 [(17, _)] ([]) rsN rfl rfl rfl (lc rfl ln) (by kernel_rfl) trivial (fun H' hy hK => o_mv rfl) ?_
                              refine xd_b hok 1 [(173, _)] ([]) rsN rfl rfl rfl (lc rfl ln) (by kernel_rfl) trivial (fun H' hy hK => o_geq rfl rfl) ?_
                              refine xd_b hok 2 [(174, _)] ([]) rsN rfl rfl rfl (lc rfl ln) (by kernel_rfl) trivial (fun H' hy hK => o_mv rfl) ?_
                              refine xd_bool 175 rfl (fun hg266 => ?_) (fun hg266 => ?_)
                              · have hq266 : (decide (1 ≤ id17)) = true := hg266
                                have hp266 : 1 ≤ id17 := of_decide_eq_true hq266
                                rw [if_pos hp266] at h
                                refine xd_b hok 3 [(17, _), (175, _)] ([]) rsN rfl rfl rfl (lc rfl (lc rfl ln)) (by kernel_rfl) ⟨_, rfl, rfl⟩ (fun H' hy hK => o_mv rfl) ?_
                                refine xd_b hok 4 [(0, _), (175, _)] ([]) rsN rfl rfl rfl (lc rfl (lc rfl ln)) (by kernel_rfl) ⟨_, rfl, rfl⟩ (fun H' hy hK => o_mv rfl) ?_
                                refine xd_b hok 5 [(176, _), (177, _), (175, _)] ([]) rsN rfl rfl rfl (lc rfl (lc rfl (lc rfl ln))) (by kernel_rfl) ⟨_, rfl, rfl⟩ (fun H' hy hK => o_leq rfl rfl) ?_
                                refine xd_b hok 6 [(175, _), (178, _)] ([]) rsN rfl rfl rfl (lc rfl (lc rfl ln)) (by kernel_rfl) trivial (fun H' hy hK => o_pick_t rfl rfl) ?_
                                refine xd_b hok 7 [(179, _)] ([]) rsN rfl rfl rfl (lc rfl ln) (by kernel_rfl) trivial (fun H' hy hK => o_mv rfl) ?_
                                refine xd_bool 180 rfl (fun hg267 => ?_) (fun hg267 => ?_)
                                · have hq267 : (decide (id17 ≤ n0)) = true := hg267
                                  have hp267 : id17 ≤ n0 := of_decide_eq_true hq267
                                  rw [if_pos hp267] at h
                                  refine xd_b hok 8 [(11, _), (180, _)] ([]) rsN rfl rfl rfl (lc rfl (lc rfl ln)) (by kernel_rfl) ⟨_, rfl, rfl⟩ (fun H' hy hK => o_mv rfl) ?_
                                  refine xd_b hok 9 [(17, _), (180, _)] ([]) rsN rfl rfl rfl (lc rfl (lc rfl ln)) (by kernel_rfl) ⟨_, rfl, rfl⟩ (fun H' hy hK => o_mv rfl) ?_
                                  refine xd_b hok 11 [(13, _), (180, _)] ([]) rsN rfl rfl rfl (lc rfl (lc rfl ln)) (by kernel_rfl) ⟨_, rfl, rfl⟩ (fun H' hy hK => o_mv rfl) ?_
                                  refine xd_b hok 12 [(17, _), (180, _)] ([]) rsN rfl rfl rfl (lc rfl (lc rfl ln)) (by kernel_rfl) ⟨_, rfl, rfl⟩ (fun H' hy hK => o_mv rfl) ?_
                                  obtain ⟨ho268, h⟩ := h
                                  refine xd_b hok 13 [(185, _), (180, _)] ([]) rsN rfl rfl rfl (lc rfl (lc rfl ln)) (by kernel_rfl) ⟨_, rfl, rfl⟩ (fun H' hy hK => o_sub rfl rfl rfl ho268) ?_
                                  obtain ⟨ho269, h⟩ := h
                                  refine xd_b hok 14 [(184, _), (186, _), (180, _)] (B13_1o ++ ([])) (rsA (Pull.sub (.thereC _ (.here _ _))) rsN) rfl rfl rfl (lc rfl (lc rfl (lc rfl ln))) (by kernel_rfl) ⟨_, rfl, rfl⟩ (fun H' hy hK => o_ixL el41 rfl rfl (fun w hw => (hJ13_1o.sl hw (fun x hx => hy x (Pull.sub (.here _ _) x hx)))) rfl ho269) ?_
                                  refine xd_b hok 15 [(187, _), (180, _)] (B13_1o ++ ([])) (rsA (Pull.sub (.thereC _ (.here _ _))) rsN) rfl rfl rfl (lc rfl (lc rfl ln)) (by kernel_rfl) ⟨_, rfl, rfl⟩ (fun H' hy hK => o_faL fl48_1 rfl rfl (fun w hw => (hJ13_1o.sl hw (fun x hx => hy x (Pull.sub (.here _ _) x hx)))) (toNat_lt ho269)) ?_
                                  refine xd_b hok 16 [(188, _), (180, _)] (B13_1o ++ ([])) (rsA (Pull.sub (.thereC _ (.here _ _))) rsN) rfl rfl rfl (lc rfl (lc rfl ln)) (by kernel_rfl) ⟨_, rfl, rfl⟩ (fun H' hy hK => o_ldL1 (off := 1) (u := .bool (nz ((v13[(id17 - 1).toNat]!) 1))) rfl ts4 rfl (fun w hw => (hJ13_1o.sl hw (fun x hx => hy x (Pull.sub (.here _ _) x hx)))) (toNat_lt ho269) rfl rfl) ?_
                                  obtain ⟨ho270, h⟩ := h
                                  refine xd_step hok 10 [(181, _), (182, _), (180, _)] rfl rfl (by kernel_rfl) (lc rfl (lc rfl (lc rfl ln))) (by kernel_rfl) ⟨_, rfl, rfl⟩ (OT.st (fun _ h => h) (ot_callF (Cs := [[(b13, _)]]) (Rs := [B13_1o]) kf11 rfl (fun w1 hw1 => calive_c _ _ _ w1 (St.hasC hw1) ho270) (fun _ _ _ h => h.1))) ?_
                                  rintro _ _ ⟨w1, _, rfl, hle, -, rfl, rfl⟩
                                  refine xd_sh2 (H' := (b13, BK 28 (mv (kPA 1 3 (kS [2])) fb13) 61) :: (B13_1o ++ ([]))) rfl ?_
                                  refine ⟨(rsA (rsA (Pull.sub (.thereC _ (.here _ _))) rsN) (rsA (rsA (Pull.sub (.thereC _ (.here _ _))) rsN) (rsA (rsA (Pull.sub (.thereC _ (.here _ _))) rsN) (rsA rsN (rsA rsN (rsA rsN (rsA rsN (rsA rsN (rsA rsN (rsA rsN (rsA rsN (rsA rsN (rsA rsN (rsA rsN (rsA rsN (rsA rsN rsN)))))))))))))))), (Ks.consK (by simp) (Ks.segK (fun k hk => by simp [hk]) Ks.nil)), ?_⟩
                                  refine xd_b hok 17 [(183, _), (189, _), (180, _)] ([]) rsN rfl rfl rfl (lc rfl (lc rfl (lc rfl ln))) (by kernel_rfl) ⟨_, rfl, rfl⟩ (fun H' hy hK => o_eqlB Try.underlying4 rfl rfl) ?_
                                  refine xd_b hok 18 [(180, _), (190, _)] ([]) rsN rfl rfl rfl (lc rfl (lc rfl ln)) (by kernel_rfl) trivial (fun H' hy hK => o_pick_t rfl rfl) ?_
                                  refine xd_end hok (by kernel_rfl) ?_
                                  refine xq_then ?_
                                  refine xw_bool 191 rfl (fun hc273 => ?_) (fun hc273 => ?_)
                                  · have hq273 : ((((calive_F fb13 id17)) == ((nz ((v13[(id17 - 1).toNat]!) 1))))) = true := hc273
                                    have hp273 : ((((calive_F fb13 id17)) == ((nz ((v13[(id17 - 1).toNat]!) 1))))) = true := hq273
                                    rw [if_pos hp273] at h
                                    refine xw_cond_t rfl rfl (xw_seq (xw_region ?_))
                                    refine xq rfl trivial (o_as rfl) ?_
                                    refine xo_nil (xq_then (xw_ret (xq_blk_ret (xq_then_ret ?_))))
                                    exact xq_out (r := (.inr () : (Unit) ⊕ (Unit))) (e' := [(10, .bool false)]) (B13_1o ++ ((b13, BK 28 (mv (kPA 1 3 (kS [2])) fb13) 61) :: ([]))) (lc rfl ln) (fun _ h => St.permI [1, 0] [[(b13, _)], B13_1o] rfl (h)) h (by intro hh; cases hh) ⟨rfl, rfl, rfl⟩
                                  · have hq273 : ((((calive_F fb13 id17)) == ((nz ((v13[(id17 - 1).toNat]!) 1))))) = false := hc273
                                    have hp273 : ¬ (((((calive_F fb13 id17)) == ((nz ((v13[(id17 - 1).toNat]!) 1))))) = true) := bne' hq273
                                    rw [if_neg hp273] at h
                                    refine xw_cond_f rfl rfl (xw_skip ?_)
                                    refine xq_blk 3 ?_
                                    refine xq_then (xw_region ?_)
                                    refine xq rfl trivial (o_mv rfl) ?_
                                    obtain ⟨ho274, h⟩ := h
                                    refine xq rfl trivial (o_add rfl rfl rfl ho274) ?_
                                    refine xq rfl trivial (o_as rfl) ?_
                                    refine xo_nil ?_
                                    exact xq_next (s' := (id17 + 1 : Int)) (e' := [(0, .int .i64 n0), (2, .int .i64 now2), (3, .int .i64 span3), (4, .int .i64 tx4), (11, .pointer (some ⟨b13, 0, none⟩)), (13, v13_1o), (17, .int .i64 (id17 + 1))]) (B13_1o ++ ((b13, BK 28 (mv (kPA 1 3 (kS [2])) fb13) 61) :: ([]))) (lc rfl (lc rfl (lc rfl (lc rfl (lc rfl (lc rfl (lc rfl ln))))))) (fun _ h => St.permI [1, 0] [[(b13, _)], B13_1o] rfl (h)) h ⟨rfl, rfl⟩
                                · have hq267 : (decide (id17 ≤ n0)) = false := hg267
                                  have hp267 : ¬ (id17 ≤ n0) := of_decide_eq_false hq267
                                  rw [if_neg hp267] at h
                                  refine xd_skip hok 8 [(11, _), (180, _)] rfl rfl rfl (lc rfl (lc rfl ln)) (by kernel_rfl) ⟨_, _, rfl, rfl, rfl⟩ ?_
                                  refine xd_skip hok 9 [(17, _), (180, _)] rfl rfl rfl (lc rfl (lc rfl ln)) (by kernel_rfl) ⟨_, _, rfl, rfl, rfl⟩ ?_
                                  refine xd_skip hok 10 [(181, _), (182, _), (180, _)] rfl rfl rfl (lc rfl (lc rfl (lc rfl ln))) (by kernel_rfl) ⟨_, _, rfl, rfl, rfl⟩ ?_
                                  refine xd_skip hok 11 [(13, _), (180, _)] rfl rfl rfl (lc rfl (lc rfl ln)) (by kernel_rfl) ⟨_, _, rfl, rfl, rfl⟩ ?_
                                  refine xd_skip hok 12 [(17, _), (180, _)] rfl rfl rfl (lc rfl (lc rfl ln)) (by kernel_rfl) ⟨_, _, rfl, rfl, rfl⟩ ?_
                                  refine xd_skip hok 13 [(185, _), (180, _)] rfl rfl rfl (lc rfl (lc rfl ln)) (by kernel_rfl) ⟨_, _, rfl, rfl, rfl⟩ ?_
                                  refine xd_skip hok 14 [(184, _), (186, _), (180, _)] rfl rfl rfl (lc rfl (lc rfl (lc rfl ln))) (by kernel_rfl) ⟨_, _, rfl, rfl, rfl⟩ ?_
                                  refine xd_skip hok 15 [(187, _), (180, _)] rfl rfl rfl (lc rfl (lc rfl ln)) (by kernel_rfl) ⟨_, _, rfl, rfl, rfl⟩ ?_
                                  refine xd_skip hok 16 [(188, _), (180, _)] rfl rfl rfl (lc rfl (lc rfl ln)) (by kernel_rfl) ⟨_, _, rfl, rfl, rfl⟩ ?_
                                  refine xd_skip hok 17 [(183, _), (189, _), (180, _)] rfl rfl rfl (lc rfl (lc rfl (lc rfl ln))) (by kernel_rfl) ⟨_, _, rfl, rfl, rfl⟩ ?_
                                  refine xd_b hok 18 [(180, _), (190, _)] ([]) rsN rfl rfl rfl (lc rfl (lc rfl ln)) (by kernel_rfl) trivial (fun H' hy hK => o_pick_f rfl rfl) ?_
                                  refine xd_end hok (by kernel_rfl) ?_
                                  refine xq_then (xw_cond_f rfl rfl (xw_skip ?_))
                                  refine xq_blk 3 ?_
                                  refine xq_then (xw_region ?_)
                                  refine xq rfl trivial (o_mv rfl) ?_
                                  obtain ⟨ho275, h⟩ := h
                                  refine xq rfl trivial (o_add rfl rfl rfl ho275) ?_
                                  refine xq rfl trivial (o_as rfl) ?_
                                  refine xo_nil ?_
                                  exact xq_next (s' := (id17 + 1 : Int)) (e' := [(0, .int .i64 n0), (2, .int .i64 now2), (3, .int .i64 span3), (4, .int .i64 tx4), (11, .pointer (some ⟨b13, 0, none⟩)), (13, v13_1o), (17, .int .i64 (id17 + 1))]) (B13_1o ++ ((b13, BK 28 (mv (kPA 1 3 (kS [2])) fb13) 61) :: ([]))) (lc rfl (lc rfl (lc rfl (lc rfl (lc rfl (lc rfl (lc rfl ln))))))) (fun _ h => St.permI [1, 0] [[(b13, _)], B13_1o] rfl (h)) h ⟨rfl, rfl⟩
                              · have hq266 : (decide (1 ≤ id17)) = false := hg266
                                have hp266 : ¬ (1 ≤ id17) := of_decide_eq_false hq266
                                rw [if_neg hp266] at h
                                refine xd_skip hok 3 [(17, _), (175, _)] rfl rfl rfl (lc rfl (lc rfl ln)) (by kernel_rfl) ⟨_, _, rfl, rfl, rfl⟩ ?_
                                refine xd_skip hok 4 [(0, _), (175, _)] rfl rfl rfl (lc rfl (lc rfl ln)) (by kernel_rfl) ⟨_, _, rfl, rfl, rfl⟩ ?_
                                refine xd_skip hok 5 [(176, _), (177, _), (175, _)] rfl rfl rfl (lc rfl (lc rfl (lc rfl ln))) (by kernel_rfl) ⟨_, _, rfl, rfl, rfl⟩ ?_
                                refine xd_b hok 6 [(175, _), (178, _)] ([]) rsN rfl rfl rfl (lc rfl (lc rfl ln)) (by kernel_rfl) trivial (fun H' hy hK => o_pick_f rfl rfl) ?_
                                refine xd_b hok 7 [(179, _)] ([]) rsN rfl rfl rfl (lc rfl ln) (by kernel_rfl) trivial (fun H' hy hK => o_mv rfl) ?_
                                refine xd_skip hok 8 [(11, _), (180, _)] rfl rfl rfl (lc rfl (lc rfl ln)) (by kernel_rfl) ⟨_, _, rfl, rfl, rfl⟩ ?_
                                refine xd_skip hok 9 [(17, _), (180, _)] rfl rfl rfl (lc rfl (lc rfl ln)) (by kernel_rfl) ⟨_, _, rfl, rfl, rfl⟩ ?_
                                refine xd_skip hok 10 [(181, _), (182, _), (180, _)] rfl rfl rfl (lc rfl (lc rfl (lc rfl ln))) (by kernel_rfl) ⟨_, _, rfl, rfl, rfl⟩ ?_
                                refine xd_skip hok 11 [(13, _), (180, _)] rfl rfl rfl (lc rfl (lc rfl ln)) (by kernel_rfl) ⟨_, _, rfl, rfl, rfl⟩ ?_
                                refine xd_skip hok 12 [(17, _), (180, _)] rfl rfl rfl (lc rfl (lc rfl ln)) (by kernel_rfl) ⟨_, _, rfl, rfl, rfl⟩ ?_
                                refine xd_skip hok 13 [(185, _), (180, _)] rfl rfl rfl (lc rfl (lc rfl ln)) (by kernel_rfl) ⟨_, _, rfl, rfl, rfl⟩ ?_
                                refine xd_skip hok 14 [(184, _), (186, _), (180, _)] rfl rfl rfl (lc rfl (lc rfl (lc rfl ln))) (by kernel_rfl) ⟨_, _, rfl, rfl, rfl⟩ ?_
                                refine xd_skip hok 15 [(187, _), (180, _)] rfl rfl rfl (lc rfl (lc rfl ln)) (by kernel_rfl) ⟨_, _, rfl, rfl, rfl⟩ ?_
                                refine xd_skip hok 16 [(188, _), (180, _)] rfl rfl rfl (lc rfl (lc rfl ln)) (by kernel_rfl) ⟨_, _, rfl, rfl, rfl⟩ ?_
                                refine xd_skip hok 17 [(183, _), (189, _), (180, _)] rfl rfl rfl (lc rfl (lc rfl (lc rfl ln))) (by kernel_rfl) ⟨_, _, rfl, rfl, rfl⟩ ?_
                                refine xd_b hok 18 [(180, _), (190, _)] ([]) rsN rfl rfl rfl (lc rfl (lc rfl ln)) (by kernel_rfl) trivial (fun H' hy hK => o_pick_f rfl rfl) ?_
                                refine xd_end hok (by kernel_rfl) ?_
                                refine xq_then (xw_cond_f rfl rfl (xw_skip ?_))
                                refine xq_blk 3 ?_
                                refine xq_then (xw_region ?_)
                                refine xq rfl trivial (o_mv rfl) ?_
                                obtain ⟨ho276, h⟩ := h
                                refine xq rfl trivial (o_add rfl rfl rfl ho276) ?_
                                refine xq rfl trivial (o_as rfl) ?_
                                refine xo_nil ?_
                                exact xq_next (s' := (id17 + 1 : Int)) (e' := [(0, .int .i64 n0), (2, .int .i64 now2), (3, .int .i64 span3), (4, .int .i64 tx4), (11, .pointer (some ⟨b13, 0, none⟩)), (13, v13_1o), (17, .int .i64 (id17 + 1))]) (B13_1o ++ ((b13, BK 28 (mv (kPA 1 3 (kS [2])) fb13) 61) :: ([]))) (lc rfl (lc rfl (lc rfl (lc rfl (lc rfl (lc rfl (lc rfl ln))))))) (fun _ h => St.permI [1, 0] [[(b13, _)], B13_1o] rfl (h)) h ⟨rfl, rfl⟩
                    · have hq208 : (decide (id17 ≤ n0 + 1)) = false := hc208
                      have hp208 : ¬ (id17 ≤ n0 + 1) := of_decide_eq_false hq208
                      rw [if_neg hp208] at h
                      refine xw_cond_f rfl rfl (xw_exit (xq_then_exit ?_))
                      exact xq_out (r := (.inl () : (Unit) ⊕ (Unit))) (e' := [(2, .int .i64 now2), (3, .int .i64 span3), (4, .int .i64 tx4), (11, .pointer (some ⟨b13, 0, none⟩)), (13, v13_1o)]) (B13_1o ++ ((b13, BK 28 (mv (kPA 1 3 (kS [2])) fb13) 61) :: ([]))) (lc rfl (lc rfl (lc rfl (lc rfl (lc rfl ln))))) (fun _ h => h) h (by intro hh; cases hh) ⟨rfl, rfl, rfl⟩
                  · rcases x2 with _ | x2
                    · rintro _ _ _ ⟨rfl, rfl, rfl⟩
                      replace h : acts16_k2a now2 span3 tx4 v13 fb13 r := h
                      unfold acts16_k2a at h
                      refine xq_blk_eq ?_
                      refine xq_then (xw_seq (xw_region ?_))
                      refine xq rfl trivial (o_mv rfl) ?_
                      refine xq rfl trivial (o_mv rfl) ?_
                      refine xo rfl trivial (OT.st (fun _ h => St.permI [1, 0] [B13_1o, [(b13, _)]] rfl h) (ot_callF (Cs := [[(b13, _)]]) (Rs := [B13_1o]) kf10 rfl (fun w1 hw1 => cof_c _ _ _ w1 (St.hasC hw1)) (fun _ _ _ h => h.1))) ?_
                      rintro _ _ ⟨w1, _, rfl, hle, -, rfl, rfl⟩
                      refine xo_st ((b13, BK 28 (mv (kPA 1 3 (kS [2])) fb13) 61) :: (B13_1o ++ ([]))) (fun _ h => h) ?_
                      refine xq rfl trivial (o_mv rfl) ?_
                      refine xq rfl trivial (o_ext rfl rfl) ?_
                      refine xq rfl trivial (o_ext rfl rfl) ?_
                      refine xq rfl trivial (o_as rfl) ?_
                      refine xq rfl trivial (o_as rfl) ?_
                      refine xo_nil (xq_then (xw_seq (xw_region ?_)))
                      refine xq rfl trivial (o_mv rfl) ?_
                      refine xq rfl trivial (o_mv rfl) ?_
                      obtain ⟨ho279, h⟩ := h
                      refine xcallq rfl trivial kf20 rfl (fun w1 hw1 => ofR_c _ _ _ w1 (hJ13_1o.sl hw1 (Pull.sub (.thereC _ (.here _ _)))) ho279) ?_
                      refine xq rfl trivial (o_as rfl) ?_
                      refine xo_nil (xq_then (xw_seq (xw_region ?_)))
                      refine xq rfl trivial (o_mv rfl) ?_
                      refine xq rfl trivial (o_mv rfl) ?_
                      refine xq rfl trivial (o_eql rfl rfl) ?_
                      refine xq rfl trivial (o_mv rfl) ?_
                      refine xo_bool 204 rfl (fun hg280 => ?_) (fun hg280 => ?_)
                      · have hq280 : (decide ((cof_F fb13 tx4).1 = (ofR_F v13 tx4))) = true := hg280
                        have hp280 : (cof_F fb13 tx4).1 = (ofR_F v13 tx4) := of_decide_eq_true hq280
                        rw [if_pos hp280] at h
                        refine xq rfl ⟨_, rfl, rfl⟩ (o_mv rfl) ?_
                        refine xq rfl ⟨_, rfl, rfl⟩ (o_eqE Try.underlying27 rfl (fun _ => rfl) rfl rfl) ?_
                        refine xq rfl ⟨_, rfl, rfl⟩ (o_mv rfl) ?_
                        refine xq rfl ⟨_, rfl, rfl⟩ (o_gtr rfl rfl) ?_
                        refine xq rfl ⟨_, rfl, rfl⟩ (o_eqlB Try.underlying4 rfl rfl) ?_
                        refine xq rfl trivial (o_pick_t rfl rfl) ?_
                        refine xq rfl trivial (o_mv rfl) ?_
                        refine xo_bool 211 rfl (fun hg281 => ?_) (fun hg281 => ?_)
                        · have hq281 : (((decide ((cof_F fb13 tx4).2 = 0)) == (decide (0 < (ofR_F v13 tx4))))) = true := hg281
                          have hp281 : (((decide ((cof_F fb13 tx4).2 = 0)) == (decide (0 < (ofR_F v13 tx4))))) = true := hq281
                          rw [if_pos hp281] at h
                          refine xq rfl ⟨_, rfl, rfl⟩ (o_mv rfl) ?_
                          refine xq rfl ⟨_, rfl, rfl⟩ (o_eqE Try.underlying27 rfl (fun _ => rfl) rfl rfl) ?_
                          refine xq rfl ⟨_, rfl, rfl⟩ (o_mv rfl) ?_
                          refine xo_bool 214 rfl (fun hg282 => ?_) (fun hg282 => ?_)
                          · have hq282 : (decide ((cof_F fb13 tx4).2 = 0)) = true := hg282
                            have hp282 : (cof_F fb13 tx4).2 = 0 := of_decide_eq_true hq282
                            rw [if_pos hp282] at h
                            refine xs rfl ⟨_, _, rfl, rfl, rfl⟩ (xs rfl ⟨_, _, rfl, rfl, rfl⟩ (xs rfl ⟨_, _, rfl, rfl, rfl⟩ ?_))
                            refine xq rfl ⟨_, rfl, rfl⟩ (o_pick_t rfl rfl) ?_
                            refine xq rfl trivial (o_pick_t rfl rfl) ?_
                            refine xq rfl trivial (o_mv rfl) ?_
                            refine xq rfl ⟨_, rfl, rfl⟩ (o_mv rfl) ?_
                            refine xq rfl ⟨_, rfl, rfl⟩ (o_mv rfl) ?_
                            refine xq rfl ⟨_, rfl, rfl⟩ (o_mv rfl) ?_
                            obtain ⟨ho283, h⟩ := h
                            refine xo rfl ⟨_, rfl, rfl⟩ (OT.st (fun _ h => h) (ot_callF (Cs := [[(b13, _)]]) (Rs := [B13_1o]) kf9 rfl (fun w1 hw1 => clost_c _ _ _ _ w1 (St.hasC hw1) ho283) (fun _ _ _ h => h.1))) ?_
                            rintro vs286 _ ⟨w1, _, rfl, hle, -, _, Bs286, rfl, rfl, hJs286, hcBs286⟩
                            replace hcBs286 := Cov.base (w0 := w) hcBs286 hle
                            refine xo_st ((b13, BK 28 (mv (kPA 1 3 (kS [2])) fb13) 61) :: (Bs286 ++ (B13_1o ++ ([])))) (fun _ h => h) ?_
                            refine xq rfl ⟨_, rfl, rfl⟩ (o_mv rfl) ?_
                            refine xq rfl ⟨_, rfl, rfl⟩ (o_mv rfl) ?_
                            refine xq rfl ⟨_, rfl, rfl⟩ (o_mv rfl) ?_
                            obtain ⟨ho287, h⟩ := h
                            refine xcall rfl ⟨_, rfl, rfl⟩ kf18 rfl (fun w1 hw1 => lostR_c _ _ _ _ w1 (hJ13_1o.sl hw1 (Pull.sub (.thereC _ (.there _ (.here _ _))))) ho287) ?_
                            rintro w1 vs288 _ hw1 ⟨_, Bs288, rfl, rfl, hJs288, hcBs288⟩
                            refine ⟨_, Mg.news (Cov.fresh hcBs288) (.nil _), ?_⟩
                            replace hcBs288 := Cov.base (w0 := w) hcBs288 hw1.size
                            obtain ⟨ho289, h⟩ := h
                            refine xcallq rfl ⟨_, rfl, rfl⟩ kf17 rfl (fun w1 hw1 => ints_c _ _ _ _ w1 (hJs286.sl hw1 (Pull.sub (.there _ (.thereC _ (.here _ _))))) (hJs288.sl hw1 (Pull.sub (.here _ _))) ho289) ?_
                            refine xq rfl trivial (o_pick_t rfl rfl) ?_
                            refine xq rfl trivial (o_as rfl) ?_
                            refine xo_nil (xq_then (xw_ret ?_))
                            subst h
                            exact con_ret1 (.inl rfl) Try.results4 rfl [] (Kp.st (Kp.segNew (Cov.fresh hcBs288) (Kp.new hb13 (Kp.segNew (Cov.fresh hcBs286) (Kp.segNew (Cov.fresh hcB13_1o) Kp.nil))))) (⟨rfl, rfl⟩)
                          · have hq282 : (decide ((cof_F fb13 tx4).2 = 0)) = false := hg282
                            have hp282 : ¬ ((cof_F fb13 tx4).2 = 0) := of_decide_eq_false hq282
                            rw [if_neg hp282] at h
                            refine xq rfl ⟨_, rfl, rfl⟩ (o_mv rfl) ?_
                            refine xcallq rfl ⟨_, rfl, rfl⟩ kf13 rfl (fun w1 hw1 => code_c _ w1) ?_
                            refine xq rfl ⟨_, rfl, rfl⟩ (o_eql rfl rfl) ?_
                            refine xq rfl ⟨_, rfl, rfl⟩ (o_pick_f rfl rfl) ?_
                            refine xq rfl trivial (o_pick_t rfl rfl) ?_
                            refine xq rfl trivial (o_mv rfl) ?_
                            refine xo_bool 220 rfl (fun hg290 => ?_) (fun hg290 => ?_)
                            · have hq290 : (decide ((code_F ((cof_F fb13 tx4).2)) = 10)) = true := hg290
                              have hp290 : (code_F ((cof_F fb13 tx4).2)) = 10 := of_decide_eq_true hq290
                              rw [if_pos hp290] at h
                              refine xq rfl ⟨_, rfl, rfl⟩ (o_mv rfl) ?_
                              refine xq rfl ⟨_, rfl, rfl⟩ (o_mv rfl) ?_
                              refine xq rfl ⟨_, rfl, rfl⟩ (o_mv rfl) ?_
                              obtain ⟨ho291, h⟩ := h
                              refine xo rfl ⟨_, rfl, rfl⟩ (OT.st (fun _ h => h) (ot_callF (Cs := [[(b13, _)]]) (Rs := [B13_1o]) kf9 rfl (fun w1 hw1 => clost_c _ _ _ _ w1 (St.hasC hw1) ho291) (fun _ _ _ h => h.1))) ?_
                              rintro vs294 _ ⟨w1, _, rfl, hle, -, _, Bs294, rfl, rfl, hJs294, hcBs294⟩
                              replace hcBs294 := Cov.base (w0 := w) hcBs294 hle
                              refine xo_st ((b13, BK 28 (mv (kPA 1 3 (kS [2])) fb13) 61) :: (Bs294 ++ (B13_1o ++ ([])))) (fun _ h => h) ?_
                              refine xq rfl ⟨_, rfl, rfl⟩ (o_mv rfl) ?_
                              refine xq rfl ⟨_, rfl, rfl⟩ (o_mv rfl) ?_
                              refine xq rfl ⟨_, rfl, rfl⟩ (o_mv rfl) ?_
                              obtain ⟨ho295, h⟩ := h
                              refine xcall rfl ⟨_, rfl, rfl⟩ kf18 rfl (fun w1 hw1 => lostR_c _ _ _ _ w1 (hJ13_1o.sl hw1 (Pull.sub (.thereC _ (.there _ (.here _ _))))) ho295) ?_
                              rintro w1 vs296 _ hw1 ⟨_, Bs296, rfl, rfl, hJs296, hcBs296⟩
                              refine ⟨_, Mg.news (Cov.fresh hcBs296) (.nil _), ?_⟩
                              replace hcBs296 := Cov.base (w0 := w) hcBs296 hw1.size
                              obtain ⟨ho297, h⟩ := h
                              refine xcallq rfl ⟨_, rfl, rfl⟩ kf17 rfl (fun w1 hw1 => ints_c _ _ _ _ w1 (hJs294.sl hw1 (Pull.sub (.there _ (.thereC _ (.here _ _))))) (hJs296.sl hw1 (Pull.sub (.here _ _))) ho297) ?_
                              refine xq rfl trivial (o_pick_t rfl rfl) ?_
                              refine xq rfl trivial (o_as rfl) ?_
                              refine xo_nil (xq_then (xw_ret ?_))
                              subst h
                              exact con_ret1 (.inl rfl) Try.results4 rfl [] (Kp.st (Kp.segNew (Cov.fresh hcBs296) (Kp.new hb13 (Kp.segNew (Cov.fresh hcBs294) (Kp.segNew (Cov.fresh hcB13_1o) Kp.nil))))) (⟨rfl, rfl⟩)
                            · have hq290 : (decide ((code_F ((cof_F fb13 tx4).2)) = 10)) = false := hg290
                              have hp290 : ¬ ((code_F ((cof_F fb13 tx4).2)) = 10) := of_decide_eq_false hq290
                              rw [if_neg hp290] at h
                              refine xs rfl ⟨_, _, rfl, rfl, rfl⟩ (xs rfl ⟨_, _, rfl, rfl, rfl⟩ (xs rfl ⟨_, _, rfl, rfl, rfl⟩ (xs rfl ⟨_, _, rfl, rfl, rfl⟩ (xs rfl ⟨_, _, rfl, rfl, rfl⟩ (xs rfl ⟨_, _, rfl, rfl, rfl⟩ (xs rfl ⟨_, _, rfl, rfl, rfl⟩ (xs rfl ⟨_, _, rfl, rfl, rfl⟩ ?_)))))))
                              refine xs rfl ⟨_, _, rfl, rfl, rfl⟩ ?_
                              refine xq rfl trivial (o_pick_f rfl rfl) ?_
                              refine xq rfl trivial (o_as rfl) ?_
                              refine xo_nil (xq_then (xw_ret ?_))
                              subst h
                              exact con_ret1 (.inl rfl) Try.results4 rfl [] (Kp.st (Kp.new hb13 (Kp.segNew (Cov.fresh hcB13_1o) Kp.nil))) (⟨rfl, rfl⟩)
                        · have hq281 : (((decide ((cof_F fb13 tx4).2 = 0)) == (decide (0 < (ofR_F v13 tx4))))) = false := hg281
                          have hp281 : ¬ ((((decide ((cof_F fb13 tx4).2 = 0)) == (decide (0 < (ofR_F v13 tx4))))) = true) := bne' hq281
                          rw [if_neg hp281] at h
                          refine xs rfl ⟨_, _, rfl, rfl, rfl⟩ (xs rfl ⟨_, _, rfl, rfl, rfl⟩ (xs rfl ⟨_, _, rfl, rfl, rfl⟩ (xs rfl ⟨_, _, rfl, rfl, rfl⟩ (xs rfl ⟨_, _, rfl, rfl, rfl⟩ (xs rfl ⟨_, _, rfl, rfl, rfl⟩ (xs rfl ⟨_, _, rfl, rfl, rfl⟩ ?_))))))
                          refine xq rfl trivial (o_pick_f rfl rfl) ?_
                          refine xq rfl trivial (o_mv rfl) ?_
                          refine xs rfl ⟨_, _, rfl, rfl, rfl⟩ (xs rfl ⟨_, _, rfl, rfl, rfl⟩ (xs rfl ⟨_, _, rfl, rfl, rfl⟩ (xs rfl ⟨_, _, rfl, rfl, rfl⟩ (xs rfl ⟨_, _, rfl, rfl, rfl⟩ (xs rfl ⟨_, _, rfl, rfl, rfl⟩ (xs rfl ⟨_, _, rfl, rfl, rfl⟩ (xs rfl ⟨_, _, rfl, rfl, rfl⟩ ?_)))))))
                          refine xs rfl ⟨_, _, rfl, rfl, rfl⟩ ?_
                          refine xq rfl trivial (o_pick_f rfl rfl) ?_
                          refine xq rfl trivial (o_as rfl) ?_
                          refine xo_nil (xq_then (xw_ret ?_))
                          subst h
                          exact con_ret1 (.inl rfl) Try.results4 rfl [] (Kp.st (Kp.new hb13 (Kp.segNew (Cov.fresh hcB13_1o) Kp.nil))) (⟨rfl, rfl⟩)
                      · have hq280 : (decide ((cof_F fb13 tx4).1 = (ofR_F v13 tx4))) = false := hg280
                        have hp280 : ¬ ((cof_F fb13 tx4).1 = (ofR_F v13 tx4)) := of_decide_eq_false hq280
                        rw [if_neg hp280] at h
                        refine xs rfl ⟨_, _, rfl, rfl, rfl⟩ (xs rfl ⟨_, _, rfl, rfl, rfl⟩ (xs rfl ⟨_, _, rfl, rfl, rfl⟩ (xs rfl ⟨_, _, rfl, rfl, rfl⟩ (xs rfl ⟨_, _, rfl, rfl, rfl⟩ ?_))))
                        refine xq rfl trivial (o_pick_f rfl rfl) ?_
                        refine xq rfl trivial (o_mv rfl) ?_
                        refine xs rfl ⟨_, _, rfl, rfl, rfl⟩ (xs rfl ⟨_, _, rfl, rfl, rfl⟩ (xs rfl ⟨_, _, rfl, rfl, rfl⟩ (xs rfl ⟨_, _, rfl, rfl, rfl⟩ (xs rfl ⟨_, _, rfl, rfl, rfl⟩ (xs rfl ⟨_, _, rfl, rfl, rfl⟩ (xs rfl ⟨_, _, rfl, rfl, rfl⟩ ?_))))))
                        refine xq rfl trivial (o_pick_f rfl rfl) ?_
                        refine xq rfl trivial (o_mv rfl) ?_
                        refine xs rfl ⟨_, _, rfl, rfl, rfl⟩ (xs rfl ⟨_, _, rfl, rfl, rfl⟩ (xs rfl ⟨_, _, rfl, rfl, rfl⟩ (xs rfl ⟨_, _, rfl, rfl, rfl⟩ (xs rfl ⟨_, _, rfl, rfl, rfl⟩ (xs rfl ⟨_, _, rfl, rfl, rfl⟩ (xs rfl ⟨_, _, rfl, rfl, rfl⟩ (xs rfl ⟨_, _, rfl, rfl, rfl⟩ ?_)))))))
                        refine xs rfl ⟨_, _, rfl, rfl, rfl⟩ ?_
                        refine xq rfl trivial (o_pick_f rfl rfl) ?_
                        refine xq rfl trivial (o_as rfl) ?_
                        refine xo_nil (xq_then (xw_ret ?_))
                        subst h
                        exact con_ret1 (.inl rfl) Try.results4 rfl [] (Kp.st (Kp.new hb13 (Kp.segNew (Cov.fresh hcB13_1o) Kp.nil))) (⟨rfl, rfl⟩)
                    cases x2
                    rintro _ _ _ ⟨rfl, rfl, rfl⟩
                    replace h : acts16_k2b r := h
                    unfold acts16_k2b at h
                    refine xq_blk_ret (xq_then_ret ?_)
                    subst h
                    exact con_ret1 (.inl rfl) Try.results4 rfl [] (Kp.st (Kp.segNew (Cov.fresh hcB13_1o) (Kp.new hb13 Kp.nil))) (⟨rfl, rfl⟩)
                rintro _ _ _ ⟨B13_1o, rfl, rfl, rfl, hcB13_1o⟩
                replace h : acts16_k1b fb13 r := h
                unfold acts16_k1b at h
                refine xq_blk_ret (xq_then_ret ?_)
                subst h
                exact con_ret1 (.inl rfl) Try.results4 rfl [] (Kp.st (Kp.segNew (Cov.fresh hcB13_1o) (Kp.new hb13 Kp.nil))) (⟨rfl, rfl⟩)

end Go.Proofs.Yteomcjiiiilhmaa
