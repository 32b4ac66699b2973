/- The code answers as the relations say. -/
import Derived.Test.YteomcjiiiilhmaaTab
import Derived.Test.YteomcjiiiilhmaaG16S
import Derived.Test.YteomcjiiiilhmaaC16W
set_option maxHeartbeats 1000000
set_option linter.unusedVariables false
set_option linter.unusedSimpArgs false
set_option maxRecDepth 100000
namespace Go.Proofs.Yteomcjiiiilhmaa
open Go Go.E

theorem one16_con (acts0 : (List (Nat → Int))) (v0 : Value) (w : World) (hs0 : SL w 4 iv v0 acts0) (r : Bool) (h : one16_S acts0 r) : Con Try.prog 5 #[v0] w (Is (.bool r) []) := by
  unfold one16_S at h
  refine con_enter (n := 171) [(0, _)] Try.func5 rfl Try.ntmps5 rfl (lac rfl lan) ?_
  refine xw_seq (xw_region ?_)
  refine xq rfl trivial (o_as rfl) ?_
  refine xo_nil (xq_then (xw_seq (xw_seq (xw_region ?_))))
  obtain ⟨ho1, h⟩ := h
  refine xcallq rfl trivial kf6 rfl (fun w1 hw1 => alive16_c w1 ho1) ?_
  refine xq rfl trivial (o_not rfl) ?_
  refine xo_nil (xq_then ?_)
  refine xw_bool 21 rfl (fun hc2 => ?_) (fun hc2 => ?_)
  · have hq2 : (alive16_F) = false := (bnT hc2)
    have hp2 : ¬ ((alive16_F) = true) := bne' hq2
    rw [if_neg hp2] at h
    refine xw_cond_t rfl rfl (xw_seq (xw_region ?_))
    refine xq rfl trivial (o_as rfl) ?_
    refine xo_nil (xq_then (xw_ret (xq_then_ret ?_)))
    subst h
    exact con_ret1 (.inl rfl) Try.results5 rfl [] (fun _ h => h) (⟨rfl, rfl⟩)
  · have hq2 : (alive16_F) = true := (bnF hc2)
    have hp2 : (alive16_F) = true := hq2
    rw [if_pos hp2] at h
    refine xw_cond_f rfl rfl (xw_skip (xq_then (xw_seq (xw_seq (xw_region ?_)))))
    refine xq rfl trivial (o_mv rfl) ?_
    refine xq rfl trivial (o_lenL rfl Try.underlying22 rfl (SL.val hs0)) ?_
    refine xq rfl trivial (o_gtr rfl rfl) ?_
    refine xo_nil (xq_then ?_)
    refine xw_bool 24 rfl (fun hc3 => ?_) (fun hc3 => ?_)
    · have hq3 : (decide (100 < (acts0.length : Int))) = true := hc3
      have hp3 : 100 < (acts0.length : Int) := of_decide_eq_true hq3
      rw [if_pos hp3] at h
      refine xw_cond_t rfl rfl (xw_seq (xw_region ?_))
      refine xq rfl trivial (o_as rfl) ?_
      refine xo_nil (xq_then (xw_ret (xq_then_ret ?_)))
      subst h
      exact con_ret1 (.inl rfl) Try.results5 rfl [] (fun _ h => h) (⟨rfl, rfl⟩)
    · have hq3 : (decide (100 < (acts0.length : Int))) = false := hc3
      have hp3 : ¬ (100 < (acts0.length : Int)) := of_decide_eq_false hq3
      rw [if_neg hp3] at h
      refine xw_cond_f rfl rfl (xw_skip (xq_then (xw_seq (xw_region ?_))))
      refine xq rfl trivial (o_as rfl) ?_
      refine xo_nil (xq_then (xw_seq (xw_region ?_)))
      refine xq rfl trivial (o_mv rfl) ?_
      refine xoR rfl trivial (ot_in (l := [(0, _), (1, _)]) kf19 rfl Try.func19 rfl Try.ntmps19 rfl (lac rfl (lac rfl lan)) ?_)
      refine xw_seq (xw_region ?_)
      refine xq rfl trivial (o_as rfl) ?_
      refine xq rfl trivial (o_as rfl) ?_
      refine xo_nil (xq_then (xw_seq (xw_region ?_)))
      refine xq rfl trivial (o_mv rfl) ?_
      refine xq rfl trivial (o_mv rfl) ?_
      refine xoR rfl trivial (ot_in (l := [(0, _), (1, _)]) kf24 rfl Try.func24 rfl Try.ntmps24 rfl (lac rfl (lac rfl lan)) ?_)
      refine xw_seq (xw_region ?_)
      refine xq rfl trivial (o_as rfl) ?_
      refine xq rfl trivial (o_as rfl) ?_
      refine xo_nil (xq_then (xw_seq (xw_seq (xw_region ?_))))
      refine xq rfl trivial (o_mv rfl) ?_
      refine xq rfl trivial (o_eqn Try.underlying25 rfl rfl rfl rfl) ?_
      refine xo_nil (xq_then (xw_cond_t rfl rfl (xw_seq (xw_region ?_))))
      refine xq rfl trivial (o_mki rfl Try.underlying56 rfl) ?_
      refine xq rfl trivial (o_as rfl) ?_
      refine xq rfl trivial (o_as rfl) ?_
      refine xo_nil (xq_then (xw_ret (xq_then_ret ?_)))
      refine con_ret2 (.inl rfl) Try.results24 rfl rfl _ (fun _ h => h) (?_)
      refine xq rfl trivial (o_mv rfl) ?_
      refine xq rfl trivial (o_ext rfl rfl) ?_
      refine xq rfl trivial (o_ext rfl rfl) ?_
      refine xq rfl trivial (o_as rfl) ?_
      refine xq rfl trivial (o_as rfl) ?_
      refine xo_nil (xq_then (xw_seq (xw_seq (xw_region ?_))))
      refine xq rfl trivial (o_mv rfl) ?_
      refine xq rfl trivial (o_nen Try.underlying27 rfl rfl rfl rfl) ?_
      refine xo_nil (xq_then (xw_cond_t rfl rfl (xw_seq (xw_region ?_))))
      refine xq rfl trivial (o_mv rfl) ?_
      refine xq rfl trivial (o_as rfl) ?_
      refine xq rfl trivial (o_as rfl) ?_
      refine xo_nil (xq_then (xw_ret (xq_then_ret ?_)))
      refine con_ret2 (.inl rfl) Try.results19 rfl rfl _ (fun _ h => h) (?_)
      refine xq rfl trivial (o_mv rfl) ?_
      refine xq rfl trivial (o_ext rfl rfl) ?_
      refine xq rfl trivial (o_ext rfl rfl) ?_
      refine xq rfl trivial (o_as rfl) ?_
      refine xq rfl trivial (o_as rfl) ?_
      refine xo_nil (xq_then (xw_seq (xw_region ?_)))
      refine xq rfl trivial (o_mv rfl) ?_
      refine xoR rfl trivial (ot_in (l := [(0, _), (1, _)]) kf10 rfl Try.func10 rfl Try.ntmps10 rfl (lac rfl (lac rfl lan)) ?_)
      refine xw_seq (xw_region ?_)
      refine xq rfl trivial (o_as rfl) ?_
      refine xq rfl trivial (o_as rfl) ?_
      refine xo_nil (xq_then ?_)
      refine xw_scope ?_
      refine xw_seq (xw_seq (xw_region ?_))
      refine xq rfl trivial (o_mv rfl) ?_
      refine xq rfl trivial (o_eqn Try.underlying25 rfl rfl rfl rfl) ?_
      refine xo_nil (xq_then (xw_cond_t rfl rfl (xw_seq (xw_region ?_))))
      refine xq rfl trivial (o_mki rfl Try.underlying56 rfl) ?_
      refine xq rfl trivial (o_as rfl) ?_
      refine xq rfl trivial (o_as rfl) ?_
      refine xo_nil (xq_then (xw_ret (xq_then_ret ?_)))
      refine xq_scope_r ?_
      refine con_ret2 (.inl rfl) Try.results10 rfl rfl _ (fun _ h => h) (?_)
      refine xq rfl trivial (o_mv rfl) ?_
      refine xq rfl trivial (o_ext rfl rfl) ?_
      refine xq rfl trivial (o_ext rfl rfl) ?_
      refine xq rfl trivial (o_as rfl) ?_
      refine xq rfl trivial (o_as rfl) ?_
      refine xo_nil (xq_then (xw_seq (xw_seq (xw_region ?_))))
      refine xq rfl trivial (o_mv rfl) ?_
      refine xq rfl trivial (o_neq rfl rfl) ?_
      refine xq rfl trivial (o_mv rfl) ?_
      refine xq rfl ⟨_, rfl, rfl⟩ (o_mv rfl) ?_
      refine xcallq rfl ⟨_, rfl, rfl⟩ kf13 rfl (fun w1 hw1 => code_c 1 w1) ?_
      refine xq rfl ⟨_, rfl, rfl⟩ (o_neq rfl rfl) ?_
      refine xq rfl trivial (o_pick_f rfl rfl) ?_
      refine xq rfl trivial (o_mv rfl) ?_
      refine xo_bool 42 rfl (fun hg4 => ?_) (fun hg4 => ?_)
      · have hq4 : (decide ((code_F 1) = 1)) = false := (bnT hg4)
        have hp4 : ¬ ((code_F 1) = 1) := of_decide_eq_false hq4
        rw [if_neg hp4] at h
        refine xs rfl ⟨_, _, rfl, rfl, rfl⟩ (xs rfl ⟨_, _, rfl, rfl, rfl⟩ ?_)
        refine xq rfl trivial (o_pick_t rfl rfl) ?_
        refine xq rfl trivial (o_mv rfl) ?_
        refine xs rfl ⟨_, _, rfl, rfl, rfl⟩ (xs rfl ⟨_, _, rfl, rfl, rfl⟩ (xs rfl ⟨_, _, rfl, rfl, rfl⟩ ?_))
        refine xq rfl trivial (o_pick_t rfl rfl) ?_
        refine xq rfl trivial (o_mv rfl) ?_
        refine xs rfl ⟨_, _, rfl, rfl, rfl⟩ (xs rfl ⟨_, _, rfl, rfl, rfl⟩ (xs rfl ⟨_, _, rfl, rfl, rfl⟩ (xs rfl ⟨_, _, rfl, rfl, rfl⟩ ?_)))
        refine xq rfl trivial (o_pick_t rfl rfl) ?_
        refine xq rfl trivial (o_mv rfl) ?_
        refine xs rfl ⟨_, _, rfl, rfl, rfl⟩ (xs rfl ⟨_, _, rfl, rfl, rfl⟩ (xs rfl ⟨_, _, rfl, rfl, rfl⟩ (xs rfl ⟨_, _, rfl, rfl, rfl⟩ ?_)))
        refine xq rfl trivial (o_pick_t rfl rfl) ?_
        refine xq rfl trivial (o_mv rfl) ?_
        refine xs rfl ⟨_, _, rfl, rfl, rfl⟩ (xs rfl ⟨_, _, rfl, rfl, rfl⟩ (xs rfl ⟨_, _, rfl, rfl, rfl⟩ (xs rfl ⟨_, _, rfl, rfl, rfl⟩ ?_)))
        refine xq rfl trivial (o_pick_t rfl rfl) ?_
        refine xq rfl trivial (o_mv rfl) ?_
        refine xs rfl ⟨_, _, rfl, rfl, rfl⟩ (xs rfl ⟨_, _, rfl, rfl, rfl⟩ ?_)
        refine xq rfl trivial (o_pick_t rfl rfl) ?_
        refine xq rfl trivial (o_mv rfl) ?_
        refine xs rfl ⟨_, _, rfl, rfl, rfl⟩ (xs rfl ⟨_, _, rfl, rfl, rfl⟩ (xs rfl ⟨_, _, rfl, rfl, rfl⟩ (xs rfl ⟨_, _, rfl, rfl, rfl⟩ ?_)))
        refine xq rfl trivial (o_pick_t rfl rfl) ?_
        refine xo_nil (xq_then (xw_cond_t rfl rfl (xw_seq (xw_region ?_))))
        refine xq rfl trivial (o_as rfl) ?_
        refine xo_nil (xq_then (xw_ret (xq_then_ret ?_)))
        subst h
        exact con_ret1 (.inl rfl) Try.results5 rfl [] (fun _ h => h) (⟨rfl, rfl⟩)
      · have hq4 : (decide ((code_F 1) = 1)) = true := (bnF hg4)
        have hp4 : (code_F 1) = 1 := of_decide_eq_true hq4
        rw [if_pos hp4] at h
        refine xq rfl ⟨_, rfl, rfl⟩ (o_mv rfl) ?_
        refine xq rfl ⟨_, rfl, rfl⟩ (o_neq rfl rfl) ?_
        refine xq rfl trivial (o_pick_f rfl rfl) ?_
        refine xq rfl trivial (o_mv rfl) ?_
        refine xq rfl ⟨_, rfl, rfl⟩ (o_mv rfl) ?_
        refine xcallq rfl ⟨_, rfl, rfl⟩ kf13 rfl (fun w1 hw1 => code_c 1 w1) ?_
        refine xq rfl ⟨_, rfl, rfl⟩ (o_neq rfl rfl) ?_
        refine xq rfl trivial (o_pick_f rfl rfl) ?_
        refine xq rfl trivial (o_mv rfl) ?_
        refine xo_val 51 rfl (v' := .bool false) (congrArg Value.bool (by simpa using hp4)) ?_
        refine xq rfl ⟨_, rfl, rfl⟩ (o_mv rfl) ?_
        refine xoR rfl ⟨_, rfl, rfl⟩ (ot_in (l := [(0, _), (1, _), (2, _)]) kf21 rfl Try.func21 rfl Try.ntmps21 rfl (lac rfl (lac rfl (lac rfl lan))) ?_)
        refine xw_seq (xw_region ?_)
        refine xq rfl trivial (o_as rfl) ?_
        refine xo_nil (xq_then (xw_seq (xw_region ?_)))
        refine xq rfl trivial (o_mv rfl) ?_
        refine xq rfl trivial (o_mv rfl) ?_
        refine xoR rfl trivial (ot_in (l := [(0, _), (1, _)]) kf24 rfl Try.func24 rfl Try.ntmps24 rfl (lac rfl (lac rfl lan)) ?_)
        refine xw_seq (xw_region ?_)
        refine xq rfl trivial (o_as rfl) ?_
        refine xq rfl trivial (o_as rfl) ?_
        refine xo_nil (xq_then (xw_seq (xw_seq (xw_region ?_))))
        refine xq rfl trivial (o_mv rfl) ?_
        refine xq rfl trivial (o_eqn Try.underlying25 rfl rfl rfl rfl) ?_
        refine xo_nil (xq_then (xw_cond_t rfl rfl (xw_seq (xw_region ?_))))
        refine xq rfl trivial (o_mki rfl Try.underlying56 rfl) ?_
        refine xq rfl trivial (o_as rfl) ?_
        refine xq rfl trivial (o_as rfl) ?_
        refine xo_nil (xq_then (xw_ret (xq_then_ret ?_)))
        refine con_ret2 (.inl rfl) Try.results24 rfl rfl _ (fun _ h => h) (?_)
        refine xq rfl trivial (o_mv rfl) ?_
        refine xq rfl trivial (o_ext rfl rfl) ?_
        refine xq rfl trivial (o_ext rfl rfl) ?_
        refine xq rfl trivial (o_as rfl) ?_
        refine xq rfl trivial (o_as rfl) ?_
        refine xo_nil (xq_then (xw_seq (xw_seq (xw_region ?_))))
        refine xq rfl trivial (o_mv rfl) ?_
        refine xq rfl trivial (o_nen Try.underlying27 rfl rfl rfl rfl) ?_
        refine xo_nil (xq_then (xw_cond_t rfl rfl (xw_seq (xw_region ?_))))
        refine xq rfl trivial (o_mv rfl) ?_
        refine xq rfl trivial (o_as rfl) ?_
        refine xo_nil (xq_then (xw_ret (xq_then_ret ?_)))
        refine con_ret1 (.inl rfl) Try.results21 rfl _ (fun _ h => h) (?_)
        refine xcallq rfl ⟨_, rfl, rfl⟩ kf13 rfl (fun w1 hw1 => code_c 1 w1) ?_
        refine xq rfl ⟨_, rfl, rfl⟩ (o_neq rfl rfl) ?_
        refine xq rfl trivial (o_pick_f rfl rfl) ?_
        refine xq rfl trivial (o_mv rfl) ?_
        refine xo_val 57 rfl (v' := .bool false) (congrArg Value.bool (by simpa using hp4)) ?_
        refine xq rfl ⟨_, rfl, rfl⟩ (o_mv rfl) ?_
        refine xoR rfl ⟨_, rfl, rfl⟩ (ot_in (l := [(0, _), (1, _)]) kf12 rfl Try.func12 rfl Try.ntmps12 rfl (lac rfl (lac rfl lan)) ?_)
        refine xw_seq (xw_region ?_)
        refine xq rfl trivial (o_as rfl) ?_
        refine xo_nil (xq_then (xw_seq (xw_region ?_)))
        refine xq rfl trivial (o_mv rfl) ?_
        refine xq rfl trivial (o_mv rfl) ?_
        refine xoR rfl trivial (ot_in (l := [(0, _), (1, _)]) kf10 rfl Try.func10 rfl Try.ntmps10 rfl (lac rfl (lac rfl lan)) ?_)
        refine xw_seq (xw_region ?_)
        refine xq rfl trivial (o_as rfl) ?_
        refine xq rfl trivial (o_as rfl) ?_
        refine xo_nil (xq_then ?_)
        refine xw_scope ?_
        refine xw_seq (xw_seq (xw_region ?_))
        refine xq rfl trivial (o_mv rfl) ?_
        refine xq rfl trivial (o_eqn Try.underlying25 rfl rfl rfl rfl) ?_
        refine xo_nil (xq_then (xw_cond_t rfl rfl (xw_seq (xw_region ?_))))
        refine xq rfl trivial (o_mki rfl Try.underlying56 rfl) ?_
        refine xq rfl trivial (o_as rfl) ?_
        refine xq rfl trivial (o_as rfl) ?_
        refine xo_nil (xq_then (xw_ret (xq_then_ret ?_)))
        refine xq_scope_r ?_
        refine con_ret2 (.inl rfl) Try.results10 rfl rfl _ (fun _ h => h) (?_)
        refine xq rfl trivial (o_mv rfl) ?_
        refine xq rfl trivial (o_ext rfl rfl) ?_
        refine xq rfl trivial (o_ext rfl rfl) ?_
        refine xq rfl trivial (o_as rfl) ?_
        refine xq rfl trivial (o_as rfl) ?_
        refine xo_nil (xq_then (xw_seq (xw_seq (xw_region ?_))))
        refine xq rfl trivial (o_mv rfl) ?_
        refine xq rfl trivial (o_nen Try.underlying27 rfl rfl rfl rfl) ?_
        refine xo_nil (xq_then (xw_cond_t rfl rfl (xw_seq (xw_region ?_))))
        refine xq rfl trivial (o_mv rfl) ?_
        refine xq rfl trivial (o_as rfl) ?_
        refine xo_nil (xq_then (xw_ret (xq_then_ret ?_)))
        refine con_ret1 (.inl rfl) Try.results12 rfl _ (fun _ h => h) (?_)
        refine xcallq rfl ⟨_, rfl, rfl⟩ kf13 rfl (fun w1 hw1 => code_c 1 w1) ?_
        refine xq rfl ⟨_, rfl, rfl⟩ (o_neq rfl rfl) ?_
        refine xq rfl trivial (o_pick_f rfl rfl) ?_
        refine xq rfl trivial (o_mv rfl) ?_
        refine xo_val 63 rfl (v' := .bool false) (congrArg Value.bool (by simpa using hp4)) ?_
        refine xq rfl ⟨_, rfl, rfl⟩ (o_mv rfl) ?_
        refine xoR rfl ⟨_, rfl, rfl⟩ (ot_in (l := [(0, _), (1, _), (2, _)]) kf22 rfl Try.func22 rfl Try.ntmps22 rfl (lac rfl (lac rfl (lac rfl lan))) ?_)
        refine xw_seq (xw_region ?_)
        refine xq rfl trivial (o_as rfl) ?_
        refine xo_nil (xq_then (xw_seq (xw_region ?_)))
        refine xq rfl trivial (o_mv rfl) ?_
        refine xq rfl trivial (o_mv rfl) ?_
        refine xoR rfl trivial (ot_in (l := [(0, _), (1, _)]) kf24 rfl Try.func24 rfl Try.ntmps24 rfl (lac rfl (lac rfl lan)) ?_)
        refine xw_seq (xw_region ?_)
        refine xq rfl trivial (o_as rfl) ?_
        refine xq rfl trivial (o_as rfl) ?_
        refine xo_nil (xq_then (xw_seq (xw_seq (xw_region ?_))))
        refine xq rfl trivial (o_mv rfl) ?_
        refine xq rfl trivial (o_eqn Try.underlying25 rfl rfl rfl rfl) ?_
        refine xo_nil (xq_then (xw_cond_t rfl rfl (xw_seq (xw_region ?_))))
        refine xq rfl trivial (o_mki rfl Try.underlying56 rfl) ?_
        refine xq rfl trivial (o_as rfl) ?_
        refine xq rfl trivial (o_as rfl) ?_
        refine xo_nil (xq_then (xw_ret (xq_then_ret ?_)))
        refine con_ret2 (.inl rfl) Try.results24 rfl rfl _ (fun _ h => h) (?_)
        refine xq rfl trivial (o_mv rfl) ?_
        refine xq rfl trivial (o_ext rfl rfl) ?_
        refine xq rfl trivial (o_ext rfl rfl) ?_
        refine xq rfl trivial (o_as rfl) ?_
        refine xq rfl trivial (o_as rfl) ?_
        refine xo_nil (xq_then (xw_seq ?_))
        refine xw_block ?_
        refine xw_seq (xw_region ?_)
        refine xq rfl trivial (o_mv rfl) ?_
        refine xq rfl trivial (o_nen Try.underlying27 rfl rfl rfl rfl) ?_
        refine xq rfl trivial (o_as rfl) ?_
        refine xo_nil (xq_then (xw_cond_t rfl rfl (xw_seq (xw_region ?_))))
        refine xq rfl trivial (o_mv rfl) ?_
        refine xq rfl trivial (o_as rfl) ?_
        refine xo_nil (xq_then (xw_ret (xq_blk_ret (xq_then_ret ?_))))
        refine con_ret1 (.inl rfl) Try.results22 rfl _ (fun _ h => h) (?_)
        refine xcallq rfl ⟨_, rfl, rfl⟩ kf13 rfl (fun w1 hw1 => code_c 1 w1) ?_
        refine xq rfl ⟨_, rfl, rfl⟩ (o_neq rfl rfl) ?_
        refine xq rfl trivial (o_pick_f rfl rfl) ?_
        refine xq rfl trivial (o_mv rfl) ?_
        refine xo_val 69 rfl (v' := .bool false) (congrArg Value.bool (by simpa using hp4)) ?_
        refine xq rfl ⟨_, rfl, rfl⟩ (o_mv rfl) ?_
        refine xoR rfl ⟨_, rfl, rfl⟩ (ot_in (l := [(0, _), (1, _)]) kf11 rfl Try.func11 rfl Try.ntmps11 rfl (lac rfl (lac rfl lan)) ?_)
        refine xw_seq (xw_region ?_)
        refine xq rfl trivial (o_as rfl) ?_
        refine xo_nil (xq_then (xw_seq (xw_region ?_)))
        refine xq rfl trivial (o_mv rfl) ?_
        refine xq rfl trivial (o_mv rfl) ?_
        refine xoR rfl trivial (ot_in (l := [(0, _), (1, _)]) kf24 rfl Try.func24 rfl Try.ntmps24 rfl (lac rfl (lac rfl lan)) ?_)
        refine xw_seq (xw_region ?_)
        refine xq rfl trivial (o_as rfl) ?_
        refine xq rfl trivial (o_as rfl) ?_
        refine xo_nil (xq_then (xw_seq (xw_seq (xw_region ?_))))
        refine xq rfl trivial (o_mv rfl) ?_
        refine xq rfl trivial (o_eqn Try.underlying25 rfl rfl rfl rfl) ?_
        refine xo_nil (xq_then (xw_cond_t rfl rfl (xw_seq (xw_region ?_))))
        refine xq rfl trivial (o_mki rfl Try.underlying56 rfl) ?_
        refine xq rfl trivial (o_as rfl) ?_
        refine xq rfl trivial (o_as rfl) ?_
        refine xo_nil (xq_then (xw_ret (xq_then_ret ?_)))
        refine con_ret2 (.inl rfl) Try.results24 rfl rfl _ (fun _ h => h) (?_)
        refine xq rfl trivial (o_mv rfl) ?_
        refine xq rfl trivial (o_ext rfl rfl) ?_
        refine xq rfl trivial (o_ext rfl rfl) ?_
        refine xq rfl trivial (o_as rfl) ?_
        refine xq rfl trivial (o_as rfl) ?_
        refine xo_nil (xq_then (xw_seq ?_))
        refine xw_cut [(4, _)] (lc rfl ln) [] ?_ ?_
        · refine xw_region ?_
          refine xq rfl trivial (o_mv rfl) ?_
          refine xq rfl trivial (o_eqn Try.underlying27 rfl rfl rfl rfl) ?_
          refine xq rfl trivial (o_mv rfl) ?_
          refine xs rfl ⟨_, _, rfl, rfl, rfl⟩ (xs rfl ⟨_, _, rfl, rfl, rfl⟩ (xs rfl ⟨_, _, rfl, rfl, rfl⟩ (xs rfl ⟨_, _, rfl, rfl, rfl⟩ (xs rfl ⟨_, _, rfl, rfl, rfl⟩ ?_))))
          refine xq rfl trivial (o_pick_f rfl rfl) ?_
          refine xq rfl trivial (o_as rfl) ?_
          refine xo_nil ?_
          exact xq_cut ((lc rfl ln)) (fun _ h => h)
        · refine xq_then (xw_ret ?_)
          refine con_ret1 (.inl rfl) Try.results11 rfl _ (fun _ h => h) (?_)
          refine xq rfl trivial (o_pick_f rfl rfl) ?_
          refine xq rfl trivial (o_mv rfl) ?_
          refine xq rfl ⟨_, rfl, rfl⟩ (o_mv rfl) ?_
          refine xoR rfl ⟨_, rfl, rfl⟩ (ot_in (l := [(0, _), (1, _), (2, _)]) kf9 rfl Try.func9 rfl Try.ntmps9 rfl (lac rfl (lac rfl (lac rfl lan))) ?_)
          refine xw_seq (xw_region ?_)
          refine xq rfl trivial (o_as rfl) ?_
          refine xo_nil (xq_then (xw_seq (xw_region ?_)))
          refine xq rfl trivial (o_as rfl) ?_
          refine xo_nil (xq_then (xw_seq (xw_seq ?_)))
          refine xw_cut [(0, _), (1, _), (2, _), (7, _)] (lc rfl (lc rfl (lc rfl (lc rfl ln)))) [(23, .bool true)] ?_ ?_
          · refine xw_region ?_
            refine xq rfl trivial (o_mv rfl) ?_
            refine xq rfl trivial (o_eqn Try.underlying25 rfl rfl rfl rfl) ?_
            refine xq rfl trivial (o_mv rfl) ?_
            refine xs rfl ⟨_, _, rfl, rfl, rfl⟩ (xs rfl ⟨_, _, rfl, rfl, rfl⟩ ?_)
            refine xq rfl trivial (o_pick_t rfl rfl) ?_
            refine xq rfl trivial (o_mv rfl) ?_
            refine xs rfl ⟨_, _, rfl, rfl, rfl⟩ (xs rfl ⟨_, _, rfl, rfl, rfl⟩ ?_)
            refine xq rfl trivial (o_pick_t rfl rfl) ?_
            refine xq rfl trivial (o_mv rfl) ?_
            refine xs rfl ⟨_, _, rfl, rfl, rfl⟩ (xs rfl ⟨_, _, rfl, rfl, rfl⟩ ?_)
            refine xq rfl trivial (o_pick_t rfl rfl) ?_
            refine xo_nil ?_
            exact xq_cut ((lce rfl (by first | rfl | (simp only [hq2, hq3, hq4, if_pos hp2, if_neg hp3, if_pos hp4, bS]; done) | (simp only [hq2, hq3, hq4, if_pos hp2, if_neg hp3, if_pos hp4, bS, reduceIte, Bool.false_eq_true]; done) | (simp [hp2, hp3, hp4]; done) | (simp_all; done)) (lc rfl (lc rfl (lc rfl (lc rfl ln)))))) (fun _ h => h)
          · refine xq_then (xw_cond_t rfl rfl (xw_seq (xw_region ?_)))
            refine xq rfl trivial (o_as rfl) ?_
            refine xo_nil (xq_then (xw_ret (xq_then_ret ?_)))
            refine con_ret1 (.inl rfl) Try.results9 rfl _ (fun _ h => h) (?_)
            refine xq rfl ⟨_, rfl, rfl⟩ (o_lenL (l := ([] : List Int)) rfl Try.underlying33 rfl ⟨none, 0, rfl⟩) ?_
            refine xq rfl ⟨_, rfl, rfl⟩ (o_neq rfl rfl) ?_
            refine xq rfl trivial (o_pick_f rfl rfl) ?_
            refine xo_nil (xq_then (xw_cond_f rfl rfl (xw_skip (xq_then (xw_seq (xw_region ?_))))))
            refine xoR rfl trivial (ot_in (l := [(0, _)]) kf7 rfl Try.func7 rfl Try.ntmps7 rfl (lac rfl lan) ?_)
            refine xw_seq (xw_region ?_)
            refine xq rfl trivial (o_as rfl) ?_
            refine xq rfl trivial (o_as rfl) ?_
            refine xo_nil (xq_then (xw_seq (xw_seq ?_)))
            refine xw_cut [(0, _)] (lc rfl ln) [(9, .bool false)] ?_ ?_
            · refine xw_region ?_
              refine xq rfl trivial (o_mv rfl) ?_
              refine xq rfl trivial (o_lss rfl rfl) ?_
              refine xq rfl trivial (o_mv rfl) ?_
              refine xq rfl ⟨_, rfl, rfl⟩ (o_mv rfl) ?_
              refine xq rfl ⟨_, rfl, rfl⟩ (o_gtr rfl rfl) ?_
              refine xq rfl trivial (o_pick_f rfl rfl) ?_
              refine xo_nil ?_
              exact xq_cut ((lce rfl (by first | rfl | (simp only [hq2, hq3, hq4, if_pos hp2, if_neg hp3, if_pos hp4, bS]; done) | (simp only [hq2, hq3, hq4, if_pos hp2, if_neg hp3, if_pos hp4, bS, reduceIte, Bool.false_eq_true]; done) | (simp [hp2, hp3, hp4]; done) | (simp_all; done)) (lc rfl ln))) (fun _ h => h)
            · refine xq_then (xw_cond_f rfl rfl (xw_skip (xq_then (xw_seq (xw_region ?_)))))
              refine xq rfl trivial (o_mv rfl) ?_
              refine xq rfl trivial (o_buildM (k := (kPA 1 3 (kS [2]))) (m := (updI (fun _ => 0) 0 8)) fk61 ze61 (.one fl61_0 rfl rfl rfl (.nil _)) (fun i hi => match i, hi with | 0, _ => rfl | 1, _ => rfl | 2, _ => rfl | 3, _ => rfl | 4, _ => rfl | 5, _ => rfl | 6, _ => rfl | 7, _ => rfl | 8, _ => rfl | 9, _ => rfl | 10, _ => rfl | 11, _ => rfl | 12, _ => rfl | 13, _ => rfl | 14, _ => rfl | 15, _ => rfl | 16, _ => rfl | 17, _ => rfl | 18, _ => rfl | 19, _ => rfl | 20, _ => rfl | 21, _ => rfl | 22, _ => rfl | 23, _ => rfl | 24, _ => rfl | 25, _ => rfl | 26, _ => rfl | 27, _ => rfl | q + 28, h => absurd h (by omega))) ?_
              refine xo rfl trivial (o_boxA rfl) ?_
              rintro _ _ ⟨b13, hb13, rfl, rfl⟩
              refine xq rfl trivial (o_as rfl) ?_
              refine xq rfl trivial (o_as rfl) ?_
              refine xo_nil (xq_then (xw_ret ?_))
              refine con_ret2 (.inl rfl) Try.results7 rfl rfl _ (fun _ h => h) (?_)
              refine xq rfl trivial (o_mv rfl) ?_
              refine xq rfl trivial (o_ext rfl rfl) ?_
              refine xq rfl trivial (o_ext rfl rfl) ?_
              refine xq rfl trivial (o_as rfl) ?_
              refine xq rfl trivial (o_as rfl) ?_
              refine xo_nil (xq_then (xw_seq (xw_seq ?_)))
              refine xw_cut [(0, _), (8, _)] (lc rfl (lc rfl ln)) [(88, .bool false)] ?_ ?_
              · refine xw_region ?_
                refine xq rfl trivial (o_mv rfl) ?_
                refine xq rfl trivial (o_eqn Try.underlying25 rfl rfl rfl rfl) ?_
                refine xq rfl trivial (o_mv rfl) ?_
                refine xq rfl ⟨_, rfl, rfl⟩ (o_mv rfl) ?_
                refine xq rfl ⟨_, rfl, rfl⟩ (o_nen Try.underlying27 rfl rfl rfl rfl) ?_
                refine xq rfl trivial (o_pick_f rfl rfl) ?_
                refine xo_nil ?_
                exact xq_cut ((lce rfl (by first | rfl | (simp only [hq2, hq3, hq4, if_pos hp2, if_neg hp3, if_pos hp4, bS]; done) | (simp only [hq2, hq3, hq4, if_pos hp2, if_neg hp3, if_pos hp4, bS, reduceIte, Bool.false_eq_true]; done) | (simp [hp2, hp3, hp4]; done) | (simp_all; done)) (lc rfl (lc rfl ln)))) (fun _ h => h)
              · refine xq_then (xw_cond_f rfl rfl (xw_skip (xq_then (xw_seq (xw_seq (xw_region ?_))))))
                refine xq rfl trivial (o_as rfl) ?_
                refine xo_nil (xq_then ?_)
                refine xw_block ?_
                obtain ⟨x1, hx1, h⟩ := h
                refine xw_wh (fun s e H => match s with | (i10, fb13) => e = [(0, v0), (8, .pointer (some ⟨b13, 0, none⟩)), (10, .int .i64 i10)] ∧ H = (b13, BK 28 (mv (kPA 1 3 (kS [2])) fb13) 61) :: ([])) (fun x ex e H => match x with | .inl fb13 => ex = .exit 0 ∧ e = [] ∧ H = (b13, BK 28 (mv (kPA 1 3 (kS [2])) fb13) 61) :: ([]) | .inr fb13 => ex = .ret ∧ e = [(2, .bool false)] ∧ H = (b13, BK 28 (mv (kPA 1 3 (kS [2])) fb13) 61) :: ([])) hx1 ⟨[(0, v0), (8, .pointer (some ⟨b13, 0, none⟩)), (10, .int .i64 0)], (b13, BK 28 (mv (kPA 1 3 (kS [2])) (updI (fun _ => 0) 0 8)) 61) :: ([]), (lc rfl (lc rfl (lc rfl ln))), fun _ h => h, ⟨rfl, rfl⟩⟩ ?_ ?_
                · rintro ⟨i10, fb13⟩ o _ _ ⟨rfl, rfl⟩ hb
                  have h : one16_l1 acts0 i10 fb13 o := hb
                  clear hb
                  unfold one16_l1 at h
                  refine xw_seq (xw_seq (xw_region ?_))
                  refine xq rfl trivial (o_mv rfl) ?_
                  refine xq rfl trivial (o_mv rfl) ?_
                  refine xq rfl trivial (o_lenL rfl Try.underlying22 rfl (SL.val hs0)) ?_
                  refine xq rfl trivial (o_lss rfl rfl) ?_
                  refine xo_nil (xq_then ?_)
                  refine xw_bool 92 rfl (fun hc9 => ?_) (fun hc9 => ?_)
                  · have hq9 : (decide (i10 < (acts0.length : Int))) = true := hc9
                    have hp9 : i10 < (acts0.length : Int) := of_decide_eq_true hq9
                    rw [if_pos hp9] at h
                    refine xw_cond_t rfl rfl (xw_skip (xq_then (xw_seq ?_)))
                    refine xw_block ?_
                    refine xw_seq (xw_region ?_)
                    refine xo rfl trivial (o_alloc ze52 rfl) ?_
                    rintro _ _ ⟨b11, hb11, rfl, rfl⟩
                    refine xo_nil (xq_then (xw_seq (xw_region ?_)))
                    refine xo rfl trivial (o_alloc ze53 rfl) ?_
                    rintro _ _ ⟨b12, hb12, rfl, rfl⟩
                    refine xo_nil (xq_then (xw_seq (xw_seq (xw_region ?_))))
                    refine xq rfl trivial (o_as rfl) ?_
                    refine xo_nil (xq_then ?_)
                    refine xw_block ?_
                    obtain ⟨x2, hx2, h⟩ := h
                    refine xw_wh (fun s e H => match s with | (k13, fb12, fb11) => e = [(0, v0), (8, .pointer (some ⟨b13, 0, none⟩)), (10, .int .i64 i10), (11, .pointer (some ⟨b11, 0, none⟩)), (12, .pointer (some ⟨b12, 0, none⟩)), (13, .int .i64 k13)] ∧ H = (b12, BK 9 (iv fb12) 53) :: ((b11, BK 9 (mv kT fb11) 52) :: ((b13, BK 28 (mv (kPA 1 3 (kS [2])) fb13) 61) :: ([])))) (fun s ex e H => match s with | (fb12, fb11) => ex = .exit 2 ∧ e = [(0, v0), (8, .pointer (some ⟨b13, 0, none⟩)), (10, .int .i64 i10), (11, .pointer (some ⟨b11, 0, none⟩)), (12, .pointer (some ⟨b12, 0, none⟩))] ∧ H = (b12, BK 9 (iv fb12) 53) :: ((b11, BK 9 (mv kT fb11) 52) :: ((b13, BK 28 (mv (kPA 1 3 (kS [2])) fb13) 61) :: ([])))) hx2 ⟨[(0, v0), (8, .pointer (some ⟨b13, 0, none⟩)), (10, .int .i64 i10), (11, .pointer (some ⟨b11, 0, none⟩)), (12, .pointer (some ⟨b12, 0, none⟩)), (13, .int .i64 1)], (b12, BK 9 (iv (fun _ => 0)) 53) :: ((b11, BK 9 (mv kT (fun _ => 0)) 52) :: ((b13, BK 28 (mv (kPA 1 3 (kS [2])) fb13) 61) :: ([]))), (lc rfl (lc rfl (lc rfl (lc rfl (lc rfl (lc rfl ln)))))), fun _ h => h, ⟨rfl, rfl⟩⟩ ?_ ?_
                    · rintro ⟨k13, fb12, fb11⟩ o _ _ ⟨rfl, rfl⟩ hb
                      have h : one16_l2 fb13 k13 fb12 fb11 o := hb
                      clear hb
                      unfold one16_l2 at h
                      refine xw_seq (xw_seq (xw_region ?_))
                      refine xq rfl trivial (o_mv rfl) ?_
                      refine xq rfl trivial (o_leq rfl rfl) ?_
                      refine xo_nil (xq_then ?_)
                      refine xw_bool 96 rfl (fun hc10 => ?_) (fun hc10 => ?_)
                      · have hq10 : (decide (k13 ≤ 8)) = true := hc10
                        have hp10 : k13 ≤ 8 := of_decide_eq_true hq10
                        rw [if_pos hp10] at h
                        refine xw_cond_t rfl rfl (xw_skip (xq_then (xw_seq ?_)))
                        refine xw_block ?_
                        refine xw_seq (xw_region ?_)
                        refine xq rfl trivial (o_mv rfl) ?_
                        refine xq rfl trivial (o_mv rfl) ?_
                        refine xq rfl trivial (o_mv rfl) ?_
                        obtain ⟨ho11, h⟩ := h
                        refine xo rfl trivial (OT.st (fun _ h => St.permI [2, 0, 1] [[(b12, _)], [(b11, _)], [(b13, _)]] rfl h) (ot_callF (Cs := [[(b13, _)]]) (Rs := [[(b12, _)], [(b11, _)]]) kf11 rfl (fun w1 hw1 => calive_c _ _ _ w1 (St.hasC hw1) ho11) (fun _ _ _ h => h.1))) ?_
                        rintro _ _ ⟨w1, _, rfl, hle, -, rfl, rfl⟩
                        refine xo_st ((b13, BK 28 (mv (kPA 1 3 (kS [2])) fb13) 61) :: ((b12, BK 9 (iv fb12) 53) :: ((b11, BK 9 (mv kT fb11) 52) :: ([])))) (fun _ h => h) ?_
                        refine xq rfl trivial (o_not rfl) ?_
                        obtain ⟨ho14, h⟩ := h
                        refine xq rfl trivial (o_ixa ea52 rfl rfl ho14 rfl) ?_
                        refine xq0 trivial (o_stMB rfl rfl ts4 (List.Mem.tail _ (List.Mem.tail _ (List.Mem.head _))) (by have := ho14; omega) rfl (.there _ _ _ _ _ (.there _ _ _ _ _ (.here _ _ _ _)))) ?_
                        refine xo_nil (xq_then (xw_region ?_))
                        refine xq rfl trivial (o_mv rfl) ?_
                        refine xq rfl trivial (o_mv rfl) ?_
                        refine xq rfl trivial (o_mv rfl) ?_
                        obtain ⟨ho15, h⟩ := h
                        refine xo rfl trivial (OT.st (fun _ h => h) (ot_callF (Cs := [[(b13, _)]]) (Rs := [[(b12, _)], [(b11, _)]]) kf19 rfl (fun w1 hw1 => cnow_c _ _ _ w1 (St.hasC hw1) ho15) (fun _ _ _ h => h.1))) ?_
                        rintro _ _ ⟨w1, _, rfl, hle, -, rfl, rfl⟩
                        refine xo_st ((b13, BK 28 (mv (kPA 1 3 (kS [2])) fb13) 61) :: ((b12, BK 9 (iv fb12) 53) :: ((b11, BK 9 (mv kT (updI fb11 (0 + (k13.toNat * 1)) (bI (!((calive_F fb13 k13)))))) 52) :: ([])))) (fun _ h => h) ?_
                        refine xq rfl trivial (o_mv rfl) ?_
                        refine xq rfl trivial (o_ext rfl rfl) ?_
                        refine xq rfl trivial (o_ext rfl rfl) ?_
                        obtain ⟨ho18, h⟩ := h
                        refine xq rfl trivial (o_ixa ea53 rfl rfl ho18 rfl) ?_
                        refine xq0 trivial (o_stI rfl rfl ts3 (List.Mem.tail _ (List.Mem.head _)) (by have := ho18; omega) (.there _ _ _ _ _ (.here _ _ _ _))) ?_
                        refine xo_nil ?_
                        refine xq_blk 3 ?_
                        refine xq_then (xw_region ?_)
                        refine xq rfl trivial (o_mv rfl) ?_
                        obtain ⟨ho19, h⟩ := h
                        refine xq rfl trivial (o_add rfl rfl rfl ho19) ?_
                        refine xq rfl trivial (o_as rfl) ?_
                        refine xo_nil ?_
                        exact xq_next (s' := ((k13 + 1, (updI fb12 (0 + (k13.toNat * 1)) ((cnow_F fb13 k13).1)), (updI fb11 (0 + (k13.toNat * 1)) (bI (!((calive_F fb13 k13)))))) : Int × (Nat → Int) × (Nat → Int))) (e' := [(0, v0), (8, .pointer (some ⟨b13, 0, none⟩)), (10, .int .i64 i10), (11, .pointer (some ⟨b11, 0, none⟩)), (12, .pointer (some ⟨b12, 0, none⟩)), (13, .int .i64 (k13 + 1))]) ((b12, BK 9 (iv (updI fb12 (0 + (k13.toNat * 1)) ((cnow_F fb13 k13).1))) 53) :: ((b11, BK 9 (mv kT (updI fb11 (0 + (k13.toNat * 1)) (bI (!((calive_F fb13 k13)))))) 52) :: ((b13, BK 28 (mv (kPA 1 3 (kS [2])) fb13) 61) :: ([])))) (lc rfl (lc rfl (lc rfl (lc rfl (lc rfl (lc rfl ln)))))) (fun _ h => St.permI [1, 2, 0] [[(b13, _)], [(b12, _)], [(b11, _)]] rfl (h)) h ⟨rfl, rfl⟩
                      · have hq10 : (decide (k13 ≤ 8)) = false := hc10
                        have hp10 : ¬ (k13 ≤ 8) := of_decide_eq_false hq10
                        rw [if_neg hp10] at h
                        refine xw_cond_f rfl rfl (xw_exit (xq_then_exit ?_))
                        exact xq_out (r := ((fb12, fb11) : (Nat → Int) × (Nat → Int))) (e' := [(0, v0), (8, .pointer (some ⟨b13, 0, none⟩)), (10, .int .i64 i10), (11, .pointer (some ⟨b11, 0, none⟩)), (12, .pointer (some ⟨b12, 0, none⟩))]) ((b12, BK 9 (iv fb12) 53) :: ((b11, BK 9 (mv kT fb11) 52) :: ((b13, BK 28 (mv (kPA 1 3 (kS [2])) fb13) 61) :: ([])))) (lc rfl (lc rfl (lc rfl (lc rfl (lc rfl ln))))) (fun _ h => h) h (by intro hh; cases hh) ⟨rfl, rfl, rfl⟩
                    · obtain ⟨fb12, fb11⟩ := x2
                      rintro _ _ _ ⟨rfl, rfl, rfl⟩
                      replace h : one16_k2a acts0 i10 fb13 fb12 fb11 o := h
                      unfold one16_k2a at h
                      refine xq_blk_eq ?_
                      refine xq_then (xw_seq (xw_region ?_))
                      refine xq rfl trivial (o_mv rfl) ?_
                      refine xq rfl trivial (o_mv rfl) ?_
                      refine xq rfl trivial (o_mv rfl) ?_
                      obtain ⟨ho20, h⟩ := h
                      refine xq rfl trivial (o_ixL el22 rfl rfl (fun w hw => (hs0.keep hw (Fr.cons hb12 (Fr.cons hb11 (Fr.cons hb13 Fr.nil))))) rfl ho20) ?_
                      refine xq rfl trivial (o_ldLI rfl ts32 rfl (fun w hw => (hs0.keep hw (Fr.cons hb12 (Fr.cons hb11 (Fr.cons hb13 Fr.nil))))) (toNat_lt ho20) rfl) ?_
                      obtain ⟨ho21, h⟩ := h
                      refine xo rfl trivial (OT.st (fun _ h => St.permI [2, 0, 1] [[(b12, _)], [(b11, _)], [(b13, _)]] rfl h) (ot_callF (Cs := [[(b13, _)]]) (Rs := [[(b12, _)], [(b11, _)]]) kf8 rfl (fun w1 hw1 => act16_c _ _ _ w1 (St.hasC hw1) ho21) (fun _ _ _ h => h.1))) ?_
                      rintro _ _ ⟨w1, _, rfl, hle, -, rfl, rfl⟩
                      refine xo_st ((b13, BK 28 (mv (kPA 1 3 (kS [2])) ((act16_F fb13 (acts0[i10.toNat]!)).2)) 61) :: ((b12, BK 9 (iv fb12) 53) :: ((b11, BK 9 (mv kT fb11) 52) :: ([])))) (fun _ h => h) ?_
                      refine xo_nil (xq_then (xw_seq (xw_region ?_)))
                      refine xo rfl trivial (o_mkmap (α := Bool) (cv := kB) kt3 Try.underlying54) ?_
                      rintro vs24 _ ⟨Bs24, rfl, hns24, hJs24⟩
                      have hcBs24 := hns24
                      refine xq rfl trivial (o_as rfl) ?_
                      refine xo_nil (xq_then (xw_seq (xw_region ?_)))
                      refine xq rfl trivial (o_as rfl) ?_
                      refine xo_nil (xq_then ?_)
                      refine xw_block ?_
                      obtain ⟨x3, hx3, h⟩ := h
                      refine xw_wh (fun s e H => match s with | (seen14, k15) => ∃ (v14_3 : Value) (B14_3 : GH), e = [(0, v0), (8, .pointer (some ⟨b13, 0, none⟩)), (10, .int .i64 i10), (11, .pointer (some ⟨b11, 0, none⟩)), (12, .pointer (some ⟨b12, 0, none⟩)), (14, v14_3), (15, .int .i64 k15)] ∧ H = B14_3 ++ ((b13, BK 28 (mv (kPA 1 3 (kS [2])) ((act16_F fb13 (acts0[i10.toNat]!)).2)) 61) :: ((b12, BK 9 (iv fb12) 53) :: ((b11, BK 9 (mv kT fb11) 52) :: ([])))) ∧ MJ kI kB ieq B14_3 v14_3 seen14 ∧ Cov w [] B14_3) (fun x ex e H => match x with | .inl _ => ∃ (B14_3o : GH), ex = .exit 4 ∧ e = [(0, v0), (8, .pointer (some ⟨b13, 0, none⟩)), (10, .int .i64 i10)] ∧ H = B14_3o ++ ((b13, BK 28 (mv (kPA 1 3 (kS [2])) ((act16_F fb13 (acts0[i10.toNat]!)).2)) 61) :: ((b12, BK 9 (iv fb12) 53) :: ((b11, BK 9 (mv kT fb11) 52) :: ([])))) ∧ Cov w [] B14_3o | .inr _ => ∃ (B14_3o : GH), ex = .ret ∧ e = [(2, .bool false)] ∧ H = B14_3o ++ ((b13, BK 28 (mv (kPA 1 3 (kS [2])) ((act16_F fb13 (acts0[i10.toNat]!)).2)) 61) :: ((b12, BK 9 (iv fb12) 53) :: ((b11, BK 9 (mv kT fb11) 52) :: ([])))) ∧ Cov w [] B14_3o) hx3 ⟨[(0, v0), (8, .pointer (some ⟨b13, 0, none⟩)), (10, .int .i64 i10), (11, .pointer (some ⟨b11, 0, none⟩)), (12, .pointer (some ⟨b12, 0, none⟩)), (14, vs24), (15, .int .i64 1)], Bs24 ++ ((b13, BK 28 (mv (kPA 1 3 (kS [2])) ((act16_F fb13 (acts0[i10.toNat]!)).2)) 61) :: ((b12, BK 9 (iv fb12) 53) :: ((b11, BK 9 (mv kT fb11) 52) :: ([])))), (lc rfl (lc rfl (lc rfl (lc rfl (lc rfl (lc rfl (lc rfl ln))))))), fun _ h => h, ⟨vs24, Bs24, rfl, rfl, hJs24, hcBs24⟩⟩ ?_ ?_
                      · rintro ⟨seen14, k15⟩ o _ _ ⟨v14_3, B14_3, rfl, rfl, hJ14_3, hcB14_3⟩ hb
                        have h : one16_l3 acts0 i10 fb13 fb12 fb11 seen14 k15 o := hb
                        clear hb
                        unfold one16_l3 at h
                        refine xw_seq (xw_seq (xw_region ?_))
                        refine xq rfl trivial (o_mv rfl) ?_
                        refine xq rfl trivial (o_leq rfl rfl) ?_
                        refine xo_nil (xq_then ?_)
                        refine xw_bool 121 rfl (fun hc25 => ?_) (fun hc25 => ?_)
                        · have hq25 : (decide (k15 ≤ 8)) = true := hc25
                          have hp25 : k15 ≤ 8 := of_decide_eq_true hq25
                          rw [if_pos hp25] at h
                          refine xw_cond_t rfl rfl (xw_skip (xq_then (xw_seq ?_)))
                          refine xw_block ?_
                          refine xw_seq (xw_region ?_)
                          refine xq rfl trivial (o_mv rfl) ?_
                          refine xq rfl trivial (o_mv rfl) ?_
                          obtain ⟨ho26, h⟩ := h
                          refine xo rfl trivial (OT.st (fun _ h => St.permI [1, 0, 2, 3] [B14_3, [(b13, _)], [(b12, _)], [(b11, _)]] rfl h) (ot_callF (Cs := [[(b13, _)]]) (Rs := [B14_3, [(b12, _)], [(b11, _)]]) kf19 rfl (fun w1 hw1 => cnow_c _ _ _ w1 (St.hasC hw1) ho26) (fun _ _ _ h => h.1))) ?_
                          rintro _ _ ⟨w1, _, rfl, hle, -, rfl, rfl⟩
                          refine xo_st ((b13, BK 28 (mv (kPA 1 3 (kS [2])) ((act16_F fb13 (acts0[i10.toNat]!)).2)) 61) :: (B14_3 ++ ((b12, BK 9 (iv fb12) 53) :: ((b11, BK 9 (mv kT fb11) 52) :: ([]))))) (fun _ h => h) ?_
                          refine xq rfl trivial (o_mv rfl) ?_
                          refine xq rfl trivial (o_ext rfl rfl) ?_
                          refine xq rfl trivial (o_ext rfl rfl) ?_
                          refine xq rfl trivial (o_as rfl) ?_
                          refine xq rfl trivial (o_as rfl) ?_
                          refine xo_nil (xq_then (xw_seq (xw_seq (xw_region ?_))))
                          refine xq rfl trivial (o_mv rfl) ?_
                          obtain ⟨ho29, h⟩ := h
                          refine xq rfl trivial (o_ixa ea52 rfl rfl ho29 rfl) ?_
                          refine xq rfl trivial (o_ld (v := .bool (nz (fb11 (0 + (k15.toNat * 1))))) rfl ts4 (List.Mem.tail _ (List.mem_append_right _ (List.Mem.tail _ (List.Mem.head _)))) (by have := ho29; omega) (mv_b rfl)) ?_
                          refine xq rfl trivial (o_mv rfl) ?_
                          refine xo_bool 133 rfl (fun hg30 => ?_) (fun hg30 => ?_)
                          · have hq30 : ((nz (fb11 (0 + (k15.toNat * 1))))) = true := hg30
                            have hp30 : ((nz (fb11 (0 + (k15.toNat * 1))))) = true := hq30
                            rw [if_pos hp30] at h
                            refine xq rfl ⟨_, rfl, rfl⟩ (o_mv rfl) ?_
                            refine xq rfl ⟨_, rfl, rfl⟩ (o_mv rfl) ?_
                            obtain ⟨ho31, h⟩ := h
                            refine xo rfl ⟨_, rfl, rfl⟩ (OT.st (fun _ h => h) (ot_callF (Cs := [[(b13, _)]]) (Rs := [B14_3, [(b12, _)], [(b11, _)]]) kf11 rfl (fun w1 hw1 => calive_c _ _ _ w1 (St.hasC hw1) ho31) (fun _ _ _ h => h.1))) ?_
                            rintro _ _ ⟨w1, _, rfl, hle, -, rfl, rfl⟩
                            refine xo_st ((b13, BK 28 (mv (kPA 1 3 (kS [2])) ((act16_F fb13 (acts0[i10.toNat]!)).2)) 61) :: (B14_3 ++ ((b12, BK 9 (iv fb12) 53) :: ((b11, BK 9 (mv kT fb11) 52) :: ([]))))) (fun _ h => h) ?_
                            refine xq rfl ⟨_, rfl, rfl⟩ (o_mv rfl) ?_
                            refine xo_bool 137 rfl (fun hg34 => ?_) (fun hg34 => ?_)
                            · have hq34 : ((calive_F ((act16_F fb13 (acts0[i10.toNat]!)).2) k15)) = true := hg34
                              have hp34 : ((calive_F ((act16_F fb13 (acts0[i10.toNat]!)).2) k15)) = true := hq34
                              rw [if_pos hp34] at h
                              refine xs rfl ⟨_, _, rfl, rfl, rfl⟩ (xs rfl ⟨_, _, rfl, rfl, rfl⟩ (xs rfl ⟨_, _, rfl, rfl, rfl⟩ (xs rfl ⟨_, _, rfl, rfl, rfl⟩ (xs rfl ⟨_, _, rfl, rfl, rfl⟩ (xs rfl ⟨_, _, rfl, rfl, rfl⟩ (xs rfl ⟨_, _, rfl, rfl, rfl⟩ (xs rfl ⟨_, _, rfl, rfl, rfl⟩ ?_)))))))
                              refine xs rfl ⟨_, _, rfl, rfl, rfl⟩ ?_
                              refine xq rfl ⟨_, rfl, rfl⟩ (o_pick_t rfl rfl) ?_
                              refine xq rfl trivial (o_pick_t rfl rfl) ?_
                              refine xo_nil (xq_then (xw_cond_t rfl rfl (xw_seq (xw_region ?_))))
                              refine xq rfl trivial (o_as rfl) ?_
                              refine xo_nil (xq_then (xw_ret (xq_then_ret (xq_blk_ret (xq_then_ret ?_)))))
                              exact xq_out (r := (.inr () : (Unit) ⊕ (Unit))) (e' := [(2, .bool false)]) (B14_3 ++ ((b13, BK 28 (mv (kPA 1 3 (kS [2])) ((act16_F fb13 (acts0[i10.toNat]!)).2)) 61) :: ((b12, BK 9 (iv fb12) 53) :: ((b11, BK 9 (mv kT fb11) 52) :: ([]))))) (lc rfl ln) (fun _ h => St.permI [1, 0, 2, 3] [[(b13, _)], B14_3, [(b12, _)], [(b11, _)]] rfl (h)) h (by intro hh; cases hh) ⟨B14_3, rfl, rfl, rfl, hcB14_3⟩
                            · have hq34 : ((calive_F ((act16_F fb13 (acts0[i10.toNat]!)).2) k15)) = false := hg34
                              have hp34 : ¬ (((calive_F ((act16_F fb13 (acts0[i10.toNat]!)).2) k15)) = true) := bne' hq34
                              rw [if_neg hp34] at h
                              refine xq rfl ⟨_, rfl, rfl⟩ (o_mv rfl) ?_
                              refine xq rfl ⟨_, rfl, rfl⟩ (o_mv rfl) ?_
                              obtain ⟨ho35, h⟩ := h
                              refine xq rfl ⟨_, rfl, rfl⟩ (o_ixa ea53 rfl rfl ho35 rfl) ?_
                              refine xq rfl ⟨_, rfl, rfl⟩ (o_ldI (v := fb12 (0 + (k15.toNat * 1))) rfl ts3 (List.Mem.tail _ (List.mem_append_right _ (List.Mem.head _))) (by have := ho35; omega) rfl) ?_
                              refine xq rfl ⟨_, rfl, rfl⟩ (o_neq rfl rfl) ?_
                              refine xq rfl ⟨_, rfl, rfl⟩ (o_mv rfl) ?_
                              refine xo_bool 143 rfl (fun hg36 => ?_) (fun hg36 => ?_)
                              · have hq36 : (decide ((cnow_F ((act16_F fb13 (acts0[i10.toNat]!)).2) k15).1 = fb12 (0 + (k15.toNat * 1)))) = false := (bnT hg36)
                                have hp36 : ¬ ((cnow_F ((act16_F fb13 (acts0[i10.toNat]!)).2) k15).1 = fb12 (0 + (k15.toNat * 1))) := of_decide_eq_false hq36
                                rw [if_neg hp36] at h
                                refine xq rfl ⟨_, rfl, rfl⟩ (o_mv rfl) ?_
                                refine xq rfl ⟨_, rfl, rfl⟩ (o_neq rfl rfl) ?_
                                refine xq rfl ⟨_, rfl, rfl⟩ (o_pick_t rfl rfl) ?_
                                refine xq rfl ⟨_, rfl, rfl⟩ (o_pick_f rfl rfl) ?_
                                refine xq rfl trivial (o_pick_t rfl rfl) ?_
                                refine xo_nil (xq_then ?_)
                                refine xw_bool 148 rfl (fun hc37 => ?_) (fun hc37 => ?_)
                                · have hq37 : (decide ((cnow_F ((act16_F fb13 (acts0[i10.toNat]!)).2) k15).1 = 0)) = false := (bnT hc37)
                                  have hp37 : ¬ ((cnow_F ((act16_F fb13 (acts0[i10.toNat]!)).2) k15).1 = 0) := of_decide_eq_false hq37
                                  rw [if_neg hp37] at h
                                  refine xw_cond_t rfl rfl (xw_seq (xw_region ?_))
                                  refine xq rfl trivial (o_as rfl) ?_
                                  refine xo_nil (xq_then (xw_ret (xq_then_ret (xq_blk_ret (xq_then_ret ?_)))))
                                  exact xq_out (r := (.inr () : (Unit) ⊕ (Unit))) (e' := [(2, .bool false)]) (B14_3 ++ ((b13, BK 28 (mv (kPA 1 3 (kS [2])) ((act16_F fb13 (acts0[i10.toNat]!)).2)) 61) :: ((b12, BK 9 (iv fb12) 53) :: ((b11, BK 9 (mv kT fb11) 52) :: ([]))))) (lc rfl ln) (fun _ h => St.permI [1, 0, 2, 3] [[(b13, _)], B14_3, [(b12, _)], [(b11, _)]] rfl (h)) h (by intro hh; cases hh) ⟨B14_3, rfl, rfl, rfl, hcB14_3⟩
                                · have hq37 : (decide ((cnow_F ((act16_F fb13 (acts0[i10.toNat]!)).2) k15).1 = 0)) = true := (bnF hc37)
                                  have hp37 : (cnow_F ((act16_F fb13 (acts0[i10.toNat]!)).2) k15).1 = 0 := of_decide_eq_true hq37
                                  rw [if_pos hp37] at h
                                  refine xw_cond_f rfl rfl (xw_skip (xq_then (xw_seq (xw_seq (xw_region ?_)))))
                                  refine xq rfl trivial (o_mv rfl) ?_
                                  refine xq rfl trivial (o_neE Try.underlying27 rfl (fun _ => rfl) rfl rfl) ?_
                                  refine xo_nil (xq_then ?_)
                                  refine xw_bool 150 rfl (fun hc38 => ?_) (fun hc38 => ?_)
                                  · have hq38 : (decide ((cnow_F ((act16_F fb13 (acts0[i10.toNat]!)).2) k15).2 = 0)) = false := (bnT hc38)
                                    have hp38 : ¬ ((cnow_F ((act16_F fb13 (acts0[i10.toNat]!)).2) k15).2 = 0) := of_decide_eq_false hq38
                                    rw [if_neg hp38] at h
                                    refine xw_cond_t rfl rfl (xw_exit (xq_then_exit ?_))
                                    refine xq_blk_eq ?_
                                    refine xq_then (xw_region ?_)
                                    refine xq rfl trivial (o_mv rfl) ?_
                                    obtain ⟨ho39, h⟩ := h
                                    refine xq rfl trivial (o_add rfl rfl rfl ho39) ?_
                                    refine xq rfl trivial (o_as rfl) ?_
                                    refine xo_nil ?_
                                    exact xq_next (s' := ((seen14, k15 + 1) : (List (Int × Bool)) × Int)) (e' := [(0, v0), (8, .pointer (some ⟨b13, 0, none⟩)), (10, .int .i64 i10), (11, .pointer (some ⟨b11, 0, none⟩)), (12, .pointer (some ⟨b12, 0, none⟩)), (14, v14_3), (15, .int .i64 (k15 + 1))]) (B14_3 ++ ((b13, BK 28 (mv (kPA 1 3 (kS [2])) ((act16_F fb13 (acts0[i10.toNat]!)).2)) 61) :: ((b12, BK 9 (iv fb12) 53) :: ((b11, BK 9 (mv kT fb11) 52) :: ([]))))) (lc rfl (lc rfl (lc rfl (lc rfl (lc rfl (lc rfl (lc rfl ln))))))) (fun _ h => St.permI [1, 0, 2, 3] [[(b13, _)], B14_3, [(b12, _)], [(b11, _)]] rfl (h)) h ⟨v14_3, B14_3, rfl, rfl, hJ14_3, hcB14_3⟩
                                  · have hq38 : (decide ((cnow_F ((act16_F fb13 (acts0[i10.toNat]!)).2) k15).2 = 0)) = true := (bnF hc38)
                                    have hp38 : (cnow_F ((act16_F fb13 (acts0[i10.toNat]!)).2) k15).2 = 0 := of_decide_eq_true hq38
                                    rw [if_pos hp38] at h
                                    refine xw_cond_f rfl rfl (xw_skip (xq_then (xw_seq (xw_region ?_))))
                                    refine xq rfl trivial (o_mv rfl) ?_
                                    refine xq rfl trivial (o_mv rfl) ?_
                                    refine xo rfl trivial (OT.st (fun _ h => h) (ot_callF (Cs := [[(b13, _)]]) (Rs := [B14_3, [(b12, _)], [(b11, _)]]) kf10 rfl (fun w1 hw1 => cof_c _ _ _ w1 (St.hasC hw1)) (fun _ _ _ h => h.1))) ?_
                                    rintro _ _ ⟨w1, _, rfl, hle, -, rfl, rfl⟩
                                    refine xo_st ((b13, BK 28 (mv (kPA 1 3 (kS [2])) ((act16_F fb13 (acts0[i10.toNat]!)).2)) 61) :: (B14_3 ++ ((b12, BK 9 (iv fb12) 53) :: ((b11, BK 9 (mv kT fb11) 52) :: ([]))))) (fun _ h => h) ?_
                                    refine xq rfl trivial (o_mv rfl) ?_
                                    refine xq rfl trivial (o_ext rfl rfl) ?_
                                    refine xq rfl trivial (o_ext rfl rfl) ?_
                                    refine xq rfl trivial (o_as rfl) ?_
                                    refine xq rfl trivial (o_as rfl) ?_
                                    refine xo_nil (xq_then (xw_seq (xw_seq ?_)))
                                    refine xw_cut [(0, _), (8, _), (10, _), (11, _), (12, _), (14, _), (15, _), (16, _)] (lc rfl (lc rfl (lc rfl (lc rfl (lc rfl (lc rfl (lc rfl (lc rfl ln)))))))) [(168, .bool ((((mget ieq seen14 ((cnow_F ((act16_F fb13 (acts0[i10.toNat]!)).2) k15).1) false)) || (!(decide ((cof_F ((act16_F fb13 (acts0[i10.toNat]!)).2) ((cnow_F ((act16_F fb13 (acts0[i10.toNat]!)).2) k15).1)).1 = k15)))) || (!(decide ((cof_F ((act16_F fb13 (acts0[i10.toNat]!)).2) ((cnow_F ((act16_F fb13 (acts0[i10.toNat]!)).2) k15).1)).2 = 0)))))] ?_ ?_
                                    · refine xw_region ?_
                                      refine xq rfl trivial (o_mv rfl) ?_
                                      refine xq rfl trivial (o_mv rfl) ?_
                                      refine xq rfl trivial (o_lk (z := false) (k := (cnow_F ((act16_F fb13 (acts0[i10.toNat]!)).2) k15).1) kt3 Try.underlying54 ze4 rfl rfl hJ14_3 (Pull.sub (.thereC _ (.here _ _)))) ?_
                                      refine xq rfl trivial (o_mv rfl) ?_
                                      refine xo_bool 160 rfl (fun hg42 => ?_) (fun hg42 => ?_)
                                      · have hq42 : ((mget ieq seen14 ((cnow_F ((act16_F fb13 (acts0[i10.toNat]!)).2) k15).1) false)) = true := hg42
                                        have hp42 : ((mget ieq seen14 ((cnow_F ((act16_F fb13 (acts0[i10.toNat]!)).2) k15).1) false)) = true := hq42
                                        refine xs rfl ⟨_, _, rfl, rfl, rfl⟩ (xs rfl ⟨_, _, rfl, rfl, rfl⟩ (xs rfl ⟨_, _, rfl, rfl, rfl⟩ ?_))
                                        refine xq rfl trivial (o_pick_t rfl rfl) ?_
                                        refine xq rfl trivial (o_mv rfl) ?_
                                        refine xs rfl ⟨_, _, rfl, rfl, rfl⟩ (xs rfl ⟨_, _, rfl, rfl, rfl⟩ ?_)
                                        refine xq rfl trivial (o_pick_t rfl rfl) ?_
                                        refine xo_nil ?_
                                        exact xq_cut ((lce rfl (by first | rfl | (simp only [hq25, hq30, hq34, hq36, hq37, hq38, hq42, if_pos hp25, if_pos hp30, if_neg hp34, if_neg hp36, if_pos hp37, if_pos hp38, if_pos hp42, bS]; done) | (simp only [hq25, hq30, hq34, hq36, hq37, hq38, hq42, if_pos hp25, if_pos hp30, if_neg hp34, if_neg hp36, if_pos hp37, if_pos hp38, if_pos hp42, bS, reduceIte, Bool.false_eq_true]; done) | (simp [hp25, hp30, hp34, hp36, hp37, hp38, hp42]; done) | (simp_all; done)) (lc rfl (lc rfl (lc rfl (lc rfl (lc rfl (lc rfl (lc rfl (lc rfl ln)))))))))) (fun _ h => h)
                                      · have hq42 : ((mget ieq seen14 ((cnow_F ((act16_F fb13 (acts0[i10.toNat]!)).2) k15).1) false)) = false := hg42
                                        have hp42 : ¬ (((mget ieq seen14 ((cnow_F ((act16_F fb13 (acts0[i10.toNat]!)).2) k15).1) false)) = true) := bne' hq42
                                        refine xq rfl ⟨_, rfl, rfl⟩ (o_mv rfl) ?_
                                        refine xq rfl ⟨_, rfl, rfl⟩ (o_mv rfl) ?_
                                        refine xq rfl ⟨_, rfl, rfl⟩ (o_neq rfl rfl) ?_
                                        refine xq rfl trivial (o_pick_f rfl rfl) ?_
                                        refine xq rfl trivial (o_mv rfl) ?_
                                        refine xo_bool 165 rfl (fun hg43 => ?_) (fun hg43 => ?_)
                                        · have hq43 : (decide ((cof_F ((act16_F fb13 (acts0[i10.toNat]!)).2) ((cnow_F ((act16_F fb13 (acts0[i10.toNat]!)).2) k15).1)).1 = k15)) = false := (bnT hg43)
                                          have hp43 : ¬ ((cof_F ((act16_F fb13 (acts0[i10.toNat]!)).2) ((cnow_F ((act16_F fb13 (acts0[i10.toNat]!)).2) k15).1)).1 = k15) := of_decide_eq_false hq43
                                          refine xs rfl ⟨_, _, rfl, rfl, rfl⟩ (xs rfl ⟨_, _, rfl, rfl, rfl⟩ ?_)
                                          refine xq rfl trivial (o_pick_t rfl rfl) ?_
                                          refine xo_nil ?_
                                          exact xq_cut ((lce rfl (by first | rfl | (simp only [hq25, hq30, hq34, hq36, hq37, hq38, hq42, hq43, if_pos hp25, if_pos hp30, if_neg hp34, if_neg hp36, if_pos hp37, if_pos hp38, if_neg hp42, if_neg hp43, bS]; done) | (simp only [hq25, hq30, hq34, hq36, hq37, hq38, hq42, hq43, if_pos hp25, if_pos hp30, if_neg hp34, if_neg hp36, if_pos hp37, if_pos hp38, if_neg hp42, if_neg hp43, bS, reduceIte, Bool.false_eq_true]; done) | (simp [hp25, hp30, hp34, hp36, hp37, hp38, hp42, hp43]; done) | (simp_all; done)) (lc rfl (lc rfl (lc rfl (lc rfl (lc rfl (lc rfl (lc rfl (lc rfl ln)))))))))) (fun _ h => h)
                                        · have hq43 : (decide ((cof_F ((act16_F fb13 (acts0[i10.toNat]!)).2) ((cnow_F ((act16_F fb13 (acts0[i10.toNat]!)).2) k15).1)).1 = k15)) = true := (bnF hg43)
                                          have hp43 : (cof_F ((act16_F fb13 (acts0[i10.toNat]!)).2) ((cnow_F ((act16_F fb13 (acts0[i10.toNat]!)).2) k15).1)).1 = k15 := of_decide_eq_true hq43
                                          refine xq rfl ⟨_, rfl, rfl⟩ (o_mv rfl) ?_
                                          refine xq rfl ⟨_, rfl, rfl⟩ (o_neE Try.underlying27 rfl (fun _ => rfl) rfl rfl) ?_
                                          refine xq rfl trivial (o_pick_f rfl rfl) ?_
                                          refine xo_nil ?_
                                          exact xq_cut ((lce rfl (by first | rfl | (simp only [hq25, hq30, hq34, hq36, hq37, hq38, hq42, hq43, if_pos hp25, if_pos hp30, if_neg hp34, if_neg hp36, if_pos hp37, if_pos hp38, if_neg hp42, if_pos hp43, bS]; done) | (simp only [hq25, hq30, hq34, hq36, hq37, hq38, hq42, hq43, if_pos hp25, if_pos hp30, if_neg hp34, if_neg hp36, if_pos hp37, if_pos hp38, if_neg hp42, if_pos hp43, bS, reduceIte, Bool.false_eq_true]; done) | (simp [hp25, hp30, hp34, hp36, hp37, hp38, hp42, hp43]; done) | (simp_all; done)) (lc rfl (lc rfl (lc rfl (lc rfl (lc rfl (lc rfl (lc rfl (lc rfl ln)))))))))) (fun _ h => h)
                                    · refine xq_then ?_
                                      refine xw_bool 168 rfl (fun hc44 => ?_) (fun hc44 => ?_)
                                      · have hq44 : ((((mget ieq seen14 ((cnow_F ((act16_F fb13 (acts0[i10.toNat]!)).2) k15).1) false)) || (!(decide ((cof_F ((act16_F fb13 (acts0[i10.toNat]!)).2) ((cnow_F ((act16_F fb13 (acts0[i10.toNat]!)).2) k15).1)).1 = k15)))) || (!(decide ((cof_F ((act16_F fb13 (acts0[i10.toNat]!)).2) ((cnow_F ((act16_F fb13 (acts0[i10.toNat]!)).2) k15).1)).2 = 0)))) = true := hc44
                                        have hp44 : ((((mget ieq seen14 ((cnow_F ((act16_F fb13 (acts0[i10.toNat]!)).2) k15).1) false)) || (!(decide ((cof_F ((act16_F fb13 (acts0[i10.toNat]!)).2) ((cnow_F ((act16_F fb13 (acts0[i10.toNat]!)).2) k15).1)).1 = k15)))) || (!(decide ((cof_F ((act16_F fb13 (acts0[i10.toNat]!)).2) ((cnow_F ((act16_F fb13 (acts0[i10.toNat]!)).2) k15).1)).2 = 0)))) = true := hq44
                                        rw [if_pos hp44] at h
                                        refine xw_cond_t rfl rfl (xw_seq (xw_region ?_))
                                        refine xq rfl trivial (o_as rfl) ?_
                                        refine xo_nil (xq_then (xw_ret (xq_then_ret (xq_blk_ret (xq_then_ret ?_)))))
                                        exact xq_out (r := (.inr () : (Unit) ⊕ (Unit))) (e' := [(2, .bool false)]) (B14_3 ++ ((b13, BK 28 (mv (kPA 1 3 (kS [2])) ((act16_F fb13 (acts0[i10.toNat]!)).2)) 61) :: ((b12, BK 9 (iv fb12) 53) :: ((b11, BK 9 (mv kT fb11) 52) :: ([]))))) (lc rfl ln) (fun _ h => St.permI [1, 0, 2, 3] [[(b13, _)], B14_3, [(b12, _)], [(b11, _)]] rfl (h)) h (by intro hh; cases hh) ⟨B14_3, rfl, rfl, rfl, hcB14_3⟩
                                      · have hq44 : ((((mget ieq seen14 ((cnow_F ((act16_F fb13 (acts0[i10.toNat]!)).2) k15).1) false)) || (!(decide ((cof_F ((act16_F fb13 (acts0[i10.toNat]!)).2) ((cnow_F ((act16_F fb13 (acts0[i10.toNat]!)).2) k15).1)).1 = k15)))) || (!(decide ((cof_F ((act16_F fb13 (acts0[i10.toNat]!)).2) ((cnow_F ((act16_F fb13 (acts0[i10.toNat]!)).2) k15).1)).2 = 0)))) = false := hc44
                                        have hp44 : ¬ (((((mget ieq seen14 ((cnow_F ((act16_F fb13 (acts0[i10.toNat]!)).2) k15).1) false)) || (!(decide ((cof_F ((act16_F fb13 (acts0[i10.toNat]!)).2) ((cnow_F ((act16_F fb13 (acts0[i10.toNat]!)).2) k15).1)).1 = k15)))) || (!(decide ((cof_F ((act16_F fb13 (acts0[i10.toNat]!)).2) ((cnow_F ((act16_F fb13 (acts0[i10.toNat]!)).2) k15).1)).2 = 0)))) = true) := bne' hq44
                                        rw [if_neg hp44] at h
                                        refine xw_cond_f rfl rfl (xw_skip (xq_then (xw_region ?_)))
                                        refine xq rfl trivial (o_mv rfl) ?_
                                        refine xq rfl trivial (o_mv rfl) ?_
                                        refine xo0 trivial (OT.st (fun _ h => Pull.st (.thereC _ (.here _ _)) h) (o_mset (k := (cnow_F ((act16_F fb13 (acts0[i10.toNat]!)).2) k15).1) (e := true) kt3 Try.underlying54 rfl rfl rfl hJ14_3)) ?_
                                        rintro _ _ ⟨Bs45, rfl, hns45, hJs45⟩
                                        have hcBs45 := Cov.trans hcB14_3 hns45
                                        refine xo_st ((b13, BK 28 (mv (kPA 1 3 (kS [2])) ((act16_F fb13 (acts0[i10.toNat]!)).2)) 61) :: (Bs45 ++ ((b12, BK 9 (iv fb12) 53) :: ((b11, BK 9 (mv kT fb11) 52) :: ([]))))) (fun _ h => Pull.push (.thereC _ (.here _ _)) h) ?_
                                        refine xo_nil ?_
                                        refine xq_blk 5 ?_
                                        refine xq_then (xw_region ?_)
                                        refine xq rfl trivial (o_mv rfl) ?_
                                        obtain ⟨ho46, h⟩ := h
                                        refine xq rfl trivial (o_add rfl rfl rfl ho46) ?_
                                        refine xq rfl trivial (o_as rfl) ?_
                                        refine xo_nil ?_
                                        exact xq_next (s' := ((mset ieq seen14 ((cnow_F ((act16_F fb13 (acts0[i10.toNat]!)).2) k15).1) true, k15 + 1) : (List (Int × Bool)) × Int)) (e' := [(0, v0), (8, .pointer (some ⟨b13, 0, none⟩)), (10, .int .i64 i10), (11, .pointer (some ⟨b11, 0, none⟩)), (12, .pointer (some ⟨b12, 0, none⟩)), (14, v14_3), (15, .int .i64 (k15 + 1))]) (Bs45 ++ ((b13, BK 28 (mv (kPA 1 3 (kS [2])) ((act16_F fb13 (acts0[i10.toNat]!)).2)) 61) :: ((b12, BK 9 (iv fb12) 53) :: ((b11, BK 9 (mv kT fb11) 52) :: ([]))))) (lc rfl (lc rfl (lc rfl (lc rfl (lc rfl (lc rfl (lc rfl ln))))))) (fun _ h => St.permI [1, 0, 2, 3] [[(b13, _)], Bs45, [(b12, _)], [(b11, _)]] rfl (h)) h ⟨v14_3, Bs45, rfl, rfl, hJs45, hcBs45⟩
                              · have hq36 : (decide ((cnow_F ((act16_F fb13 (acts0[i10.toNat]!)).2) k15).1 = fb12 (0 + (k15.toNat * 1)))) = true := (bnF hg36)
                                have hp36 : (cnow_F ((act16_F fb13 (acts0[i10.toNat]!)).2) k15).1 = fb12 (0 + (k15.toNat * 1)) := of_decide_eq_true hq36
                                rw [if_pos hp36] at h
                                refine xs rfl ⟨_, _, rfl, rfl, rfl⟩ (xs rfl ⟨_, _, rfl, rfl, rfl⟩ ?_)
                                refine xq rfl ⟨_, rfl, rfl⟩ (o_pick_f rfl rfl) ?_
                                refine xq rfl ⟨_, rfl, rfl⟩ (o_pick_f rfl rfl) ?_
                                refine xq rfl trivial (o_pick_t rfl rfl) ?_
                                refine xo_nil (xq_then (xw_cond_f rfl rfl (xw_skip (xq_then (xw_seq (xw_seq (xw_region ?_)))))))
                                refine xq rfl trivial (o_mv rfl) ?_
                                refine xq rfl trivial (o_neE Try.underlying27 rfl (fun _ => rfl) rfl rfl) ?_
                                refine xo_nil (xq_then ?_)
                                refine xw_bool 150 rfl (fun hc47 => ?_) (fun hc47 => ?_)
                                · have hq47 : (decide ((cnow_F ((act16_F fb13 (acts0[i10.toNat]!)).2) k15).2 = 0)) = false := (bnT hc47)
                                  have hp47 : ¬ ((cnow_F ((act16_F fb13 (acts0[i10.toNat]!)).2) k15).2 = 0) := of_decide_eq_false hq47
                                  rw [if_neg hp47] at h
                                  refine xw_cond_t rfl rfl (xw_exit (xq_then_exit ?_))
                                  refine xq_blk_eq ?_
                                  refine xq_then (xw_region ?_)
                                  refine xq rfl trivial (o_mv rfl) ?_
                                  obtain ⟨ho48, h⟩ := h
                                  refine xq rfl trivial (o_add rfl rfl rfl ho48) ?_
                                  refine xq rfl trivial (o_as rfl) ?_
                                  refine xo_nil ?_
                                  exact xq_next (s' := ((seen14, k15 + 1) : (List (Int × Bool)) × Int)) (e' := [(0, v0), (8, .pointer (some ⟨b13, 0, none⟩)), (10, .int .i64 i10), (11, .pointer (some ⟨b11, 0, none⟩)), (12, .pointer (some ⟨b12, 0, none⟩)), (14, v14_3), (15, .int .i64 (k15 + 1))]) (B14_3 ++ ((b13, BK 28 (mv (kPA 1 3 (kS [2])) ((act16_F fb13 (acts0[i10.toNat]!)).2)) 61) :: ((b12, BK 9 (iv fb12) 53) :: ((b11, BK 9 (mv kT fb11) 52) :: ([]))))) (lc rfl (lc rfl (lc rfl (lc rfl (lc rfl (lc rfl (lc rfl ln))))))) (fun _ h => St.permI [1, 0, 2, 3] [[(b13, _)], B14_3, [(b12, _)], [(b11, _)]] rfl (h)) h ⟨v14_3, B14_3, rfl, rfl, hJ14_3, hcB14_3⟩
                                · have hq47 : (decide ((cnow_F ((act16_F fb13 (acts0[i10.toNat]!)).2) k15).2 = 0)) = true := (bnF hc47)
                                  have hp47 : (cnow_F ((act16_F fb13 (acts0[i10.toNat]!)).2) k15).2 = 0 := of_decide_eq_true hq47
                                  rw [if_pos hp47] at h
                                  refine xw_cond_f rfl rfl (xw_skip (xq_then (xw_seq (xw_region ?_))))
                                  refine xq rfl trivial (o_mv rfl) ?_
                                  refine xq rfl trivial (o_mv rfl) ?_
                                  refine xo rfl trivial (OT.st (fun _ h => h) (ot_callF (Cs := [[(b13, _)]]) (Rs := [B14_3, [(b12, _)], [(b11, _)]]) kf10 rfl (fun w1 hw1 => cof_c _ _ _ w1 (St.hasC hw1)) (fun _ _ _ h => h.1))) ?_
                                  rintro _ _ ⟨w1, _, rfl, hle, -, rfl, rfl⟩
                                  refine xo_st ((b13, BK 28 (mv (kPA 1 3 (kS [2])) ((act16_F fb13 (acts0[i10.toNat]!)).2)) 61) :: (B14_3 ++ ((b12, BK 9 (iv fb12) 53) :: ((b11, BK 9 (mv kT fb11) 52) :: ([]))))) (fun _ h => h) ?_
                                  refine xq rfl trivial (o_mv rfl) ?_
                                  refine xq rfl trivial (o_ext rfl rfl) ?_
                                  refine xq rfl trivial (o_ext rfl rfl) ?_
                                  refine xq rfl trivial (o_as rfl) ?_
                                  refine xq rfl trivial (o_as rfl) ?_
                                  refine xo_nil (xq_then (xw_seq (xw_seq ?_)))
                                  refine xw_cut [(0, _), (8, _), (10, _), (11, _), (12, _), (14, _), (15, _), (16, _)] (lc rfl (lc rfl (lc rfl (lc rfl (lc rfl (lc rfl (lc rfl (lc rfl ln)))))))) [(168, .bool ((((mget ieq seen14 ((cnow_F ((act16_F fb13 (acts0[i10.toNat]!)).2) k15).1) false)) || (!(decide ((cof_F ((act16_F fb13 (acts0[i10.toNat]!)).2) ((cnow_F ((act16_F fb13 (acts0[i10.toNat]!)).2) k15).1)).1 = k15)))) || (!(decide ((cof_F ((act16_F fb13 (acts0[i10.toNat]!)).2) ((cnow_F ((act16_F fb13 (acts0[i10.toNat]!)).2) k15).1)).2 = 0)))))] ?_ ?_
                                  · refine xw_region ?_
                                    refine xq rfl trivial (o_mv rfl) ?_
                                    refine xq rfl trivial (o_mv rfl) ?_
                                    refine xq rfl trivial (o_lk (z := false) (k := (cnow_F ((act16_F fb13 (acts0[i10.toNat]!)).2) k15).1) kt3 Try.underlying54 ze4 rfl rfl hJ14_3 (Pull.sub (.thereC _ (.here _ _)))) ?_
                                    refine xq rfl trivial (o_mv rfl) ?_
                                    refine xo_bool 160 rfl (fun hg51 => ?_) (fun hg51 => ?_)
                                    · have hq51 : ((mget ieq seen14 ((cnow_F ((act16_F fb13 (acts0[i10.toNat]!)).2) k15).1) false)) = true := hg51
                                      have hp51 : ((mget ieq seen14 ((cnow_F ((act16_F fb13 (acts0[i10.toNat]!)).2) k15).1) false)) = true := hq51
                                      refine xs rfl ⟨_, _, rfl, rfl, rfl⟩ (xs rfl ⟨_, _, rfl, rfl, rfl⟩ (xs rfl ⟨_, _, rfl, rfl, rfl⟩ ?_))
                                      refine xq rfl trivial (o_pick_t rfl rfl) ?_
                                      refine xq rfl trivial (o_mv rfl) ?_
                                      refine xs rfl ⟨_, _, rfl, rfl, rfl⟩ (xs rfl ⟨_, _, rfl, rfl, rfl⟩ ?_)
                                      refine xq rfl trivial (o_pick_t rfl rfl) ?_
                                      refine xo_nil ?_
                                      exact xq_cut ((lce rfl (by first | rfl | (simp only [hq25, hq30, hq34, hq36, hq47, hq51, if_pos hp25, if_pos hp30, if_neg hp34, if_pos hp36, if_pos hp47, if_pos hp51, bS]; done) | (simp only [hq25, hq30, hq34, hq36, hq47, hq51, if_pos hp25, if_pos hp30, if_neg hp34, if_pos hp36, if_pos hp47, if_pos hp51, bS, reduceIte, Bool.false_eq_true]; done) | (simp [hp25, hp30, hp34, hp36, hp47, hp51]; done) | (simp_all; done)) (lc rfl (lc rfl (lc rfl (lc rfl (lc rfl (lc rfl (lc rfl (lc rfl ln)))))))))) (fun _ h => h)
                                    · have hq51 : ((mget ieq seen14 ((cnow_F ((act16_F fb13 (acts0[i10.toNat]!)).2) k15).1) false)) = false := hg51
                                      have hp51 : ¬ (((mget ieq seen14 ((cnow_F ((act16_F fb13 (acts0[i10.toNat]!)).2) k15).1) false)) = true) := bne' hq51
                                      refine xq rfl ⟨_, rfl, rfl⟩ (o_mv rfl) ?_
                                      refine xq rfl ⟨_, rfl, rfl⟩ (o_mv rfl) ?_
                                      refine xq rfl ⟨_, rfl, rfl⟩ (o_neq rfl rfl) ?_
                                      refine xq rfl trivial (o_pick_f rfl rfl) ?_
                                      refine xq rfl trivial (o_mv rfl) ?_
                                      refine xo_bool 165 rfl (fun hg52 => ?_) (fun hg52 => ?_)
                                      · have hq52 : (decide ((cof_F ((act16_F fb13 (acts0[i10.toNat]!)).2) ((cnow_F ((act16_F fb13 (acts0[i10.toNat]!)).2) k15).1)).1 = k15)) = false := (bnT hg52)
                                        have hp52 : ¬ ((cof_F ((act16_F fb13 (acts0[i10.toNat]!)).2) ((cnow_F ((act16_F fb13 (acts0[i10.toNat]!)).2) k15).1)).1 = k15) := of_decide_eq_false hq52
                                        refine xs rfl ⟨_, _, rfl, rfl, rfl⟩ (xs rfl ⟨_, _, rfl, rfl, rfl⟩ ?_)
                                        refine xq rfl trivial (o_pick_t rfl rfl) ?_
                                        refine xo_nil ?_
                                        exact xq_cut ((lce rfl (by first | rfl | (simp only [hq25, hq30, hq34, hq36, hq47, hq51, hq52, if_pos hp25, if_pos hp30, if_neg hp34, if_pos hp36, if_pos hp47, if_neg hp51, if_neg hp52, bS]; done) | (simp only [hq25, hq30, hq34, hq36, hq47, hq51, hq52, if_pos hp25, if_pos hp30, if_neg hp34, if_pos hp36, if_pos hp47, if_neg hp51, if_neg hp52, bS, reduceIte, Bool.false_eq_true]; done) | (simp [hp25, hp30, hp34, hp36, hp47, hp51, hp52]; done) | (simp_all; done)) (lc rfl (lc rfl (lc rfl (lc rfl (lc rfl (lc rfl (lc rfl (lc rfl ln)))))))))) (fun _ h => h)
                                      · have hq52 : (decide ((cof_F ((act16_F fb13 (acts0[i10.toNat]!)).2) ((cnow_F ((act16_F fb13 (acts0[i10.toNat]!)).2) k15).1)).1 = k15)) = true := (bnF hg52)
                                        have hp52 : (cof_F ((act16_F fb13 (acts0[i10.toNat]!)).2) ((cnow_F ((act16_F fb13 (acts0[i10.toNat]!)).2) k15).1)).1 = k15 := of_decide_eq_true hq52
                                        refine xq rfl ⟨_, rfl, rfl⟩ (o_mv rfl) ?_
                                        refine xq rfl ⟨_, rfl, rfl⟩ (o_neE Try.underlying27 rfl (fun _ => rfl) rfl rfl) ?_
                                        refine xq rfl trivial (o_pick_f rfl rfl) ?_
                                        refine xo_nil ?_
                                        exact xq_cut ((lce rfl (by first | rfl | (simp only [hq25, hq30, hq34, hq36, hq47, hq51, hq52, if_pos hp25, if_pos hp30, if_neg hp34, if_pos hp36, if_pos hp47, if_neg hp51, if_pos hp52, bS]; done) | (simp only [hq25, hq30, hq34, hq36, hq47, hq51, hq52, if_pos hp25, if_pos hp30, if_neg hp34, if_pos hp36, if_pos hp47, if_neg hp51, if_pos hp52, bS, reduceIte, Bool.false_eq_true]; done) | (simp [hp25, hp30, hp34, hp36, hp47, hp51, hp52]; done) | (simp_all; done)) (lc rfl (lc rfl (lc rfl (lc rfl (lc rfl (lc rfl (lc rfl (lc rfl ln)))))))))) (fun _ h => h)
                                  · refine xq_then ?_
                                    refine xw_bool 168 rfl (fun hc53 => ?_) (fun hc53 => ?_)
                                    · have hq53 : ((((mget ieq seen14 ((cnow_F ((act16_F fb13 (acts0[i10.toNat]!)).2) k15).1) false)) || (!(decide ((cof_F ((act16_F fb13 (acts0[i10.toNat]!)).2) ((cnow_F ((act16_F fb13 (acts0[i10.toNat]!)).2) k15).1)).1 = k15)))) || (!(decide ((cof_F ((act16_F fb13 (acts0[i10.toNat]!)).2) ((cnow_F ((act16_F fb13 (acts0[i10.toNat]!)).2) k15).1)).2 = 0)))) = true := hc53
                                      have hp53 : ((((mget ieq seen14 ((cnow_F ((act16_F fb13 (acts0[i10.toNat]!)).2) k15).1) false)) || (!(decide ((cof_F ((act16_F fb13 (acts0[i10.toNat]!)).2) ((cnow_F ((act16_F fb13 (acts0[i10.toNat]!)).2) k15).1)).1 = k15)))) || (!(decide ((cof_F ((act16_F fb13 (acts0[i10.toNat]!)).2) ((cnow_F ((act16_F fb13 (acts0[i10.toNat]!)).2) k15).1)).2 = 0)))) = true := hq53
                                      rw [if_pos hp53] at h
                                      refine xw_cond_t rfl rfl (xw_seq (xw_region ?_))
                                      refine xq rfl trivial (o_as rfl) ?_
                                      refine xo_nil (xq_then (xw_ret (xq_then_ret (xq_blk_ret (xq_then_ret ?_)))))
                                      exact xq_out (r := (.inr () : (Unit) ⊕ (Unit))) (e' := [(2, .bool false)]) (B14_3 ++ ((b13, BK 28 (mv (kPA 1 3 (kS [2])) ((act16_F fb13 (acts0[i10.toNat]!)).2)) 61) :: ((b12, BK 9 (iv fb12) 53) :: ((b11, BK 9 (mv kT fb11) 52) :: ([]))))) (lc rfl ln) (fun _ h => St.permI [1, 0, 2, 3] [[(b13, _)], B14_3, [(b12, _)], [(b11, _)]] rfl (h)) h (by intro hh; cases hh) ⟨B14_3, rfl, rfl, rfl, hcB14_3⟩
                                    · have hq53 : ((((mget ieq seen14 ((cnow_F ((act16_F fb13 (acts0[i10.toNat]!)).2) k15).1) false)) || (!(decide ((cof_F ((act16_F fb13 (acts0[i10.toNat]!)).2) ((cnow_F ((act16_F fb13 (acts0[i10.toNat]!)).2) k15).1)).1 = k15)))) || (!(decide ((cof_F ((act16_F fb13 (acts0[i10.toNat]!)).2) ((cnow_F ((act16_F fb13 (acts0[i10.toNat]!)).2) k15).1)).2 = 0)))) = false := hc53
                                      have hp53 : ¬ (((((mget ieq seen14 ((cnow_F ((act16_F fb13 (acts0[i10.toNat]!)).2) k15).1) false)) || (!(decide ((cof_F ((act16_F fb13 (acts0[i10.toNat]!)).2) ((cnow_F ((act16_F fb13 (acts0[i10.toNat]!)).2) k15).1)).1 = k15)))) || (!(decide ((cof_F ((act16_F fb13 (acts0[i10.toNat]!)).2) ((cnow_F ((act16_F fb13 (acts0[i10.toNat]!)).2) k15).1)).2 = 0)))) = true) := bne' hq53
                                      rw [if_neg hp53] at h
                                      refine xw_cond_f rfl rfl (xw_skip (xq_then (xw_region ?_)))
                                      refine xq rfl trivial (o_mv rfl) ?_
                                      refine xq rfl trivial (o_mv rfl) ?_
                                      refine xo0 trivial (OT.st (fun _ h => Pull.st (.thereC _ (.here _ _)) h) (o_mset (k := (cnow_F ((act16_F fb13 (acts0[i10.toNat]!)).2) k15).1) (e := true) kt3 Try.underlying54 rfl rfl rfl hJ14_3)) ?_
                                      rintro _ _ ⟨Bs54, rfl, hns54, hJs54⟩
                                      have hcBs54 := Cov.trans hcB14_3 hns54
                                      refine xo_st ((b13, BK 28 (mv (kPA 1 3 (kS [2])) ((act16_F fb13 (acts0[i10.toNat]!)).2)) 61) :: (Bs54 ++ ((b12, BK 9 (iv fb12) 53) :: ((b11, BK 9 (mv kT fb11) 52) :: ([]))))) (fun _ h => Pull.push (.thereC _ (.here _ _)) h) ?_
                                      refine xo_nil ?_
                                      refine xq_blk 5 ?_
                                      refine xq_then (xw_region ?_)
                                      refine xq rfl trivial (o_mv rfl) ?_
                                      obtain ⟨ho55, h⟩ := h
                                      refine xq rfl trivial (o_add rfl rfl rfl ho55) ?_
                                      refine xq rfl trivial (o_as rfl) ?_
                                      refine xo_nil ?_
                                      exact xq_next (s' := ((mset ieq seen14 ((cnow_F ((act16_F fb13 (acts0[i10.toNat]!)).2) k15).1) true, k15 + 1) : (List (Int × Bool)) × Int)) (e' := [(0, v0), (8, .pointer (some ⟨b13, 0, none⟩)), (10, .int .i64 i10), (11, .pointer (some ⟨b11, 0, none⟩)), (12, .pointer (some ⟨b12, 0, none⟩)), (14, v14_3), (15, .int .i64 (k15 + 1))]) (Bs54 ++ ((b13, BK 28 (mv (kPA 1 3 (kS [2])) ((act16_F fb13 (acts0[i10.toNat]!)).2)) 61) :: ((b12, BK 9 (iv fb12) 53) :: ((b11, BK 9 (mv kT fb11) 52) :: ([]))))) (lc rfl (lc rfl (lc rfl (lc rfl (lc rfl (lc rfl (lc rfl ln))))))) (fun _ h => St.permI [1, 0, 2, 3] [[(b13, _)], Bs54, [(b12, _)], [(b11, _)]] rfl (h)) h ⟨v14_3, Bs54, rfl, rfl, hJs54, hcBs54⟩
                          · have hq30 : ((nz (fb11 (0 + (k15.toNat * 1))))) = false := hg30
                            have hp30 : ¬ (((nz (fb11 (0 + (k15.toNat * 1))))) = true) := bne' hq30
                            rw [if_neg hp30] at h
                            refine xs rfl ⟨_, _, rfl, rfl, rfl⟩ (xs rfl ⟨_, _, rfl, rfl, rfl⟩ (xs rfl ⟨_, _, rfl, rfl, rfl⟩ (xs rfl ⟨_, _, rfl, rfl, rfl⟩ (xs rfl ⟨_, _, rfl, rfl, rfl⟩ (xs rfl ⟨_, _, rfl, rfl, rfl⟩ (xs rfl ⟨_, _, rfl, rfl, rfl⟩ (xs rfl ⟨_, _, rfl, rfl, rfl⟩ ?_)))))))
                            refine xs rfl ⟨_, _, rfl, rfl, rfl⟩ (xs rfl ⟨_, _, rfl, rfl, rfl⟩ (xs rfl ⟨_, _, rfl, rfl, rfl⟩ (xs rfl ⟨_, _, rfl, rfl, rfl⟩ (xs rfl ⟨_, _, rfl, rfl, rfl⟩ (xs rfl ⟨_, _, rfl, rfl, rfl⟩ ?_)))))
                            refine xq rfl trivial (o_pick_f rfl rfl) ?_
                            refine xo_nil (xq_then (xw_cond_f rfl rfl (xw_skip (xq_then (xw_seq (xw_seq (xw_region ?_)))))))
                            refine xq rfl trivial (o_mv rfl) ?_
                            refine xq rfl trivial (o_neE Try.underlying27 rfl (fun _ => rfl) rfl rfl) ?_
                            refine xo_nil (xq_then ?_)
                            refine xw_bool 150 rfl (fun hc56 => ?_) (fun hc56 => ?_)
                            · have hq56 : (decide ((cnow_F ((act16_F fb13 (acts0[i10.toNat]!)).2) k15).2 = 0)) = false := (bnT hc56)
                              have hp56 : ¬ ((cnow_F ((act16_F fb13 (acts0[i10.toNat]!)).2) k15).2 = 0) := of_decide_eq_false hq56
                              rw [if_neg hp56] at h
                              refine xw_cond_t rfl rfl (xw_exit (xq_then_exit ?_))
                              refine xq_blk_eq ?_
                              refine xq_then (xw_region ?_)
                              refine xq rfl trivial (o_mv rfl) ?_
                              obtain ⟨ho57, h⟩ := h
                              refine xq rfl trivial (o_add rfl rfl rfl ho57) ?_
                              refine xq rfl trivial (o_as rfl) ?_
                              refine xo_nil ?_
                              exact xq_next (s' := ((seen14, k15 + 1) : (List (Int × Bool)) × Int)) (e' := [(0, v0), (8, .pointer (some ⟨b13, 0, none⟩)), (10, .int .i64 i10), (11, .pointer (some ⟨b11, 0, none⟩)), (12, .pointer (some ⟨b12, 0, none⟩)), (14, v14_3), (15, .int .i64 (k15 + 1))]) (B14_3 ++ ((b13, BK 28 (mv (kPA 1 3 (kS [2])) ((act16_F fb13 (acts0[i10.toNat]!)).2)) 61) :: ((b12, BK 9 (iv fb12) 53) :: ((b11, BK 9 (mv kT fb11) 52) :: ([]))))) (lc rfl (lc rfl (lc rfl (lc rfl (lc rfl (lc rfl (lc rfl ln))))))) (fun _ h => St.permI [1, 0, 2, 3] [[(b13, _)], B14_3, [(b12, _)], [(b11, _)]] rfl (h)) h ⟨v14_3, B14_3, rfl, rfl, hJ14_3, hcB14_3⟩
                            · have hq56 : (decide ((cnow_F ((act16_F fb13 (acts0[i10.toNat]!)).2) k15).2 = 0)) = true := (bnF hc56)
                              have hp56 : (cnow_F ((act16_F fb13 (acts0[i10.toNat]!)).2) k15).2 = 0 := of_decide_eq_true hq56
                              rw [if_pos hp56] at h
                              refine xw_cond_f rfl rfl (xw_skip (xq_then (xw_seq (xw_region ?_))))
                              refine xq rfl trivial (o_mv rfl) ?_
                              refine xq rfl trivial (o_mv rfl) ?_
                              refine xo rfl trivial (OT.st (fun _ h => h) (ot_callF (Cs := [[(b13, _)]]) (Rs := [B14_3, [(b12, _)], [(b11, _)]]) kf10 rfl (fun w1 hw1 => cof_c _ _ _ w1 (St.hasC hw1)) (fun _ _ _ h => h.1))) ?_
                              rintro _ _ ⟨w1, _, rfl, hle, -, rfl, rfl⟩
                              refine xo_st ((b13, BK 28 (mv (kPA 1 3 (kS [2])) ((act16_F fb13 (acts0[i10.toNat]!)).2)) 61) :: (B14_3 ++ ((b12, BK 9 (iv fb12) 53) :: ((b11, BK 9 (mv kT fb11) 52) :: ([]))))) (fun _ h => h) ?_
                              refine xq rfl trivial (o_mv rfl) ?_
                              refine xq rfl trivial (o_ext rfl rfl) ?_
                              refine xq rfl trivial (o_ext rfl rfl) ?_
                              refine xq rfl trivial (o_as rfl) ?_
                              refine xq rfl trivial (o_as rfl) ?_
                              refine xo_nil (xq_then (xw_seq (xw_seq ?_)))
                              refine xw_cut [(0, _), (8, _), (10, _), (11, _), (12, _), (14, _), (15, _), (16, _)] (lc rfl (lc rfl (lc rfl (lc rfl (lc rfl (lc rfl (lc rfl (lc rfl ln)))))))) [(168, .bool ((((mget ieq seen14 ((cnow_F ((act16_F fb13 (acts0[i10.toNat]!)).2) k15).1) false)) || (!(decide ((cof_F ((act16_F fb13 (acts0[i10.toNat]!)).2) ((cnow_F ((act16_F fb13 (acts0[i10.toNat]!)).2) k15).1)).1 = k15)))) || (!(decide ((cof_F ((act16_F fb13 (acts0[i10.toNat]!)).2) ((cnow_F ((act16_F fb13 (acts0[i10.toNat]!)).2) k15).1)).2 = 0)))))] ?_ ?_
                              · refine xw_region ?_
                                refine xq rfl trivial (o_mv rfl) ?_
                                refine xq rfl trivial (o_mv rfl) ?_
                                refine xq rfl trivial (o_lk (z := false) (k := (cnow_F ((act16_F fb13 (acts0[i10.toNat]!)).2) k15).1) kt3 Try.underlying54 ze4 rfl rfl hJ14_3 (Pull.sub (.thereC _ (.here _ _)))) ?_
                                refine xq rfl trivial (o_mv rfl) ?_
                                refine xo_bool 160 rfl (fun hg60 => ?_) (fun hg60 => ?_)
                                · have hq60 : ((mget ieq seen14 ((cnow_F ((act16_F fb13 (acts0[i10.toNat]!)).2) k15).1) false)) = true := hg60
                                  have hp60 : ((mget ieq seen14 ((cnow_F ((act16_F fb13 (acts0[i10.toNat]!)).2) k15).1) false)) = true := hq60
                                  refine xs rfl ⟨_, _, rfl, rfl, rfl⟩ (xs rfl ⟨_, _, rfl, rfl, rfl⟩ (xs rfl ⟨_, _, rfl, rfl, rfl⟩ ?_))
                                  refine xq rfl trivial (o_pick_t rfl rfl) ?_
                                  refine xq rfl trivial (o_mv rfl) ?_
                                  refine xs rfl ⟨_, _, rfl, rfl, rfl⟩ (xs rfl ⟨_, _, rfl, rfl, rfl⟩ ?_)
                                  refine xq rfl trivial (o_pick_t rfl rfl) ?_
                                  refine xo_nil ?_
                                  exact xq_cut ((lce rfl (by first | rfl | (simp only [hq25, hq30, hq56, hq60, if_pos hp25, if_neg hp30, if_pos hp56, if_pos hp60, bS]; done) | (simp only [hq25, hq30, hq56, hq60, if_pos hp25, if_neg hp30, if_pos hp56, if_pos hp60, bS, reduceIte, Bool.false_eq_true]; done) | (simp [hp25, hp30, hp56, hp60]; done) | (simp_all; done)) (lc rfl (lc rfl (lc rfl (lc rfl (lc rfl (lc rfl (lc rfl (lc rfl ln)))))))))) (fun _ h => h)
                                · have hq60 : ((mget ieq seen14 ((cnow_F ((act16_F fb13 (acts0[i10.toNat]!)).2) k15).1) false)) = false := hg60
                                  have hp60 : ¬ (((mget ieq seen14 ((cnow_F ((act16_F fb13 (acts0[i10.toNat]!)).2) k15).1) false)) = true) := bne' hq60
                                  refine xq rfl ⟨_, rfl, rfl⟩ (o_mv rfl) ?_
                                  refine xq rfl ⟨_, rfl, rfl⟩ (o_mv rfl) ?_
                                  refine xq rfl ⟨_, rfl, rfl⟩ (o_neq rfl rfl) ?_
                                  refine xq rfl trivial (o_pick_f rfl rfl) ?_
                                  refine xq rfl trivial (o_mv rfl) ?_
                                  refine xo_bool 165 rfl (fun hg61 => ?_) (fun hg61 => ?_)
                                  · have hq61 : (decide ((cof_F ((act16_F fb13 (acts0[i10.toNat]!)).2) ((cnow_F ((act16_F fb13 (acts0[i10.toNat]!)).2) k15).1)).1 = k15)) = false := (bnT hg61)
                                    have hp61 : ¬ ((cof_F ((act16_F fb13 (acts0[i10.toNat]!)).2) ((cnow_F ((act16_F fb13 (acts0[i10.toNat]!)).2) k15).1)).1 = k15) := of_decide_eq_false hq61
                                    refine xs rfl ⟨_, _, rfl, rfl, rfl⟩ (xs rfl ⟨_, _, rfl, rfl, rfl⟩ ?_)
                                    refine xq rfl trivial (o_pick_t rfl rfl) ?_
                                    refine xo_nil ?_
                                    exact xq_cut ((lce rfl (by first | rfl | (simp only [hq25, hq30, hq56, hq60, hq61, if_pos hp25, if_neg hp30, if_pos hp56, if_neg hp60, if_neg hp61, bS]; done) | (simp only [hq25, hq30, hq56, hq60, hq61, if_pos hp25, if_neg hp30, if_pos hp56, if_neg hp60, if_neg hp61, bS, reduceIte, Bool.false_eq_true]; done) | (simp [hp25, hp30, hp56, hp60, hp61]; done) | (simp_all; done)) (lc rfl (lc rfl (lc rfl (lc rfl (lc rfl (lc rfl (lc rfl (lc rfl ln)))))))))) (fun _ h => h)
                                  · have hq61 : (decide ((cof_F ((act16_F fb13 (acts0[i10.toNat]!)).2) ((cnow_F ((act16_F fb13 (acts0[i10.toNat]!)).2) k15).1)).1 = k15)) = true := (bnF hg61)
                                    have hp61 : (cof_F ((act16_F fb13 (acts0[i10.toNat]!)).2) ((cnow_F ((act16_F fb13 (acts0[i10.toNat]!)).2) k15).1)).1 = k15 := of_decide_eq_true hq61
                                    refine xq rfl ⟨_, rfl, rfl⟩ (o_mv rfl) ?_
                                    refine xq rfl ⟨_, rfl, rfl⟩ (o_neE Try.underlying27 rfl (fun _ => rfl) rfl rfl) ?_
                                    refine xq rfl trivial (o_pick_f rfl rfl) ?_
                                    refine xo_nil ?_
                                    exact xq_cut ((lce rfl (by first | rfl | (simp only [hq25, hq30, hq56, hq60, hq61, if_pos hp25, if_neg hp30, if_pos hp56, if_neg hp60, if_pos hp61, bS]; done) | (simp only [hq25, hq30, hq56, hq60, hq61, if_pos hp25, if_neg hp30, if_pos hp56, if_neg hp60, if_pos hp61, bS, reduceIte, Bool.false_eq_true]; done) | (simp [hp25, hp30, hp56, hp60, hp61]; done) | (simp_all; done)) (lc rfl (lc rfl (lc rfl (lc rfl (lc rfl (lc rfl (lc rfl (lc rfl ln)))))))))) (fun _ h => h)
                              · refine xq_then ?_
                                refine xw_bool 168 rfl (fun hc62 => ?_) (fun hc62 => ?_)
                                · have hq62 : ((((mget ieq seen14 ((cnow_F ((act16_F fb13 (acts0[i10.toNat]!)).2) k15).1) false)) || (!(decide ((cof_F ((act16_F fb13 (acts0[i10.toNat]!)).2) ((cnow_F ((act16_F fb13 (acts0[i10.toNat]!)).2) k15).1)).1 = k15)))) || (!(decide ((cof_F ((act16_F fb13 (acts0[i10.toNat]!)).2) ((cnow_F ((act16_F fb13 (acts0[i10.toNat]!)).2) k15).1)).2 = 0)))) = true := hc62
                                  have hp62 : ((((mget ieq seen14 ((cnow_F ((act16_F fb13 (acts0[i10.toNat]!)).2) k15).1) false)) || (!(decide ((cof_F ((act16_F fb13 (acts0[i10.toNat]!)).2) ((cnow_F ((act16_F fb13 (acts0[i10.toNat]!)).2) k15).1)).1 = k15)))) || (!(decide ((cof_F ((act16_F fb13 (acts0[i10.toNat]!)).2) ((cnow_F ((act16_F fb13 (acts0[i10.toNat]!)).2) k15).1)).2 = 0)))) = true := hq62
                                  rw [if_pos hp62] at h
                                  refine xw_cond_t rfl rfl (xw_seq (xw_region ?_))
                                  refine xq rfl trivial (o_as rfl) ?_
                                  refine xo_nil (xq_then (xw_ret (xq_then_ret (xq_blk_ret (xq_then_ret ?_)))))
                                  exact xq_out (r := (.inr () : (Unit) ⊕ (Unit))) (e' := [(2, .bool false)]) (B14_3 ++ ((b13, BK 28 (mv (kPA 1 3 (kS [2])) ((act16_F fb13 (acts0[i10.toNat]!)).2)) 61) :: ((b12, BK 9 (iv fb12) 53) :: ((b11, BK 9 (mv kT fb11) 52) :: ([]))))) (lc rfl ln) (fun _ h => St.permI [1, 0, 2, 3] [[(b13, _)], B14_3, [(b12, _)], [(b11, _)]] rfl (h)) h (by intro hh; cases hh) ⟨B14_3, rfl, rfl, rfl, hcB14_3⟩
                                · have hq62 : ((((mget ieq seen14 ((cnow_F ((act16_F fb13 (acts0[i10.toNat]!)).2) k15).1) false)) || (!(decide ((cof_F ((act16_F fb13 (acts0[i10.toNat]!)).2) ((cnow_F ((act16_F fb13 (acts0[i10.toNat]!)).2) k15).1)).1 = k15)))) || (!(decide ((cof_F ((act16_F fb13 (acts0[i10.toNat]!)).2) ((cnow_F ((act16_F fb13 (acts0[i10.toNat]!)).2) k15).1)).2 = 0)))) = false := hc62
                                  have hp62 : ¬ (((((mget ieq seen14 ((cnow_F ((act16_F fb13 (acts0[i10.toNat]!)).2) k15).1) false)) || (!(decide ((cof_F ((act16_F fb13 (acts0[i10.toNat]!)).2) ((cnow_F ((act16_F fb13 (acts0[i10.toNat]!)).2) k15).1)).1 = k15)))) || (!(decide ((cof_F ((act16_F fb13 (acts0[i10.toNat]!)).2) ((cnow_F ((act16_F fb13 (acts0[i10.toNat]!)).2) k15).1)).2 = 0)))) = true) := bne' hq62
                                  rw [if_neg hp62] at h
                                  refine xw_cond_f rfl rfl (xw_skip (xq_then (xw_region ?_)))
                                  refine xq rfl trivial (o_mv rfl) ?_
                                  refine xq rfl trivial (o_mv rfl) ?_
                                  refine xo0 trivial (OT.st (fun _ h => Pull.st (.thereC _ (.here _ _)) h) (o_mset (k := (cnow_F ((act16_F fb13 (acts0[i10.toNat]!)).2) k15).1) (e := true) kt3 Try.underlying54 rfl rfl rfl hJ14_3)) ?_
                                  rintro _ _ ⟨Bs63, rfl, hns63, hJs63⟩
                                  have hcBs63 := Cov.trans hcB14_3 hns63
                                  refine xo_st ((b13, BK 28 (mv (kPA 1 3 (kS [2])) ((act16_F fb13 (acts0[i10.toNat]!)).2)) 61) :: (Bs63 ++ ((b12, BK 9 (iv fb12) 53) :: ((b11, BK 9 (mv kT fb11) 52) :: ([]))))) (fun _ h => Pull.push (.thereC _ (.here _ _)) h) ?_
                                  refine xo_nil ?_
                                  refine xq_blk 5 ?_
                                  refine xq_then (xw_region ?_)
                                  refine xq rfl trivial (o_mv rfl) ?_
                                  obtain ⟨ho64, h⟩ := h
                                  refine xq rfl trivial (o_add rfl rfl rfl ho64) ?_
                                  refine xq rfl trivial (o_as rfl) ?_
                                  refine xo_nil ?_
                                  exact xq_next (s' := ((mset ieq seen14 ((cnow_F ((act16_F fb13 (acts0[i10.toNat]!)).2) k15).1) true, k15 + 1) : (List (Int × Bool)) × Int)) (e' := [(0, v0), (8, .pointer (some ⟨b13, 0, none⟩)), (10, .int .i64 i10), (11, .pointer (some ⟨b11, 0, none⟩)), (12, .pointer (some ⟨b12, 0, none⟩)), (14, v14_3), (15, .int .i64 (k15 + 1))]) (Bs63 ++ ((b13, BK 28 (mv (kPA 1 3 (kS [2])) ((act16_F fb13 (acts0[i10.toNat]!)).2)) 61) :: ((b12, BK 9 (iv fb12) 53) :: ((b11, BK 9 (mv kT fb11) 52) :: ([]))))) (lc rfl (lc rfl (lc rfl (lc rfl (lc rfl (lc rfl (lc rfl ln))))))) (fun _ h => St.permI [1, 0, 2, 3] [[(b13, _)], Bs63, [(b12, _)], [(b11, _)]] rfl (h)) h ⟨v14_3, Bs63, rfl, rfl, hJs63, hcBs63⟩
                        · have hq25 : (decide (k15 ≤ 8)) = false := hc25
                          have hp25 : ¬ (k15 ≤ 8) := of_decide_eq_false hq25
                          rw [if_neg hp25] at h
                          refine xw_cond_f rfl rfl (xw_exit (xq_then_exit ?_))
                          exact xq_out (r := (.inl () : (Unit) ⊕ (Unit))) (e' := [(0, v0), (8, .pointer (some ⟨b13, 0, none⟩)), (10, .int .i64 i10)]) (B14_3 ++ ((b13, BK 28 (mv (kPA 1 3 (kS [2])) ((act16_F fb13 (acts0[i10.toNat]!)).2)) 61) :: ((b12, BK 9 (iv fb12) 53) :: ((b11, BK 9 (mv kT fb11) 52) :: ([]))))) (lc rfl (lc rfl (lc rfl ln))) (fun _ h => h) h (by intro hh; cases hh) ⟨B14_3, rfl, rfl, rfl, hcB14_3⟩
                      · rcases x3 with _ | x3
                        · rintro _ _ _ ⟨B14_3o, rfl, rfl, rfl, hcB14_3o⟩
                          replace h : one16_k3a acts0 i10 fb13 o := h
                          unfold one16_k3a at h
                          refine xq_blk_eq ?_
                          refine xq_blk 1 ?_
                          refine xq_then (xw_region ?_)
                          refine xq rfl trivial (o_mv rfl) ?_
                          obtain ⟨ho65, h⟩ := h
                          refine xq rfl trivial (o_add rfl rfl rfl ho65) ?_
                          refine xq rfl trivial (o_as rfl) ?_
                          refine xo_nil ?_
                          exact xq_next (s' := ((i10 + 1, (act16_F fb13 (acts0[i10.toNat]!)).2) : Int × (Nat → Int))) (e' := [(0, v0), (8, .pointer (some ⟨b13, 0, none⟩)), (10, .int .i64 (i10 + 1))]) ((b13, BK 28 (mv (kPA 1 3 (kS [2])) ((act16_F fb13 (acts0[i10.toNat]!)).2)) 61) :: ([])) (lc rfl (lc rfl (lc rfl ln))) (Kp.st (Kp.segNew (Cov.fresh hcB14_3o) (Kp.keep (Kp.new hb12 (Kp.new hb11 Kp.nil))))) h ⟨rfl, rfl⟩
                        cases x3
                        rintro _ _ _ ⟨B14_3o, rfl, rfl, rfl, hcB14_3o⟩
                        replace h : one16_k3b acts0 i10 fb13 o := h
                        unfold one16_k3b at h
                        refine xq_blk_ret (xq_blk_ret (xq_then_ret ?_))
                        exact xq_out (r := (.inr ((act16_F fb13 (acts0[i10.toNat]!)).2) : ((Nat → Int)) ⊕ ((Nat → Int)))) (e' := [(2, .bool false)]) ((b13, BK 28 (mv (kPA 1 3 (kS [2])) ((act16_F fb13 (acts0[i10.toNat]!)).2)) 61) :: ([])) (lc rfl ln) (Kp.st (Kp.segNew (Cov.fresh hcB14_3o) (Kp.keep (Kp.new hb12 (Kp.new hb11 Kp.nil))))) h (by intro hh; cases hh) ⟨rfl, rfl, rfl⟩
                  · have hq9 : (decide (i10 < (acts0.length : Int))) = false := hc9
                    have hp9 : ¬ (i10 < (acts0.length : Int)) := of_decide_eq_false hq9
                    rw [if_neg hp9] at h
                    refine xw_cond_f rfl rfl (xw_exit (xq_then_exit ?_))
                    exact xq_out (r := (.inl fb13 : ((Nat → Int)) ⊕ ((Nat → Int)))) (e' := []) ((b13, BK 28 (mv (kPA 1 3 (kS [2])) fb13) 61) :: ([])) ln (fun _ h => h) h (by intro hh; cases hh) ⟨rfl, rfl, rfl⟩
                · rcases x1 with fb13 | fb13
                  · rintro _ _ _ ⟨rfl, rfl, rfl⟩
                    replace h : one16_k1a fb13 r := h
                    unfold one16_k1a at h
                    refine xq_blk_eq ?_
                    refine xq_then (xw_seq (xw_region ?_))
                    refine xq rfl trivial (o_as rfl) ?_
                    refine xo_nil (xq_then (xw_ret ?_))
                    subst h
                    exact con_ret1 (.inl rfl) Try.results5 rfl [] (Kp.st (Kp.new hb13 Kp.nil)) (⟨rfl, rfl⟩)
                  rintro _ _ _ ⟨rfl, rfl, rfl⟩
                  replace h : one16_k1b fb13 r := h
                  unfold one16_k1b at h
                  refine xq_blk_ret (xq_then_ret ?_)
                  subst h
                  exact con_ret1 (.inl rfl) Try.results5 rfl [] (Kp.st (Kp.new hb13 Kp.nil)) (⟨rfl, rfl⟩)

end Go.Proofs.Yteomcjiiiilhmaa
