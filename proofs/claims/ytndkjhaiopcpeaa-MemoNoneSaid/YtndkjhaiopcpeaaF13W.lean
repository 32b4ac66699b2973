/- The code answers as the relations say. -/
import Derived.Test.YtndkjhaiopcpeaaTab
import Derived.Test.YtndkjhaiopcpeaaF13S
import Derived.Test.YtndkjhaiopcpeaaB13W
set_option maxHeartbeats 1000000
set_option linter.unusedVariables false
set_option linter.unusedSimpArgs false
set_option maxRecDepth 100000
namespace Go.Proofs.Ytndkjhaiopcpeaa
open Go Go.E

theorem none13_con (tx0 : Int) (seq1 : Int) (m2 : (Nat → Int)) (w : World) (r : Bool) (h : none13_S tx0 seq1 m2 r) : Con Try.prog 6 #[.int .i64 tx0, .int .i64 seq1, AI 28 m2] w (Is (.bool r) []) := by
  unfold none13_S at h
  refine con_enter (n := 64) [(0, _), (1, _), (2, _)] Try.func6 rfl Try.ntmps6 rfl (lac rfl (lac rfl (lac rfl lan))) ?_
  refine xw_seq (xw_region ?_)
  refine xo rfl trivial (o_boxA rfl) ?_
  rintro _ _ ⟨b5, hb5, rfl, rfl⟩
  refine xq rfl trivial (o_as rfl) ?_
  refine xo_nil (xq_then (xw_seq (xw_seq (xw_region ?_))))
  refine xcallq rfl trivial kf7 rfl (fun w1 hw1 => alive13_c w1) ?_
  refine xq rfl trivial (o_not rfl) ?_
  refine xo_nil (xq_then ?_)
  refine xw_bool 13 rfl (fun hc1 => ?_) (fun hc1 => ?_)
  · have hq1 : (alive13_F) = false := (bnT hc1)
    have hp1 : ¬ ((alive13_F) = true) := bne' hq1
    rw [if_neg hp1] at h
    refine xw_cond_t rfl rfl (xw_seq (xw_region ?_))
    refine xq rfl trivial (o_as rfl) ?_
    refine xo_nil (xq_then (xw_ret (xq_then_ret ?_)))
    subst h
    exact con_ret1 (.inl rfl) Try.results6 rfl [] (Kp.st (Kp.new hb5 Kp.nil)) (⟨rfl, rfl⟩)
  · have hq1 : (alive13_F) = true := (bnF hc1)
    have hp1 : (alive13_F) = true := hq1
    rw [if_pos hp1] at h
    refine xw_cond_f rfl rfl (xw_skip (xq_then (xw_seq (xw_region ?_))))
    refine xq rfl trivial (o_as rfl) ?_
    refine xo_nil (xq_then (xw_seq (xw_region ?_)))
    refine xq rfl trivial (o_mv rfl) ?_
    refine xq rfl trivial (o_mv rfl) ?_
    refine xq rfl trivial (o_mv rfl) ?_
    refine xoR rfl trivial (ot_in (l := [(0, _), (1, _), (2, _)]) kf9 rfl Try.func9 rfl Try.ntmps9 rfl (lac rfl (lac rfl (lac rfl lan))) ?_)
    refine xw_seq (xw_region ?_)
    refine xo rfl trivial (o_alloc ze34 rfl) ?_
    rintro _ _ ⟨b6, hb6, rfl, rfl⟩
    refine xq rfl trivial (o_as rfl) ?_
    refine xo_nil (xq_then (xw_seq (xw_seq ?_)))
    refine xw_cut [(0, _), (1, _), (2, _), (6, _)] (lc rfl (lc rfl (lc rfl (lc rfl ln)))) [(26, .bool true)] ?_ ?_
    · refine xw_region ?_
      refine xq rfl trivial (o_mv rfl) ?_
      refine xq rfl trivial (o_eqn Try.underlying24 rfl rfl rfl rfl) ?_
      refine xq rfl trivial (o_mv rfl) ?_
      refine xs rfl ⟨_, _, rfl, rfl, rfl⟩ (xs rfl ⟨_, _, rfl, rfl, rfl⟩ ?_)
      refine xq rfl trivial (o_pick_t rfl rfl) ?_
      refine xq rfl trivial (o_mv rfl) ?_
      refine xs rfl ⟨_, _, rfl, rfl, rfl⟩ (xs rfl ⟨_, _, rfl, rfl, rfl⟩ ?_)
      refine xq rfl trivial (o_pick_t rfl rfl) ?_
      refine xq rfl trivial (o_mv rfl) ?_
      refine xs rfl ⟨_, _, rfl, rfl, rfl⟩ (xs rfl ⟨_, _, rfl, rfl, rfl⟩ ?_)
      refine xq rfl trivial (o_pick_t rfl rfl) ?_
      refine xq rfl trivial (o_mv rfl) ?_
      refine xs rfl ⟨_, _, rfl, rfl, rfl⟩ (xs rfl ⟨_, _, rfl, rfl, rfl⟩ ?_)
      refine xq rfl trivial (o_pick_t rfl rfl) ?_
      refine xo_nil ?_
      exact xq_cut ((lce rfl (by first | rfl | (simp only [hq1, if_pos hp1, bS]; done) | (simp only [hq1, if_pos hp1, bS, reduceIte, Bool.false_eq_true]; done) | (simp [hp1]; done) | (simp_all; done)) (lc rfl (lc rfl (lc rfl (lc rfl ln)))))) (fun _ h => h)
    · refine xq_then (xw_cond_t rfl rfl (xw_seq (xw_region ?_)))
      refine xq rfl trivial (o_build fk34 ze34 (.nil _)) ?_
      refine xq rfl trivial (o_mki rfl Try.underlying68 rfl) ?_
      refine xq0 trivial (o_stWI rfl rfl ts34 (List.Mem.head _) (.here _ _ _ _)) ?_
      refine xq rfl trivial (o_as rfl) ?_
      refine xo_nil (xq_then (xw_ret (xq_then_ret ?_)))
      refine con_retN (.inl rfl) (l := [.cell 6 34, .tmp 7]) Try.results9 (.cell rfl ts34 (List.Mem.head _) (.tmp rfl .nil)) rfl _ (fun _ h => h) (?_)
      refine xq rfl trivial (o_mv rfl) ?_
      refine xq rfl trivial (o_ext rfl rfl) ?_
      refine xq rfl trivial (o_ext rfl rfl) ?_
      refine xo rfl trivial (o_alloc ze34 rfl) ?_
      rintro _ _ ⟨b8, hb8, rfl, rfl⟩
      refine xq0 trivial (o_stWI rfl rfl ts34 (List.Mem.head _) (.here _ _ _ _)) ?_
      refine xq rfl trivial (o_as rfl) ?_
      refine xo_nil (xq_then (xw_seq (xw_region ?_)))
      refine xq rfl trivial (o_mv rfl) ?_
      refine xq rfl trivial (o_mv rfl) ?_
      refine xoR rfl trivial (ot_in (l := [(0, _), (1, _)]) kf14 rfl Try.func14 rfl Try.ntmps14 rfl (lac rfl (lac rfl lan)) ?_)
      refine xw_seq (xw_region ?_)
      refine xq rfl trivial (o_as rfl) ?_
      refine xq rfl trivial (o_as rfl) ?_
      refine xo_nil (xq_then (xw_seq (xw_seq (xw_region ?_))))
      refine xq rfl trivial (o_mv rfl) ?_
      refine xq rfl trivial (o_eqn Try.underlying24 rfl rfl rfl rfl) ?_
      refine xo_nil (xq_then (xw_cond_t rfl rfl (xw_seq (xw_region ?_))))
      refine xq rfl trivial (o_mki rfl Try.underlying68 rfl) ?_
      refine xq rfl trivial (o_as rfl) ?_
      refine xq rfl trivial (o_as rfl) ?_
      refine xo_nil (xq_then (xw_ret (xq_then_ret ?_)))
      refine con_ret2 (.inl rfl) Try.results14 rfl rfl _ (fun _ h => h) (?_)
      refine xq rfl trivial (o_mv rfl) ?_
      refine xq rfl trivial (o_ext rfl rfl) ?_
      refine xq rfl trivial (o_ext rfl rfl) ?_
      refine xq rfl trivial (o_as rfl) ?_
      refine xq rfl trivial (o_as rfl) ?_
      refine xo_nil (xq_then (xw_seq (xw_region ?_)))
      refine xq rfl trivial (o_ldW rfl ts34 (List.Mem.head _)) ?_
      refine xq rfl trivial (o_build fk34 ze34 (.nil _)) ?_
      refine xq rfl trivial (o_eqlA eq34 rfl rfl) ?_
      refine xq rfl trivial (o_mv rfl) ?_
      refine xo_bool 30 rfl (fun hg2 => ?_) (fun hg2 => ?_)
      · have hq2 : ((eqN 28 (fun _ => 0) (fun _ => 0))) = true := hg2
        have hp2 : ((eqN 28 (fun _ => 0) (fun _ => 0))) = true := hq2
        rw [if_pos hp2] at h
        refine xq rfl ⟨_, rfl, rfl⟩ (o_mv rfl) ?_
        refine xcallq rfl ⟨_, rfl, rfl⟩ kf10 rfl (fun w1 hw1 => code_c 1 w1) ?_
        refine xq rfl ⟨_, rfl, rfl⟩ (o_eql rfl rfl) ?_
        refine xq rfl trivial (o_pick_t rfl rfl) ?_
        refine xq rfl trivial (o_mv rfl) ?_
        refine xo_bool 35 rfl (fun hg3 => ?_) (fun hg3 => ?_)
        · have hq3 : (decide ((code_F 1) = 1)) = true := hg3
          have hp3 : (code_F 1) = 1 := of_decide_eq_true hq3
          rw [if_pos hp3] at h
          refine xq rfl ⟨_, rfl, rfl⟩ (o_mv rfl) ?_
          refine xq rfl ⟨_, rfl, rfl⟩ (o_ldW rfl ts34 (List.Mem.tail _ (List.Mem.tail _ (List.Mem.head _)))) ?_
          refine xoR rfl ⟨_, rfl, rfl⟩ (ot_in (l := [(0, _), (1, _)]) kf11 rfl Try.func11 rfl Try.ntmps11 rfl (lac rfl (lac rfl lan)) ?_)
          refine xw_seq (xw_region ?_)
          refine xo rfl trivial (o_boxA rfl) ?_
          rintro _ _ ⟨b3, hb3, rfl, rfl⟩
          refine xq rfl trivial (o_as rfl) ?_
          refine xo_nil (xq_then (xw_seq (xw_seq (xw_region ?_))))
          refine xq rfl trivial (o_mv rfl) ?_
          refine xq rfl trivial (o_eqn Try.underlying24 rfl rfl rfl rfl) ?_
          refine xo_nil (xq_then (xw_cond_t rfl rfl (xw_seq (xw_region ?_))))
          refine xq rfl trivial (o_mki rfl Try.underlying68 rfl) ?_
          refine xq rfl trivial (o_as rfl) ?_
          refine xo_nil (xq_then (xw_ret (xq_then_ret ?_)))
          refine con_ret1 (.inl rfl) Try.results11 rfl _ (fun _ h => h) (?_)
          refine xcallq rfl ⟨_, rfl, rfl⟩ kf10 rfl (fun w1 hw1 => code_c 1 w1) ?_
          refine xq rfl ⟨_, rfl, rfl⟩ (o_eql rfl rfl) ?_
          refine xq rfl trivial (o_pick_t rfl rfl) ?_
          refine xq rfl trivial (o_mv rfl) ?_
          refine xo_val 42 rfl (v' := .bool true) (congrArg Value.bool (by simpa using hp3)) ?_
          refine xq rfl ⟨_, rfl, rfl⟩ (o_mv rfl) ?_
          refine xq rfl ⟨_, rfl, rfl⟩ (o_mv rfl) ?_
          refine xoR rfl ⟨_, rfl, rfl⟩ (ot_in (l := [(0, _), (1, _)]) kf13 rfl Try.func13 rfl Try.ntmps13 rfl (lac rfl (lac rfl lan)) ?_)
          refine xw_seq (xw_region ?_)
          refine xq rfl trivial (o_as rfl) ?_
          refine xo_nil (xq_then (xw_seq (xw_seq (xw_region ?_))))
          refine xq rfl trivial (o_mv rfl) ?_
          refine xq rfl trivial (o_mv rfl) ?_
          refine xoR rfl trivial (ot_in (l := [(0, _), (1, _)]) kf14 rfl Try.func14 rfl Try.ntmps14 rfl (lac rfl (lac rfl lan)) ?_)
          refine xw_seq (xw_region ?_)
          refine xq rfl trivial (o_as rfl) ?_
          refine xq rfl trivial (o_as rfl) ?_
          refine xo_nil (xq_then (xw_seq (xw_seq (xw_region ?_))))
          refine xq rfl trivial (o_mv rfl) ?_
          refine xq rfl trivial (o_eqn Try.underlying24 rfl rfl rfl rfl) ?_
          refine xo_nil (xq_then (xw_cond_t rfl rfl (xw_seq (xw_region ?_))))
          refine xq rfl trivial (o_mki rfl Try.underlying68 rfl) ?_
          refine xq rfl trivial (o_as rfl) ?_
          refine xq rfl trivial (o_as rfl) ?_
          refine xo_nil (xq_then (xw_ret (xq_then_ret ?_)))
          refine con_ret2 (.inl rfl) Try.results14 rfl rfl _ (fun _ h => h) (?_)
          refine xq rfl trivial (o_mv rfl) ?_
          refine xq rfl trivial (o_ext rfl rfl) ?_
          refine xq rfl trivial (o_ext rfl rfl) ?_
          refine xq rfl trivial (o_as rfl) ?_
          refine xq rfl trivial (o_as rfl) ?_
          refine xo_nil (xq_then (xw_seq (xw_region ?_)))
          refine xq rfl trivial (o_mv rfl) ?_
          refine xq rfl trivial (o_nen Try.underlying36 rfl rfl rfl rfl) ?_
          refine xo_nil (xq_then (xw_cond_t rfl rfl (xw_seq (xw_region ?_))))
          refine xq rfl trivial (o_mv rfl) ?_
          refine xq rfl trivial (o_as rfl) ?_
          refine xo_nil (xq_then (xw_ret (xq_then_ret ?_)))
          refine con_ret1 (.inl rfl) Try.results13 rfl _ (fun _ h => h) (?_)
          refine xcallq rfl ⟨_, rfl, rfl⟩ kf10 rfl (fun w1 hw1 => code_c 1 w1) ?_
          refine xq rfl ⟨_, rfl, rfl⟩ (o_eql rfl rfl) ?_
          refine xq rfl trivial (o_pick_t rfl rfl) ?_
          refine xq rfl trivial (o_mv rfl) ?_
          refine xo_val 49 rfl (v' := .bool true) (congrArg Value.bool (by simpa using hp3)) ?_
          refine xq rfl ⟨_, rfl, rfl⟩ (o_mv rfl) ?_
          refine xq rfl ⟨_, rfl, rfl⟩ (o_eql rfl rfl) ?_
          refine xq rfl trivial (o_pick_t rfl rfl) ?_
          refine xq rfl trivial (o_mv rfl) ?_
          refine xq rfl ⟨_, rfl, rfl⟩ (o_mv rfl) ?_
          refine xcallq rfl ⟨_, rfl, rfl⟩ kf10 rfl (fun w1 hw1 => code_c 1 w1) ?_
          refine xq rfl ⟨_, rfl, rfl⟩ (o_eql rfl rfl) ?_
          refine xq rfl trivial (o_pick_t rfl rfl) ?_
          refine xq rfl trivial (o_mv rfl) ?_
          refine xo_val 58 rfl (v' := .bool true) (congrArg Value.bool (by simpa using hp3)) ?_
          refine xq rfl ⟨_, rfl, rfl⟩ (o_mv rfl) ?_
          refine xoR rfl ⟨_, rfl, rfl⟩ (ot_in (l := [(0, _)]) kf19 rfl Try.func19 rfl Try.ntmps19 rfl (lac rfl lan) ?_)
          refine xw_seq (xw_region ?_)
          refine xq rfl trivial (o_as rfl) ?_
          refine xo_nil (xq_then (xw_seq (xw_seq (xw_region ?_))))
          refine xq rfl trivial (o_mv rfl) ?_
          refine xq rfl trivial (o_eqn Try.underlying24 rfl rfl rfl rfl) ?_
          refine xo_nil (xq_then (xw_cond_t rfl rfl (xw_seq (xw_region ?_))))
          refine xq rfl trivial (o_as rfl) ?_
          refine xo_nil (xq_then (xw_ret (xq_then_ret ?_)))
          refine con_ret1 (.inl rfl) Try.results19 rfl _ (fun _ h => h) (?_)
          refine xq rfl ⟨_, rfl, rfl⟩ (o_lenL (l := ([] : List Int)) rfl Try.underlying57 rfl ⟨none, 0, rfl⟩) ?_
          refine xq rfl ⟨_, rfl, rfl⟩ (o_eql rfl rfl) ?_
          refine xq rfl trivial (o_pick_t rfl rfl) ?_
          refine xq rfl trivial (o_as rfl) ?_
          refine xo_nil (xq_then (xw_ret ?_))
          subst h
          exact con_ret1 (.inl rfl) Try.results6 rfl [] (Kp.st (Kp.new hb3 (Kp.new hb8 (Kp.new hb6 (Kp.new hb5 Kp.nil))))) (⟨rfl, rfl⟩)
        · have hq3 : (decide ((code_F 1) = 1)) = false := hg3
          have hp3 : ¬ ((code_F 1) = 1) := of_decide_eq_false hq3
          rw [if_neg hp3] at h
          refine xs rfl ⟨_, _, rfl, rfl, rfl⟩ (xs rfl ⟨_, _, rfl, rfl, rfl⟩ (xs rfl ⟨_, _, rfl, rfl, rfl⟩ (xs rfl ⟨_, _, rfl, rfl, rfl⟩ (xs rfl ⟨_, _, rfl, rfl, rfl⟩ ?_))))
          refine xq rfl trivial (o_pick_f rfl rfl) ?_
          refine xq rfl trivial (o_mv rfl) ?_
          refine xs rfl ⟨_, _, rfl, rfl, rfl⟩ (xs rfl ⟨_, _, rfl, rfl, rfl⟩ (xs rfl ⟨_, _, rfl, rfl, rfl⟩ (xs rfl ⟨_, _, rfl, rfl, rfl⟩ (xs rfl ⟨_, _, rfl, rfl, rfl⟩ ?_))))
          refine xq rfl trivial (o_pick_f rfl rfl) ?_
          refine xq rfl trivial (o_mv rfl) ?_
          refine xs rfl ⟨_, _, rfl, rfl, rfl⟩ (xs rfl ⟨_, _, rfl, rfl, rfl⟩ ?_)
          refine xq rfl trivial (o_pick_f rfl rfl) ?_
          refine xq rfl trivial (o_mv rfl) ?_
          refine xs rfl ⟨_, _, rfl, rfl, rfl⟩ (xs rfl ⟨_, _, rfl, rfl, rfl⟩ (xs rfl ⟨_, _, rfl, rfl, rfl⟩ ?_))
          refine xq rfl trivial (o_pick_f rfl rfl) ?_
          refine xq rfl trivial (o_mv rfl) ?_
          refine xs rfl ⟨_, _, rfl, rfl, rfl⟩ (xs rfl ⟨_, _, rfl, rfl, rfl⟩ (xs rfl ⟨_, _, rfl, rfl, rfl⟩ (xs rfl ⟨_, _, rfl, rfl, rfl⟩ ?_)))
          refine xq rfl trivial (o_pick_f rfl rfl) ?_
          refine xq rfl trivial (o_as rfl) ?_
          refine xo_nil (xq_then (xw_ret ?_))
          subst h
          exact con_ret1 (.inl rfl) Try.results6 rfl [] (Kp.st (Kp.new hb8 (Kp.new hb6 (Kp.new hb5 Kp.nil)))) (⟨rfl, rfl⟩)
      · have hq2 : ((eqN 28 (fun _ => 0) (fun _ => 0))) = false := hg2
        have hp2 : ¬ (((eqN 28 (fun _ => 0) (fun _ => 0))) = true) := bne' hq2
        rw [if_neg hp2] at h
        refine xs rfl ⟨_, _, rfl, rfl, rfl⟩ (xs rfl ⟨_, _, rfl, rfl, rfl⟩ (xs rfl ⟨_, _, rfl, rfl, rfl⟩ ?_))
        refine xq rfl trivial (o_pick_f rfl rfl) ?_
        refine xq rfl trivial (o_mv rfl) ?_
        refine xs rfl ⟨_, _, rfl, rfl, rfl⟩ (xs rfl ⟨_, _, rfl, rfl, rfl⟩ (xs rfl ⟨_, _, rfl, rfl, rfl⟩ (xs rfl ⟨_, _, rfl, rfl, rfl⟩ (xs rfl ⟨_, _, rfl, rfl, rfl⟩ ?_))))
        refine xq rfl trivial (o_pick_f rfl rfl) ?_
        refine xq rfl trivial (o_mv rfl) ?_
        refine xs rfl ⟨_, _, rfl, rfl, rfl⟩ (xs rfl ⟨_, _, rfl, rfl, rfl⟩ (xs rfl ⟨_, _, rfl, rfl, rfl⟩ (xs rfl ⟨_, _, rfl, rfl, rfl⟩ (xs rfl ⟨_, _, rfl, rfl, rfl⟩ ?_))))
        refine xq rfl trivial (o_pick_f rfl rfl) ?_
        refine xq rfl trivial (o_mv rfl) ?_
        refine xs rfl ⟨_, _, rfl, rfl, rfl⟩ (xs rfl ⟨_, _, rfl, rfl, rfl⟩ ?_)
        refine xq rfl trivial (o_pick_f rfl rfl) ?_
        refine xq rfl trivial (o_mv rfl) ?_
        refine xs rfl ⟨_, _, rfl, rfl, rfl⟩ (xs rfl ⟨_, _, rfl, rfl, rfl⟩ (xs rfl ⟨_, _, rfl, rfl, rfl⟩ ?_))
        refine xq rfl trivial (o_pick_f rfl rfl) ?_
        refine xq rfl trivial (o_mv rfl) ?_
        refine xs rfl ⟨_, _, rfl, rfl, rfl⟩ (xs rfl ⟨_, _, rfl, rfl, rfl⟩ (xs rfl ⟨_, _, rfl, rfl, rfl⟩ (xs rfl ⟨_, _, rfl, rfl, rfl⟩ ?_)))
        refine xq rfl trivial (o_pick_f rfl rfl) ?_
        refine xq rfl trivial (o_as rfl) ?_
        refine xo_nil (xq_then (xw_ret ?_))
        subst h
        exact con_ret1 (.inl rfl) Try.results6 rfl [] (Kp.st (Kp.new hb8 (Kp.new hb6 (Kp.new hb5 Kp.nil)))) (⟨rfl, rfl⟩)

theorem none13_c (tx0 : Int) (seq1 : Int) (m2 : (Nat → Int)) (w : World) : Con Try.prog 6 #[.int .i64 tx0, .int .i64 seq1, AI 28 m2] w (Is (.bool (none13_F tx0 seq1 m2)) []) :=
  none13_con tx0 seq1 m2 w _ (none13_ok tx0 seq1 m2)

end Go.Proofs.Ytndkjhaiopcpeaa
