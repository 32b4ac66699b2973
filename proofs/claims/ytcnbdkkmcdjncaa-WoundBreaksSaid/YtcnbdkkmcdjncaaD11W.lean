/- The code answers as the relations say. -/
import Derived.Test.YtcnbdkkmcdjncaaTab
import Derived.Test.YtcnbdkkmcdjncaaD11S
import Derived.Test.YtcnbdkkmcdjncaaC11W
set_option maxHeartbeats 1000000
set_option linter.unusedVariables false
set_option linter.unusedSimpArgs false
set_option maxRecDepth 100000
namespace Go.Proofs.Ytcnbdkkmcdjncaa
open Go Go.E

theorem wrest_c (l0 : (List (Nat → Int))) (v0 : Value) (w : World) (hs0 : SL w 4 iv v0 l0) (hP : wrest_P l0) : Con Try.prog 11 #[v0] w (fun v F => ∃ (u0 : Value) (C0 : GH), v = u0 ∧ F = (C0 ++ []) ∧ OJ 37 4 iv C0 u0 (wrest_F l0) ∧ Cov w [] C0) :=
  wrest_con l0 v0 w hs0 _ (wrest_ok l0 hP)

theorem ofR_c (l0 : (List (Nat → Int))) (v0 : Value) (w : World) (hs0 : SL w 4 iv v0 l0) (hP : ofR_P l0) : Con Try.prog 9 #[v0] w (fun v F => ∃ (u0 : Value) (C0 : GH), v = u0 ∧ F = (C0 ++ []) ∧ OJ 30 2 iv C0 u0 (ofR_F l0) ∧ Cov w [] C0) :=
  ofR_con l0 v0 w hs0 _ (ofR_ok l0 hP)

theorem restR_c (l0 : (List (Nat → Int))) (v0 : Value) (w : World) (hs0 : SL w 4 iv v0 l0) (hP : restR_P l0) : Con Try.prog 12 #[v0] w (fun v F => ∃ (u0 : Value) (C0 : GH), v = u0 ∧ F = (C0 ++ []) ∧ OJ 37 4 iv C0 u0 (restR_F l0) ∧ Cov w [] C0) :=
  restR_con l0 v0 w hs0 _ (restR_ok l0 hP)

theorem esame_c (a0 : (List (Nat → Int))) (b1 : (List (Nat → Int))) (v0 : Value) (v1 : Value) (w : World) (hs0 : SL w 4 iv v0 a0) (hs1 : SL w 4 iv v1 b1) (hP : esame_P a0 b1) : Con Try.prog 10 #[v0, v1] w (Is (.bool (esame_F a0 b1)) []) :=
  esame_con a0 b1 v0 v1 w hs0 hs1 _ (esame_ok a0 b1 hP)

theorem alive11_con (w : World) (r : Bool) (h : alive11_S r) : Con Try.prog 7 #[] w (Is (.bool r) []) := by
  unfold alive11_S at h
  refine con_enter (n := 39) [] Try.func7 rfl Try.ntmps7 rfl lan ?_
  refine xw_seq (xw_region ?_)
  refine xq rfl trivial (o_as rfl) ?_
  refine xo_nil (xq_then (xw_seq (xw_region ?_)))
  refine xq rfl trivial (o_build fk37 ze37 (.int fl37_0 rfl rfl (.int fl37_2 rfl rfl (.nil _)))) ?_
  refine xq rfl trivial (o_build fk37 ze37 (.int fl37_0 rfl rfl (.int fl37_2 rfl rfl (.nil _)))) ?_
  refine xq rfl trivial (o_build fk37 ze37 (.int fl37_0 rfl rfl (.int fl37_2 rfl rfl (.nil _)))) ?_
  refine xo rfl trivial (o_bsl el22 ze37 rfl rfl rfl (.ints rfl rfl (.ints rfl rfl (.ints rfl rfl (.nil _))))) ?_
  rintro _ _ ⟨b8, hb8, rfl, rfl⟩
  refine xq rfl trivial (o_as rfl) ?_
  refine xo_nil (xq_then (xw_seq (xw_region ?_)))
  refine xq rfl trivial (o_mv rfl) ?_
  obtain ⟨ho1, h⟩ := h
  refine xcall rfl trivial kf8 rfl (fun w1 hw1 => wof_c _ _ w1 (SL.lit (l := [(updI (updI (fun _ => 0) 0 3) 2 5), (updI (updI (fun _ => 0) 0 2) 2 5), (updI (updI (fun _ => 0) 0 5) 2 2)]) hw1 (List.Mem.head _) rfl (by omega) (by simp [maxLen]) (by exact (fun i hi => match i, hi with | 0, _ => rfl | 1, _ => rfl | 2, _ => rfl | 3, _ => rfl | 4, _ => rfl | 5, _ => rfl | 6, _ => rfl | 7, _ => rfl | 8, _ => rfl | 9, _ => rfl | 10, _ => rfl | 11, _ => rfl | q + 12, h => absurd h (by omega)))) ho1) ?_
  rintro w1 vs2 _ hw1 ⟨_, Bs2, rfl, rfl, hJs2, hcBs2⟩
  refine ⟨_, Mg.news (Cov.fresh hcBs2) (.nil _), ?_⟩
  replace hcBs2 := Cov.base (w0 := w) hcBs2 hw1.size
  refine xq rfl trivial (o_as rfl) ?_
  refine xo_nil (xq_then (xw_seq (xw_region ?_)))
  refine xq rfl trivial (o_mv rfl) ?_
  obtain ⟨ho3, h⟩ := h
  refine xcallq rfl trivial kf13 rfl (fun w1 hw1 => oldest_c _ _ w1 (SL.lit (l := [(updI (updI (fun _ => 0) 0 3) 2 5), (updI (updI (fun _ => 0) 0 2) 2 5), (updI (updI (fun _ => 0) 0 5) 2 2)]) hw1 (List.mem_append_right _ (List.Mem.head _)) rfl (by omega) (by simp [maxLen]) (by exact (fun i hi => match i, hi with | 0, _ => rfl | 1, _ => rfl | 2, _ => rfl | 3, _ => rfl | 4, _ => rfl | 5, _ => rfl | 6, _ => rfl | 7, _ => rfl | 8, _ => rfl | 9, _ => rfl | 10, _ => rfl | 11, _ => rfl | q + 12, h => absurd h (by omega)))) ho3) ?_
  refine xq rfl trivial (o_mv rfl) ?_
  refine xq rfl trivial (o_ext rfl rfl) ?_
  refine xq rfl trivial (o_ext rfl rfl) ?_
  refine xq rfl trivial (o_as rfl) ?_
  refine xq rfl trivial (o_as rfl) ?_
  refine xo_nil (xq_then (xw_seq (xw_region ?_)))
  refine xq rfl trivial (o_mv rfl) ?_
  refine xq rfl trivial (o_lenL rfl Try.underlying24 rfl (OJ.val hJs2)) ?_
  refine xq rfl trivial (o_eql rfl rfl) ?_
  refine xq rfl trivial (o_mv rfl) ?_
  refine xo_bool 19 rfl (fun hg4 => ?_) (fun hg4 => ?_)
  · have hq4 : (decide (((wof_F ([(updI (updI (fun _ => 0) 0 3) 2 5), (updI (updI (fun _ => 0) 0 2) 2 5), (updI (updI (fun _ => 0) 0 5) 2 2)])).length : Int) = 1)) = true := hg4
    have hp4 : ((wof_F ([(updI (updI (fun _ => 0) 0 3) 2 5), (updI (updI (fun _ => 0) 0 2) 2 5), (updI (updI (fun _ => 0) 0 5) 2 2)])).length : Int) = 1 := of_decide_eq_true hq4
    rw [if_pos hp4] at h
    refine xq rfl ⟨_, rfl, rfl⟩ (o_mv rfl) ?_
    obtain ⟨ho5, h⟩ := h
    refine xq rfl ⟨_, rfl, rfl⟩ (o_ixL el24 rfl rfl (fun w hw => (hJs2.sl hw (Pull.sub (.here _ _)))) rfl ho5) ?_
    refine xq rfl ⟨_, rfl, rfl⟩ (o_ldLI rfl ts29 rfl (fun w hw => (hJs2.sl hw (Pull.sub (.here _ _)))) (toNat_lt ho5) rfl) ?_
    refine xq rfl ⟨_, rfl, rfl⟩ (o_build fk29 ze29 (.int fl29_0 rfl rfl (.int fl29_1 rfl rfl (.nil _)))) ?_
    refine xq rfl ⟨_, rfl, rfl⟩ (o_eqlA eq29 rfl rfl) ?_
    refine xq rfl trivial (o_pick_t rfl rfl) ?_
    refine xq rfl trivial (o_mv rfl) ?_
    refine xo_bool 26 rfl (fun hg6 => ?_) (fun hg6 => ?_)
    · have hq6 : ((eqN 2 ((wof_F ([(updI (updI (fun _ => 0) 0 3) 2 5), (updI (updI (fun _ => 0) 0 2) 2 5), (updI (updI (fun _ => 0) 0 5) 2 2)]))[0]!) (updI (updI (fun _ => 0) 0 5) 1 2))) = true := hg6
      have hp6 : ((eqN 2 ((wof_F ([(updI (updI (fun _ => 0) 0 3) 2 5), (updI (updI (fun _ => 0) 0 2) 2 5), (updI (updI (fun _ => 0) 0 5) 2 2)]))[0]!) (updI (updI (fun _ => 0) 0 5) 1 2))) = true := hq6
      rw [if_pos hp6] at h
      refine xq rfl ⟨_, rfl, rfl⟩ (o_mv rfl) ?_
      obtain ⟨ho7, h⟩ := h
      refine xcall rfl ⟨_, rfl, rfl⟩ kf11 rfl (fun w1 hw1 => wrest_c _ _ w1 (SL.lit (l := [(updI (updI (fun _ => 0) 0 3) 2 5), (updI (updI (fun _ => 0) 0 2) 2 5), (updI (updI (fun _ => 0) 0 5) 2 2)]) hw1 (List.mem_append_right _ (List.Mem.head _)) rfl (by omega) (by simp [maxLen]) (by exact (fun i hi => match i, hi with | 0, _ => rfl | 1, _ => rfl | 2, _ => rfl | 3, _ => rfl | 4, _ => rfl | 5, _ => rfl | 6, _ => rfl | 7, _ => rfl | 8, _ => rfl | 9, _ => rfl | 10, _ => rfl | 11, _ => rfl | q + 12, h => absurd h (by omega)))) ho7) ?_
      rintro w1 vs8 _ hw1 ⟨_, Bs8, rfl, rfl, hJs8, hcBs8⟩
      refine ⟨_, Mg.news (Cov.fresh hcBs8) (.nil _), ?_⟩
      replace hcBs8 := Cov.base (w0 := w) hcBs8 hw1.size
      refine xq rfl ⟨_, rfl, rfl⟩ (o_lenL rfl Try.underlying22 rfl (OJ.val hJs8)) ?_
      refine xq rfl ⟨_, rfl, rfl⟩ (o_eql rfl rfl) ?_
      refine xq rfl trivial (o_pick_t rfl rfl) ?_
      refine xq rfl trivial (o_mv rfl) ?_
      refine xo_bool 32 rfl (fun hg9 => ?_) (fun hg9 => ?_)
      · have hq9 : (decide (((wrest_F ([(updI (updI (fun _ => 0) 0 3) 2 5), (updI (updI (fun _ => 0) 0 2) 2 5), (updI (updI (fun _ => 0) 0 5) 2 2)])).length : Int) = 0)) = true := hg9
        have hp9 : ((wrest_F ([(updI (updI (fun _ => 0) 0 3) 2 5), (updI (updI (fun _ => 0) 0 2) 2 5), (updI (updI (fun _ => 0) 0 5) 2 2)])).length : Int) = 0 := of_decide_eq_true hq9
        rw [if_pos hp9] at h
        refine xq rfl ⟨_, rfl, rfl⟩ (o_mv rfl) ?_
        refine xq rfl ⟨_, rfl, rfl⟩ (o_eql rfl rfl) ?_
        refine xq rfl trivial (o_pick_t rfl rfl) ?_
        refine xq rfl trivial (o_mv rfl) ?_
        refine xo_bool 36 rfl (fun hg10 => ?_) (fun hg10 => ?_)
        · have hq10 : (decide ((oldest_F ([(updI (updI (fun _ => 0) 0 3) 2 5), (updI (updI (fun _ => 0) 0 2) 2 5), (updI (updI (fun _ => 0) 0 5) 2 2)])).1 = 2)) = true := hg10
          have hp10 : (oldest_F ([(updI (updI (fun _ => 0) 0 3) 2 5), (updI (updI (fun _ => 0) 0 2) 2 5), (updI (updI (fun _ => 0) 0 5) 2 2)])).1 = 2 := of_decide_eq_true hq10
          rw [if_pos hp10] at h
          refine xq rfl ⟨_, rfl, rfl⟩ (o_mv rfl) ?_
          refine xq rfl trivial (o_pick_t rfl rfl) ?_
          refine xq rfl trivial (o_as rfl) ?_
          refine xo_nil (xq_then (xw_ret ?_))
          subst h
          exact con_ret1 (.inl rfl) Try.results7 rfl [] (Kp.st (Kp.segNew (Cov.fresh hcBs8) (Kp.segNew (Cov.fresh hcBs2) (Kp.new hb8 Kp.nil)))) (⟨rfl, rfl⟩)
        · have hq10 : (decide ((oldest_F ([(updI (updI (fun _ => 0) 0 3) 2 5), (updI (updI (fun _ => 0) 0 2) 2 5), (updI (updI (fun _ => 0) 0 5) 2 2)])).1 = 2)) = false := hg10
          have hp10 : ¬ ((oldest_F ([(updI (updI (fun _ => 0) 0 3) 2 5), (updI (updI (fun _ => 0) 0 2) 2 5), (updI (updI (fun _ => 0) 0 5) 2 2)])).1 = 2) := of_decide_eq_false hq10
          rw [if_neg hp10] at h
          refine xs rfl ⟨_, _, rfl, rfl, rfl⟩ ?_
          refine xq rfl trivial (o_pick_f rfl rfl) ?_
          refine xq rfl trivial (o_as rfl) ?_
          refine xo_nil (xq_then (xw_ret ?_))
          subst h
          exact con_ret1 (.inl rfl) Try.results7 rfl [] (Kp.st (Kp.segNew (Cov.fresh hcBs8) (Kp.segNew (Cov.fresh hcBs2) (Kp.new hb8 Kp.nil)))) (⟨rfl, rfl⟩)
      · have hq9 : (decide (((wrest_F ([(updI (updI (fun _ => 0) 0 3) 2 5), (updI (updI (fun _ => 0) 0 2) 2 5), (updI (updI (fun _ => 0) 0 5) 2 2)])).length : Int) = 0)) = false := hg9
        have hp9 : ¬ (((wrest_F ([(updI (updI (fun _ => 0) 0 3) 2 5), (updI (updI (fun _ => 0) 0 2) 2 5), (updI (updI (fun _ => 0) 0 5) 2 2)])).length : Int) = 0) := of_decide_eq_false hq9
        rw [if_neg hp9] at h
        refine xs rfl ⟨_, _, rfl, rfl, rfl⟩ (xs rfl ⟨_, _, rfl, rfl, rfl⟩ ?_)
        refine xq rfl trivial (o_pick_f rfl rfl) ?_
        refine xq rfl trivial (o_mv rfl) ?_
        refine xs rfl ⟨_, _, rfl, rfl, rfl⟩ ?_
        refine xq rfl trivial (o_pick_f rfl rfl) ?_
        refine xq rfl trivial (o_as rfl) ?_
        refine xo_nil (xq_then (xw_ret ?_))
        subst h
        exact con_ret1 (.inl rfl) Try.results7 rfl [] (Kp.st (Kp.segNew (Cov.fresh hcBs8) (Kp.segNew (Cov.fresh hcBs2) (Kp.new hb8 Kp.nil)))) (⟨rfl, rfl⟩)
    · have hq6 : ((eqN 2 ((wof_F ([(updI (updI (fun _ => 0) 0 3) 2 5), (updI (updI (fun _ => 0) 0 2) 2 5), (updI (updI (fun _ => 0) 0 5) 2 2)]))[0]!) (updI (updI (fun _ => 0) 0 5) 1 2))) = false := hg6
      have hp6 : ¬ (((eqN 2 ((wof_F ([(updI (updI (fun _ => 0) 0 3) 2 5), (updI (updI (fun _ => 0) 0 2) 2 5), (updI (updI (fun _ => 0) 0 5) 2 2)]))[0]!) (updI (updI (fun _ => 0) 0 5) 1 2))) = true) := bne' hq6
      rw [if_neg hp6] at h
      refine xs rfl ⟨_, _, rfl, rfl, rfl⟩ (xs rfl ⟨_, _, rfl, rfl, rfl⟩ (xs rfl ⟨_, _, rfl, rfl, rfl⟩ (xs rfl ⟨_, _, rfl, rfl, rfl⟩ ?_)))
      refine xq rfl trivial (o_pick_f rfl rfl) ?_
      refine xq rfl trivial (o_mv rfl) ?_
      refine xs rfl ⟨_, _, rfl, rfl, rfl⟩ (xs rfl ⟨_, _, rfl, rfl, rfl⟩ ?_)
      refine xq rfl trivial (o_pick_f rfl rfl) ?_
      refine xq rfl trivial (o_mv rfl) ?_
      refine xs rfl ⟨_, _, rfl, rfl, rfl⟩ ?_
      refine xq rfl trivial (o_pick_f rfl rfl) ?_
      refine xq rfl trivial (o_as rfl) ?_
      refine xo_nil (xq_then (xw_ret ?_))
      subst h
      exact con_ret1 (.inl rfl) Try.results7 rfl [] (Kp.st (Kp.segNew (Cov.fresh hcBs2) (Kp.new hb8 Kp.nil))) (⟨rfl, rfl⟩)
  · have hq4 : (decide (((wof_F ([(updI (updI (fun _ => 0) 0 3) 2 5), (updI (updI (fun _ => 0) 0 2) 2 5), (updI (updI (fun _ => 0) 0 5) 2 2)])).length : Int) = 1)) = false := hg4
    have hp4 : ¬ (((wof_F ([(updI (updI (fun _ => 0) 0 3) 2 5), (updI (updI (fun _ => 0) 0 2) 2 5), (updI (updI (fun _ => 0) 0 5) 2 2)])).length : Int) = 1) := of_decide_eq_false hq4
    rw [if_neg hp4] at h
    refine xs rfl ⟨_, _, rfl, rfl, rfl⟩ (xs rfl ⟨_, _, rfl, rfl, rfl⟩ (xs rfl ⟨_, _, rfl, rfl, rfl⟩ (xs rfl ⟨_, _, rfl, rfl, rfl⟩ (xs rfl ⟨_, _, rfl, rfl, rfl⟩ ?_))))
    refine xq rfl trivial (o_pick_f rfl rfl) ?_
    refine xq rfl trivial (o_mv rfl) ?_
    refine xs rfl ⟨_, _, rfl, rfl, rfl⟩ (xs rfl ⟨_, _, rfl, rfl, rfl⟩ (xs rfl ⟨_, _, rfl, rfl, rfl⟩ (xs rfl ⟨_, _, rfl, rfl, rfl⟩ ?_)))
    refine xq rfl trivial (o_pick_f rfl rfl) ?_
    refine xq rfl trivial (o_mv rfl) ?_
    refine xs rfl ⟨_, _, rfl, rfl, rfl⟩ (xs rfl ⟨_, _, rfl, rfl, rfl⟩ ?_)
    refine xq rfl trivial (o_pick_f rfl rfl) ?_
    refine xq rfl trivial (o_mv rfl) ?_
    refine xs rfl ⟨_, _, rfl, rfl, rfl⟩ ?_
    refine xq rfl trivial (o_pick_f rfl rfl) ?_
    refine xq rfl trivial (o_as rfl) ?_
    refine xo_nil (xq_then (xw_ret ?_))
    subst h
    exact con_ret1 (.inl rfl) Try.results7 rfl [] (Kp.st (Kp.segNew (Cov.fresh hcBs2) (Kp.new hb8 Kp.nil))) (⟨rfl, rfl⟩)

theorem alive11_c (w : World) (hP : alive11_P) : Con Try.prog 7 #[] w (Is (.bool alive11_F) []) :=
  alive11_con w _ (alive11_ok hP)

theorem of11_con (l0 : (List (Nat → Int))) (v0 : Value) (w : World) (hs0 : SL w 4 iv v0 l0) (r : Bool) (h : of11_S l0 r) : Con Try.prog 3 #[v0] w (Is (.bool r) []) := by
  unfold of11_S at h
  refine con_enter (n := 55) [(0, _)] Try.func3 rfl Try.ntmps3 rfl (lac rfl lan) ?_
  refine xw_seq (xw_region ?_)
  refine xq rfl trivial (o_as rfl) ?_
  refine xo_nil (xq_then (xw_seq (xw_seq (xw_region ?_))))
  obtain ⟨ho1, h⟩ := h
  refine xcallq rfl trivial kf7 rfl (fun w1 hw1 => alive11_c w1 ho1) ?_
  refine xq rfl trivial (o_not rfl) ?_
  refine xo_nil (xq_then ?_)
  refine xw_bool 7 rfl (fun hc2 => ?_) (fun hc2 => ?_)
  · have hq2 : (alive11_F) = false := (bnT hc2)
    have hp2 : ¬ ((alive11_F) = true) := bne' hq2
    rw [if_neg hp2] at h
    refine xw_cond_t rfl rfl (xw_seq (xw_region ?_))
    refine xq rfl trivial (o_as rfl) ?_
    refine xo_nil (xq_then (xw_ret (xq_then_ret ?_)))
    subst h
    exact con_ret1 (.inl rfl) Try.results3 rfl [] (fun _ h => h) (⟨rfl, rfl⟩)
  · have hq2 : (alive11_F) = true := (bnF hc2)
    have hp2 : (alive11_F) = true := hq2
    rw [if_pos hp2] at h
    refine xw_cond_f rfl rfl (xw_skip (xq_then (xw_seq (xw_seq (xw_region ?_)))))
    refine xq rfl trivial (o_mv rfl) ?_
    refine xq rfl trivial (o_lenL rfl Try.underlying22 rfl (SL.val hs0)) ?_
    refine xq rfl trivial (o_gtr rfl rfl) ?_
    refine xo_nil (xq_then ?_)
    refine xw_bool 10 rfl (fun hc3 => ?_) (fun hc3 => ?_)
    · have hq3 : (decide (60 < (l0.length : Int))) = true := hc3
      have hp3 : 60 < (l0.length : Int) := of_decide_eq_true hq3
      rw [if_pos hp3] at h
      refine xw_cond_t rfl rfl (xw_seq (xw_region ?_))
      refine xq rfl trivial (o_as rfl) ?_
      refine xo_nil (xq_then (xw_ret (xq_then_ret ?_)))
      subst h
      exact con_ret1 (.inl rfl) Try.results3 rfl [] (fun _ h => h) (⟨rfl, rfl⟩)
    · have hq3 : (decide (60 < (l0.length : Int))) = false := hc3
      have hp3 : ¬ (60 < (l0.length : Int)) := of_decide_eq_false hq3
      rw [if_neg hp3] at h
      refine xw_cond_f rfl rfl (xw_skip (xq_then (xw_seq (xw_region ?_))))
      refine xq rfl trivial (o_mv rfl) ?_
      obtain ⟨ho4, h⟩ := h
      refine xcall rfl trivial kf8 rfl (fun w1 hw1 => wof_c _ _ w1 (hs0.keep hw1 Fr.nil) ho4) ?_
      rintro w1 vs5 _ hw1 ⟨_, Bs5, rfl, rfl, hJs5, hcBs5⟩
      refine ⟨_, Mg.news (Cov.fresh hcBs5) (.nil _), ?_⟩
      replace hcBs5 := Cov.base (w0 := w) hcBs5 hw1.size
      refine xq rfl trivial (o_mv rfl) ?_
      obtain ⟨ho6, h⟩ := h
      refine xcall rfl trivial kf9 rfl (fun w1 hw1 => ofR_c _ _ w1 (hs0.keep hw1 (Fr.seg hcBs5 Fr.nil)) ho6) ?_
      rintro w1 vs7 _ hw1 ⟨_, Bs7, rfl, rfl, hJs7, hcBs7⟩
      refine ⟨_, Mg.news (Cov.fresh hcBs7) (.nil _), ?_⟩
      replace hcBs7 := Cov.base (w0 := w) hcBs7 hw1.size
      refine xq rfl trivial (o_as rfl) ?_
      refine xq rfl trivial (o_as rfl) ?_
      refine xo_nil (xq_then (xw_seq (xw_seq (xw_region ?_))))
      refine xq rfl trivial (o_mv rfl) ?_
      refine xq rfl trivial (o_lenL rfl Try.underlying24 rfl (OJ.val hJs5)) ?_
      refine xq rfl trivial (o_mv rfl) ?_
      refine xq rfl trivial (o_lenL rfl Try.underlying26 rfl (OJ.val hJs7)) ?_
      refine xq rfl trivial (o_neq rfl rfl) ?_
      refine xo_nil (xq_then ?_)
      refine xw_bool 19 rfl (fun hc8 => ?_) (fun hc8 => ?_)
      · have hq8 : (decide (((wof_F l0).length : Int) = ((ofR_F l0).length : Int))) = false := (bnT hc8)
        have hp8 : ¬ (((wof_F l0).length : Int) = ((ofR_F l0).length : Int)) := of_decide_eq_false hq8
        rw [if_neg hp8] at h
        refine xw_cond_t rfl rfl (xw_seq (xw_region ?_))
        refine xq rfl trivial (o_as rfl) ?_
        refine xo_nil (xq_then (xw_ret (xq_then_ret ?_)))
        subst h
        exact con_ret1 (.inl rfl) Try.results3 rfl [] (Kp.st (Kp.segNew (Cov.fresh hcBs7) (Kp.segNew (Cov.fresh hcBs5) Kp.nil))) (⟨rfl, rfl⟩)
      · have hq8 : (decide (((wof_F l0).length : Int) = ((ofR_F l0).length : Int))) = true := (bnF hc8)
        have hp8 : ((wof_F l0).length : Int) = ((ofR_F l0).length : Int) := of_decide_eq_true hq8
        rw [if_pos hp8] at h
        refine xw_cond_f rfl rfl (xw_skip (xq_then (xw_seq (xw_seq (xw_region ?_)))))
        refine xq rfl trivial (o_as rfl) ?_
        refine xo_nil (xq_then ?_)
        refine xw_block ?_
        obtain ⟨x1, hx1, h⟩ := h
        refine xw_wh (fun (i5 : Int) e H => e = [(0, v0), (3, vs5), (4, vs7), (5, .int .i64 i5)] ∧ H = Bs7 ++ (Bs5 ++ ([]))) (fun x ex e H => match x with | .inl _ => ex = .exit 0 ∧ e = [(0, v0)] ∧ H = Bs7 ++ (Bs5 ++ ([])) | .inr _ => ex = .ret ∧ e = [(2, .bool false)] ∧ H = Bs7 ++ (Bs5 ++ ([]))) hx1 ⟨[(0, v0), (3, vs5), (4, vs7), (5, .int .i64 0)], Bs7 ++ (Bs5 ++ ([])), (lc rfl (lc rfl (lc rfl (lc rfl ln)))), fun _ h => h, ⟨rfl, rfl⟩⟩ ?_ ?_
        · rintro i5 o _ _ ⟨rfl, rfl⟩ hb
          have h : of11_l1 l0 i5 o := hb
          clear hb
          unfold of11_l1 at h
          refine xw_seq (xw_seq (xw_region ?_))
          refine xq rfl trivial (o_mv rfl) ?_
          refine xq rfl trivial (o_mv rfl) ?_
          refine xq rfl trivial (o_lenL rfl Try.underlying24 rfl (OJ.val hJs5)) ?_
          refine xq rfl trivial (o_lss rfl rfl) ?_
          refine xo_nil (xq_then ?_)
          refine xw_bool 23 rfl (fun hc9 => ?_) (fun hc9 => ?_)
          · have hq9 : (decide (i5 < ((wof_F l0).length : Int))) = true := hc9
            have hp9 : i5 < ((wof_F l0).length : Int) := of_decide_eq_true hq9
            rw [if_pos hp9] at h
            refine xw_cond_t rfl rfl (xw_skip (xq_then (xw_seq ?_)))
            refine xw_block ?_
            refine xw_seq ?_
            obtain ⟨ho10, ho11, ho12, ho13, h⟩ := h
            refine xw_cut [(0, _), (3, _), (4, _), (5, _)] (lc rfl (lc rfl (lc rfl (lc rfl ln)))) [(49, .bool ((!(decide ((wof_F l0)[i5.toNat]! 0 = (ofR_F l0)[i5.toNat]! 0))) || (!(decide ((wof_F l0)[i5.toNat]! 1 = (ofR_F l0)[i5.toNat]! 1)))))] ?_ ?_
            · refine xd_start (by kernel_rfl) (by kernel_rfl) (fun hok => ?_)
              refine xd_b hok 0 [(3, _)] ([]) rsN rfl rfl rfl (lc rfl ln) (by kernel_rfl) trivial (fun H' hy hK => o_mv rfl) ?_
              refine xd_b hok 1 [(5, _)] ([]) rsN rfl rfl rfl (lc rfl ln) (by kernel_rfl) trivial (fun H' hy hK => o_mv rfl) ?_
              refine xd_b hok 2 [(26, _), (27, _)] (Bs5 ++ ([])) (rsA (Pull.sub (.there _ (.here _ _))) rsN) rfl rfl rfl (lc rfl (lc rfl ln)) (by kernel_rfl) trivial (fun H' hy hK => o_ixL el24 rfl rfl (fun w hw => (hJs5.sl hw (fun x hx => hy x (Pull.sub (.here _ _) x hx)))) rfl (ho10)) ?_
              refine xd_b hok 3 [(28, _)] (Bs5 ++ ([])) (rsA (Pull.sub (.there _ (.here _ _))) rsN) rfl rfl rfl (lc rfl ln) (by kernel_rfl) trivial (fun H' hy hK => o_faL fl29_0 rfl rfl (fun w hw => (hJs5.sl hw (fun x hx => hy x (Pull.sub (.here _ _) x hx)))) (toNat_lt (ho10))) ?_
              refine xd_b hok 4 [(29, _)] (Bs5 ++ ([])) (rsA (Pull.sub (.there _ (.here _ _))) rsN) rfl rfl rfl (lc rfl ln) (by kernel_rfl) trivial (fun H' hy hK => o_ldL1 (off := 0) (u := .int .i64 ((wof_F l0)[i5.toNat]! 0)) rfl ts3 rfl (fun w hw => (hJs5.sl hw (fun x hx => hy x (Pull.sub (.here _ _) x hx)))) (toNat_lt (ho10)) rfl rfl) ?_
              refine xd_b hok 5 [(4, _)] ([]) rsN rfl rfl rfl (lc rfl ln) (by kernel_rfl) trivial (fun H' hy hK => o_mv rfl) ?_
              refine xd_b hok 6 [(5, _)] ([]) rsN rfl rfl rfl (lc rfl ln) (by kernel_rfl) trivial (fun H' hy hK => o_mv rfl) ?_
              refine xd_b hok 7 [(31, _), (32, _)] (Bs7 ++ ([])) (rsA (Pull.sub (.here _ _)) rsN) rfl rfl rfl (lc rfl (lc rfl ln)) (by kernel_rfl) trivial (fun H' hy hK => o_ixL el26 rfl rfl (fun w hw => (hJs7.sl hw (fun x hx => hy x (Pull.sub (.here _ _) x hx)))) rfl (ho11)) ?_
              refine xd_b hok 8 [(33, _)] (Bs7 ++ ([])) (rsA (Pull.sub (.here _ _)) rsN) rfl rfl rfl (lc rfl ln) (by kernel_rfl) trivial (fun H' hy hK => o_ixaL (m := 0) ea30 rfl rfl (fun w hw => (hJs7.sl hw (fun x hx => hy x (Pull.sub (.here _ _) x hx)))) (toNat_lt (ho11)) rfl ⟨by omega, by omega⟩ rfl) ?_
              refine xd_b hok 9 [(34, _)] (Bs7 ++ ([])) (rsA (Pull.sub (.here _ _)) rsN) rfl rfl rfl (lc rfl ln) (by kernel_rfl) trivial (fun H' hy hK => o_ldL1 (off := 0) (u := .int .i64 ((ofR_F l0)[i5.toNat]! 0)) rfl ts3 rfl (fun w hw => (hJs7.sl hw (fun x hx => hy x (Pull.sub (.here _ _) x hx)))) (toNat_lt (ho11)) rfl rfl) ?_
              refine xd_b hok 10 [(30, _), (35, _)] ([]) rsN rfl rfl rfl (lc rfl (lc rfl ln)) (by kernel_rfl) trivial (fun H' hy hK => o_neq rfl rfl) ?_
              refine xd_b hok 11 [(36, _)] ([]) rsN rfl rfl rfl (lc rfl ln) (by kernel_rfl) trivial (fun H' hy hK => o_mv rfl) ?_
              refine xd_bool 37 rfl (fun hg14 => ?_) (fun hg14 => ?_)
              · have hq14 : (decide ((wof_F l0)[i5.toNat]! 0 = (ofR_F l0)[i5.toNat]! 0)) = false := (bnT hg14)
                have hp14 : ¬ ((wof_F l0)[i5.toNat]! 0 = (ofR_F l0)[i5.toNat]! 0) := of_decide_eq_false hq14
                refine xd_skip hok 12 [(3, _), (37, _)] rfl rfl rfl (lc rfl (lc rfl ln)) (by kernel_rfl) ⟨_, _, rfl, rfl, rfl⟩ ?_
                refine xd_skip hok 13 [(5, _), (37, _)] rfl rfl rfl (lc rfl (lc rfl ln)) (by kernel_rfl) ⟨_, _, rfl, rfl, rfl⟩ ?_
                refine xd_skip hok 14 [(38, _), (39, _), (37, _)] rfl rfl rfl (lc rfl (lc rfl (lc rfl ln))) (by kernel_rfl) ⟨_, _, rfl, rfl, rfl⟩ ?_
                refine xd_skip hok 15 [(40, _), (37, _)] rfl rfl rfl (lc rfl (lc rfl ln)) (by kernel_rfl) ⟨_, _, rfl, rfl, rfl⟩ ?_
                refine xd_skip hok 16 [(41, _), (37, _)] rfl rfl rfl (lc rfl (lc rfl ln)) (by kernel_rfl) ⟨_, _, rfl, rfl, rfl⟩ ?_
                refine xd_skip hok 17 [(4, _), (37, _)] rfl rfl rfl (lc rfl (lc rfl ln)) (by kernel_rfl) ⟨_, _, rfl, rfl, rfl⟩ ?_
                refine xd_skip hok 18 [(5, _), (37, _)] rfl rfl rfl (lc rfl (lc rfl ln)) (by kernel_rfl) ⟨_, _, rfl, rfl, rfl⟩ ?_
                refine xd_skip hok 19 [(43, _), (44, _), (37, _)] rfl rfl rfl (lc rfl (lc rfl (lc rfl ln))) (by kernel_rfl) ⟨_, _, rfl, rfl, rfl⟩ ?_
                refine xd_skip hok 20 [(45, _), (37, _)] rfl rfl rfl (lc rfl (lc rfl ln)) (by kernel_rfl) ⟨_, _, rfl, rfl, rfl⟩ ?_
                refine xd_skip hok 21 [(46, _), (37, _)] rfl rfl rfl (lc rfl (lc rfl ln)) (by kernel_rfl) ⟨_, _, rfl, rfl, rfl⟩ ?_
                refine xd_skip hok 22 [(42, _), (47, _), (37, _)] rfl rfl rfl (lc rfl (lc rfl (lc rfl ln))) (by kernel_rfl) ⟨_, _, rfl, rfl, rfl⟩ ?_
                refine xd_b hok 23 [(37, _), (48, _)] ([]) rsN rfl rfl rfl (lc rfl (lc rfl ln)) (by kernel_rfl) trivial (fun H' hy hK => o_pick_t rfl rfl) ?_
                refine xd_end hok (by kernel_rfl) ?_
                exact xq_cut ((lce rfl (by first | rfl | (simp only [hq9, hq14, if_pos hp9, if_neg hp14, bS]; done) | (simp only [hq9, hq14, if_pos hp9, if_neg hp14, bS, reduceIte, Bool.false_eq_true]; done) | (simp [hp9, hp14]; done) | (simp_all; done)) (lc rfl (lc rfl (lc rfl (lc rfl ln)))))) (fun _ h => h)
              · have hq14 : (decide ((wof_F l0)[i5.toNat]! 0 = (ofR_F l0)[i5.toNat]! 0)) = true := (bnF hg14)
                have hp14 : (wof_F l0)[i5.toNat]! 0 = (ofR_F l0)[i5.toNat]! 0 := of_decide_eq_true hq14
                refine xd_b hok 12 [(3, _), (37, _)] ([]) rsN rfl rfl rfl (lc rfl (lc rfl ln)) (by kernel_rfl) ⟨_, rfl, rfl⟩ (fun H' hy hK => o_mv rfl) ?_
                refine xd_b hok 13 [(5, _), (37, _)] ([]) rsN rfl rfl rfl (lc rfl (lc rfl ln)) (by kernel_rfl) ⟨_, rfl, rfl⟩ (fun H' hy hK => o_mv rfl) ?_
                refine xd_b hok 14 [(38, _), (39, _), (37, _)] (Bs5 ++ ([])) (rsA (Pull.sub (.there _ (.here _ _))) rsN) rfl rfl rfl (lc rfl (lc rfl (lc rfl ln))) (by kernel_rfl) ⟨_, rfl, rfl⟩ (fun H' hy hK => o_ixL el24 rfl rfl (fun w hw => (hJs5.sl hw (fun x hx => hy x (Pull.sub (.here _ _) x hx)))) rfl (ho12 (by first | exact hg14 | (simp only [hq9, hq14, if_pos hp9, if_pos hp14, bS]; done) | (simp only [hq9, hq14, if_pos hp9, if_pos hp14, bS, reduceIte, Bool.false_eq_true]; done) | (simp [hp9, hp14]; done) | (simp_all; done)))) ?_
                refine xd_b hok 15 [(40, _), (37, _)] (Bs5 ++ ([])) (rsA (Pull.sub (.there _ (.here _ _))) rsN) rfl rfl rfl (lc rfl (lc rfl ln)) (by kernel_rfl) ⟨_, rfl, rfl⟩ (fun H' hy hK => o_faL fl29_1 rfl rfl (fun w hw => (hJs5.sl hw (fun x hx => hy x (Pull.sub (.here _ _) x hx)))) (toNat_lt (ho12 (by first | exact hg14 | (simp only [hq9, hq14, if_pos hp9, if_pos hp14, bS]; done) | (simp only [hq9, hq14, if_pos hp9, if_pos hp14, bS, reduceIte, Bool.false_eq_true]; done) | (simp [hp9, hp14]; done) | (simp_all; done))))) ?_
                refine xd_b hok 16 [(41, _), (37, _)] (Bs5 ++ ([])) (rsA (Pull.sub (.there _ (.here _ _))) rsN) rfl rfl rfl (lc rfl (lc rfl ln)) (by kernel_rfl) ⟨_, rfl, rfl⟩ (fun H' hy hK => o_ldL1 (off := 1) (u := .int .i64 ((wof_F l0)[i5.toNat]! 1)) rfl ts3 rfl (fun w hw => (hJs5.sl hw (fun x hx => hy x (Pull.sub (.here _ _) x hx)))) (toNat_lt (ho12 (by first | exact hg14 | (simp only [hq9, hq14, if_pos hp9, if_pos hp14, bS]; done) | (simp only [hq9, hq14, if_pos hp9, if_pos hp14, bS, reduceIte, Bool.false_eq_true]; done) | (simp [hp9, hp14]; done) | (simp_all; done)))) rfl rfl) ?_
                refine xd_b hok 17 [(4, _), (37, _)] ([]) rsN rfl rfl rfl (lc rfl (lc rfl ln)) (by kernel_rfl) ⟨_, rfl, rfl⟩ (fun H' hy hK => o_mv rfl) ?_
                refine xd_b hok 18 [(5, _), (37, _)] ([]) rsN rfl rfl rfl (lc rfl (lc rfl ln)) (by kernel_rfl) ⟨_, rfl, rfl⟩ (fun H' hy hK => o_mv rfl) ?_
                refine xd_b hok 19 [(43, _), (44, _), (37, _)] (Bs7 ++ ([])) (rsA (Pull.sub (.here _ _)) rsN) rfl rfl rfl (lc rfl (lc rfl (lc rfl ln))) (by kernel_rfl) ⟨_, rfl, rfl⟩ (fun H' hy hK => o_ixL el26 rfl rfl (fun w hw => (hJs7.sl hw (fun x hx => hy x (Pull.sub (.here _ _) x hx)))) rfl (ho13 (by first | exact hg14 | (simp only [hq9, hq14, if_pos hp9, if_pos hp14, bS]; done) | (simp only [hq9, hq14, if_pos hp9, if_pos hp14, bS, reduceIte, Bool.false_eq_true]; done) | (simp [hp9, hp14]; done) | (simp_all; done)))) ?_
                refine xd_b hok 20 [(45, _), (37, _)] (Bs7 ++ ([])) (rsA (Pull.sub (.here _ _)) rsN) rfl rfl rfl (lc rfl (lc rfl ln)) (by kernel_rfl) ⟨_, rfl, rfl⟩ (fun H' hy hK => o_ixaL (m := 1) ea30 rfl rfl (fun w hw => (hJs7.sl hw (fun x hx => hy x (Pull.sub (.here _ _) x hx)))) (toNat_lt (ho13 (by first | exact hg14 | (simp only [hq9, hq14, if_pos hp9, if_pos hp14, bS]; done) | (simp only [hq9, hq14, if_pos hp9, if_pos hp14, bS, reduceIte, Bool.false_eq_true]; done) | (simp [hp9, hp14]; done) | (simp_all; done)))) rfl ⟨by omega, by omega⟩ rfl) ?_
                refine xd_b hok 21 [(46, _), (37, _)] (Bs7 ++ ([])) (rsA (Pull.sub (.here _ _)) rsN) rfl rfl rfl (lc rfl (lc rfl ln)) (by kernel_rfl) ⟨_, rfl, rfl⟩ (fun H' hy hK => o_ldL1 (off := 1) (u := .int .i64 ((ofR_F l0)[i5.toNat]! 1)) rfl ts3 rfl (fun w hw => (hJs7.sl hw (fun x hx => hy x (Pull.sub (.here _ _) x hx)))) (toNat_lt (ho13 (by first | exact hg14 | (simp only [hq9, hq14, if_pos hp9, if_pos hp14, bS]; done) | (simp only [hq9, hq14, if_pos hp9, if_pos hp14, bS, reduceIte, Bool.false_eq_true]; done) | (simp [hp9, hp14]; done) | (simp_all; done)))) rfl rfl) ?_
                refine xd_b hok 22 [(42, _), (47, _), (37, _)] ([]) rsN rfl rfl rfl (lc rfl (lc rfl (lc rfl ln))) (by kernel_rfl) ⟨_, rfl, rfl⟩ (fun H' hy hK => o_neq rfl rfl) ?_
                refine xd_b hok 23 [(37, _), (48, _)] ([]) rsN rfl rfl rfl (lc rfl (lc rfl ln)) (by kernel_rfl) trivial (fun H' hy hK => o_pick_f rfl rfl) ?_
                refine xd_end hok (by kernel_rfl) ?_
                exact xq_cut ((lce rfl (by first | rfl | (simp only [hq9, hq14, if_pos hp9, if_pos hp14, bS]; done) | (simp only [hq9, hq14, if_pos hp9, if_pos hp14, bS, reduceIte, Bool.false_eq_true]; done) | (simp [hp9, hp14]; done) | (simp_all; done)) (lc rfl (lc rfl (lc rfl (lc rfl ln)))))) (fun _ h => h)
            · refine xq_then ?_
              refine xw_bool 49 rfl (fun hc15 => ?_) (fun hc15 => ?_)
              · have hq15 : ((!(decide ((wof_F l0)[i5.toNat]! 0 = (ofR_F l0)[i5.toNat]! 0))) || (!(decide ((wof_F l0)[i5.toNat]! 1 = (ofR_F l0)[i5.toNat]! 1)))) = true := hc15
                have hp15 : ((!(decide ((wof_F l0)[i5.toNat]! 0 = (ofR_F l0)[i5.toNat]! 0))) || (!(decide ((wof_F l0)[i5.toNat]! 1 = (ofR_F l0)[i5.toNat]! 1)))) = true := hq15
                rw [if_pos hp15] at h
                refine xw_cond_t rfl rfl (xw_seq (xw_region ?_))
                refine xq rfl trivial (o_as rfl) ?_
                refine xo_nil (xq_then (xw_ret (xq_blk_ret (xq_then_ret ?_))))
                exact xq_out (r := (.inr () : (Unit) ⊕ (Unit))) (e' := [(2, .bool false)]) (Bs7 ++ (Bs5 ++ ([]))) (lc rfl ln) (fun _ h => h) h (by intro hh; cases hh) ⟨rfl, rfl, rfl⟩
              · have hq15 : ((!(decide ((wof_F l0)[i5.toNat]! 0 = (ofR_F l0)[i5.toNat]! 0))) || (!(decide ((wof_F l0)[i5.toNat]! 1 = (ofR_F l0)[i5.toNat]! 1)))) = false := hc15
                have hp15 : ¬ (((!(decide ((wof_F l0)[i5.toNat]! 0 = (ofR_F l0)[i5.toNat]! 0))) || (!(decide ((wof_F l0)[i5.toNat]! 1 = (ofR_F l0)[i5.toNat]! 1)))) = true) := bne' hq15
                rw [if_neg hp15] at h
                refine xw_cond_f rfl rfl (xw_skip ?_)
                refine xq_blk 1 ?_
                refine xq_then (xw_region ?_)
                refine xq rfl trivial (o_mv rfl) ?_
                obtain ⟨ho16, h⟩ := h
                refine xq rfl trivial (o_add rfl rfl rfl ho16) ?_
                refine xq rfl trivial (o_as rfl) ?_
                refine xo_nil ?_
                exact xq_next (s' := (i5 + 1 : Int)) (e' := [(0, v0), (3, vs5), (4, vs7), (5, .int .i64 (i5 + 1))]) (Bs7 ++ (Bs5 ++ ([]))) (lc rfl (lc rfl (lc rfl (lc rfl ln)))) (fun _ h => h) h ⟨rfl, rfl⟩
          · have hq9 : (decide (i5 < ((wof_F l0).length : Int))) = false := hc9
            have hp9 : ¬ (i5 < ((wof_F l0).length : Int)) := of_decide_eq_false hq9
            rw [if_neg hp9] at h
            refine xw_cond_f rfl rfl (xw_exit (xq_then_exit ?_))
            exact xq_out (r := (.inl () : (Unit) ⊕ (Unit))) (e' := [(0, v0)]) (Bs7 ++ (Bs5 ++ ([]))) (lc rfl ln) (fun _ h => h) h (by intro hh; cases hh) ⟨rfl, rfl, rfl⟩
        · rcases x1 with _ | x1
          · rintro _ _ _ ⟨rfl, rfl, rfl⟩
            replace h : of11_k1a l0 r := h
            unfold of11_k1a at h
            refine xq_blk_eq ?_
            refine xq_then (xw_seq (xw_region ?_))
            refine xq rfl trivial (o_mv rfl) ?_
            obtain ⟨ho17, h⟩ := h
            refine xcall rfl trivial kf11 rfl (fun w1 hw1 => wrest_c _ _ w1 (hs0.keep hw1 (Fr.seg hcBs7 (Fr.seg hcBs5 Fr.nil))) ho17) ?_
            rintro w1 vs18 _ hw1 ⟨_, Bs18, rfl, rfl, hJs18, hcBs18⟩
            refine ⟨_, Mg.news (Cov.fresh hcBs18) (.nil _), ?_⟩
            replace hcBs18 := Cov.base (w0 := w) hcBs18 hw1.size
            refine xq rfl trivial (o_mv rfl) ?_
            obtain ⟨ho19, h⟩ := h
            refine xcall rfl trivial kf12 rfl (fun w1 hw1 => restR_c _ _ w1 (hs0.keep hw1 (Fr.seg hcBs18 (Fr.seg hcBs7 (Fr.seg hcBs5 Fr.nil)))) ho19) ?_
            rintro w1 vs20 _ hw1 ⟨_, Bs20, rfl, rfl, hJs20, hcBs20⟩
            refine ⟨_, Mg.news (Cov.fresh hcBs20) (.nil _), ?_⟩
            replace hcBs20 := Cov.base (w0 := w) hcBs20 hw1.size
            obtain ⟨ho21, h⟩ := h
            refine xcallq rfl trivial kf10 rfl (fun w1 hw1 => esame_c _ _ _ _ w1 (hJs18.sl hw1 (Pull.sub (.there _ (.here _ _)))) (hJs20.sl hw1 (Pull.sub (.here _ _))) ho21) ?_
            refine xq rfl trivial (o_as rfl) ?_
            refine xo_nil (xq_then (xw_ret ?_))
            subst h
            exact con_ret1 (.inl rfl) Try.results3 rfl [] (Kp.st (Kp.segNew (Cov.fresh hcBs20) (Kp.segNew (Cov.fresh hcBs18) (Kp.segNew (Cov.fresh hcBs7) (Kp.segNew (Cov.fresh hcBs5) Kp.nil))))) (⟨rfl, rfl⟩)
          cases x1
          rintro _ _ _ ⟨rfl, rfl, rfl⟩
          replace h : of11_k1b r := h
          unfold of11_k1b at h
          refine xq_blk_ret (xq_then_ret ?_)
          subst h
          exact con_ret1 (.inl rfl) Try.results3 rfl [] (Kp.st (Kp.segNew (Cov.fresh hcBs7) (Kp.segNew (Cov.fresh hcBs5) Kp.nil))) (⟨rfl, rfl⟩)

theorem by11_con (l0 : (List (Nat → Int))) (v0 : Value) (w : World) (hs0 : SL w 4 iv v0 l0) (r : Bool) (h : by11_S l0 r) : Con Try.prog 4 #[v0] w (Is (.bool r) []) := by
  unfold by11_S at h
  refine con_enter (n := 154) [(0, _)] Try.func4 rfl Try.ntmps4 rfl (lac rfl lan) ?_
  refine xw_seq (xw_region ?_)
  refine xq rfl trivial (o_as rfl) ?_
  refine xo_nil (xq_then (xw_seq (xw_seq (xw_region ?_))))
  obtain ⟨ho1, h⟩ := h
  refine xcallq rfl trivial kf7 rfl (fun w1 hw1 => alive11_c w1 ho1) ?_
  refine xq rfl trivial (o_not rfl) ?_
  refine xo_nil (xq_then ?_)
  refine xw_bool 11 rfl (fun hc2 => ?_) (fun hc2 => ?_)
  · have hq2 : (alive11_F) = false := (bnT hc2)
    have hp2 : ¬ ((alive11_F) = true) := bne' hq2
    rw [if_neg hp2] at h
    refine xw_cond_t rfl rfl (xw_seq (xw_region ?_))
    refine xq rfl trivial (o_as rfl) ?_
    refine xo_nil (xq_then (xw_ret (xq_then_ret ?_)))
    subst h
    exact con_ret1 (.inl rfl) Try.results4 rfl [] (fun _ h => h) (⟨rfl, rfl⟩)
  · have hq2 : (alive11_F) = true := (bnF hc2)
    have hp2 : (alive11_F) = true := hq2
    rw [if_pos hp2] at h
    refine xw_cond_f rfl rfl (xw_skip (xq_then (xw_seq (xw_seq (xw_region ?_)))))
    refine xq rfl trivial (o_mv rfl) ?_
    refine xq rfl trivial (o_lenL rfl Try.underlying22 rfl (SL.val hs0)) ?_
    refine xq rfl trivial (o_gtr rfl rfl) ?_
    refine xo_nil (xq_then ?_)
    refine xw_bool 14 rfl (fun hc3 => ?_) (fun hc3 => ?_)
    · have hq3 : (decide (60 < (l0.length : Int))) = true := hc3
      have hp3 : 60 < (l0.length : Int) := of_decide_eq_true hq3
      rw [if_pos hp3] at h
      refine xw_cond_t rfl rfl (xw_seq (xw_region ?_))
      refine xq rfl trivial (o_as rfl) ?_
      refine xo_nil (xq_then (xw_ret (xq_then_ret ?_)))
      subst h
      exact con_ret1 (.inl rfl) Try.results4 rfl [] (fun _ h => h) (⟨rfl, rfl⟩)
    · have hq3 : (decide (60 < (l0.length : Int))) = false := hc3
      have hp3 : ¬ (60 < (l0.length : Int)) := of_decide_eq_false hq3
      rw [if_neg hp3] at h
      refine xw_cond_f rfl rfl (xw_skip (xq_then (xw_seq (xw_region ?_))))
      refine xq rfl trivial (o_mv rfl) ?_
      obtain ⟨ho4, h⟩ := h
      refine xcall rfl trivial kf8 rfl (fun w1 hw1 => wof_c _ _ w1 (hs0.keep hw1 Fr.nil) ho4) ?_
      rintro w1 vs5 _ hw1 ⟨_, Bs5, rfl, rfl, hJs5, hcBs5⟩
      refine ⟨_, Mg.news (Cov.fresh hcBs5) (.nil _), ?_⟩
      replace hcBs5 := Cov.base (w0 := w) hcBs5 hw1.size
      refine xq rfl trivial (o_as rfl) ?_
      refine xo_nil (xq_then (xw_seq (xw_region ?_)))
      refine xq rfl trivial (o_mv rfl) ?_
      obtain ⟨ho6, h⟩ := h
      refine xcallq rfl trivial kf13 rfl (fun w1 hw1 => oldest_c _ _ w1 (hs0.keep hw1 (Fr.seg hcBs5 Fr.nil)) ho6) ?_
      refine xq rfl trivial (o_mv rfl) ?_
      refine xq rfl trivial (o_ext rfl rfl) ?_
      refine xq rfl trivial (o_ext rfl rfl) ?_
      refine xq rfl trivial (o_as rfl) ?_
      refine xq rfl trivial (o_as rfl) ?_
      refine xo_nil (xq_then (xw_seq (xw_seq (xw_region ?_))))
      refine xq rfl trivial (o_mv rfl) ?_
      refine xq rfl trivial (o_mv rfl) ?_
      refine xq rfl trivial (o_lenL rfl Try.underlying22 rfl (SL.val hs0)) ?_
      refine xq rfl trivial (o_gtr rfl rfl) ?_
      refine xq rfl trivial (o_neqB Try.underlying4 rfl rfl) ?_
      refine xo_nil (xq_then ?_)
      refine xw_bool 26 rfl (fun hc7 => ?_) (fun hc7 => ?_)
      · have hq7 : ((((oldest_F l0).2) == (decide (0 < (l0.length : Int))))) = false := (bnT hc7)
        have hp7 : ¬ (((((oldest_F l0).2) == (decide (0 < (l0.length : Int))))) = true) := bne' hq7
        rw [if_neg hp7] at h
        refine xw_cond_t rfl rfl (xw_seq (xw_region ?_))
        refine xq rfl trivial (o_as rfl) ?_
        refine xo_nil (xq_then (xw_ret (xq_then_ret ?_)))
        subst h
        exact con_ret1 (.inl rfl) Try.results4 rfl [] (Kp.st (Kp.segNew (Cov.fresh hcBs5) Kp.nil)) (⟨rfl, rfl⟩)
      · have hq7 : ((((oldest_F l0).2) == (decide (0 < (l0.length : Int))))) = true := (bnF hc7)
        have hp7 : ((((oldest_F l0).2) == (decide (0 < (l0.length : Int))))) = true := hq7
        rw [if_pos hp7] at h
        refine xw_cond_f rfl rfl (xw_skip (xq_then (xw_seq (xw_seq (xw_region ?_)))))
        refine xq rfl trivial (o_as rfl) ?_
        refine xo_nil (xq_then ?_)
        refine xw_block ?_
        obtain ⟨x1, hx1, h⟩ := h
        refine xw_wh (fun (i6 : Int) e H => e = [(0, v0), (3, vs5), (4, .int .i64 ((oldest_F l0).1)), (6, .int .i64 i6)] ∧ H = Bs5 ++ ([])) (fun x ex e H => match x with | .inl _ => ex = .exit 0 ∧ e = [(0, v0), (3, vs5), (4, .int .i64 ((oldest_F l0).1))] ∧ H = Bs5 ++ ([]) | .inr _ => ex = .ret ∧ e = [(2, .bool false)] ∧ H = Bs5 ++ ([])) hx1 ⟨[(0, v0), (3, vs5), (4, .int .i64 ((oldest_F l0).1)), (6, .int .i64 0)], Bs5 ++ ([]), (lc rfl (lc rfl (lc rfl (lc rfl ln)))), fun _ h => h, ⟨rfl, rfl⟩⟩ ?_ ?_
        · rintro i6 o _ _ ⟨rfl, rfl⟩ hb
          have h : by11_l1 l0 i6 o := hb
          clear hb
          unfold by11_l1 at h
          refine xw_seq (xw_seq (xw_region ?_))
          refine xq rfl trivial (o_mv rfl) ?_
          refine xq rfl trivial (o_mv rfl) ?_
          refine xq rfl trivial (o_lenL rfl Try.underlying22 rfl (SL.val hs0)) ?_
          refine xq rfl trivial (o_lss rfl rfl) ?_
          refine xo_nil (xq_then ?_)
          refine xw_bool 30 rfl (fun hc8 => ?_) (fun hc8 => ?_)
          · have hq8 : (decide (i6 < (l0.length : Int))) = true := hc8
            have hp8 : i6 < (l0.length : Int) := of_decide_eq_true hq8
            rw [if_pos hp8] at h
            refine xw_cond_t rfl rfl (xw_skip (xq_then (xw_seq ?_)))
            refine xw_block ?_
            refine xw_seq ?_
            obtain ⟨ho9, ho10, h⟩ := h
            refine xw_cut [(0, _), (3, _), (4, _), (6, _)] (lc rfl (lc rfl (lc rfl (lc rfl ln)))) [(48, .bool ((decide (l0[i6.toNat]! 0 < (oldest_F l0).1)) || (decide (l0[i6.toNat]! 2 < (oldest_F l0).1))))] ?_ ?_
            · refine xw_region ?_
              refine xq rfl trivial (o_mv rfl) ?_
              refine xq rfl trivial (o_mv rfl) ?_
              refine xq rfl trivial (o_ixL el22 rfl rfl (fun w hw => (hs0.keep hw (Fr.seg hcBs5 Fr.nil))) rfl (ho9)) ?_
              refine xq rfl trivial (o_faL fl37_0 rfl rfl (fun w hw => (hs0.keep hw (Fr.seg hcBs5 Fr.nil))) (toNat_lt (ho9))) ?_
              refine xq rfl trivial (o_ldL1 (off := 0) (u := .int .i64 (l0[i6.toNat]! 0)) rfl ts3 rfl (fun w hw => (hs0.keep hw (Fr.seg hcBs5 Fr.nil))) (toNat_lt (ho9)) rfl rfl) ?_
              refine xq rfl trivial (o_mv rfl) ?_
              refine xq rfl trivial (o_lss rfl rfl) ?_
              refine xq rfl trivial (o_mv rfl) ?_
              refine xo_bool 40 rfl (fun hg11 => ?_) (fun hg11 => ?_)
              · have hq11 : (decide (l0[i6.toNat]! 0 < (oldest_F l0).1)) = true := hg11
                have hp11 : l0[i6.toNat]! 0 < (oldest_F l0).1 := of_decide_eq_true hq11
                refine xs rfl ⟨_, _, rfl, rfl, rfl⟩ (xs rfl ⟨_, _, rfl, rfl, rfl⟩ (xs rfl ⟨_, _, rfl, rfl, rfl⟩ (xs rfl ⟨_, _, rfl, rfl, rfl⟩ (xs rfl ⟨_, _, rfl, rfl, rfl⟩ (xs rfl ⟨_, _, rfl, rfl, rfl⟩ (xs rfl ⟨_, _, rfl, rfl, rfl⟩ ?_))))))
                refine xq rfl trivial (o_pick_t rfl rfl) ?_
                refine xo_nil ?_
                exact xq_cut ((lce rfl (by first | rfl | (simp only [hq8, hq11, if_pos hp8, if_pos hp11, bS]; done) | (simp only [hq8, hq11, if_pos hp8, if_pos hp11, bS, reduceIte, Bool.false_eq_true]; done) | (simp [hp8, hp11]; done) | (simp_all; done)) (lc rfl (lc rfl (lc rfl (lc rfl ln)))))) (fun _ h => h)
              · have hq11 : (decide (l0[i6.toNat]! 0 < (oldest_F l0).1)) = false := hg11
                have hp11 : ¬ (l0[i6.toNat]! 0 < (oldest_F l0).1) := of_decide_eq_false hq11
                refine xq rfl ⟨_, rfl, rfl⟩ (o_mv rfl) ?_
                refine xq rfl ⟨_, rfl, rfl⟩ (o_mv rfl) ?_
                refine xq rfl ⟨_, rfl, rfl⟩ (o_ixL el22 rfl rfl (fun w hw => (hs0.keep hw (Fr.seg hcBs5 Fr.nil))) rfl (ho10 (by first | exact hg11 | (simp only [hq8, hq11, if_pos hp8, if_neg hp11, bS]; done) | (simp only [hq8, hq11, if_pos hp8, if_neg hp11, bS, reduceIte, Bool.false_eq_true]; done) | (simp [hp8, hp11]; done) | (simp_all; done)))) ?_
                refine xq rfl ⟨_, rfl, rfl⟩ (o_faL fl37_2 rfl rfl (fun w hw => (hs0.keep hw (Fr.seg hcBs5 Fr.nil))) (toNat_lt (ho10 (by first | exact hg11 | (simp only [hq8, hq11, if_pos hp8, if_neg hp11, bS]; done) | (simp only [hq8, hq11, if_pos hp8, if_neg hp11, bS, reduceIte, Bool.false_eq_true]; done) | (simp [hp8, hp11]; done) | (simp_all; done))))) ?_
                refine xq rfl ⟨_, rfl, rfl⟩ (o_ldL1 (off := 2) (u := .int .i64 (l0[i6.toNat]! 2)) rfl ts3 rfl (fun w hw => (hs0.keep hw (Fr.seg hcBs5 Fr.nil))) (toNat_lt (ho10 (by first | exact hg11 | (simp only [hq8, hq11, if_pos hp8, if_neg hp11, bS]; done) | (simp only [hq8, hq11, if_pos hp8, if_neg hp11, bS, reduceIte, Bool.false_eq_true]; done) | (simp [hp8, hp11]; done) | (simp_all; done)))) rfl rfl) ?_
                refine xq rfl ⟨_, rfl, rfl⟩ (o_mv rfl) ?_
                refine xq rfl ⟨_, rfl, rfl⟩ (o_lss rfl rfl) ?_
                refine xq rfl trivial (o_pick_f rfl rfl) ?_
                refine xo_nil ?_
                exact xq_cut ((lce rfl (by first | rfl | (simp only [hq8, hq11, if_pos hp8, if_neg hp11, bS]; done) | (simp only [hq8, hq11, if_pos hp8, if_neg hp11, bS, reduceIte, Bool.false_eq_true]; done) | (simp [hp8, hp11]; done) | (simp_all; done)) (lc rfl (lc rfl (lc rfl (lc rfl ln)))))) (fun _ h => h)
            · refine xq_then ?_
              refine xw_bool 48 rfl (fun hc12 => ?_) (fun hc12 => ?_)
              · have hq12 : ((decide (l0[i6.toNat]! 0 < (oldest_F l0).1)) || (decide (l0[i6.toNat]! 2 < (oldest_F l0).1))) = true := hc12
                have hp12 : ((decide (l0[i6.toNat]! 0 < (oldest_F l0).1)) || (decide (l0[i6.toNat]! 2 < (oldest_F l0).1))) = true := hq12
                rw [if_pos hp12] at h
                refine xw_cond_t rfl rfl (xw_seq (xw_region ?_))
                refine xq rfl trivial (o_as rfl) ?_
                refine xo_nil (xq_then (xw_ret (xq_blk_ret (xq_then_ret ?_))))
                exact xq_out (r := (.inr () : (Unit) ⊕ (Unit))) (e' := [(2, .bool false)]) (Bs5 ++ ([])) (lc rfl ln) (fun _ h => h) h (by intro hh; cases hh) ⟨rfl, rfl, rfl⟩
              · have hq12 : ((decide (l0[i6.toNat]! 0 < (oldest_F l0).1)) || (decide (l0[i6.toNat]! 2 < (oldest_F l0).1))) = false := hc12
                have hp12 : ¬ (((decide (l0[i6.toNat]! 0 < (oldest_F l0).1)) || (decide (l0[i6.toNat]! 2 < (oldest_F l0).1))) = true) := bne' hq12
                rw [if_neg hp12] at h
                refine xw_cond_f rfl rfl (xw_skip ?_)
                refine xq_blk 1 ?_
                refine xq_then (xw_region ?_)
                refine xq rfl trivial (o_mv rfl) ?_
                obtain ⟨ho13, h⟩ := h
                refine xq rfl trivial (o_add rfl rfl rfl ho13) ?_
                refine xq rfl trivial (o_as rfl) ?_
                refine xo_nil ?_
                exact xq_next (s' := (i6 + 1 : Int)) (e' := [(0, v0), (3, vs5), (4, .int .i64 ((oldest_F l0).1)), (6, .int .i64 (i6 + 1))]) (Bs5 ++ ([])) (lc rfl (lc rfl (lc rfl (lc rfl ln)))) (fun _ h => h) h ⟨rfl, rfl⟩
          · have hq8 : (decide (i6 < (l0.length : Int))) = false := hc8
            have hp8 : ¬ (i6 < (l0.length : Int)) := of_decide_eq_false hq8
            rw [if_neg hp8] at h
            refine xw_cond_f rfl rfl (xw_exit (xq_then_exit ?_))
            exact xq_out (r := (.inl () : (Unit) ⊕ (Unit))) (e' := [(0, v0), (3, vs5), (4, .int .i64 ((oldest_F l0).1))]) (Bs5 ++ ([])) (lc rfl (lc rfl (lc rfl ln))) (fun _ h => h) h (by intro hh; cases hh) ⟨rfl, rfl, rfl⟩
        · rcases x1 with _ | x1
          · rintro _ _ _ ⟨rfl, rfl, rfl⟩
            replace h : by11_k1a l0 r := h
            unfold by11_k1a at h
            refine xq_blk_eq ?_
            refine xq_then (xw_seq (xw_seq (xw_region ?_)))
            refine xq rfl trivial (o_as rfl) ?_
            refine xo_nil (xq_then ?_)
            refine xw_block ?_
            obtain ⟨x2, hx2, h⟩ := h
            refine xw_wh (fun (i7 : Int) e H => e = [(0, v0), (3, vs5), (4, .int .i64 ((oldest_F l0).1)), (7, .int .i64 i7)] ∧ H = Bs5 ++ ([])) (fun x ex e H => match x with | .inl _ => ex = .exit 2 ∧ e = [] ∧ H = Bs5 ++ ([]) | .inr _ => ex = .ret ∧ e = [(2, .bool false)] ∧ H = Bs5 ++ ([])) hx2 ⟨[(0, v0), (3, vs5), (4, .int .i64 ((oldest_F l0).1)), (7, .int .i64 0)], Bs5 ++ ([]), (lc rfl (lc rfl (lc rfl (lc rfl ln)))), fun _ h => h, ⟨rfl, rfl⟩⟩ ?_ ?_
            · rintro i7 o _ _ ⟨rfl, rfl⟩ hb
              have h : by11_l2 l0 i7 o := hb
              clear hb
              unfold by11_l2 at h
              refine xw_seq (xw_seq (xw_region ?_))
              refine xq rfl trivial (o_mv rfl) ?_
              refine xq rfl trivial (o_mv rfl) ?_
              refine xq rfl trivial (o_lenL rfl Try.underlying24 rfl (OJ.val hJs5)) ?_
              refine xq rfl trivial (o_lss rfl rfl) ?_
              refine xo_nil (xq_then ?_)
              refine xw_bool 52 rfl (fun hc14 => ?_) (fun hc14 => ?_)
              · have hq14 : (decide (i7 < ((wof_F l0).length : Int))) = true := hc14
                have hp14 : i7 < ((wof_F l0).length : Int) := of_decide_eq_true hq14
                rw [if_pos hp14] at h
                refine xw_cond_t rfl rfl (xw_skip (xq_then (xw_seq ?_)))
                refine xw_block ?_
                refine xw_seq (xw_region ?_)
                refine xq rfl trivial (o_as rfl) ?_
                refine xo_nil (xq_then (xw_seq (xw_seq (xw_region ?_))))
                refine xq rfl trivial (o_as rfl) ?_
                refine xo_nil (xq_then ?_)
                refine xw_block ?_
                obtain ⟨x3, hx3, h⟩ := h
                refine xw_wh (fun s e H => match s with | (waits8, k9) => e = [(0, v0), (3, vs5), (4, .int .i64 ((oldest_F l0).1)), (7, .int .i64 i7), (8, .bool (waits8)), (9, .int .i64 k9)] ∧ H = Bs5 ++ ([])) (fun x ex e H => match x with | .inl waits8 => ex = .exit 4 ∧ e = [(0, v0), (3, vs5), (4, .int .i64 ((oldest_F l0).1)), (7, .int .i64 i7), (8, .bool (waits8))] ∧ H = Bs5 ++ ([]) | .inr _ => ex = .ret ∧ e = [(2, .bool false)] ∧ H = Bs5 ++ ([])) hx3 ⟨[(0, v0), (3, vs5), (4, .int .i64 ((oldest_F l0).1)), (7, .int .i64 i7), (8, .bool false), (9, .int .i64 0)], Bs5 ++ ([]), (lc rfl (lc rfl (lc rfl (lc rfl (lc rfl (lc rfl ln)))))), fun _ h => h, ⟨rfl, rfl⟩⟩ ?_ ?_
                · rintro ⟨waits8, k9⟩ o _ _ ⟨rfl, rfl⟩ hb
                  have h : by11_l3 l0 i7 waits8 k9 o := hb
                  clear hb
                  unfold by11_l3 at h
                  refine xw_seq (xw_seq (xw_region ?_))
                  refine xq rfl trivial (o_mv rfl) ?_
                  refine xq rfl trivial (o_mv rfl) ?_
                  refine xq rfl trivial (o_lenL rfl Try.underlying22 rfl (SL.val hs0)) ?_
                  refine xq rfl trivial (o_lss rfl rfl) ?_
                  refine xo_nil (xq_then ?_)
                  refine xw_bool 58 rfl (fun hc15 => ?_) (fun hc15 => ?_)
                  · have hq15 : (decide (k9 < (l0.length : Int))) = true := hc15
                    have hp15 : k9 < (l0.length : Int) := of_decide_eq_true hq15
                    rw [if_pos hp15] at h
                    refine xw_cond_t rfl rfl (xw_skip (xq_then (xw_seq ?_)))
                    refine xw_block ?_
                    refine xw_seq ?_
                    obtain ⟨ho16, ho17, ho18, ho19, h⟩ := h
                    refine xw_cut [(0, _), (3, _), (4, _), (7, _), (9, _)] (lc rfl (lc rfl (lc rfl (lc rfl (lc rfl ln))))) [(8, .bool ((waits8) || ((decide (l0[k9.toNat]! 0 = (wof_F l0)[i7.toNat]! 1)) && (decide (l0[k9.toNat]! 2 = (wof_F l0)[i7.toNat]! 0)))))] ?_ ?_
                    · refine xd_start (by kernel_rfl) (by kernel_rfl) (fun hok => ?_)
                      refine xd_b hok 0 [(8, _)] ([]) rsN rfl rfl rfl (lc rfl ln) (by kernel_rfl) trivial (fun H' hy hK => o_mv rfl) ?_
                      refine xd_b hok 1 [(61, _)] ([]) rsN rfl rfl rfl (lc rfl ln) (by kernel_rfl) trivial (fun H' hy hK => o_mv rfl) ?_
                      refine xd_bool 62 rfl (fun hg20 => ?_) (fun hg20 => ?_)
                      · have hq20 : (waits8) = true := hg20
                        have hp20 : (waits8) = true := hq20
                        refine xd_skip hok 2 [(0, _), (62, _)] rfl rfl rfl (lc rfl (lc rfl ln)) (by kernel_rfl) ⟨_, _, rfl, rfl, rfl⟩ ?_
                        refine xd_skip hok 3 [(9, _), (62, _)] rfl rfl rfl (lc rfl (lc rfl ln)) (by kernel_rfl) ⟨_, _, rfl, rfl, rfl⟩ ?_
                        refine xd_skip hok 4 [(63, _), (64, _), (62, _)] rfl rfl rfl (lc rfl (lc rfl (lc rfl ln))) (by kernel_rfl) ⟨_, _, rfl, rfl, rfl⟩ ?_
                        refine xd_skip hok 5 [(65, _), (62, _)] rfl rfl rfl (lc rfl (lc rfl ln)) (by kernel_rfl) ⟨_, _, rfl, rfl, rfl⟩ ?_
                        refine xd_skip hok 6 [(66, _), (62, _)] rfl rfl rfl (lc rfl (lc rfl ln)) (by kernel_rfl) ⟨_, _, rfl, rfl, rfl⟩ ?_
                        refine xd_skip hok 7 [(3, _), (62, _)] rfl rfl rfl (lc rfl (lc rfl ln)) (by kernel_rfl) ⟨_, _, rfl, rfl, rfl⟩ ?_
                        refine xd_skip hok 8 [(7, _), (62, _)] rfl rfl rfl (lc rfl (lc rfl ln)) (by kernel_rfl) ⟨_, _, rfl, rfl, rfl⟩ ?_
                        refine xd_skip hok 9 [(68, _), (69, _), (62, _)] rfl rfl rfl (lc rfl (lc rfl (lc rfl ln))) (by kernel_rfl) ⟨_, _, rfl, rfl, rfl⟩ ?_
                        refine xd_skip hok 10 [(70, _), (62, _)] rfl rfl rfl (lc rfl (lc rfl ln)) (by kernel_rfl) ⟨_, _, rfl, rfl, rfl⟩ ?_
                        refine xd_skip hok 11 [(71, _), (62, _)] rfl rfl rfl (lc rfl (lc rfl ln)) (by kernel_rfl) ⟨_, _, rfl, rfl, rfl⟩ ?_
                        refine xd_skip hok 12 [(67, _), (72, _), (62, _)] rfl rfl rfl (lc rfl (lc rfl (lc rfl ln))) (by kernel_rfl) ⟨_, _, rfl, rfl, rfl⟩ ?_
                        refine xd_skip hok 13 [(73, _), (62, _)] rfl rfl rfl (lc rfl (lc rfl ln)) (by kernel_rfl) ⟨_, _, rfl, rfl, rfl⟩ ?_
                        refine xd_skip hok 14 [(0, _), (74, _)] rfl rfl rfl (lc rfl (lc rfl ln)) (by kernel_rfl) ⟨_, _, rfl, rfl, rfl⟩ ?_
                        refine xd_skip hok 15 [(9, _), (74, _)] rfl rfl rfl (lc rfl (lc rfl ln)) (by kernel_rfl) ⟨_, _, rfl, rfl, rfl⟩ ?_
                        refine xd_skip hok 16 [(75, _), (76, _), (74, _)] rfl rfl rfl (lc rfl (lc rfl (lc rfl ln))) (by kernel_rfl) ⟨_, _, rfl, rfl, rfl⟩ ?_
                        refine xd_skip hok 17 [(77, _), (74, _)] rfl rfl rfl (lc rfl (lc rfl ln)) (by kernel_rfl) ⟨_, _, rfl, rfl, rfl⟩ ?_
                        refine xd_skip hok 18 [(78, _), (74, _)] rfl rfl rfl (lc rfl (lc rfl ln)) (by kernel_rfl) ⟨_, _, rfl, rfl, rfl⟩ ?_
                        refine xd_skip hok 19 [(3, _), (74, _)] rfl rfl rfl (lc rfl (lc rfl ln)) (by kernel_rfl) ⟨_, _, rfl, rfl, rfl⟩ ?_
                        refine xd_skip hok 20 [(7, _), (74, _)] rfl rfl rfl (lc rfl (lc rfl ln)) (by kernel_rfl) ⟨_, _, rfl, rfl, rfl⟩ ?_
                        refine xd_skip hok 21 [(80, _), (81, _), (74, _)] rfl rfl rfl (lc rfl (lc rfl (lc rfl ln))) (by kernel_rfl) ⟨_, _, rfl, rfl, rfl⟩ ?_
                        refine xd_skip hok 22 [(82, _), (74, _)] rfl rfl rfl (lc rfl (lc rfl ln)) (by kernel_rfl) ⟨_, _, rfl, rfl, rfl⟩ ?_
                        refine xd_skip hok 23 [(83, _), (74, _)] rfl rfl rfl (lc rfl (lc rfl ln)) (by kernel_rfl) ⟨_, _, rfl, rfl, rfl⟩ ?_
                        refine xd_skip hok 24 [(79, _), (84, _), (74, _)] rfl rfl rfl (lc rfl (lc rfl (lc rfl ln))) (by kernel_rfl) ⟨_, _, rfl, rfl, rfl⟩ ?_
                        refine xd_skip hok 25 [(74, _), (85, _), (62, _)] rfl rfl rfl (lc rfl (lc rfl (lc rfl ln))) (by kernel_rfl) ⟨_, _, rfl, rfl, rfl⟩ ?_
                        refine xd_b hok 26 [(62, _), (86, _)] ([]) rsN rfl rfl rfl (lc rfl (lc rfl ln)) (by kernel_rfl) trivial (fun H' hy hK => o_pick_t rfl rfl) ?_
                        refine xd_b hok 27 [(87, _)] ([]) rsN rfl rfl rfl (lc rfl ln) (by kernel_rfl) trivial (fun H' hy hK => o_as rfl) ?_
                        refine xd_end hok (by kernel_rfl) ?_
                        exact xq_cut ((lce rfl (by first | rfl | (simp only [hq15, hq20, if_pos hp15, if_pos hp20, bS]; done) | (simp only [hq15, hq20, if_pos hp15, if_pos hp20, bS, reduceIte, Bool.false_eq_true]; done) | (simp [hp15, hp20]; done) | (simp_all; done)) (lc rfl (lc rfl (lc rfl (lc rfl (lc rfl ln))))))) (fun _ h => h)
                      · have hq20 : (waits8) = false := hg20
                        have hp20 : ¬ ((waits8) = true) := bne' hq20
                        refine xd_b hok 2 [(0, _), (62, _)] ([]) rsN rfl rfl rfl (lc rfl (lc rfl ln)) (by kernel_rfl) ⟨_, rfl, rfl⟩ (fun H' hy hK => o_mv rfl) ?_
                        refine xd_b hok 3 [(9, _), (62, _)] ([]) rsN rfl rfl rfl (lc rfl (lc rfl ln)) (by kernel_rfl) ⟨_, rfl, rfl⟩ (fun H' hy hK => o_mv rfl) ?_
                        refine xd_b hok 4 [(63, _), (64, _), (62, _)] ([]) rsN rfl rfl rfl (lc rfl (lc rfl (lc rfl ln))) (by kernel_rfl) ⟨_, rfl, rfl⟩ (fun H' hy hK => o_ixL el22 rfl rfl (fun w hw => (hs0.keep hw (fun k hk => (hK k hk).elim (fun h => (Fr.seg hcBs5 Fr.nil) k h) id))) rfl (ho16 (by first | exact hg20 | (simp only [hq15, hq20, if_pos hp15, if_neg hp20, bS]; done) | (simp only [hq15, hq20, if_pos hp15, if_neg hp20, bS, reduceIte, Bool.false_eq_true]; done) | (simp [hp15, hp20]; done) | (simp_all; done)))) ?_
                        refine xd_b hok 5 [(65, _), (62, _)] ([]) rsN rfl rfl rfl (lc rfl (lc rfl ln)) (by kernel_rfl) ⟨_, rfl, rfl⟩ (fun H' hy hK => o_faL fl37_0 rfl rfl (fun w hw => (hs0.keep hw (fun k hk => (hK k hk).elim (fun h => (Fr.seg hcBs5 Fr.nil) k h) id))) (toNat_lt (ho16 (by first | exact hg20 | (simp only [hq15, hq20, if_pos hp15, if_neg hp20, bS]; done) | (simp only [hq15, hq20, if_pos hp15, if_neg hp20, bS, reduceIte, Bool.false_eq_true]; done) | (simp [hp15, hp20]; done) | (simp_all; done))))) ?_
                        refine xd_b hok 6 [(66, _), (62, _)] ([]) rsN rfl rfl rfl (lc rfl (lc rfl ln)) (by kernel_rfl) ⟨_, rfl, rfl⟩ (fun H' hy hK => o_ldL1 (off := 0) (u := .int .i64 (l0[k9.toNat]! 0)) rfl ts3 rfl (fun w hw => (hs0.keep hw (fun k hk => (hK k hk).elim (fun h => (Fr.seg hcBs5 Fr.nil) k h) id))) (toNat_lt (ho16 (by first | exact hg20 | (simp only [hq15, hq20, if_pos hp15, if_neg hp20, bS]; done) | (simp only [hq15, hq20, if_pos hp15, if_neg hp20, bS, reduceIte, Bool.false_eq_true]; done) | (simp [hp15, hp20]; done) | (simp_all; done)))) rfl rfl) ?_
                        refine xd_b hok 7 [(3, _), (62, _)] ([]) rsN rfl rfl rfl (lc rfl (lc rfl ln)) (by kernel_rfl) ⟨_, rfl, rfl⟩ (fun H' hy hK => o_mv rfl) ?_
                        refine xd_b hok 8 [(7, _), (62, _)] ([]) rsN rfl rfl rfl (lc rfl (lc rfl ln)) (by kernel_rfl) ⟨_, rfl, rfl⟩ (fun H' hy hK => o_mv rfl) ?_
                        refine xd_b hok 9 [(68, _), (69, _), (62, _)] (Bs5 ++ ([])) (rsA (Pull.sub (.here _ _)) rsN) rfl rfl rfl (lc rfl (lc rfl (lc rfl ln))) (by kernel_rfl) ⟨_, rfl, rfl⟩ (fun H' hy hK => o_ixL el24 rfl rfl (fun w hw => (hJs5.sl hw (fun x hx => hy x (Pull.sub (.here _ _) x hx)))) rfl (ho17 (by first | exact hg20 | (simp only [hq15, hq20, if_pos hp15, if_neg hp20, bS]; done) | (simp only [hq15, hq20, if_pos hp15, if_neg hp20, bS, reduceIte, Bool.false_eq_true]; done) | (simp [hp15, hp20]; done) | (simp_all; done)))) ?_
                        refine xd_b hok 10 [(70, _), (62, _)] (Bs5 ++ ([])) (rsA (Pull.sub (.here _ _)) rsN) rfl rfl rfl (lc rfl (lc rfl ln)) (by kernel_rfl) ⟨_, rfl, rfl⟩ (fun H' hy hK => o_faL fl29_1 rfl rfl (fun w hw => (hJs5.sl hw (fun x hx => hy x (Pull.sub (.here _ _) x hx)))) (toNat_lt (ho17 (by first | exact hg20 | (simp only [hq15, hq20, if_pos hp15, if_neg hp20, bS]; done) | (simp only [hq15, hq20, if_pos hp15, if_neg hp20, bS, reduceIte, Bool.false_eq_true]; done) | (simp [hp15, hp20]; done) | (simp_all; done))))) ?_
                        refine xd_b hok 11 [(71, _), (62, _)] (Bs5 ++ ([])) (rsA (Pull.sub (.here _ _)) rsN) rfl rfl rfl (lc rfl (lc rfl ln)) (by kernel_rfl) ⟨_, rfl, rfl⟩ (fun H' hy hK => o_ldL1 (off := 1) (u := .int .i64 ((wof_F l0)[i7.toNat]! 1)) rfl ts3 rfl (fun w hw => (hJs5.sl hw (fun x hx => hy x (Pull.sub (.here _ _) x hx)))) (toNat_lt (ho17 (by first | exact hg20 | (simp only [hq15, hq20, if_pos hp15, if_neg hp20, bS]; done) | (simp only [hq15, hq20, if_pos hp15, if_neg hp20, bS, reduceIte, Bool.false_eq_true]; done) | (simp [hp15, hp20]; done) | (simp_all; done)))) rfl rfl) ?_
                        refine xd_b hok 12 [(67, _), (72, _), (62, _)] ([]) rsN rfl rfl rfl (lc rfl (lc rfl (lc rfl ln))) (by kernel_rfl) ⟨_, rfl, rfl⟩ (fun H' hy hK => o_eql rfl rfl) ?_
                        refine xd_b hok 13 [(73, _), (62, _)] ([]) rsN rfl rfl rfl (lc rfl (lc rfl ln)) (by kernel_rfl) ⟨_, rfl, rfl⟩ (fun H' hy hK => o_mv rfl) ?_
                        refine xd_bool 74 rfl (fun hg21 => ?_) (fun hg21 => ?_)
                        · have hq21 : (decide (l0[k9.toNat]! 0 = (wof_F l0)[i7.toNat]! 1)) = true := hg21
                          have hp21 : l0[k9.toNat]! 0 = (wof_F l0)[i7.toNat]! 1 := of_decide_eq_true hq21
                          refine xd_b hok 14 [(0, _), (74, _)] ([]) rsN rfl rfl rfl (lc rfl (lc rfl ln)) (by kernel_rfl) ⟨_, rfl, rfl⟩ (fun H' hy hK => o_mv rfl) ?_
                          refine xd_b hok 15 [(9, _), (74, _)] ([]) rsN rfl rfl rfl (lc rfl (lc rfl ln)) (by kernel_rfl) ⟨_, rfl, rfl⟩ (fun H' hy hK => o_mv rfl) ?_
                          refine xd_b hok 16 [(75, _), (76, _), (74, _)] ([]) rsN rfl rfl rfl (lc rfl (lc rfl (lc rfl ln))) (by kernel_rfl) ⟨_, rfl, rfl⟩ (fun H' hy hK => o_ixL el22 rfl rfl (fun w hw => (hs0.keep hw (fun k hk => (hK k hk).elim (fun h => (Fr.seg hcBs5 Fr.nil) k h) id))) rfl (ho18 (by first | exact hg20 | (simp only [hq15, hq20, hq21, if_pos hp15, if_neg hp20, if_pos hp21, bS]; done) | (simp only [hq15, hq20, hq21, if_pos hp15, if_neg hp20, if_pos hp21, bS, reduceIte, Bool.false_eq_true]; done) | (simp [hp15, hp20, hp21]; done) | (simp_all; done)) (by first | exact hg21 | (simp only [hq15, hq20, hq21, if_pos hp15, if_neg hp20, if_pos hp21, bS]; done) | (simp only [hq15, hq20, hq21, if_pos hp15, if_neg hp20, if_pos hp21, bS, reduceIte, Bool.false_eq_true]; done) | (simp [hp15, hp20, hp21]; done) | (simp_all; done)))) ?_
                          refine xd_b hok 17 [(77, _), (74, _)] ([]) rsN rfl rfl rfl (lc rfl (lc rfl ln)) (by kernel_rfl) ⟨_, rfl, rfl⟩ (fun H' hy hK => o_faL fl37_2 rfl rfl (fun w hw => (hs0.keep hw (fun k hk => (hK k hk).elim (fun h => (Fr.seg hcBs5 Fr.nil) k h) id))) (toNat_lt (ho18 (by first | exact hg20 | (simp only [hq15, hq20, hq21, if_pos hp15, if_neg hp20, if_pos hp21, bS]; done) | (simp only [hq15, hq20, hq21, if_pos hp15, if_neg hp20, if_pos hp21, bS, reduceIte, Bool.false_eq_true]; done) | (simp [hp15, hp20, hp21]; done) | (simp_all; done)) (by first | exact hg21 | (simp only [hq15, hq20, hq21, if_pos hp15, if_neg hp20, if_pos hp21, bS]; done) | (simp only [hq15, hq20, hq21, if_pos hp15, if_neg hp20, if_pos hp21, bS, reduceIte, Bool.false_eq_true]; done) | (simp [hp15, hp20, hp21]; done) | (simp_all; done))))) ?_
                          refine xd_b hok 18 [(78, _), (74, _)] ([]) rsN rfl rfl rfl (lc rfl (lc rfl ln)) (by kernel_rfl) ⟨_, rfl, rfl⟩ (fun H' hy hK => o_ldL1 (off := 2) (u := .int .i64 (l0[k9.toNat]! 2)) rfl ts3 rfl (fun w hw => (hs0.keep hw (fun k hk => (hK k hk).elim (fun h => (Fr.seg hcBs5 Fr.nil) k h) id))) (toNat_lt (ho18 (by first | exact hg20 | (simp only [hq15, hq20, hq21, if_pos hp15, if_neg hp20, if_pos hp21, bS]; done) | (simp only [hq15, hq20, hq21, if_pos hp15, if_neg hp20, if_pos hp21, bS, reduceIte, Bool.false_eq_true]; done) | (simp [hp15, hp20, hp21]; done) | (simp_all; done)) (by first | exact hg21 | (simp only [hq15, hq20, hq21, if_pos hp15, if_neg hp20, if_pos hp21, bS]; done) | (simp only [hq15, hq20, hq21, if_pos hp15, if_neg hp20, if_pos hp21, bS, reduceIte, Bool.false_eq_true]; done) | (simp [hp15, hp20, hp21]; done) | (simp_all; done)))) rfl rfl) ?_
                          refine xd_b hok 19 [(3, _), (74, _)] ([]) rsN rfl rfl rfl (lc rfl (lc rfl ln)) (by kernel_rfl) ⟨_, rfl, rfl⟩ (fun H' hy hK => o_mv rfl) ?_
                          refine xd_b hok 20 [(7, _), (74, _)] ([]) rsN rfl rfl rfl (lc rfl (lc rfl ln)) (by kernel_rfl) ⟨_, rfl, rfl⟩ (fun H' hy hK => o_mv rfl) ?_
                          refine xd_b hok 21 [(80, _), (81, _), (74, _)] (Bs5 ++ ([])) (rsA (Pull.sub (.here _ _)) rsN) rfl rfl rfl (lc rfl (lc rfl (lc rfl ln))) (by kernel_rfl) ⟨_, rfl, rfl⟩ (fun H' hy hK => o_ixL el24 rfl rfl (fun w hw => (hJs5.sl hw (fun x hx => hy x (Pull.sub (.here _ _) x hx)))) rfl (ho19 (by first | exact hg20 | (simp only [hq15, hq20, hq21, if_pos hp15, if_neg hp20, if_pos hp21, bS]; done) | (simp only [hq15, hq20, hq21, if_pos hp15, if_neg hp20, if_pos hp21, bS, reduceIte, Bool.false_eq_true]; done) | (simp [hp15, hp20, hp21]; done) | (simp_all; done)) (by first | exact hg21 | (simp only [hq15, hq20, hq21, if_pos hp15, if_neg hp20, if_pos hp21, bS]; done) | (simp only [hq15, hq20, hq21, if_pos hp15, if_neg hp20, if_pos hp21, bS, reduceIte, Bool.false_eq_true]; done) | (simp [hp15, hp20, hp21]; done) | (simp_all; done)))) ?_
                          refine xd_b hok 22 [(82, _), (74, _)] (Bs5 ++ ([])) (rsA (Pull.sub (.here _ _)) rsN) rfl rfl rfl (lc rfl (lc rfl ln)) (by kernel_rfl) ⟨_, rfl, rfl⟩ (fun H' hy hK => o_faL fl29_0 rfl rfl (fun w hw => (hJs5.sl hw (fun x hx => hy x (Pull.sub (.here _ _) x hx)))) (toNat_lt (ho19 (by first | exact hg20 | (simp only [hq15, hq20, hq21, if_pos hp15, if_neg hp20, if_pos hp21, bS]; done) | (simp only [hq15, hq20, hq21, if_pos hp15, if_neg hp20, if_pos hp21, bS, reduceIte, Bool.false_eq_true]; done) | (simp [hp15, hp20, hp21]; done) | (simp_all; done)) (by first | exact hg21 | (simp only [hq15, hq20, hq21, if_pos hp15, if_neg hp20, if_pos hp21, bS]; done) | (simp only [hq15, hq20, hq21, if_pos hp15, if_neg hp20, if_pos hp21, bS, reduceIte, Bool.false_eq_true]; done) | (simp [hp15, hp20, hp21]; done) | (simp_all; done))))) ?_
                          refine xd_b hok 23 [(83, _), (74, _)] (Bs5 ++ ([])) (rsA (Pull.sub (.here _ _)) rsN) rfl rfl rfl (lc rfl (lc rfl ln)) (by kernel_rfl) ⟨_, rfl, rfl⟩ (fun H' hy hK => o_ldL1 (off := 0) (u := .int .i64 ((wof_F l0)[i7.toNat]! 0)) rfl ts3 rfl (fun w hw => (hJs5.sl hw (fun x hx => hy x (Pull.sub (.here _ _) x hx)))) (toNat_lt (ho19 (by first | exact hg20 | (simp only [hq15, hq20, hq21, if_pos hp15, if_neg hp20, if_pos hp21, bS]; done) | (simp only [hq15, hq20, hq21, if_pos hp15, if_neg hp20, if_pos hp21, bS, reduceIte, Bool.false_eq_true]; done) | (simp [hp15, hp20, hp21]; done) | (simp_all; done)) (by first | exact hg21 | (simp only [hq15, hq20, hq21, if_pos hp15, if_neg hp20, if_pos hp21, bS]; done) | (simp only [hq15, hq20, hq21, if_pos hp15, if_neg hp20, if_pos hp21, bS, reduceIte, Bool.false_eq_true]; done) | (simp [hp15, hp20, hp21]; done) | (simp_all; done)))) rfl rfl) ?_
                          refine xd_b hok 24 [(79, _), (84, _), (74, _)] ([]) rsN rfl rfl rfl (lc rfl (lc rfl (lc rfl ln))) (by kernel_rfl) ⟨_, rfl, rfl⟩ (fun H' hy hK => o_eql rfl rfl) ?_
                          refine xd_b hok 25 [(74, _), (85, _), (62, _)] ([]) rsN rfl rfl rfl (lc rfl (lc rfl (lc rfl ln))) (by kernel_rfl) ⟨_, rfl, rfl⟩ (fun H' hy hK => o_pick_t rfl rfl) ?_
                          refine xd_b hok 26 [(62, _), (86, _)] ([]) rsN rfl rfl rfl (lc rfl (lc rfl ln)) (by kernel_rfl) trivial (fun H' hy hK => o_pick_f rfl rfl) ?_
                          refine xd_b hok 27 [(87, _)] ([]) rsN rfl rfl rfl (lc rfl ln) (by kernel_rfl) trivial (fun H' hy hK => o_as rfl) ?_
                          refine xd_end hok (by kernel_rfl) ?_
                          exact xq_cut ((lce rfl (by first | rfl | (simp only [hq15, hq20, hq21, if_pos hp15, if_neg hp20, if_pos hp21, bS]; done) | (simp only [hq15, hq20, hq21, if_pos hp15, if_neg hp20, if_pos hp21, bS, reduceIte, Bool.false_eq_true]; done) | (simp [hp15, hp20, hp21]; done) | (simp_all; done)) (lc rfl (lc rfl (lc rfl (lc rfl (lc rfl ln))))))) (fun _ h => h)
                        · have hq21 : (decide (l0[k9.toNat]! 0 = (wof_F l0)[i7.toNat]! 1)) = false := hg21
                          have hp21 : ¬ (l0[k9.toNat]! 0 = (wof_F l0)[i7.toNat]! 1) := of_decide_eq_false hq21
                          refine xd_skip hok 14 [(0, _), (74, _)] rfl rfl rfl (lc rfl (lc rfl ln)) (by kernel_rfl) ⟨_, _, rfl, rfl, rfl⟩ ?_
                          refine xd_skip hok 15 [(9, _), (74, _)] rfl rfl rfl (lc rfl (lc rfl ln)) (by kernel_rfl) ⟨_, _, rfl, rfl, rfl⟩ ?_
                          refine xd_skip hok 16 [(75, _), (76, _), (74, _)] rfl rfl rfl (lc rfl (lc rfl (lc rfl ln))) (by kernel_rfl) ⟨_, _, rfl, rfl, rfl⟩ ?_
                          refine xd_skip hok 17 [(77, _), (74, _)] rfl rfl rfl (lc rfl (lc rfl ln)) (by kernel_rfl) ⟨_, _, rfl, rfl, rfl⟩ ?_
                          refine xd_skip hok 18 [(78, _), (74, _)] rfl rfl rfl (lc rfl (lc rfl ln)) (by kernel_rfl) ⟨_, _, rfl, rfl, rfl⟩ ?_
                          refine xd_skip hok 19 [(3, _), (74, _)] rfl rfl rfl (lc rfl (lc rfl ln)) (by kernel_rfl) ⟨_, _, rfl, rfl, rfl⟩ ?_
                          refine xd_skip hok 20 [(7, _), (74, _)] rfl rfl rfl (lc rfl (lc rfl ln)) (by kernel_rfl) ⟨_, _, rfl, rfl, rfl⟩ ?_
                          refine xd_skip hok 21 [(80, _), (81, _), (74, _)] rfl rfl rfl (lc rfl (lc rfl (lc rfl ln))) (by kernel_rfl) ⟨_, _, rfl, rfl, rfl⟩ ?_
                          refine xd_skip hok 22 [(82, _), (74, _)] rfl rfl rfl (lc rfl (lc rfl ln)) (by kernel_rfl) ⟨_, _, rfl, rfl, rfl⟩ ?_
                          refine xd_skip hok 23 [(83, _), (74, _)] rfl rfl rfl (lc rfl (lc rfl ln)) (by kernel_rfl) ⟨_, _, rfl, rfl, rfl⟩ ?_
                          refine xd_skip hok 24 [(79, _), (84, _), (74, _)] rfl rfl rfl (lc rfl (lc rfl (lc rfl ln))) (by kernel_rfl) ⟨_, _, rfl, rfl, rfl⟩ ?_
                          refine xd_b hok 25 [(74, _), (85, _), (62, _)] ([]) rsN rfl rfl rfl (lc rfl (lc rfl (lc rfl ln))) (by kernel_rfl) ⟨_, rfl, rfl⟩ (fun H' hy hK => o_pick_f rfl rfl) ?_
                          refine xd_b hok 26 [(62, _), (86, _)] ([]) rsN rfl rfl rfl (lc rfl (lc rfl ln)) (by kernel_rfl) trivial (fun H' hy hK => o_pick_f rfl rfl) ?_
                          refine xd_b hok 27 [(87, _)] ([]) rsN rfl rfl rfl (lc rfl ln) (by kernel_rfl) trivial (fun H' hy hK => o_as rfl) ?_
                          refine xd_end hok (by kernel_rfl) ?_
                          exact xq_cut ((lce rfl (by first | rfl | (simp only [hq15, hq20, hq21, if_pos hp15, if_neg hp20, if_neg hp21, bS]; done) | (simp only [hq15, hq20, hq21, if_pos hp15, if_neg hp20, if_neg hp21, bS, reduceIte, Bool.false_eq_true]; done) | (simp [hp15, hp20, hp21]; done) | (simp_all; done)) (lc rfl (lc rfl (lc rfl (lc rfl (lc rfl ln))))))) (fun _ h => h)
                    · refine xq_then (xw_seq ?_)
                      obtain ⟨ho22, ho23, ho24, ho25, h⟩ := h
                      refine xw_cut [(0, _), (3, _), (4, _), (7, _), (8, _), (9, _)] (lc rfl (lc rfl (lc rfl (lc rfl (lc rfl (lc rfl ln)))))) [(111, .bool ((decide (l0[k9.toNat]! 2 = (wof_F l0)[i7.toNat]! 0)) && (decide (l0[k9.toNat]! 0 < (wof_F l0)[i7.toNat]! 1))))] ?_ ?_
                      · refine xd_start (by kernel_rfl) (by kernel_rfl) (fun hok => ?_)
                        refine xd_b hok 0 [(0, _)] ([]) rsN rfl rfl rfl (lc rfl ln) (by kernel_rfl) trivial (fun H' hy hK => o_mv rfl) ?_
                        refine xd_b hok 1 [(9, _)] ([]) rsN rfl rfl rfl (lc rfl ln) (by kernel_rfl) trivial (fun H' hy hK => o_mv rfl) ?_
                        refine xd_b hok 2 [(88, _), (89, _)] ([]) rsN rfl rfl rfl (lc rfl (lc rfl ln)) (by kernel_rfl) trivial (fun H' hy hK => o_ixL el22 rfl rfl (fun w hw => (hs0.keep hw (fun k hk => (hK k hk).elim (fun h => (Fr.seg hcBs5 Fr.nil) k h) id))) rfl (ho22)) ?_
                        refine xd_b hok 3 [(90, _)] ([]) rsN rfl rfl rfl (lc rfl ln) (by kernel_rfl) trivial (fun H' hy hK => o_faL fl37_2 rfl rfl (fun w hw => (hs0.keep hw (fun k hk => (hK k hk).elim (fun h => (Fr.seg hcBs5 Fr.nil) k h) id))) (toNat_lt (ho22))) ?_
                        refine xd_b hok 4 [(91, _)] ([]) rsN rfl rfl rfl (lc rfl ln) (by kernel_rfl) trivial (fun H' hy hK => o_ldL1 (off := 2) (u := .int .i64 (l0[k9.toNat]! 2)) rfl ts3 rfl (fun w hw => (hs0.keep hw (fun k hk => (hK k hk).elim (fun h => (Fr.seg hcBs5 Fr.nil) k h) id))) (toNat_lt (ho22)) rfl rfl) ?_
                        refine xd_b hok 5 [(3, _)] ([]) rsN rfl rfl rfl (lc rfl ln) (by kernel_rfl) trivial (fun H' hy hK => o_mv rfl) ?_
                        refine xd_b hok 6 [(7, _)] ([]) rsN rfl rfl rfl (lc rfl ln) (by kernel_rfl) trivial (fun H' hy hK => o_mv rfl) ?_
                        refine xd_b hok 7 [(93, _), (94, _)] (Bs5 ++ ([])) (rsA (Pull.sub (.here _ _)) rsN) rfl rfl rfl (lc rfl (lc rfl ln)) (by kernel_rfl) trivial (fun H' hy hK => o_ixL el24 rfl rfl (fun w hw => (hJs5.sl hw (fun x hx => hy x (Pull.sub (.here _ _) x hx)))) rfl (ho23)) ?_
                        refine xd_b hok 8 [(95, _)] (Bs5 ++ ([])) (rsA (Pull.sub (.here _ _)) rsN) rfl rfl rfl (lc rfl ln) (by kernel_rfl) trivial (fun H' hy hK => o_faL fl29_0 rfl rfl (fun w hw => (hJs5.sl hw (fun x hx => hy x (Pull.sub (.here _ _) x hx)))) (toNat_lt (ho23))) ?_
                        refine xd_b hok 9 [(96, _)] (Bs5 ++ ([])) (rsA (Pull.sub (.here _ _)) rsN) rfl rfl rfl (lc rfl ln) (by kernel_rfl) trivial (fun H' hy hK => o_ldL1 (off := 0) (u := .int .i64 ((wof_F l0)[i7.toNat]! 0)) rfl ts3 rfl (fun w hw => (hJs5.sl hw (fun x hx => hy x (Pull.sub (.here _ _) x hx)))) (toNat_lt (ho23)) rfl rfl) ?_
                        refine xd_b hok 10 [(92, _), (97, _)] ([]) rsN rfl rfl rfl (lc rfl (lc rfl ln)) (by kernel_rfl) trivial (fun H' hy hK => o_eql rfl rfl) ?_
                        refine xd_b hok 11 [(98, _)] ([]) rsN rfl rfl rfl (lc rfl ln) (by kernel_rfl) trivial (fun H' hy hK => o_mv rfl) ?_
                        refine xd_bool 99 rfl (fun hg26 => ?_) (fun hg26 => ?_)
                        · have hq26 : (decide (l0[k9.toNat]! 2 = (wof_F l0)[i7.toNat]! 0)) = true := hg26
                          have hp26 : l0[k9.toNat]! 2 = (wof_F l0)[i7.toNat]! 0 := of_decide_eq_true hq26
                          refine xd_b hok 12 [(0, _), (99, _)] ([]) rsN rfl rfl rfl (lc rfl (lc rfl ln)) (by kernel_rfl) ⟨_, rfl, rfl⟩ (fun H' hy hK => o_mv rfl) ?_
                          refine xd_b hok 13 [(9, _), (99, _)] ([]) rsN rfl rfl rfl (lc rfl (lc rfl ln)) (by kernel_rfl) ⟨_, rfl, rfl⟩ (fun H' hy hK => o_mv rfl) ?_
                          refine xd_b hok 14 [(100, _), (101, _), (99, _)] ([]) rsN rfl rfl rfl (lc rfl (lc rfl (lc rfl ln))) (by kernel_rfl) ⟨_, rfl, rfl⟩ (fun H' hy hK => o_ixL el22 rfl rfl (fun w hw => (hs0.keep hw (fun k hk => (hK k hk).elim (fun h => (Fr.seg hcBs5 Fr.nil) k h) id))) rfl (ho24 (by first | exact hg26 | (simp only [hq15, hq26, if_pos hp15, if_pos hp26, bS]; done) | (simp only [hq15, hq26, if_pos hp15, if_pos hp26, bS, reduceIte, Bool.false_eq_true]; done) | (simp [hp15, hp26]; done) | (simp_all; done)))) ?_
                          refine xd_b hok 15 [(102, _), (99, _)] ([]) rsN rfl rfl rfl (lc rfl (lc rfl ln)) (by kernel_rfl) ⟨_, rfl, rfl⟩ (fun H' hy hK => o_faL fl37_0 rfl rfl (fun w hw => (hs0.keep hw (fun k hk => (hK k hk).elim (fun h => (Fr.seg hcBs5 Fr.nil) k h) id))) (toNat_lt (ho24 (by first | exact hg26 | (simp only [hq15, hq26, if_pos hp15, if_pos hp26, bS]; done) | (simp only [hq15, hq26, if_pos hp15, if_pos hp26, bS, reduceIte, Bool.false_eq_true]; done) | (simp [hp15, hp26]; done) | (simp_all; done))))) ?_
                          refine xd_b hok 16 [(103, _), (99, _)] ([]) rsN rfl rfl rfl (lc rfl (lc rfl ln)) (by kernel_rfl) ⟨_, rfl, rfl⟩ (fun H' hy hK => o_ldL1 (off := 0) (u := .int .i64 (l0[k9.toNat]! 0)) rfl ts3 rfl (fun w hw => (hs0.keep hw (fun k hk => (hK k hk).elim (fun h => (Fr.seg hcBs5 Fr.nil) k h) id))) (toNat_lt (ho24 (by first | exact hg26 | (simp only [hq15, hq26, if_pos hp15, if_pos hp26, bS]; done) | (simp only [hq15, hq26, if_pos hp15, if_pos hp26, bS, reduceIte, Bool.false_eq_true]; done) | (simp [hp15, hp26]; done) | (simp_all; done)))) rfl rfl) ?_
                          refine xd_b hok 17 [(3, _), (99, _)] ([]) rsN rfl rfl rfl (lc rfl (lc rfl ln)) (by kernel_rfl) ⟨_, rfl, rfl⟩ (fun H' hy hK => o_mv rfl) ?_
                          refine xd_b hok 18 [(7, _), (99, _)] ([]) rsN rfl rfl rfl (lc rfl (lc rfl ln)) (by kernel_rfl) ⟨_, rfl, rfl⟩ (fun H' hy hK => o_mv rfl) ?_
                          refine xd_b hok 19 [(105, _), (106, _), (99, _)] (Bs5 ++ ([])) (rsA (Pull.sub (.here _ _)) rsN) rfl rfl rfl (lc rfl (lc rfl (lc rfl ln))) (by kernel_rfl) ⟨_, rfl, rfl⟩ (fun H' hy hK => o_ixL el24 rfl rfl (fun w hw => (hJs5.sl hw (fun x hx => hy x (Pull.sub (.here _ _) x hx)))) rfl (ho25 (by first | exact hg26 | (simp only [hq15, hq26, if_pos hp15, if_pos hp26, bS]; done) | (simp only [hq15, hq26, if_pos hp15, if_pos hp26, bS, reduceIte, Bool.false_eq_true]; done) | (simp [hp15, hp26]; done) | (simp_all; done)))) ?_
                          refine xd_b hok 20 [(107, _), (99, _)] (Bs5 ++ ([])) (rsA (Pull.sub (.here _ _)) rsN) rfl rfl rfl (lc rfl (lc rfl ln)) (by kernel_rfl) ⟨_, rfl, rfl⟩ (fun H' hy hK => o_faL fl29_1 rfl rfl (fun w hw => (hJs5.sl hw (fun x hx => hy x (Pull.sub (.here _ _) x hx)))) (toNat_lt (ho25 (by first | exact hg26 | (simp only [hq15, hq26, if_pos hp15, if_pos hp26, bS]; done) | (simp only [hq15, hq26, if_pos hp15, if_pos hp26, bS, reduceIte, Bool.false_eq_true]; done) | (simp [hp15, hp26]; done) | (simp_all; done))))) ?_
                          refine xd_b hok 21 [(108, _), (99, _)] (Bs5 ++ ([])) (rsA (Pull.sub (.here _ _)) rsN) rfl rfl rfl (lc rfl (lc rfl ln)) (by kernel_rfl) ⟨_, rfl, rfl⟩ (fun H' hy hK => o_ldL1 (off := 1) (u := .int .i64 ((wof_F l0)[i7.toNat]! 1)) rfl ts3 rfl (fun w hw => (hJs5.sl hw (fun x hx => hy x (Pull.sub (.here _ _) x hx)))) (toNat_lt (ho25 (by first | exact hg26 | (simp only [hq15, hq26, if_pos hp15, if_pos hp26, bS]; done) | (simp only [hq15, hq26, if_pos hp15, if_pos hp26, bS, reduceIte, Bool.false_eq_true]; done) | (simp [hp15, hp26]; done) | (simp_all; done)))) rfl rfl) ?_
                          refine xd_b hok 22 [(104, _), (109, _), (99, _)] ([]) rsN rfl rfl rfl (lc rfl (lc rfl (lc rfl ln))) (by kernel_rfl) ⟨_, rfl, rfl⟩ (fun H' hy hK => o_lss rfl rfl) ?_
                          refine xd_b hok 23 [(99, _), (110, _)] ([]) rsN rfl rfl rfl (lc rfl (lc rfl ln)) (by kernel_rfl) trivial (fun H' hy hK => o_pick_t rfl rfl) ?_
                          refine xd_end hok (by kernel_rfl) ?_
                          exact xq_cut ((lce rfl (by first | rfl | (simp only [hq15, hq26, if_pos hp15, if_pos hp26, bS]; done) | (simp only [hq15, hq26, if_pos hp15, if_pos hp26, bS, reduceIte, Bool.false_eq_true]; done) | (simp [hp15, hp26]; done) | (simp_all; done)) (lc rfl (lc rfl (lc rfl (lc rfl (lc rfl (lc rfl ln)))))))) (fun _ h => h)
                        · have hq26 : (decide (l0[k9.toNat]! 2 = (wof_F l0)[i7.toNat]! 0)) = false := hg26
                          have hp26 : ¬ (l0[k9.toNat]! 2 = (wof_F l0)[i7.toNat]! 0) := of_decide_eq_false hq26
                          refine xd_skip hok 12 [(0, _), (99, _)] rfl rfl rfl (lc rfl (lc rfl ln)) (by kernel_rfl) ⟨_, _, rfl, rfl, rfl⟩ ?_
                          refine xd_skip hok 13 [(9, _), (99, _)] rfl rfl rfl (lc rfl (lc rfl ln)) (by kernel_rfl) ⟨_, _, rfl, rfl, rfl⟩ ?_
                          refine xd_skip hok 14 [(100, _), (101, _), (99, _)] rfl rfl rfl (lc rfl (lc rfl (lc rfl ln))) (by kernel_rfl) ⟨_, _, rfl, rfl, rfl⟩ ?_
                          refine xd_skip hok 15 [(102, _), (99, _)] rfl rfl rfl (lc rfl (lc rfl ln)) (by kernel_rfl) ⟨_, _, rfl, rfl, rfl⟩ ?_
                          refine xd_skip hok 16 [(103, _), (99, _)] rfl rfl rfl (lc rfl (lc rfl ln)) (by kernel_rfl) ⟨_, _, rfl, rfl, rfl⟩ ?_
                          refine xd_skip hok 17 [(3, _), (99, _)] rfl rfl rfl (lc rfl (lc rfl ln)) (by kernel_rfl) ⟨_, _, rfl, rfl, rfl⟩ ?_
                          refine xd_skip hok 18 [(7, _), (99, _)] rfl rfl rfl (lc rfl (lc rfl ln)) (by kernel_rfl) ⟨_, _, rfl, rfl, rfl⟩ ?_
                          refine xd_skip hok 19 [(105, _), (106, _), (99, _)] rfl rfl rfl (lc rfl (lc rfl (lc rfl ln))) (by kernel_rfl) ⟨_, _, rfl, rfl, rfl⟩ ?_
                          refine xd_skip hok 20 [(107, _), (99, _)] rfl rfl rfl (lc rfl (lc rfl ln)) (by kernel_rfl) ⟨_, _, rfl, rfl, rfl⟩ ?_
                          refine xd_skip hok 21 [(108, _), (99, _)] rfl rfl rfl (lc rfl (lc rfl ln)) (by kernel_rfl) ⟨_, _, rfl, rfl, rfl⟩ ?_
                          refine xd_skip hok 22 [(104, _), (109, _), (99, _)] rfl rfl rfl (lc rfl (lc rfl (lc rfl ln))) (by kernel_rfl) ⟨_, _, rfl, rfl, rfl⟩ ?_
                          refine xd_b hok 23 [(99, _), (110, _)] ([]) rsN rfl rfl rfl (lc rfl (lc rfl ln)) (by kernel_rfl) trivial (fun H' hy hK => o_pick_f rfl rfl) ?_
                          refine xd_end hok (by kernel_rfl) ?_
                          exact xq_cut ((lce rfl (by first | rfl | (simp only [hq15, hq26, if_pos hp15, if_neg hp26, bS]; done) | (simp only [hq15, hq26, if_pos hp15, if_neg hp26, bS, reduceIte, Bool.false_eq_true]; done) | (simp [hp15, hp26]; done) | (simp_all; done)) (lc rfl (lc rfl (lc rfl (lc rfl (lc rfl (lc rfl ln)))))))) (fun _ h => h)
                      · refine xq_then ?_
                        refine xw_bool 111 rfl (fun hc27 => ?_) (fun hc27 => ?_)
                        · have hq27 : ((decide (l0[k9.toNat]! 2 = (wof_F l0)[i7.toNat]! 0)) && (decide (l0[k9.toNat]! 0 < (wof_F l0)[i7.toNat]! 1))) = true := hc27
                          have hp27 : ((decide (l0[k9.toNat]! 2 = (wof_F l0)[i7.toNat]! 0)) && (decide (l0[k9.toNat]! 0 < (wof_F l0)[i7.toNat]! 1))) = true := hq27
                          rw [if_pos hp27] at h
                          refine xw_cond_t rfl rfl (xw_seq (xw_region ?_))
                          refine xq rfl trivial (o_as rfl) ?_
                          refine xo_nil (xq_then (xw_ret (xq_blk_ret (xq_then_ret ?_))))
                          exact xq_out (r := (.inr () : (Bool) ⊕ (Unit))) (e' := [(2, .bool false)]) (Bs5 ++ ([])) (lc rfl ln) (fun _ h => h) h (by intro hh; cases hh) ⟨rfl, rfl, rfl⟩
                        · have hq27 : ((decide (l0[k9.toNat]! 2 = (wof_F l0)[i7.toNat]! 0)) && (decide (l0[k9.toNat]! 0 < (wof_F l0)[i7.toNat]! 1))) = false := hc27
                          have hp27 : ¬ (((decide (l0[k9.toNat]! 2 = (wof_F l0)[i7.toNat]! 0)) && (decide (l0[k9.toNat]! 0 < (wof_F l0)[i7.toNat]! 1))) = true) := bne' hq27
                          rw [if_neg hp27] at h
                          refine xw_cond_f rfl rfl (xw_skip ?_)
                          refine xq_blk 5 ?_
                          refine xq_then (xw_region ?_)
                          refine xq rfl trivial (o_mv rfl) ?_
                          obtain ⟨ho28, h⟩ := h
                          refine xq rfl trivial (o_add rfl rfl rfl ho28) ?_
                          refine xq rfl trivial (o_as rfl) ?_
                          refine xo_nil ?_
                          exact xq_next (s' := (((waits8) || ((decide (l0[k9.toNat]! 0 = (wof_F l0)[i7.toNat]! 1)) && (decide (l0[k9.toNat]! 2 = (wof_F l0)[i7.toNat]! 0))), k9 + 1) : Bool × Int)) (e' := [(0, v0), (3, vs5), (4, .int .i64 ((oldest_F l0).1)), (7, .int .i64 i7), (8, .bool ((waits8) || ((decide (l0[k9.toNat]! 0 = (wof_F l0)[i7.toNat]! 1)) && (decide (l0[k9.toNat]! 2 = (wof_F l0)[i7.toNat]! 0))))), (9, .int .i64 (k9 + 1))]) (Bs5 ++ ([])) (lc rfl (lc rfl (lc rfl (lc rfl (lc rfl (lc rfl ln)))))) (fun _ h => h) h ⟨rfl, rfl⟩
                  · have hq15 : (decide (k9 < (l0.length : Int))) = false := hc15
                    have hp15 : ¬ (k9 < (l0.length : Int)) := of_decide_eq_false hq15
                    rw [if_neg hp15] at h
                    refine xw_cond_f rfl rfl (xw_exit (xq_then_exit ?_))
                    exact xq_out (r := (.inl waits8 : (Bool) ⊕ (Unit))) (e' := [(0, v0), (3, vs5), (4, .int .i64 ((oldest_F l0).1)), (7, .int .i64 i7), (8, .bool (waits8))]) (Bs5 ++ ([])) (lc rfl (lc rfl (lc rfl (lc rfl (lc rfl ln))))) (fun _ h => h) h (by intro hh; cases hh) ⟨rfl, rfl, rfl⟩
                · rcases x3 with waits8 | x3
                  · rintro _ _ _ ⟨rfl, rfl, rfl⟩
                    replace h : by11_k3a l0 i7 waits8 o := h
                    unfold by11_k3a at h
                    refine xq_blk_eq ?_
                    refine xq_then (xw_seq ?_)
                    obtain ⟨ho29, ho30, ho31, ho32, ho33, ho34, h⟩ := h
                    refine xw_cut [(0, _), (3, _), (4, _), (7, _)] (lc rfl (lc rfl (lc rfl (lc rfl ln)))) [(153, .bool ((((!(waits8)) || (decide ((wof_F l0)[i7.toNat]! 0 ≤ (wof_F l0)[i7.toNat]! 1))) || (decide ((wof_F l0)[i7.toNat]! 0 = (oldest_F l0).1))) || ((decide (0 < i7)) && (decide ((wof_F l0)[i7.toNat]! 0 ≤ (wof_F l0)[(i7 - 1).toNat]! 0)))))] ?_ ?_
                    · refine xd_start (by kernel_rfl) (by kernel_rfl) (fun hok => ?_)
                      refine xd_b hok 0 [(8, _)] ([]) rsN rfl rfl rfl (lc rfl ln) (by kernel_rfl) trivial (fun H' hy hK => o_mv rfl) ?_
                      refine xd_b hok 1 [(112, _)] ([]) rsN rfl rfl rfl (lc rfl ln) (by kernel_rfl) trivial (fun H' hy hK => o_not rfl) ?_
                      refine xd_b hok 2 [(113, _)] ([]) rsN rfl rfl rfl (lc rfl ln) (by kernel_rfl) trivial (fun H' hy hK => o_mv rfl) ?_
                      refine xd_bool 114 rfl (fun hg35 => ?_) (fun hg35 => ?_)
                      · have hq35 : (waits8) = false := (bnT hg35)
                        have hp35 : ¬ ((waits8) = true) := bne' hq35
                        refine xd_skip hok 3 [(3, _), (114, _)] rfl rfl rfl (lc rfl (lc rfl ln)) (by kernel_rfl) ⟨_, _, rfl, rfl, rfl⟩ ?_
                        refine xd_skip hok 4 [(7, _), (114, _)] rfl rfl rfl (lc rfl (lc rfl ln)) (by kernel_rfl) ⟨_, _, rfl, rfl, rfl⟩ ?_
                        refine xd_skip hok 5 [(115, _), (116, _), (114, _)] rfl rfl rfl (lc rfl (lc rfl (lc rfl ln))) (by kernel_rfl) ⟨_, _, rfl, rfl, rfl⟩ ?_
                        refine xd_skip hok 6 [(117, _), (114, _)] rfl rfl rfl (lc rfl (lc rfl ln)) (by kernel_rfl) ⟨_, _, rfl, rfl, rfl⟩ ?_
                        refine xd_skip hok 7 [(118, _), (114, _)] rfl rfl rfl (lc rfl (lc rfl ln)) (by kernel_rfl) ⟨_, _, rfl, rfl, rfl⟩ ?_
                        refine xd_skip hok 8 [(3, _), (114, _)] rfl rfl rfl (lc rfl (lc rfl ln)) (by kernel_rfl) ⟨_, _, rfl, rfl, rfl⟩ ?_
                        refine xd_skip hok 9 [(7, _), (114, _)] rfl rfl rfl (lc rfl (lc rfl ln)) (by kernel_rfl) ⟨_, _, rfl, rfl, rfl⟩ ?_
                        refine xd_skip hok 10 [(120, _), (121, _), (114, _)] rfl rfl rfl (lc rfl (lc rfl (lc rfl ln))) (by kernel_rfl) ⟨_, _, rfl, rfl, rfl⟩ ?_
                        refine xd_skip hok 11 [(122, _), (114, _)] rfl rfl rfl (lc rfl (lc rfl ln)) (by kernel_rfl) ⟨_, _, rfl, rfl, rfl⟩ ?_
                        refine xd_skip hok 12 [(123, _), (114, _)] rfl rfl rfl (lc rfl (lc rfl ln)) (by kernel_rfl) ⟨_, _, rfl, rfl, rfl⟩ ?_
                        refine xd_skip hok 13 [(119, _), (124, _), (114, _)] rfl rfl rfl (lc rfl (lc rfl (lc rfl ln))) (by kernel_rfl) ⟨_, _, rfl, rfl, rfl⟩ ?_
                        refine xd_b hok 14 [(114, _), (125, _)] ([]) rsN rfl rfl rfl (lc rfl (lc rfl ln)) (by kernel_rfl) trivial (fun H' hy hK => o_pick_t rfl rfl) ?_
                        refine xd_b hok 15 [(126, _)] ([]) rsN rfl rfl rfl (lc rfl ln) (by kernel_rfl) trivial (fun H' hy hK => o_mv rfl) ?_
                        refine xd_skip hok 16 [(3, _), (127, _)] rfl rfl rfl (lc rfl (lc rfl ln)) (by kernel_rfl) ⟨_, _, rfl, rfl, rfl⟩ ?_
                        refine xd_skip hok 17 [(7, _), (127, _)] rfl rfl rfl (lc rfl (lc rfl ln)) (by kernel_rfl) ⟨_, _, rfl, rfl, rfl⟩ ?_
                        refine xd_skip hok 18 [(128, _), (129, _), (127, _)] rfl rfl rfl (lc rfl (lc rfl (lc rfl ln))) (by kernel_rfl) ⟨_, _, rfl, rfl, rfl⟩ ?_
                        refine xd_skip hok 19 [(130, _), (127, _)] rfl rfl rfl (lc rfl (lc rfl ln)) (by kernel_rfl) ⟨_, _, rfl, rfl, rfl⟩ ?_
                        refine xd_skip hok 20 [(131, _), (127, _)] rfl rfl rfl (lc rfl (lc rfl ln)) (by kernel_rfl) ⟨_, _, rfl, rfl, rfl⟩ ?_
                        refine xd_skip hok 21 [(4, _), (127, _)] rfl rfl rfl (lc rfl (lc rfl ln)) (by kernel_rfl) ⟨_, _, rfl, rfl, rfl⟩ ?_
                        refine xd_skip hok 22 [(132, _), (133, _), (127, _)] rfl rfl rfl (lc rfl (lc rfl (lc rfl ln))) (by kernel_rfl) ⟨_, _, rfl, rfl, rfl⟩ ?_
                        refine xd_b hok 23 [(127, _), (134, _)] ([]) rsN rfl rfl rfl (lc rfl (lc rfl ln)) (by kernel_rfl) trivial (fun H' hy hK => o_pick_t rfl rfl) ?_
                        refine xd_b hok 24 [(135, _)] ([]) rsN rfl rfl rfl (lc rfl ln) (by kernel_rfl) trivial (fun H' hy hK => o_mv rfl) ?_
                        refine xd_skip hok 25 [(7, _), (136, _)] rfl rfl rfl (lc rfl (lc rfl ln)) (by kernel_rfl) ⟨_, _, rfl, rfl, rfl⟩ ?_
                        refine xd_skip hok 26 [(137, _), (136, _)] rfl rfl rfl (lc rfl (lc rfl ln)) (by kernel_rfl) ⟨_, _, rfl, rfl, rfl⟩ ?_
                        refine xd_skip hok 27 [(138, _), (136, _)] rfl rfl rfl (lc rfl (lc rfl ln)) (by kernel_rfl) ⟨_, _, rfl, rfl, rfl⟩ ?_
                        refine xd_skip hok 28 [(3, _), (139, _)] rfl rfl rfl (lc rfl (lc rfl ln)) (by kernel_rfl) ⟨_, _, rfl, rfl, rfl⟩ ?_
                        refine xd_skip hok 29 [(7, _), (139, _)] rfl rfl rfl (lc rfl (lc rfl ln)) (by kernel_rfl) ⟨_, _, rfl, rfl, rfl⟩ ?_
                        refine xd_skip hok 30 [(141, _), (139, _)] rfl rfl rfl (lc rfl (lc rfl ln)) (by kernel_rfl) ⟨_, _, rfl, rfl, rfl⟩ ?_
                        refine xd_skip hok 31 [(140, _), (142, _), (139, _)] rfl rfl rfl (lc rfl (lc rfl (lc rfl ln))) (by kernel_rfl) ⟨_, _, rfl, rfl, rfl⟩ ?_
                        refine xd_skip hok 32 [(143, _), (139, _)] rfl rfl rfl (lc rfl (lc rfl ln)) (by kernel_rfl) ⟨_, _, rfl, rfl, rfl⟩ ?_
                        refine xd_skip hok 33 [(144, _), (139, _)] rfl rfl rfl (lc rfl (lc rfl ln)) (by kernel_rfl) ⟨_, _, rfl, rfl, rfl⟩ ?_
                        refine xd_skip hok 34 [(3, _), (139, _)] rfl rfl rfl (lc rfl (lc rfl ln)) (by kernel_rfl) ⟨_, _, rfl, rfl, rfl⟩ ?_
                        refine xd_skip hok 35 [(7, _), (139, _)] rfl rfl rfl (lc rfl (lc rfl ln)) (by kernel_rfl) ⟨_, _, rfl, rfl, rfl⟩ ?_
                        refine xd_skip hok 36 [(146, _), (147, _), (139, _)] rfl rfl rfl (lc rfl (lc rfl (lc rfl ln))) (by kernel_rfl) ⟨_, _, rfl, rfl, rfl⟩ ?_
                        refine xd_skip hok 37 [(148, _), (139, _)] rfl rfl rfl (lc rfl (lc rfl ln)) (by kernel_rfl) ⟨_, _, rfl, rfl, rfl⟩ ?_
                        refine xd_skip hok 38 [(149, _), (139, _)] rfl rfl rfl (lc rfl (lc rfl ln)) (by kernel_rfl) ⟨_, _, rfl, rfl, rfl⟩ ?_
                        refine xd_skip hok 39 [(145, _), (150, _), (139, _)] rfl rfl rfl (lc rfl (lc rfl (lc rfl ln))) (by kernel_rfl) ⟨_, _, rfl, rfl, rfl⟩ ?_
                        refine xd_skip hok 40 [(139, _), (151, _), (136, _)] rfl rfl rfl (lc rfl (lc rfl (lc rfl ln))) (by kernel_rfl) ⟨_, _, rfl, rfl, rfl⟩ ?_
                        refine xd_b hok 41 [(136, _), (152, _)] ([]) rsN rfl rfl rfl (lc rfl (lc rfl ln)) (by kernel_rfl) trivial (fun H' hy hK => o_pick_t rfl rfl) ?_
                        refine xd_end hok (by kernel_rfl) ?_
                        exact xq_cut ((lce rfl (by first | rfl | (simp only [hq35, if_neg hp35, bS]; done) | (simp only [hq35, if_neg hp35, bS, reduceIte, Bool.false_eq_true]; done) | (simp [hp35]; done) | (simp_all; done)) (lc rfl (lc rfl (lc rfl (lc rfl ln)))))) (fun _ h => h)
                      · have hq35 : (waits8) = true := (bnF hg35)
                        have hp35 : (waits8) = true := hq35
                        refine xd_b hok 3 [(3, _), (114, _)] ([]) rsN rfl rfl rfl (lc rfl (lc rfl ln)) (by kernel_rfl) ⟨_, rfl, rfl⟩ (fun H' hy hK => o_mv rfl) ?_
                        refine xd_b hok 4 [(7, _), (114, _)] ([]) rsN rfl rfl rfl (lc rfl (lc rfl ln)) (by kernel_rfl) ⟨_, rfl, rfl⟩ (fun H' hy hK => o_mv rfl) ?_
                        refine xd_b hok 5 [(115, _), (116, _), (114, _)] (Bs5 ++ ([])) (rsA (Pull.sub (.here _ _)) rsN) rfl rfl rfl (lc rfl (lc rfl (lc rfl ln))) (by kernel_rfl) ⟨_, rfl, rfl⟩ (fun H' hy hK => o_ixL el24 rfl rfl (fun w hw => (hJs5.sl hw (fun x hx => hy x (Pull.sub (.here _ _) x hx)))) rfl (ho29 (by first | exact hg35 | (simp only [hq35, if_pos hp35, bS]; done) | (simp only [hq35, if_pos hp35, bS, reduceIte, Bool.false_eq_true]; done) | (simp [hp35]; done) | (simp_all; done)))) ?_
                        refine xd_b hok 6 [(117, _), (114, _)] (Bs5 ++ ([])) (rsA (Pull.sub (.here _ _)) rsN) rfl rfl rfl (lc rfl (lc rfl ln)) (by kernel_rfl) ⟨_, rfl, rfl⟩ (fun H' hy hK => o_faL fl29_1 rfl rfl (fun w hw => (hJs5.sl hw (fun x hx => hy x (Pull.sub (.here _ _) x hx)))) (toNat_lt (ho29 (by first | exact hg35 | (simp only [hq35, if_pos hp35, bS]; done) | (simp only [hq35, if_pos hp35, bS, reduceIte, Bool.false_eq_true]; done) | (simp [hp35]; done) | (simp_all; done))))) ?_
                        refine xd_b hok 7 [(118, _), (114, _)] (Bs5 ++ ([])) (rsA (Pull.sub (.here _ _)) rsN) rfl rfl rfl (lc rfl (lc rfl ln)) (by kernel_rfl) ⟨_, rfl, rfl⟩ (fun H' hy hK => o_ldL1 (off := 1) (u := .int .i64 ((wof_F l0)[i7.toNat]! 1)) rfl ts3 rfl (fun w hw => (hJs5.sl hw (fun x hx => hy x (Pull.sub (.here _ _) x hx)))) (toNat_lt (ho29 (by first | exact hg35 | (simp only [hq35, if_pos hp35, bS]; done) | (simp only [hq35, if_pos hp35, bS, reduceIte, Bool.false_eq_true]; done) | (simp [hp35]; done) | (simp_all; done)))) rfl rfl) ?_
                        refine xd_b hok 8 [(3, _), (114, _)] ([]) rsN rfl rfl rfl (lc rfl (lc rfl ln)) (by kernel_rfl) ⟨_, rfl, rfl⟩ (fun H' hy hK => o_mv rfl) ?_
                        refine xd_b hok 9 [(7, _), (114, _)] ([]) rsN rfl rfl rfl (lc rfl (lc rfl ln)) (by kernel_rfl) ⟨_, rfl, rfl⟩ (fun H' hy hK => o_mv rfl) ?_
                        refine xd_b hok 10 [(120, _), (121, _), (114, _)] (Bs5 ++ ([])) (rsA (Pull.sub (.here _ _)) rsN) rfl rfl rfl (lc rfl (lc rfl (lc rfl ln))) (by kernel_rfl) ⟨_, rfl, rfl⟩ (fun H' hy hK => o_ixL el24 rfl rfl (fun w hw => (hJs5.sl hw (fun x hx => hy x (Pull.sub (.here _ _) x hx)))) rfl (ho30 (by first | exact hg35 | (simp only [hq35, if_pos hp35, bS]; done) | (simp only [hq35, if_pos hp35, bS, reduceIte, Bool.false_eq_true]; done) | (simp [hp35]; done) | (simp_all; done)))) ?_
                        refine xd_b hok 11 [(122, _), (114, _)] (Bs5 ++ ([])) (rsA (Pull.sub (.here _ _)) rsN) rfl rfl rfl (lc rfl (lc rfl ln)) (by kernel_rfl) ⟨_, rfl, rfl⟩ (fun H' hy hK => o_faL fl29_0 rfl rfl (fun w hw => (hJs5.sl hw (fun x hx => hy x (Pull.sub (.here _ _) x hx)))) (toNat_lt (ho30 (by first | exact hg35 | (simp only [hq35, if_pos hp35, bS]; done) | (simp only [hq35, if_pos hp35, bS, reduceIte, Bool.false_eq_true]; done) | (simp [hp35]; done) | (simp_all; done))))) ?_
                        refine xd_b hok 12 [(123, _), (114, _)] (Bs5 ++ ([])) (rsA (Pull.sub (.here _ _)) rsN) rfl rfl rfl (lc rfl (lc rfl ln)) (by kernel_rfl) ⟨_, rfl, rfl⟩ (fun H' hy hK => o_ldL1 (off := 0) (u := .int .i64 ((wof_F l0)[i7.toNat]! 0)) rfl ts3 rfl (fun w hw => (hJs5.sl hw (fun x hx => hy x (Pull.sub (.here _ _) x hx)))) (toNat_lt (ho30 (by first | exact hg35 | (simp only [hq35, if_pos hp35, bS]; done) | (simp only [hq35, if_pos hp35, bS, reduceIte, Bool.false_eq_true]; done) | (simp [hp35]; done) | (simp_all; done)))) rfl rfl) ?_
                        refine xd_b hok 13 [(119, _), (124, _), (114, _)] ([]) rsN rfl rfl rfl (lc rfl (lc rfl (lc rfl ln))) (by kernel_rfl) ⟨_, rfl, rfl⟩ (fun H' hy hK => o_geq rfl rfl) ?_
                        refine xd_b hok 14 [(114, _), (125, _)] ([]) rsN rfl rfl rfl (lc rfl (lc rfl ln)) (by kernel_rfl) trivial (fun H' hy hK => o_pick_f rfl rfl) ?_
                        refine xd_b hok 15 [(126, _)] ([]) rsN rfl rfl rfl (lc rfl ln) (by kernel_rfl) trivial (fun H' hy hK => o_mv rfl) ?_
                        refine xd_bool 127 rfl (fun hg36 => ?_) (fun hg36 => ?_)
                        · have hq36 : (decide ((wof_F l0)[i7.toNat]! 0 ≤ (wof_F l0)[i7.toNat]! 1)) = true := hg36
                          have hp36 : (wof_F l0)[i7.toNat]! 0 ≤ (wof_F l0)[i7.toNat]! 1 := of_decide_eq_true hq36
                          refine xd_skip hok 16 [(3, _), (127, _)] rfl rfl rfl (lc rfl (lc rfl ln)) (by kernel_rfl) ⟨_, _, rfl, rfl, rfl⟩ ?_
                          refine xd_skip hok 17 [(7, _), (127, _)] rfl rfl rfl (lc rfl (lc rfl ln)) (by kernel_rfl) ⟨_, _, rfl, rfl, rfl⟩ ?_
                          refine xd_skip hok 18 [(128, _), (129, _), (127, _)] rfl rfl rfl (lc rfl (lc rfl (lc rfl ln))) (by kernel_rfl) ⟨_, _, rfl, rfl, rfl⟩ ?_
                          refine xd_skip hok 19 [(130, _), (127, _)] rfl rfl rfl (lc rfl (lc rfl ln)) (by kernel_rfl) ⟨_, _, rfl, rfl, rfl⟩ ?_
                          refine xd_skip hok 20 [(131, _), (127, _)] rfl rfl rfl (lc rfl (lc rfl ln)) (by kernel_rfl) ⟨_, _, rfl, rfl, rfl⟩ ?_
                          refine xd_skip hok 21 [(4, _), (127, _)] rfl rfl rfl (lc rfl (lc rfl ln)) (by kernel_rfl) ⟨_, _, rfl, rfl, rfl⟩ ?_
                          refine xd_skip hok 22 [(132, _), (133, _), (127, _)] rfl rfl rfl (lc rfl (lc rfl (lc rfl ln))) (by kernel_rfl) ⟨_, _, rfl, rfl, rfl⟩ ?_
                          refine xd_b hok 23 [(127, _), (134, _)] ([]) rsN rfl rfl rfl (lc rfl (lc rfl ln)) (by kernel_rfl) trivial (fun H' hy hK => o_pick_t rfl rfl) ?_
                          refine xd_b hok 24 [(135, _)] ([]) rsN rfl rfl rfl (lc rfl ln) (by kernel_rfl) trivial (fun H' hy hK => o_mv rfl) ?_
                          refine xd_skip hok 25 [(7, _), (136, _)] rfl rfl rfl (lc rfl (lc rfl ln)) (by kernel_rfl) ⟨_, _, rfl, rfl, rfl⟩ ?_
                          refine xd_skip hok 26 [(137, _), (136, _)] rfl rfl rfl (lc rfl (lc rfl ln)) (by kernel_rfl) ⟨_, _, rfl, rfl, rfl⟩ ?_
                          refine xd_skip hok 27 [(138, _), (136, _)] rfl rfl rfl (lc rfl (lc rfl ln)) (by kernel_rfl) ⟨_, _, rfl, rfl, rfl⟩ ?_
                          refine xd_skip hok 28 [(3, _), (139, _)] rfl rfl rfl (lc rfl (lc rfl ln)) (by kernel_rfl) ⟨_, _, rfl, rfl, rfl⟩ ?_
                          refine xd_skip hok 29 [(7, _), (139, _)] rfl rfl rfl (lc rfl (lc rfl ln)) (by kernel_rfl) ⟨_, _, rfl, rfl, rfl⟩ ?_
                          refine xd_skip hok 30 [(141, _), (139, _)] rfl rfl rfl (lc rfl (lc rfl ln)) (by kernel_rfl) ⟨_, _, rfl, rfl, rfl⟩ ?_
                          refine xd_skip hok 31 [(140, _), (142, _), (139, _)] rfl rfl rfl (lc rfl (lc rfl (lc rfl ln))) (by kernel_rfl) ⟨_, _, rfl, rfl, rfl⟩ ?_
                          refine xd_skip hok 32 [(143, _), (139, _)] rfl rfl rfl (lc rfl (lc rfl ln)) (by kernel_rfl) ⟨_, _, rfl, rfl, rfl⟩ ?_
                          refine xd_skip hok 33 [(144, _), (139, _)] rfl rfl rfl (lc rfl (lc rfl ln)) (by kernel_rfl) ⟨_, _, rfl, rfl, rfl⟩ ?_
                          refine xd_skip hok 34 [(3, _), (139, _)] rfl rfl rfl (lc rfl (lc rfl ln)) (by kernel_rfl) ⟨_, _, rfl, rfl, rfl⟩ ?_
                          refine xd_skip hok 35 [(7, _), (139, _)] rfl rfl rfl (lc rfl (lc rfl ln)) (by kernel_rfl) ⟨_, _, rfl, rfl, rfl⟩ ?_
                          refine xd_skip hok 36 [(146, _), (147, _), (139, _)] rfl rfl rfl (lc rfl (lc rfl (lc rfl ln))) (by kernel_rfl) ⟨_, _, rfl, rfl, rfl⟩ ?_
                          refine xd_skip hok 37 [(148, _), (139, _)] rfl rfl rfl (lc rfl (lc rfl ln)) (by kernel_rfl) ⟨_, _, rfl, rfl, rfl⟩ ?_
                          refine xd_skip hok 38 [(149, _), (139, _)] rfl rfl rfl (lc rfl (lc rfl ln)) (by kernel_rfl) ⟨_, _, rfl, rfl, rfl⟩ ?_
                          refine xd_skip hok 39 [(145, _), (150, _), (139, _)] rfl rfl rfl (lc rfl (lc rfl (lc rfl ln))) (by kernel_rfl) ⟨_, _, rfl, rfl, rfl⟩ ?_
                          refine xd_skip hok 40 [(139, _), (151, _), (136, _)] rfl rfl rfl (lc rfl (lc rfl (lc rfl ln))) (by kernel_rfl) ⟨_, _, rfl, rfl, rfl⟩ ?_
                          refine xd_b hok 41 [(136, _), (152, _)] ([]) rsN rfl rfl rfl (lc rfl (lc rfl ln)) (by kernel_rfl) trivial (fun H' hy hK => o_pick_t rfl rfl) ?_
                          refine xd_end hok (by kernel_rfl) ?_
                          exact xq_cut ((lce rfl (by first | rfl | (simp only [hq35, hq36, if_pos hp35, if_pos hp36, bS]; done) | (simp only [hq35, hq36, if_pos hp35, if_pos hp36, bS, reduceIte, Bool.false_eq_true]; done) | (simp [hp35, hp36]; done) | (simp_all; done)) (lc rfl (lc rfl (lc rfl (lc rfl ln)))))) (fun _ h => h)
                        · have hq36 : (decide ((wof_F l0)[i7.toNat]! 0 ≤ (wof_F l0)[i7.toNat]! 1)) = false := hg36
                          have hp36 : ¬ ((wof_F l0)[i7.toNat]! 0 ≤ (wof_F l0)[i7.toNat]! 1) := of_decide_eq_false hq36
                          refine xd_b hok 16 [(3, _), (127, _)] ([]) rsN rfl rfl rfl (lc rfl (lc rfl ln)) (by kernel_rfl) ⟨_, rfl, rfl⟩ (fun H' hy hK => o_mv rfl) ?_
                          refine xd_b hok 17 [(7, _), (127, _)] ([]) rsN rfl rfl rfl (lc rfl (lc rfl ln)) (by kernel_rfl) ⟨_, rfl, rfl⟩ (fun H' hy hK => o_mv rfl) ?_
                          refine xd_b hok 18 [(128, _), (129, _), (127, _)] (Bs5 ++ ([])) (rsA (Pull.sub (.here _ _)) rsN) rfl rfl rfl (lc rfl (lc rfl (lc rfl ln))) (by kernel_rfl) ⟨_, rfl, rfl⟩ (fun H' hy hK => o_ixL el24 rfl rfl (fun w hw => (hJs5.sl hw (fun x hx => hy x (Pull.sub (.here _ _) x hx)))) rfl (ho31 (by first | exact hg36 | (simp only [hq35, hq36, if_pos hp35, if_neg hp36, bS]; done) | (simp only [hq35, hq36, if_pos hp35, if_neg hp36, bS, reduceIte, Bool.false_eq_true]; done) | (simp [hp35, hp36]; done) | (simp_all; done)))) ?_
                          refine xd_b hok 19 [(130, _), (127, _)] (Bs5 ++ ([])) (rsA (Pull.sub (.here _ _)) rsN) rfl rfl rfl (lc rfl (lc rfl ln)) (by kernel_rfl) ⟨_, rfl, rfl⟩ (fun H' hy hK => o_faL fl29_0 rfl rfl (fun w hw => (hJs5.sl hw (fun x hx => hy x (Pull.sub (.here _ _) x hx)))) (toNat_lt (ho31 (by first | exact hg36 | (simp only [hq35, hq36, if_pos hp35, if_neg hp36, bS]; done) | (simp only [hq35, hq36, if_pos hp35, if_neg hp36, bS, reduceIte, Bool.false_eq_true]; done) | (simp [hp35, hp36]; done) | (simp_all; done))))) ?_
                          refine xd_b hok 20 [(131, _), (127, _)] (Bs5 ++ ([])) (rsA (Pull.sub (.here _ _)) rsN) rfl rfl rfl (lc rfl (lc rfl ln)) (by kernel_rfl) ⟨_, rfl, rfl⟩ (fun H' hy hK => o_ldL1 (off := 0) (u := .int .i64 ((wof_F l0)[i7.toNat]! 0)) rfl ts3 rfl (fun w hw => (hJs5.sl hw (fun x hx => hy x (Pull.sub (.here _ _) x hx)))) (toNat_lt (ho31 (by first | exact hg36 | (simp only [hq35, hq36, if_pos hp35, if_neg hp36, bS]; done) | (simp only [hq35, hq36, if_pos hp35, if_neg hp36, bS, reduceIte, Bool.false_eq_true]; done) | (simp [hp35, hp36]; done) | (simp_all; done)))) rfl rfl) ?_
                          refine xd_b hok 21 [(4, _), (127, _)] ([]) rsN rfl rfl rfl (lc rfl (lc rfl ln)) (by kernel_rfl) ⟨_, rfl, rfl⟩ (fun H' hy hK => o_mv rfl) ?_
                          refine xd_b hok 22 [(132, _), (133, _), (127, _)] ([]) rsN rfl rfl rfl (lc rfl (lc rfl (lc rfl ln))) (by kernel_rfl) ⟨_, rfl, rfl⟩ (fun H' hy hK => o_eql rfl rfl) ?_
                          refine xd_b hok 23 [(127, _), (134, _)] ([]) rsN rfl rfl rfl (lc rfl (lc rfl ln)) (by kernel_rfl) trivial (fun H' hy hK => o_pick_f rfl rfl) ?_
                          refine xd_b hok 24 [(135, _)] ([]) rsN rfl rfl rfl (lc rfl ln) (by kernel_rfl) trivial (fun H' hy hK => o_mv rfl) ?_
                          refine xd_bool 136 rfl (fun hg37 => ?_) (fun hg37 => ?_)
                          · have hq37 : (decide ((wof_F l0)[i7.toNat]! 0 = (oldest_F l0).1)) = true := hg37
                            have hp37 : (wof_F l0)[i7.toNat]! 0 = (oldest_F l0).1 := of_decide_eq_true hq37
                            refine xd_skip hok 25 [(7, _), (136, _)] rfl rfl rfl (lc rfl (lc rfl ln)) (by kernel_rfl) ⟨_, _, rfl, rfl, rfl⟩ ?_
                            refine xd_skip hok 26 [(137, _), (136, _)] rfl rfl rfl (lc rfl (lc rfl ln)) (by kernel_rfl) ⟨_, _, rfl, rfl, rfl⟩ ?_
                            refine xd_skip hok 27 [(138, _), (136, _)] rfl rfl rfl (lc rfl (lc rfl ln)) (by kernel_rfl) ⟨_, _, rfl, rfl, rfl⟩ ?_
                            refine xd_skip hok 28 [(3, _), (139, _)] rfl rfl rfl (lc rfl (lc rfl ln)) (by kernel_rfl) ⟨_, _, rfl, rfl, rfl⟩ ?_
                            refine xd_skip hok 29 [(7, _), (139, _)] rfl rfl rfl (lc rfl (lc rfl ln)) (by kernel_rfl) ⟨_, _, rfl, rfl, rfl⟩ ?_
                            refine xd_skip hok 30 [(141, _), (139, _)] rfl rfl rfl (lc rfl (lc rfl ln)) (by kernel_rfl) ⟨_, _, rfl, rfl, rfl⟩ ?_
                            refine xd_skip hok 31 [(140, _), (142, _), (139, _)] rfl rfl rfl (lc rfl (lc rfl (lc rfl ln))) (by kernel_rfl) ⟨_, _, rfl, rfl, rfl⟩ ?_
                            refine xd_skip hok 32 [(143, _), (139, _)] rfl rfl rfl (lc rfl (lc rfl ln)) (by kernel_rfl) ⟨_, _, rfl, rfl, rfl⟩ ?_
                            refine xd_skip hok 33 [(144, _), (139, _)] rfl rfl rfl (lc rfl (lc rfl ln)) (by kernel_rfl) ⟨_, _, rfl, rfl, rfl⟩ ?_
                            refine xd_skip hok 34 [(3, _), (139, _)] rfl rfl rfl (lc rfl (lc rfl ln)) (by kernel_rfl) ⟨_, _, rfl, rfl, rfl⟩ ?_
                            refine xd_skip hok 35 [(7, _), (139, _)] rfl rfl rfl (lc rfl (lc rfl ln)) (by kernel_rfl) ⟨_, _, rfl, rfl, rfl⟩ ?_
                            refine xd_skip hok 36 [(146, _), (147, _), (139, _)] rfl rfl rfl (lc rfl (lc rfl (lc rfl ln))) (by kernel_rfl) ⟨_, _, rfl, rfl, rfl⟩ ?_
                            refine xd_skip hok 37 [(148, _), (139, _)] rfl rfl rfl (lc rfl (lc rfl ln)) (by kernel_rfl) ⟨_, _, rfl, rfl, rfl⟩ ?_
                            refine xd_skip hok 38 [(149, _), (139, _)] rfl rfl rfl (lc rfl (lc rfl ln)) (by kernel_rfl) ⟨_, _, rfl, rfl, rfl⟩ ?_
                            refine xd_skip hok 39 [(145, _), (150, _), (139, _)] rfl rfl rfl (lc rfl (lc rfl (lc rfl ln))) (by kernel_rfl) ⟨_, _, rfl, rfl, rfl⟩ ?_
                            refine xd_skip hok 40 [(139, _), (151, _), (136, _)] rfl rfl rfl (lc rfl (lc rfl (lc rfl ln))) (by kernel_rfl) ⟨_, _, rfl, rfl, rfl⟩ ?_
                            refine xd_b hok 41 [(136, _), (152, _)] ([]) rsN rfl rfl rfl (lc rfl (lc rfl ln)) (by kernel_rfl) trivial (fun H' hy hK => o_pick_t rfl rfl) ?_
                            refine xd_end hok (by kernel_rfl) ?_
                            exact xq_cut ((lce rfl (by first | rfl | (simp only [hq35, hq36, hq37, if_pos hp35, if_neg hp36, if_pos hp37, bS]; done) | (simp only [hq35, hq36, hq37, if_pos hp35, if_neg hp36, if_pos hp37, bS, reduceIte, Bool.false_eq_true]; done) | (simp [hp35, hp36, hp37]; done) | (simp_all; done)) (lc rfl (lc rfl (lc rfl (lc rfl ln)))))) (fun _ h => h)
                          · have hq37 : (decide ((wof_F l0)[i7.toNat]! 0 = (oldest_F l0).1)) = false := hg37
                            have hp37 : ¬ ((wof_F l0)[i7.toNat]! 0 = (oldest_F l0).1) := of_decide_eq_false hq37
                            refine xd_b hok 25 [(7, _), (136, _)] ([]) rsN rfl rfl rfl (lc rfl (lc rfl ln)) (by kernel_rfl) ⟨_, rfl, rfl⟩ (fun H' hy hK => o_mv rfl) ?_
                            refine xd_b hok 26 [(137, _), (136, _)] ([]) rsN rfl rfl rfl (lc rfl (lc rfl ln)) (by kernel_rfl) ⟨_, rfl, rfl⟩ (fun H' hy hK => o_gtr rfl rfl) ?_
                            refine xd_b hok 27 [(138, _), (136, _)] ([]) rsN rfl rfl rfl (lc rfl (lc rfl ln)) (by kernel_rfl) ⟨_, rfl, rfl⟩ (fun H' hy hK => o_mv rfl) ?_
                            refine xd_bool 139 rfl (fun hg38 => ?_) (fun hg38 => ?_)
                            · have hq38 : (decide (0 < i7)) = true := hg38
                              have hp38 : 0 < i7 := of_decide_eq_true hq38
                              refine xd_b hok 28 [(3, _), (139, _)] ([]) rsN rfl rfl rfl (lc rfl (lc rfl ln)) (by kernel_rfl) ⟨_, rfl, rfl⟩ (fun H' hy hK => o_mv rfl) ?_
                              refine xd_b hok 29 [(7, _), (139, _)] ([]) rsN rfl rfl rfl (lc rfl (lc rfl ln)) (by kernel_rfl) ⟨_, rfl, rfl⟩ (fun H' hy hK => o_mv rfl) ?_
                              refine xd_b hok 30 [(141, _), (139, _)] ([]) rsN rfl rfl rfl (lc rfl (lc rfl ln)) (by kernel_rfl) ⟨_, rfl, rfl⟩ (fun H' hy hK => o_sub rfl rfl rfl (ho32 (by first | exact hg37 | (simp only [hq35, hq36, hq37, hq38, if_pos hp35, if_neg hp36, if_neg hp37, if_pos hp38, bS]; done) | (simp only [hq35, hq36, hq37, hq38, if_pos hp35, if_neg hp36, if_neg hp37, if_pos hp38, bS, reduceIte, Bool.false_eq_true]; done) | (simp [hp35, hp36, hp37, hp38]; done) | (simp_all; done)) (by first | exact hg38 | (simp only [hq35, hq36, hq37, hq38, if_pos hp35, if_neg hp36, if_neg hp37, if_pos hp38, bS]; done) | (simp only [hq35, hq36, hq37, hq38, if_pos hp35, if_neg hp36, if_neg hp37, if_pos hp38, bS, reduceIte, Bool.false_eq_true]; done) | (simp [hp35, hp36, hp37, hp38]; done) | (simp_all; done)))) ?_
                              refine xd_b hok 31 [(140, _), (142, _), (139, _)] (Bs5 ++ ([])) (rsA (Pull.sub (.here _ _)) rsN) rfl rfl rfl (lc rfl (lc rfl (lc rfl ln))) (by kernel_rfl) ⟨_, rfl, rfl⟩ (fun H' hy hK => o_ixL el24 rfl rfl (fun w hw => (hJs5.sl hw (fun x hx => hy x (Pull.sub (.here _ _) x hx)))) rfl (ho33 (by first | exact hg37 | (simp only [hq35, hq36, hq37, hq38, if_pos hp35, if_neg hp36, if_neg hp37, if_pos hp38, bS]; done) | (simp only [hq35, hq36, hq37, hq38, if_pos hp35, if_neg hp36, if_neg hp37, if_pos hp38, bS, reduceIte, Bool.false_eq_true]; done) | (simp [hp35, hp36, hp37, hp38]; done) | (simp_all; done)) (by first | exact hg38 | (simp only [hq35, hq36, hq37, hq38, if_pos hp35, if_neg hp36, if_neg hp37, if_pos hp38, bS]; done) | (simp only [hq35, hq36, hq37, hq38, if_pos hp35, if_neg hp36, if_neg hp37, if_pos hp38, bS, reduceIte, Bool.false_eq_true]; done) | (simp [hp35, hp36, hp37, hp38]; done) | (simp_all; done)))) ?_
                              refine xd_b hok 32 [(143, _), (139, _)] (Bs5 ++ ([])) (rsA (Pull.sub (.here _ _)) rsN) rfl rfl rfl (lc rfl (lc rfl ln)) (by kernel_rfl) ⟨_, rfl, rfl⟩ (fun H' hy hK => o_faL fl29_0 rfl rfl (fun w hw => (hJs5.sl hw (fun x hx => hy x (Pull.sub (.here _ _) x hx)))) (toNat_lt (ho33 (by first | exact hg37 | (simp only [hq35, hq36, hq37, hq38, if_pos hp35, if_neg hp36, if_neg hp37, if_pos hp38, bS]; done) | (simp only [hq35, hq36, hq37, hq38, if_pos hp35, if_neg hp36, if_neg hp37, if_pos hp38, bS, reduceIte, Bool.false_eq_true]; done) | (simp [hp35, hp36, hp37, hp38]; done) | (simp_all; done)) (by first | exact hg38 | (simp only [hq35, hq36, hq37, hq38, if_pos hp35, if_neg hp36, if_neg hp37, if_pos hp38, bS]; done) | (simp only [hq35, hq36, hq37, hq38, if_pos hp35, if_neg hp36, if_neg hp37, if_pos hp38, bS, reduceIte, Bool.false_eq_true]; done) | (simp [hp35, hp36, hp37, hp38]; done) | (simp_all; done))))) ?_
                              refine xd_b hok 33 [(144, _), (139, _)] (Bs5 ++ ([])) (rsA (Pull.sub (.here _ _)) rsN) rfl rfl rfl (lc rfl (lc rfl ln)) (by kernel_rfl) ⟨_, rfl, rfl⟩ (fun H' hy hK => o_ldL1 (off := 0) (u := .int .i64 ((wof_F l0)[(i7 - 1).toNat]! 0)) rfl ts3 rfl (fun w hw => (hJs5.sl hw (fun x hx => hy x (Pull.sub (.here _ _) x hx)))) (toNat_lt (ho33 (by first | exact hg37 | (simp only [hq35, hq36, hq37, hq38, if_pos hp35, if_neg hp36, if_neg hp37, if_pos hp38, bS]; done) | (simp only [hq35, hq36, hq37, hq38, if_pos hp35, if_neg hp36, if_neg hp37, if_pos hp38, bS, reduceIte, Bool.false_eq_true]; done) | (simp [hp35, hp36, hp37, hp38]; done) | (simp_all; done)) (by first | exact hg38 | (simp only [hq35, hq36, hq37, hq38, if_pos hp35, if_neg hp36, if_neg hp37, if_pos hp38, bS]; done) | (simp only [hq35, hq36, hq37, hq38, if_pos hp35, if_neg hp36, if_neg hp37, if_pos hp38, bS, reduceIte, Bool.false_eq_true]; done) | (simp [hp35, hp36, hp37, hp38]; done) | (simp_all; done)))) rfl rfl) ?_
                              refine xd_b hok 34 [(3, _), (139, _)] ([]) rsN rfl rfl rfl (lc rfl (lc rfl ln)) (by kernel_rfl) ⟨_, rfl, rfl⟩ (fun H' hy hK => o_mv rfl) ?_
                              refine xd_b hok 35 [(7, _), (139, _)] ([]) rsN rfl rfl rfl (lc rfl (lc rfl ln)) (by kernel_rfl) ⟨_, rfl, rfl⟩ (fun H' hy hK => o_mv rfl) ?_
                              refine xd_b hok 36 [(146, _), (147, _), (139, _)] (Bs5 ++ ([])) (rsA (Pull.sub (.here _ _)) rsN) rfl rfl rfl (lc rfl (lc rfl (lc rfl ln))) (by kernel_rfl) ⟨_, rfl, rfl⟩ (fun H' hy hK => o_ixL el24 rfl rfl (fun w hw => (hJs5.sl hw (fun x hx => hy x (Pull.sub (.here _ _) x hx)))) rfl (ho34 (by first | exact hg37 | (simp only [hq35, hq36, hq37, hq38, if_pos hp35, if_neg hp36, if_neg hp37, if_pos hp38, bS]; done) | (simp only [hq35, hq36, hq37, hq38, if_pos hp35, if_neg hp36, if_neg hp37, if_pos hp38, bS, reduceIte, Bool.false_eq_true]; done) | (simp [hp35, hp36, hp37, hp38]; done) | (simp_all; done)) (by first | exact hg38 | (simp only [hq35, hq36, hq37, hq38, if_pos hp35, if_neg hp36, if_neg hp37, if_pos hp38, bS]; done) | (simp only [hq35, hq36, hq37, hq38, if_pos hp35, if_neg hp36, if_neg hp37, if_pos hp38, bS, reduceIte, Bool.false_eq_true]; done) | (simp [hp35, hp36, hp37, hp38]; done) | (simp_all; done)))) ?_
                              refine xd_b hok 37 [(148, _), (139, _)] (Bs5 ++ ([])) (rsA (Pull.sub (.here _ _)) rsN) rfl rfl rfl (lc rfl (lc rfl ln)) (by kernel_rfl) ⟨_, rfl, rfl⟩ (fun H' hy hK => o_faL fl29_0 rfl rfl (fun w hw => (hJs5.sl hw (fun x hx => hy x (Pull.sub (.here _ _) x hx)))) (toNat_lt (ho34 (by first | exact hg37 | (simp only [hq35, hq36, hq37, hq38, if_pos hp35, if_neg hp36, if_neg hp37, if_pos hp38, bS]; done) | (simp only [hq35, hq36, hq37, hq38, if_pos hp35, if_neg hp36, if_neg hp37, if_pos hp38, bS, reduceIte, Bool.false_eq_true]; done) | (simp [hp35, hp36, hp37, hp38]; done) | (simp_all; done)) (by first | exact hg38 | (simp only [hq35, hq36, hq37, hq38, if_pos hp35, if_neg hp36, if_neg hp37, if_pos hp38, bS]; done) | (simp only [hq35, hq36, hq37, hq38, if_pos hp35, if_neg hp36, if_neg hp37, if_pos hp38, bS, reduceIte, Bool.false_eq_true]; done) | (simp [hp35, hp36, hp37, hp38]; done) | (simp_all; done))))) ?_
                              refine xd_b hok 38 [(149, _), (139, _)] (Bs5 ++ ([])) (rsA (Pull.sub (.here _ _)) rsN) rfl rfl rfl (lc rfl (lc rfl ln)) (by kernel_rfl) ⟨_, rfl, rfl⟩ (fun H' hy hK => o_ldL1 (off := 0) (u := .int .i64 ((wof_F l0)[i7.toNat]! 0)) rfl ts3 rfl (fun w hw => (hJs5.sl hw (fun x hx => hy x (Pull.sub (.here _ _) x hx)))) (toNat_lt (ho34 (by first | exact hg37 | (simp only [hq35, hq36, hq37, hq38, if_pos hp35, if_neg hp36, if_neg hp37, if_pos hp38, bS]; done) | (simp only [hq35, hq36, hq37, hq38, if_pos hp35, if_neg hp36, if_neg hp37, if_pos hp38, bS, reduceIte, Bool.false_eq_true]; done) | (simp [hp35, hp36, hp37, hp38]; done) | (simp_all; done)) (by first | exact hg38 | (simp only [hq35, hq36, hq37, hq38, if_pos hp35, if_neg hp36, if_neg hp37, if_pos hp38, bS]; done) | (simp only [hq35, hq36, hq37, hq38, if_pos hp35, if_neg hp36, if_neg hp37, if_pos hp38, bS, reduceIte, Bool.false_eq_true]; done) | (simp [hp35, hp36, hp37, hp38]; done) | (simp_all; done)))) rfl rfl) ?_
                              refine xd_b hok 39 [(145, _), (150, _), (139, _)] ([]) rsN rfl rfl rfl (lc rfl (lc rfl (lc rfl ln))) (by kernel_rfl) ⟨_, rfl, rfl⟩ (fun H' hy hK => o_geq rfl rfl) ?_
                              refine xd_b hok 40 [(139, _), (151, _), (136, _)] ([]) rsN rfl rfl rfl (lc rfl (lc rfl (lc rfl ln))) (by kernel_rfl) ⟨_, rfl, rfl⟩ (fun H' hy hK => o_pick_t rfl rfl) ?_
                              refine xd_b hok 41 [(136, _), (152, _)] ([]) rsN rfl rfl rfl (lc rfl (lc rfl ln)) (by kernel_rfl) trivial (fun H' hy hK => o_pick_f rfl rfl) ?_
                              refine xd_end hok (by kernel_rfl) ?_
                              exact xq_cut ((lce rfl (by first | rfl | (simp only [hq35, hq36, hq37, hq38, if_pos hp35, if_neg hp36, if_neg hp37, if_pos hp38, bS]; done) | (simp only [hq35, hq36, hq37, hq38, if_pos hp35, if_neg hp36, if_neg hp37, if_pos hp38, bS, reduceIte, Bool.false_eq_true]; done) | (simp [hp35, hp36, hp37, hp38]; done) | (simp_all; done)) (lc rfl (lc rfl (lc rfl (lc rfl ln)))))) (fun _ h => h)
                            · have hq38 : (decide (0 < i7)) = false := hg38
                              have hp38 : ¬ (0 < i7) := of_decide_eq_false hq38
                              refine xd_skip hok 28 [(3, _), (139, _)] rfl rfl rfl (lc rfl (lc rfl ln)) (by kernel_rfl) ⟨_, _, rfl, rfl, rfl⟩ ?_
                              refine xd_skip hok 29 [(7, _), (139, _)] rfl rfl rfl (lc rfl (lc rfl ln)) (by kernel_rfl) ⟨_, _, rfl, rfl, rfl⟩ ?_
                              refine xd_skip hok 30 [(141, _), (139, _)] rfl rfl rfl (lc rfl (lc rfl ln)) (by kernel_rfl) ⟨_, _, rfl, rfl, rfl⟩ ?_
                              refine xd_skip hok 31 [(140, _), (142, _), (139, _)] rfl rfl rfl (lc rfl (lc rfl (lc rfl ln))) (by kernel_rfl) ⟨_, _, rfl, rfl, rfl⟩ ?_
                              refine xd_skip hok 32 [(143, _), (139, _)] rfl rfl rfl (lc rfl (lc rfl ln)) (by kernel_rfl) ⟨_, _, rfl, rfl, rfl⟩ ?_
                              refine xd_skip hok 33 [(144, _), (139, _)] rfl rfl rfl (lc rfl (lc rfl ln)) (by kernel_rfl) ⟨_, _, rfl, rfl, rfl⟩ ?_
                              refine xd_skip hok 34 [(3, _), (139, _)] rfl rfl rfl (lc rfl (lc rfl ln)) (by kernel_rfl) ⟨_, _, rfl, rfl, rfl⟩ ?_
                              refine xd_skip hok 35 [(7, _), (139, _)] rfl rfl rfl (lc rfl (lc rfl ln)) (by kernel_rfl) ⟨_, _, rfl, rfl, rfl⟩ ?_
                              refine xd_skip hok 36 [(146, _), (147, _), (139, _)] rfl rfl rfl (lc rfl (lc rfl (lc rfl ln))) (by kernel_rfl) ⟨_, _, rfl, rfl, rfl⟩ ?_
                              refine xd_skip hok 37 [(148, _), (139, _)] rfl rfl rfl (lc rfl (lc rfl ln)) (by kernel_rfl) ⟨_, _, rfl, rfl, rfl⟩ ?_
                              refine xd_skip hok 38 [(149, _), (139, _)] rfl rfl rfl (lc rfl (lc rfl ln)) (by kernel_rfl) ⟨_, _, rfl, rfl, rfl⟩ ?_
                              refine xd_skip hok 39 [(145, _), (150, _), (139, _)] rfl rfl rfl (lc rfl (lc rfl (lc rfl ln))) (by kernel_rfl) ⟨_, _, rfl, rfl, rfl⟩ ?_
                              refine xd_b hok 40 [(139, _), (151, _), (136, _)] ([]) rsN rfl rfl rfl (lc rfl (lc rfl (lc rfl ln))) (by kernel_rfl) ⟨_, rfl, rfl⟩ (fun H' hy hK => o_pick_f rfl rfl) ?_
                              refine xd_b hok 41 [(136, _), (152, _)] ([]) rsN rfl rfl rfl (lc rfl (lc rfl ln)) (by kernel_rfl) trivial (fun H' hy hK => o_pick_f rfl rfl) ?_
                              refine xd_end hok (by kernel_rfl) ?_
                              exact xq_cut ((lce rfl (by first | rfl | (simp only [hq35, hq36, hq37, hq38, if_pos hp35, if_neg hp36, if_neg hp37, if_neg hp38, bS]; done) | (simp only [hq35, hq36, hq37, hq38, if_pos hp35, if_neg hp36, if_neg hp37, if_neg hp38, bS, reduceIte, Bool.false_eq_true]; done) | (simp [hp35, hp36, hp37, hp38]; done) | (simp_all; done)) (lc rfl (lc rfl (lc rfl (lc rfl ln)))))) (fun _ h => h)
                    · refine xq_then ?_
                      refine xw_bool 153 rfl (fun hc39 => ?_) (fun hc39 => ?_)
                      · have hq39 : ((((!(waits8)) || (decide ((wof_F l0)[i7.toNat]! 0 ≤ (wof_F l0)[i7.toNat]! 1))) || (decide ((wof_F l0)[i7.toNat]! 0 = (oldest_F l0).1))) || ((decide (0 < i7)) && (decide ((wof_F l0)[i7.toNat]! 0 ≤ (wof_F l0)[(i7 - 1).toNat]! 0)))) = true := hc39
                        have hp39 : ((((!(waits8)) || (decide ((wof_F l0)[i7.toNat]! 0 ≤ (wof_F l0)[i7.toNat]! 1))) || (decide ((wof_F l0)[i7.toNat]! 0 = (oldest_F l0).1))) || ((decide (0 < i7)) && (decide ((wof_F l0)[i7.toNat]! 0 ≤ (wof_F l0)[(i7 - 1).toNat]! 0)))) = true := hq39
                        rw [if_pos hp39] at h
                        refine xw_cond_t rfl rfl (xw_seq (xw_region ?_))
                        refine xq rfl trivial (o_as rfl) ?_
                        refine xo_nil (xq_then (xw_ret (xq_blk_ret (xq_then_ret ?_))))
                        exact xq_out (r := (.inr () : (Unit) ⊕ (Unit))) (e' := [(2, .bool false)]) (Bs5 ++ ([])) (lc rfl ln) (fun _ h => h) h (by intro hh; cases hh) ⟨rfl, rfl, rfl⟩
                      · have hq39 : ((((!(waits8)) || (decide ((wof_F l0)[i7.toNat]! 0 ≤ (wof_F l0)[i7.toNat]! 1))) || (decide ((wof_F l0)[i7.toNat]! 0 = (oldest_F l0).1))) || ((decide (0 < i7)) && (decide ((wof_F l0)[i7.toNat]! 0 ≤ (wof_F l0)[(i7 - 1).toNat]! 0)))) = false := hc39
                        have hp39 : ¬ (((((!(waits8)) || (decide ((wof_F l0)[i7.toNat]! 0 ≤ (wof_F l0)[i7.toNat]! 1))) || (decide ((wof_F l0)[i7.toNat]! 0 = (oldest_F l0).1))) || ((decide (0 < i7)) && (decide ((wof_F l0)[i7.toNat]! 0 ≤ (wof_F l0)[(i7 - 1).toNat]! 0)))) = true) := bne' hq39
                        rw [if_neg hp39] at h
                        refine xw_cond_f rfl rfl (xw_skip ?_)
                        refine xq_blk 3 ?_
                        refine xq_then (xw_region ?_)
                        refine xq rfl trivial (o_mv rfl) ?_
                        obtain ⟨ho40, h⟩ := h
                        refine xq rfl trivial (o_add rfl rfl rfl ho40) ?_
                        refine xq rfl trivial (o_as rfl) ?_
                        refine xo_nil ?_
                        exact xq_next (s' := (i7 + 1 : Int)) (e' := [(0, v0), (3, vs5), (4, .int .i64 ((oldest_F l0).1)), (7, .int .i64 (i7 + 1))]) (Bs5 ++ ([])) (lc rfl (lc rfl (lc rfl (lc rfl ln)))) (fun _ h => h) h ⟨rfl, rfl⟩
                  cases x3
                  rintro _ _ _ ⟨rfl, rfl, rfl⟩
                  replace h : by11_k3b o := h
                  unfold by11_k3b at h
                  refine xq_blk_ret (xq_then_ret (xq_blk_ret (xq_then_ret ?_)))
                  exact xq_out (r := (.inr () : (Unit) ⊕ (Unit))) (e' := [(2, .bool false)]) (Bs5 ++ ([])) (lc rfl ln) (fun _ h => h) h (by intro hh; cases hh) ⟨rfl, rfl, rfl⟩
              · have hq14 : (decide (i7 < ((wof_F l0).length : Int))) = false := hc14
                have hp14 : ¬ (i7 < ((wof_F l0).length : Int)) := of_decide_eq_false hq14
                rw [if_neg hp14] at h
                refine xw_cond_f rfl rfl (xw_exit (xq_then_exit ?_))
                exact xq_out (r := (.inl () : (Unit) ⊕ (Unit))) (e' := []) (Bs5 ++ ([])) ln (fun _ h => h) h (by intro hh; cases hh) ⟨rfl, rfl, rfl⟩
            · rcases x2 with _ | x2
              · rintro _ _ _ ⟨rfl, rfl, rfl⟩
                replace h : by11_k2a r := h
                unfold by11_k2a at h
                refine xq_blk_eq ?_
                refine xq_then (xw_seq (xw_region ?_))
                refine xq rfl trivial (o_as rfl) ?_
                refine xo_nil (xq_then (xw_ret ?_))
                subst h
                exact con_ret1 (.inl rfl) Try.results4 rfl [] (Kp.st (Kp.segNew (Cov.fresh hcBs5) Kp.nil)) (⟨rfl, rfl⟩)
              cases x2
              rintro _ _ _ ⟨rfl, rfl, rfl⟩
              replace h : by11_k2b r := h
              unfold by11_k2b at h
              refine xq_blk_ret (xq_then_ret ?_)
              subst h
              exact con_ret1 (.inl rfl) Try.results4 rfl [] (Kp.st (Kp.segNew (Cov.fresh hcBs5) Kp.nil)) (⟨rfl, rfl⟩)
          cases x1
          rintro _ _ _ ⟨rfl, rfl, rfl⟩
          replace h : by11_k1b r := h
          unfold by11_k1b at h
          refine xq_blk_ret (xq_then_ret ?_)
          subst h
          exact con_ret1 (.inl rfl) Try.results4 rfl [] (Kp.st (Kp.segNew (Cov.fresh hcBs5) Kp.nil)) (⟨rfl, rfl⟩)

theorem more11_con (l0 : (List (Nat → Int))) (more1 : (List (Nat → Int))) (v0 : Value) (v1 : Value) (w : World) (hs0 : SL w 4 iv v0 l0) (hs1 : SL w 4 iv v1 more1) (r : Bool) (h : more11_S l0 more1 r) : Con Try.prog 5 #[v0, v1] w (Is (.bool r) []) := by
  unfold more11_S at h
  refine con_enter (n := 69) [(0, _), (1, _)] Try.func5 rfl Try.ntmps5 rfl (lac rfl (lac rfl lan)) ?_
  refine xw_seq (xw_region ?_)
  refine xq rfl trivial (o_as rfl) ?_
  refine xo_nil (xq_then (xw_seq (xw_seq (xw_region ?_))))
  obtain ⟨ho1, h⟩ := h
  refine xcallq rfl trivial kf7 rfl (fun w1 hw1 => alive11_c w1 ho1) ?_
  refine xq rfl trivial (o_not rfl) ?_
  refine xo_nil (xq_then ?_)
  refine xw_bool 11 rfl (fun hc2 => ?_) (fun hc2 => ?_)
  · have hq2 : (alive11_F) = false := (bnT hc2)
    have hp2 : ¬ ((alive11_F) = true) := bne' hq2
    rw [if_neg hp2] at h
    refine xw_cond_t rfl rfl (xw_seq (xw_region ?_))
    refine xq rfl trivial (o_as rfl) ?_
    refine xo_nil (xq_then (xw_ret (xq_then_ret ?_)))
    subst h
    exact con_ret1 (.inl rfl) Try.results5 rfl [] (fun _ h => h) (⟨rfl, rfl⟩)
  · have hq2 : (alive11_F) = true := (bnF hc2)
    have hp2 : (alive11_F) = true := hq2
    rw [if_pos hp2] at h
    refine xw_cond_f rfl rfl (xw_skip (xq_then (xw_seq (xw_seq ?_))))
    refine xw_cut [(0, _), (1, _)] (lc rfl (lc rfl ln)) [(19, .bool ((decide (40 < (l0.length : Int))) || (decide (40 < (more1.length : Int)))))] ?_ ?_
    · refine xw_region ?_
      refine xq rfl trivial (o_mv rfl) ?_
      refine xq rfl trivial (o_lenL rfl Try.underlying22 rfl (SL.val hs0)) ?_
      refine xq rfl trivial (o_gtr rfl rfl) ?_
      refine xq rfl trivial (o_mv rfl) ?_
      refine xo_bool 15 rfl (fun hg3 => ?_) (fun hg3 => ?_)
      · have hq3 : (decide (40 < (l0.length : Int))) = true := hg3
        have hp3 : 40 < (l0.length : Int) := of_decide_eq_true hq3
        refine xs rfl ⟨_, _, rfl, rfl, rfl⟩ (xs rfl ⟨_, _, rfl, rfl, rfl⟩ (xs rfl ⟨_, _, rfl, rfl, rfl⟩ ?_))
        refine xq rfl trivial (o_pick_t rfl rfl) ?_
        refine xo_nil ?_
        exact xq_cut ((lce rfl (by first | rfl | (simp only [hq2, hq3, if_pos hp2, if_pos hp3, bS]; done) | (simp only [hq2, hq3, if_pos hp2, if_pos hp3, bS, reduceIte, Bool.false_eq_true]; done) | (simp [hp2, hp3]; done) | (simp_all; done)) (lc rfl (lc rfl ln)))) (fun _ h => h)
      · have hq3 : (decide (40 < (l0.length : Int))) = false := hg3
        have hp3 : ¬ (40 < (l0.length : Int)) := of_decide_eq_false hq3
        refine xq rfl ⟨_, rfl, rfl⟩ (o_mv rfl) ?_
        refine xq rfl ⟨_, rfl, rfl⟩ (o_lenL rfl Try.underlying22 rfl (SL.val hs1)) ?_
        refine xq rfl ⟨_, rfl, rfl⟩ (o_gtr rfl rfl) ?_
        refine xq rfl trivial (o_pick_f rfl rfl) ?_
        refine xo_nil ?_
        exact xq_cut ((lce rfl (by first | rfl | (simp only [hq2, hq3, if_pos hp2, if_neg hp3, bS]; done) | (simp only [hq2, hq3, if_pos hp2, if_neg hp3, bS, reduceIte, Bool.false_eq_true]; done) | (simp [hp2, hp3]; done) | (simp_all; done)) (lc rfl (lc rfl ln)))) (fun _ h => h)
    · refine xq_then ?_
      refine xw_bool 19 rfl (fun hc4 => ?_) (fun hc4 => ?_)
      · have hq4 : ((decide (40 < (l0.length : Int))) || (decide (40 < (more1.length : Int)))) = true := hc4
        have hp4 : ((decide (40 < (l0.length : Int))) || (decide (40 < (more1.length : Int)))) = true := hq4
        rw [if_pos hp4] at h
        refine xw_cond_t rfl rfl (xw_seq (xw_region ?_))
        refine xq rfl trivial (o_as rfl) ?_
        refine xo_nil (xq_then (xw_ret (xq_then_ret ?_)))
        subst h
        exact con_ret1 (.inl rfl) Try.results5 rfl [] (fun _ h => h) (⟨rfl, rfl⟩)
      · have hq4 : ((decide (40 < (l0.length : Int))) || (decide (40 < (more1.length : Int)))) = false := hc4
        have hp4 : ¬ (((decide (40 < (l0.length : Int))) || (decide (40 < (more1.length : Int)))) = true) := bne' hq4
        rw [if_neg hp4] at h
        refine xw_cond_f rfl rfl (xw_skip (xq_then (xw_seq (xw_region ?_))))
        refine xq rfl trivial (o_mv rfl) ?_
        obtain ⟨ho5, h⟩ := h
        refine xcall rfl trivial kf8 rfl (fun w1 hw1 => wof_c _ _ w1 (hs0.keep hw1 Fr.nil) ho5) ?_
        rintro w1 vs6 _ hw1 ⟨_, Bs6, rfl, rfl, hJs6, hcBs6⟩
        refine ⟨_, Mg.news (Cov.fresh hcBs6) (.nil _), ?_⟩
        replace hcBs6 := Cov.base (w0 := w) hcBs6 hw1.size
        refine xo rfl trivial (o_bsl el22 ze37 rfl rfl rfl (.nil _)) ?_
        rintro _ _ ⟨b22, hb22, rfl, rfl⟩
        refine xq rfl trivial (o_mv rfl) ?_
        obtain ⟨ho8, h⟩ := h
        refine xo rfl trivial (OT.st (fun _ h => Pull.st (.hereC _ _) h) (o_appJ (l := []) (l' := l0) (B := [_]) ap22 rfl rfl (OJ.lit (l := []) (List.Mem.head _) rfl (by omega) (by simp [maxLen]) (by exact (fun i hi => match i, hi with  | q + 0, h => absurd h (by omega)))) (fun w2 hw2 => (hs0.keep hw2 (Fr.seg (Cov.new hb22) (Fr.seg hcBs6 Fr.nil)))) (fun _ _ => rfl) ho8 (len_max ho8 (by decide)))) ?_
        rintro vs7 _ ⟨Bs7, rfl, hns7, hJs7⟩
        have hcBs7 := Cov.trans (Cov.new hb22) hns7
        refine xq rfl trivial (o_mv rfl) ?_
        obtain ⟨ho10, h⟩ := h
        refine xo rfl trivial (OT.st (fun _ h => Pull.st (.here _ _) h) (o_appJ (l := ([] ++ l0)) (l' := more1) (B := Bs7) ap22 rfl rfl hJs7 (fun w2 hw2 => (hs1.keep hw2 (Fr.seg hcBs7 (Fr.seg hcBs6 Fr.nil)))) (fun _ _ => rfl) ho10 (len_max ho10 (by decide)))) ?_
        rintro vs9 _ ⟨Bs9, rfl, hns9, hJs9⟩
        have hcBs9 := Cov.trans hcBs7 hns9
        obtain ⟨ho11, h⟩ := h
        refine xcall rfl trivial kf8 rfl (fun w1 hw1 => wof_c _ _ w1 (hJs9.sl hw1 (Pull.sub (.here _ _))) ho11) ?_
        rintro w1 vs12 _ hw1 ⟨_, Bs12, rfl, rfl, hJs12, hcBs12⟩
        refine ⟨_, Mg.news (Cov.fresh hcBs12) (.nil _), ?_⟩
        replace hcBs12 := Cov.base (w0 := w) hcBs12 hw1.size
        refine xq rfl trivial (o_as rfl) ?_
        refine xq rfl trivial (o_as rfl) ?_
        refine xo_nil (xq_then (xw_seq (xw_seq (xw_region ?_))))
        refine xq rfl trivial (o_as rfl) ?_
        refine xo_nil (xq_then ?_)
        refine xw_block ?_
        obtain ⟨x1, hx1, h⟩ := h
        refine xw_wh (fun (i7 : Int) e H => e = [(5, vs6), (6, vs12), (7, .int .i64 i7)] ∧ H = Bs12 ++ (Bs6 ++ ([]))) (fun x ex e H => match x with | .inl _ => ex = .exit 0 ∧ e = [] ∧ H = Bs12 ++ (Bs6 ++ ([])) | .inr _ => ex = .ret ∧ e = [(4, .bool false)] ∧ H = Bs12 ++ (Bs6 ++ ([]))) hx1 ⟨[(5, vs6), (6, vs12), (7, .int .i64 0)], Bs12 ++ (Bs6 ++ ([])), (lc rfl (lc rfl (lc rfl ln))), Kp.st (Kp.segKeep (Kp.segNew (Cov.fresh hcBs9) (Kp.segKeep Kp.nil))), ⟨rfl, rfl⟩⟩ ?_ ?_
        · rintro i7 o _ _ ⟨rfl, rfl⟩ hb
          have h : more11_l1 l0 more1 i7 o := hb
          clear hb
          unfold more11_l1 at h
          refine xw_seq (xw_seq (xw_region ?_))
          refine xq rfl trivial (o_mv rfl) ?_
          refine xq rfl trivial (o_mv rfl) ?_
          refine xq rfl trivial (o_lenL rfl Try.underlying24 rfl (OJ.val hJs6)) ?_
          refine xq rfl trivial (o_lss rfl rfl) ?_
          refine xo_nil (xq_then ?_)
          refine xw_bool 31 rfl (fun hc13 => ?_) (fun hc13 => ?_)
          · have hq13 : (decide (i7 < ((wof_F l0).length : Int))) = true := hc13
            have hp13 : i7 < ((wof_F l0).length : Int) := of_decide_eq_true hq13
            rw [if_pos hp13] at h
            refine xw_cond_t rfl rfl (xw_skip (xq_then (xw_seq ?_)))
            refine xw_block ?_
            refine xw_seq (xw_region ?_)
            refine xq rfl trivial (o_as rfl) ?_
            refine xo_nil (xq_then (xw_seq (xw_seq (xw_region ?_))))
            refine xq rfl trivial (o_as rfl) ?_
            refine xo_nil (xq_then ?_)
            refine xw_block ?_
            obtain ⟨there8, hx2, h⟩ := h
            refine xw_wh (fun s e H => match s with | (there8, k9) => e = [(5, vs6), (6, vs12), (7, .int .i64 i7), (8, .bool (there8)), (9, .int .i64 k9)] ∧ H = Bs12 ++ (Bs6 ++ ([]))) (fun (there8 : Bool) ex e H => ex = .exit 2 ∧ e = [(5, vs6), (6, vs12), (7, .int .i64 i7), (8, .bool (there8))] ∧ H = Bs12 ++ (Bs6 ++ ([]))) hx2 ⟨[(5, vs6), (6, vs12), (7, .int .i64 i7), (8, .bool false), (9, .int .i64 0)], Bs12 ++ (Bs6 ++ ([])), (lc rfl (lc rfl (lc rfl (lc rfl (lc rfl ln))))), fun _ h => h, ⟨rfl, rfl⟩⟩ ?_ ?_
            · rintro ⟨there8, k9⟩ o _ _ ⟨rfl, rfl⟩ hb
              have h : more11_l2 l0 more1 i7 there8 k9 o := hb
              clear hb
              unfold more11_l2 at h
              refine xw_seq (xw_seq (xw_region ?_))
              refine xq rfl trivial (o_mv rfl) ?_
              refine xq rfl trivial (o_mv rfl) ?_
              refine xq rfl trivial (o_lenL rfl Try.underlying24 rfl (OJ.val hJs12)) ?_
              refine xq rfl trivial (o_lss rfl rfl) ?_
              refine xo_nil (xq_then ?_)
              refine xw_bool 37 rfl (fun hc14 => ?_) (fun hc14 => ?_)
              · have hq14 : (decide (k9 < ((wof_F (([] ++ l0) ++ more1)).length : Int))) = true := hc14
                have hp14 : k9 < ((wof_F (([] ++ l0) ++ more1)).length : Int) := of_decide_eq_true hq14
                rw [if_pos hp14] at h
                refine xw_cond_t rfl rfl (xw_skip (xq_then (xw_seq ?_)))
                refine xw_block ?_
                obtain ⟨ho15, ho16, ho17, ho18, h⟩ := h
                refine xw_cut [(5, _), (6, _), (7, _), (9, _)] (lc rfl (lc rfl (lc rfl (lc rfl ln)))) [(8, .bool ((there8) || ((decide ((wof_F (([] ++ l0) ++ more1))[k9.toNat]! 0 = (wof_F l0)[i7.toNat]! 0)) && (decide ((wof_F (([] ++ l0) ++ more1))[k9.toNat]! 1 ≤ (wof_F l0)[i7.toNat]! 1)))))] ?_ ?_
                · refine xd_start (by kernel_rfl) (by kernel_rfl) (fun hok => ?_)
                  refine xd_b hok 0 [(8, _)] ([]) rsN rfl rfl rfl (lc rfl ln) (by kernel_rfl) trivial (fun H' hy hK => o_mv rfl) ?_
                  refine xd_b hok 1 [(40, _)] ([]) rsN rfl rfl rfl (lc rfl ln) (by kernel_rfl) trivial (fun H' hy hK => o_mv rfl) ?_
                  refine xd_bool 41 rfl (fun hg19 => ?_) (fun hg19 => ?_)
                  · have hq19 : (there8) = true := hg19
                    have hp19 : (there8) = true := hq19
                    refine xd_skip hok 2 [(6, _), (41, _)] rfl rfl rfl (lc rfl (lc rfl ln)) (by kernel_rfl) ⟨_, _, rfl, rfl, rfl⟩ ?_
                    refine xd_skip hok 3 [(9, _), (41, _)] rfl rfl rfl (lc rfl (lc rfl ln)) (by kernel_rfl) ⟨_, _, rfl, rfl, rfl⟩ ?_
                    refine xd_skip hok 4 [(42, _), (43, _), (41, _)] rfl rfl rfl (lc rfl (lc rfl (lc rfl ln))) (by kernel_rfl) ⟨_, _, rfl, rfl, rfl⟩ ?_
                    refine xd_skip hok 5 [(44, _), (41, _)] rfl rfl rfl (lc rfl (lc rfl ln)) (by kernel_rfl) ⟨_, _, rfl, rfl, rfl⟩ ?_
                    refine xd_skip hok 6 [(45, _), (41, _)] rfl rfl rfl (lc rfl (lc rfl ln)) (by kernel_rfl) ⟨_, _, rfl, rfl, rfl⟩ ?_
                    refine xd_skip hok 7 [(5, _), (41, _)] rfl rfl rfl (lc rfl (lc rfl ln)) (by kernel_rfl) ⟨_, _, rfl, rfl, rfl⟩ ?_
                    refine xd_skip hok 8 [(7, _), (41, _)] rfl rfl rfl (lc rfl (lc rfl ln)) (by kernel_rfl) ⟨_, _, rfl, rfl, rfl⟩ ?_
                    refine xd_skip hok 9 [(47, _), (48, _), (41, _)] rfl rfl rfl (lc rfl (lc rfl (lc rfl ln))) (by kernel_rfl) ⟨_, _, rfl, rfl, rfl⟩ ?_
                    refine xd_skip hok 10 [(49, _), (41, _)] rfl rfl rfl (lc rfl (lc rfl ln)) (by kernel_rfl) ⟨_, _, rfl, rfl, rfl⟩ ?_
                    refine xd_skip hok 11 [(50, _), (41, _)] rfl rfl rfl (lc rfl (lc rfl ln)) (by kernel_rfl) ⟨_, _, rfl, rfl, rfl⟩ ?_
                    refine xd_skip hok 12 [(46, _), (51, _), (41, _)] rfl rfl rfl (lc rfl (lc rfl (lc rfl ln))) (by kernel_rfl) ⟨_, _, rfl, rfl, rfl⟩ ?_
                    refine xd_skip hok 13 [(52, _), (41, _)] rfl rfl rfl (lc rfl (lc rfl ln)) (by kernel_rfl) ⟨_, _, rfl, rfl, rfl⟩ ?_
                    refine xd_skip hok 14 [(6, _), (53, _)] rfl rfl rfl (lc rfl (lc rfl ln)) (by kernel_rfl) ⟨_, _, rfl, rfl, rfl⟩ ?_
                    refine xd_skip hok 15 [(9, _), (53, _)] rfl rfl rfl (lc rfl (lc rfl ln)) (by kernel_rfl) ⟨_, _, rfl, rfl, rfl⟩ ?_
                    refine xd_skip hok 16 [(54, _), (55, _), (53, _)] rfl rfl rfl (lc rfl (lc rfl (lc rfl ln))) (by kernel_rfl) ⟨_, _, rfl, rfl, rfl⟩ ?_
                    refine xd_skip hok 17 [(56, _), (53, _)] rfl rfl rfl (lc rfl (lc rfl ln)) (by kernel_rfl) ⟨_, _, rfl, rfl, rfl⟩ ?_
                    refine xd_skip hok 18 [(57, _), (53, _)] rfl rfl rfl (lc rfl (lc rfl ln)) (by kernel_rfl) ⟨_, _, rfl, rfl, rfl⟩ ?_
                    refine xd_skip hok 19 [(5, _), (53, _)] rfl rfl rfl (lc rfl (lc rfl ln)) (by kernel_rfl) ⟨_, _, rfl, rfl, rfl⟩ ?_
                    refine xd_skip hok 20 [(7, _), (53, _)] rfl rfl rfl (lc rfl (lc rfl ln)) (by kernel_rfl) ⟨_, _, rfl, rfl, rfl⟩ ?_
                    refine xd_skip hok 21 [(59, _), (60, _), (53, _)] rfl rfl rfl (lc rfl (lc rfl (lc rfl ln))) (by kernel_rfl) ⟨_, _, rfl, rfl, rfl⟩ ?_
                    refine xd_skip hok 22 [(61, _), (53, _)] rfl rfl rfl (lc rfl (lc rfl ln)) (by kernel_rfl) ⟨_, _, rfl, rfl, rfl⟩ ?_
                    refine xd_skip hok 23 [(62, _), (53, _)] rfl rfl rfl (lc rfl (lc rfl ln)) (by kernel_rfl) ⟨_, _, rfl, rfl, rfl⟩ ?_
                    refine xd_skip hok 24 [(58, _), (63, _), (53, _)] rfl rfl rfl (lc rfl (lc rfl (lc rfl ln))) (by kernel_rfl) ⟨_, _, rfl, rfl, rfl⟩ ?_
                    refine xd_skip hok 25 [(53, _), (64, _), (41, _)] rfl rfl rfl (lc rfl (lc rfl (lc rfl ln))) (by kernel_rfl) ⟨_, _, rfl, rfl, rfl⟩ ?_
                    refine xd_b hok 26 [(41, _), (65, _)] ([]) rsN rfl rfl rfl (lc rfl (lc rfl ln)) (by kernel_rfl) trivial (fun H' hy hK => o_pick_t rfl rfl) ?_
                    refine xd_b hok 27 [(66, _)] ([]) rsN rfl rfl rfl (lc rfl ln) (by kernel_rfl) trivial (fun H' hy hK => o_as rfl) ?_
                    refine xd_end hok (by kernel_rfl) ?_
                    exact xq_cut ((lce rfl (by first | rfl | (simp only [hq14, hq19, if_pos hp14, if_pos hp19, bS]; done) | (simp only [hq14, hq19, if_pos hp14, if_pos hp19, bS, reduceIte, Bool.false_eq_true]; done) | (simp [hp14, hp19]; done) | (simp_all; done)) (lc rfl (lc rfl (lc rfl (lc rfl ln)))))) (fun _ h => h)
                  · have hq19 : (there8) = false := hg19
                    have hp19 : ¬ ((there8) = true) := bne' hq19
                    refine xd_b hok 2 [(6, _), (41, _)] ([]) rsN rfl rfl rfl (lc rfl (lc rfl ln)) (by kernel_rfl) ⟨_, rfl, rfl⟩ (fun H' hy hK => o_mv rfl) ?_
                    refine xd_b hok 3 [(9, _), (41, _)] ([]) rsN rfl rfl rfl (lc rfl (lc rfl ln)) (by kernel_rfl) ⟨_, rfl, rfl⟩ (fun H' hy hK => o_mv rfl) ?_
                    refine xd_b hok 4 [(42, _), (43, _), (41, _)] (Bs12 ++ ([])) (rsA (Pull.sub (.here _ _)) rsN) rfl rfl rfl (lc rfl (lc rfl (lc rfl ln))) (by kernel_rfl) ⟨_, rfl, rfl⟩ (fun H' hy hK => o_ixL el24 rfl rfl (fun w hw => (hJs12.sl hw (fun x hx => hy x (Pull.sub (.here _ _) x hx)))) rfl (ho15 (by first | exact hg19 | (simp only [hq14, hq19, if_pos hp14, if_neg hp19, bS]; done) | (simp only [hq14, hq19, if_pos hp14, if_neg hp19, bS, reduceIte, Bool.false_eq_true]; done) | (simp [hp14, hp19]; done) | (simp_all; done)))) ?_
                    refine xd_b hok 5 [(44, _), (41, _)] (Bs12 ++ ([])) (rsA (Pull.sub (.here _ _)) rsN) rfl rfl rfl (lc rfl (lc rfl ln)) (by kernel_rfl) ⟨_, rfl, rfl⟩ (fun H' hy hK => o_faL fl29_0 rfl rfl (fun w hw => (hJs12.sl hw (fun x hx => hy x (Pull.sub (.here _ _) x hx)))) (toNat_lt (ho15 (by first | exact hg19 | (simp only [hq14, hq19, if_pos hp14, if_neg hp19, bS]; done) | (simp only [hq14, hq19, if_pos hp14, if_neg hp19, bS, reduceIte, Bool.false_eq_true]; done) | (simp [hp14, hp19]; done) | (simp_all; done))))) ?_
                    refine xd_b hok 6 [(45, _), (41, _)] (Bs12 ++ ([])) (rsA (Pull.sub (.here _ _)) rsN) rfl rfl rfl (lc rfl (lc rfl ln)) (by kernel_rfl) ⟨_, rfl, rfl⟩ (fun H' hy hK => o_ldL1 (off := 0) (u := .int .i64 ((wof_F (([] ++ l0) ++ more1))[k9.toNat]! 0)) rfl ts3 rfl (fun w hw => (hJs12.sl hw (fun x hx => hy x (Pull.sub (.here _ _) x hx)))) (toNat_lt (ho15 (by first | exact hg19 | (simp only [hq14, hq19, if_pos hp14, if_neg hp19, bS]; done) | (simp only [hq14, hq19, if_pos hp14, if_neg hp19, bS, reduceIte, Bool.false_eq_true]; done) | (simp [hp14, hp19]; done) | (simp_all; done)))) rfl rfl) ?_
                    refine xd_b hok 7 [(5, _), (41, _)] ([]) rsN rfl rfl rfl (lc rfl (lc rfl ln)) (by kernel_rfl) ⟨_, rfl, rfl⟩ (fun H' hy hK => o_mv rfl) ?_
                    refine xd_b hok 8 [(7, _), (41, _)] ([]) rsN rfl rfl rfl (lc rfl (lc rfl ln)) (by kernel_rfl) ⟨_, rfl, rfl⟩ (fun H' hy hK => o_mv rfl) ?_
                    refine xd_b hok 9 [(47, _), (48, _), (41, _)] (Bs6 ++ ([])) (rsA (Pull.sub (.there _ (.here _ _))) rsN) rfl rfl rfl (lc rfl (lc rfl (lc rfl ln))) (by kernel_rfl) ⟨_, rfl, rfl⟩ (fun H' hy hK => o_ixL el24 rfl rfl (fun w hw => (hJs6.sl hw (fun x hx => hy x (Pull.sub (.here _ _) x hx)))) rfl (ho16 (by first | exact hg19 | (simp only [hq14, hq19, if_pos hp14, if_neg hp19, bS]; done) | (simp only [hq14, hq19, if_pos hp14, if_neg hp19, bS, reduceIte, Bool.false_eq_true]; done) | (simp [hp14, hp19]; done) | (simp_all; done)))) ?_
                    refine xd_b hok 10 [(49, _), (41, _)] (Bs6 ++ ([])) (rsA (Pull.sub (.there _ (.here _ _))) rsN) rfl rfl rfl (lc rfl (lc rfl ln)) (by kernel_rfl) ⟨_, rfl, rfl⟩ (fun H' hy hK => o_faL fl29_0 rfl rfl (fun w hw => (hJs6.sl hw (fun x hx => hy x (Pull.sub (.here _ _) x hx)))) (toNat_lt (ho16 (by first | exact hg19 | (simp only [hq14, hq19, if_pos hp14, if_neg hp19, bS]; done) | (simp only [hq14, hq19, if_pos hp14, if_neg hp19, bS, reduceIte, Bool.false_eq_true]; done) | (simp [hp14, hp19]; done) | (simp_all; done))))) ?_
                    refine xd_b hok 11 [(50, _), (41, _)] (Bs6 ++ ([])) (rsA (Pull.sub (.there _ (.here _ _))) rsN) rfl rfl rfl (lc rfl (lc rfl ln)) (by kernel_rfl) ⟨_, rfl, rfl⟩ (fun H' hy hK => o_ldL1 (off := 0) (u := .int .i64 ((wof_F l0)[i7.toNat]! 0)) rfl ts3 rfl (fun w hw => (hJs6.sl hw (fun x hx => hy x (Pull.sub (.here _ _) x hx)))) (toNat_lt (ho16 (by first | exact hg19 | (simp only [hq14, hq19, if_pos hp14, if_neg hp19, bS]; done) | (simp only [hq14, hq19, if_pos hp14, if_neg hp19, bS, reduceIte, Bool.false_eq_true]; done) | (simp [hp14, hp19]; done) | (simp_all; done)))) rfl rfl) ?_
                    refine xd_b hok 12 [(46, _), (51, _), (41, _)] ([]) rsN rfl rfl rfl (lc rfl (lc rfl (lc rfl ln))) (by kernel_rfl) ⟨_, rfl, rfl⟩ (fun H' hy hK => o_eql rfl rfl) ?_
                    refine xd_b hok 13 [(52, _), (41, _)] ([]) rsN rfl rfl rfl (lc rfl (lc rfl ln)) (by kernel_rfl) ⟨_, rfl, rfl⟩ (fun H' hy hK => o_mv rfl) ?_
                    refine xd_bool 53 rfl (fun hg20 => ?_) (fun hg20 => ?_)
                    · have hq20 : (decide ((wof_F (([] ++ l0) ++ more1))[k9.toNat]! 0 = (wof_F l0)[i7.toNat]! 0)) = true := hg20
                      have hp20 : (wof_F (([] ++ l0) ++ more1))[k9.toNat]! 0 = (wof_F l0)[i7.toNat]! 0 := of_decide_eq_true hq20
                      refine xd_b hok 14 [(6, _), (53, _)] ([]) rsN rfl rfl rfl (lc rfl (lc rfl ln)) (by kernel_rfl) ⟨_, rfl, rfl⟩ (fun H' hy hK => o_mv rfl) ?_
                      refine xd_b hok 15 [(9, _), (53, _)] ([]) rsN rfl rfl rfl (lc rfl (lc rfl ln)) (by kernel_rfl) ⟨_, rfl, rfl⟩ (fun H' hy hK => o_mv rfl) ?_
                      refine xd_b hok 16 [(54, _), (55, _), (53, _)] (Bs12 ++ ([])) (rsA (Pull.sub (.here _ _)) rsN) rfl rfl rfl (lc rfl (lc rfl (lc rfl ln))) (by kernel_rfl) ⟨_, rfl, rfl⟩ (fun H' hy hK => o_ixL el24 rfl rfl (fun w hw => (hJs12.sl hw (fun x hx => hy x (Pull.sub (.here _ _) x hx)))) rfl (ho17 (by first | exact hg19 | (simp only [hq14, hq19, hq20, if_pos hp14, if_neg hp19, if_pos hp20, bS]; done) | (simp only [hq14, hq19, hq20, if_pos hp14, if_neg hp19, if_pos hp20, bS, reduceIte, Bool.false_eq_true]; done) | (simp [hp14, hp19, hp20]; done) | (simp_all; done)) (by first | exact hg20 | (simp only [hq14, hq19, hq20, if_pos hp14, if_neg hp19, if_pos hp20, bS]; done) | (simp only [hq14, hq19, hq20, if_pos hp14, if_neg hp19, if_pos hp20, bS, reduceIte, Bool.false_eq_true]; done) | (simp [hp14, hp19, hp20]; done) | (simp_all; done)))) ?_
                      refine xd_b hok 17 [(56, _), (53, _)] (Bs12 ++ ([])) (rsA (Pull.sub (.here _ _)) rsN) rfl rfl rfl (lc rfl (lc rfl ln)) (by kernel_rfl) ⟨_, rfl, rfl⟩ (fun H' hy hK => o_faL fl29_1 rfl rfl (fun w hw => (hJs12.sl hw (fun x hx => hy x (Pull.sub (.here _ _) x hx)))) (toNat_lt (ho17 (by first | exact hg19 | (simp only [hq14, hq19, hq20, if_pos hp14, if_neg hp19, if_pos hp20, bS]; done) | (simp only [hq14, hq19, hq20, if_pos hp14, if_neg hp19, if_pos hp20, bS, reduceIte, Bool.false_eq_true]; done) | (simp [hp14, hp19, hp20]; done) | (simp_all; done)) (by first | exact hg20 | (simp only [hq14, hq19, hq20, if_pos hp14, if_neg hp19, if_pos hp20, bS]; done) | (simp only [hq14, hq19, hq20, if_pos hp14, if_neg hp19, if_pos hp20, bS, reduceIte, Bool.false_eq_true]; done) | (simp [hp14, hp19, hp20]; done) | (simp_all; done))))) ?_
                      refine xd_b hok 18 [(57, _), (53, _)] (Bs12 ++ ([])) (rsA (Pull.sub (.here _ _)) rsN) rfl rfl rfl (lc rfl (lc rfl ln)) (by kernel_rfl) ⟨_, rfl, rfl⟩ (fun H' hy hK => o_ldL1 (off := 1) (u := .int .i64 ((wof_F (([] ++ l0) ++ more1))[k9.toNat]! 1)) rfl ts3 rfl (fun w hw => (hJs12.sl hw (fun x hx => hy x (Pull.sub (.here _ _) x hx)))) (toNat_lt (ho17 (by first | exact hg19 | (simp only [hq14, hq19, hq20, if_pos hp14, if_neg hp19, if_pos hp20, bS]; done) | (simp only [hq14, hq19, hq20, if_pos hp14, if_neg hp19, if_pos hp20, bS, reduceIte, Bool.false_eq_true]; done) | (simp [hp14, hp19, hp20]; done) | (simp_all; done)) (by first | exact hg20 | (simp only [hq14, hq19, hq20, if_pos hp14, if_neg hp19, if_pos hp20, bS]; done) | (simp only [hq14, hq19, hq20, if_pos hp14, if_neg hp19, if_pos hp20, bS, reduceIte, Bool.false_eq_true]; done) | (simp [hp14, hp19, hp20]; done) | (simp_all; done)))) rfl rfl) ?_
                      refine xd_b hok 19 [(5, _), (53, _)] ([]) rsN rfl rfl rfl (lc rfl (lc rfl ln)) (by kernel_rfl) ⟨_, rfl, rfl⟩ (fun H' hy hK => o_mv rfl) ?_
                      refine xd_b hok 20 [(7, _), (53, _)] ([]) rsN rfl rfl rfl (lc rfl (lc rfl ln)) (by kernel_rfl) ⟨_, rfl, rfl⟩ (fun H' hy hK => o_mv rfl) ?_
                      refine xd_b hok 21 [(59, _), (60, _), (53, _)] (Bs6 ++ ([])) (rsA (Pull.sub (.there _ (.here _ _))) rsN) rfl rfl rfl (lc rfl (lc rfl (lc rfl ln))) (by kernel_rfl) ⟨_, rfl, rfl⟩ (fun H' hy hK => o_ixL el24 rfl rfl (fun w hw => (hJs6.sl hw (fun x hx => hy x (Pull.sub (.here _ _) x hx)))) rfl (ho18 (by first | exact hg19 | (simp only [hq14, hq19, hq20, if_pos hp14, if_neg hp19, if_pos hp20, bS]; done) | (simp only [hq14, hq19, hq20, if_pos hp14, if_neg hp19, if_pos hp20, bS, reduceIte, Bool.false_eq_true]; done) | (simp [hp14, hp19, hp20]; done) | (simp_all; done)) (by first | exact hg20 | (simp only [hq14, hq19, hq20, if_pos hp14, if_neg hp19, if_pos hp20, bS]; done) | (simp only [hq14, hq19, hq20, if_pos hp14, if_neg hp19, if_pos hp20, bS, reduceIte, Bool.false_eq_true]; done) | (simp [hp14, hp19, hp20]; done) | (simp_all; done)))) ?_
                      refine xd_b hok 22 [(61, _), (53, _)] (Bs6 ++ ([])) (rsA (Pull.sub (.there _ (.here _ _))) rsN) rfl rfl rfl (lc rfl (lc rfl ln)) (by kernel_rfl) ⟨_, rfl, rfl⟩ (fun H' hy hK => o_faL fl29_1 rfl rfl (fun w hw => (hJs6.sl hw (fun x hx => hy x (Pull.sub (.here _ _) x hx)))) (toNat_lt (ho18 (by first | exact hg19 | (simp only [hq14, hq19, hq20, if_pos hp14, if_neg hp19, if_pos hp20, bS]; done) | (simp only [hq14, hq19, hq20, if_pos hp14, if_neg hp19, if_pos hp20, bS, reduceIte, Bool.false_eq_true]; done) | (simp [hp14, hp19, hp20]; done) | (simp_all; done)) (by first | exact hg20 | (simp only [hq14, hq19, hq20, if_pos hp14, if_neg hp19, if_pos hp20, bS]; done) | (simp only [hq14, hq19, hq20, if_pos hp14, if_neg hp19, if_pos hp20, bS, reduceIte, Bool.false_eq_true]; done) | (simp [hp14, hp19, hp20]; done) | (simp_all; done))))) ?_
                      refine xd_b hok 23 [(62, _), (53, _)] (Bs6 ++ ([])) (rsA (Pull.sub (.there _ (.here _ _))) rsN) rfl rfl rfl (lc rfl (lc rfl ln)) (by kernel_rfl) ⟨_, rfl, rfl⟩ (fun H' hy hK => o_ldL1 (off := 1) (u := .int .i64 ((wof_F l0)[i7.toNat]! 1)) rfl ts3 rfl (fun w hw => (hJs6.sl hw (fun x hx => hy x (Pull.sub (.here _ _) x hx)))) (toNat_lt (ho18 (by first | exact hg19 | (simp only [hq14, hq19, hq20, if_pos hp14, if_neg hp19, if_pos hp20, bS]; done) | (simp only [hq14, hq19, hq20, if_pos hp14, if_neg hp19, if_pos hp20, bS, reduceIte, Bool.false_eq_true]; done) | (simp [hp14, hp19, hp20]; done) | (simp_all; done)) (by first | exact hg20 | (simp only [hq14, hq19, hq20, if_pos hp14, if_neg hp19, if_pos hp20, bS]; done) | (simp only [hq14, hq19, hq20, if_pos hp14, if_neg hp19, if_pos hp20, bS, reduceIte, Bool.false_eq_true]; done) | (simp [hp14, hp19, hp20]; done) | (simp_all; done)))) rfl rfl) ?_
                      refine xd_b hok 24 [(58, _), (63, _), (53, _)] ([]) rsN rfl rfl rfl (lc rfl (lc rfl (lc rfl ln))) (by kernel_rfl) ⟨_, rfl, rfl⟩ (fun H' hy hK => o_leq rfl rfl) ?_
                      refine xd_b hok 25 [(53, _), (64, _), (41, _)] ([]) rsN rfl rfl rfl (lc rfl (lc rfl (lc rfl ln))) (by kernel_rfl) ⟨_, rfl, rfl⟩ (fun H' hy hK => o_pick_t rfl rfl) ?_
                      refine xd_b hok 26 [(41, _), (65, _)] ([]) rsN rfl rfl rfl (lc rfl (lc rfl ln)) (by kernel_rfl) trivial (fun H' hy hK => o_pick_f rfl rfl) ?_
                      refine xd_b hok 27 [(66, _)] ([]) rsN rfl rfl rfl (lc rfl ln) (by kernel_rfl) trivial (fun H' hy hK => o_as rfl) ?_
                      refine xd_end hok (by kernel_rfl) ?_
                      exact xq_cut ((lce rfl (by first | rfl | (simp only [hq14, hq19, hq20, if_pos hp14, if_neg hp19, if_pos hp20, bS]; done) | (simp only [hq14, hq19, hq20, if_pos hp14, if_neg hp19, if_pos hp20, bS, reduceIte, Bool.false_eq_true]; done) | (simp [hp14, hp19, hp20]; done) | (simp_all; done)) (lc rfl (lc rfl (lc rfl (lc rfl ln)))))) (fun _ h => h)
                    · have hq20 : (decide ((wof_F (([] ++ l0) ++ more1))[k9.toNat]! 0 = (wof_F l0)[i7.toNat]! 0)) = false := hg20
                      have hp20 : ¬ ((wof_F (([] ++ l0) ++ more1))[k9.toNat]! 0 = (wof_F l0)[i7.toNat]! 0) := of_decide_eq_false hq20
                      refine xd_skip hok 14 [(6, _), (53, _)] rfl rfl rfl (lc rfl (lc rfl ln)) (by kernel_rfl) ⟨_, _, rfl, rfl, rfl⟩ ?_
                      refine xd_skip hok 15 [(9, _), (53, _)] rfl rfl rfl (lc rfl (lc rfl ln)) (by kernel_rfl) ⟨_, _, rfl, rfl, rfl⟩ ?_
                      refine xd_skip hok 16 [(54, _), (55, _), (53, _)] rfl rfl rfl (lc rfl (lc rfl (lc rfl ln))) (by kernel_rfl) ⟨_, _, rfl, rfl, rfl⟩ ?_
                      refine xd_skip hok 17 [(56, _), (53, _)] rfl rfl rfl (lc rfl (lc rfl ln)) (by kernel_rfl) ⟨_, _, rfl, rfl, rfl⟩ ?_
                      refine xd_skip hok 18 [(57, _), (53, _)] rfl rfl rfl (lc rfl (lc rfl ln)) (by kernel_rfl) ⟨_, _, rfl, rfl, rfl⟩ ?_
                      refine xd_skip hok 19 [(5, _), (53, _)] rfl rfl rfl (lc rfl (lc rfl ln)) (by kernel_rfl) ⟨_, _, rfl, rfl, rfl⟩ ?_
                      refine xd_skip hok 20 [(7, _), (53, _)] rfl rfl rfl (lc rfl (lc rfl ln)) (by kernel_rfl) ⟨_, _, rfl, rfl, rfl⟩ ?_
                      refine xd_skip hok 21 [(59, _), (60, _), (53, _)] rfl rfl rfl (lc rfl (lc rfl (lc rfl ln))) (by kernel_rfl) ⟨_, _, rfl, rfl, rfl⟩ ?_
                      refine xd_skip hok 22 [(61, _), (53, _)] rfl rfl rfl (lc rfl (lc rfl ln)) (by kernel_rfl) ⟨_, _, rfl, rfl, rfl⟩ ?_
                      refine xd_skip hok 23 [(62, _), (53, _)] rfl rfl rfl (lc rfl (lc rfl ln)) (by kernel_rfl) ⟨_, _, rfl, rfl, rfl⟩ ?_
                      refine xd_skip hok 24 [(58, _), (63, _), (53, _)] rfl rfl rfl (lc rfl (lc rfl (lc rfl ln))) (by kernel_rfl) ⟨_, _, rfl, rfl, rfl⟩ ?_
                      refine xd_b hok 25 [(53, _), (64, _), (41, _)] ([]) rsN rfl rfl rfl (lc rfl (lc rfl (lc rfl ln))) (by kernel_rfl) ⟨_, rfl, rfl⟩ (fun H' hy hK => o_pick_f rfl rfl) ?_
                      refine xd_b hok 26 [(41, _), (65, _)] ([]) rsN rfl rfl rfl (lc rfl (lc rfl ln)) (by kernel_rfl) trivial (fun H' hy hK => o_pick_f rfl rfl) ?_
                      refine xd_b hok 27 [(66, _)] ([]) rsN rfl rfl rfl (lc rfl ln) (by kernel_rfl) trivial (fun H' hy hK => o_as rfl) ?_
                      refine xd_end hok (by kernel_rfl) ?_
                      exact xq_cut ((lce rfl (by first | rfl | (simp only [hq14, hq19, hq20, if_pos hp14, if_neg hp19, if_neg hp20, bS]; done) | (simp only [hq14, hq19, hq20, if_pos hp14, if_neg hp19, if_neg hp20, bS, reduceIte, Bool.false_eq_true]; done) | (simp [hp14, hp19, hp20]; done) | (simp_all; done)) (lc rfl (lc rfl (lc rfl (lc rfl ln)))))) (fun _ h => h)
                · refine xq_blk 3 ?_
                  refine xq_then (xw_region ?_)
                  refine xq rfl trivial (o_mv rfl) ?_
                  obtain ⟨ho21, h⟩ := h
                  refine xq rfl trivial (o_add rfl rfl rfl ho21) ?_
                  refine xq rfl trivial (o_as rfl) ?_
                  refine xo_nil ?_
                  exact xq_next (s' := (((there8) || ((decide ((wof_F (([] ++ l0) ++ more1))[k9.toNat]! 0 = (wof_F l0)[i7.toNat]! 0)) && (decide ((wof_F (([] ++ l0) ++ more1))[k9.toNat]! 1 ≤ (wof_F l0)[i7.toNat]! 1))), k9 + 1) : Bool × Int)) (e' := [(5, vs6), (6, vs12), (7, .int .i64 i7), (8, .bool ((there8) || ((decide ((wof_F (([] ++ l0) ++ more1))[k9.toNat]! 0 = (wof_F l0)[i7.toNat]! 0)) && (decide ((wof_F (([] ++ l0) ++ more1))[k9.toNat]! 1 ≤ (wof_F l0)[i7.toNat]! 1))))), (9, .int .i64 (k9 + 1))]) (Bs12 ++ (Bs6 ++ ([]))) (lc rfl (lc rfl (lc rfl (lc rfl (lc rfl ln))))) (fun _ h => h) h ⟨rfl, rfl⟩
              · have hq14 : (decide (k9 < ((wof_F (([] ++ l0) ++ more1)).length : Int))) = false := hc14
                have hp14 : ¬ (k9 < ((wof_F (([] ++ l0) ++ more1)).length : Int)) := of_decide_eq_false hq14
                rw [if_neg hp14] at h
                refine xw_cond_f rfl rfl (xw_exit (xq_then_exit ?_))
                exact xq_out (r := (there8 : Bool)) (e' := [(5, vs6), (6, vs12), (7, .int .i64 i7), (8, .bool (there8))]) (Bs12 ++ (Bs6 ++ ([]))) (lc rfl (lc rfl (lc rfl (lc rfl ln)))) (fun _ h => h) h (by intro hh; cases hh) ⟨rfl, rfl, rfl⟩
            · rintro _ _ _ ⟨rfl, rfl, rfl⟩
              replace h : more11_k2a i7 there8 o := h
              unfold more11_k2a at h
              refine xq_blk_eq ?_
              refine xq_then (xw_seq (xw_region ?_))
              refine xq rfl trivial (o_mv rfl) ?_
              refine xq rfl trivial (o_not rfl) ?_
              refine xo_nil (xq_then ?_)
              refine xw_bool 68 rfl (fun hc22 => ?_) (fun hc22 => ?_)
              · have hq22 : (there8) = false := (bnT hc22)
                have hp22 : ¬ ((there8) = true) := bne' hq22
                rw [if_neg hp22] at h
                refine xw_cond_t rfl rfl (xw_seq (xw_region ?_))
                refine xq rfl trivial (o_as rfl) ?_
                refine xo_nil (xq_then (xw_ret (xq_blk_ret (xq_then_ret ?_))))
                exact xq_out (r := (.inr () : (Unit) ⊕ (Unit))) (e' := [(4, .bool false)]) (Bs12 ++ (Bs6 ++ ([]))) (lc rfl ln) (fun _ h => h) h (by intro hh; cases hh) ⟨rfl, rfl, rfl⟩
              · have hq22 : (there8) = true := (bnF hc22)
                have hp22 : (there8) = true := hq22
                rw [if_pos hp22] at h
                refine xw_cond_f rfl rfl (xw_skip ?_)
                refine xq_blk 1 ?_
                refine xq_then (xw_region ?_)
                refine xq rfl trivial (o_mv rfl) ?_
                obtain ⟨ho23, h⟩ := h
                refine xq rfl trivial (o_add rfl rfl rfl ho23) ?_
                refine xq rfl trivial (o_as rfl) ?_
                refine xo_nil ?_
                exact xq_next (s' := (i7 + 1 : Int)) (e' := [(5, vs6), (6, vs12), (7, .int .i64 (i7 + 1))]) (Bs12 ++ (Bs6 ++ ([]))) (lc rfl (lc rfl (lc rfl ln))) (fun _ h => h) h ⟨rfl, rfl⟩
          · have hq13 : (decide (i7 < ((wof_F l0).length : Int))) = false := hc13
            have hp13 : ¬ (i7 < ((wof_F l0).length : Int)) := of_decide_eq_false hq13
            rw [if_neg hp13] at h
            refine xw_cond_f rfl rfl (xw_exit (xq_then_exit ?_))
            exact xq_out (r := (.inl () : (Unit) ⊕ (Unit))) (e' := []) (Bs12 ++ (Bs6 ++ ([]))) ln (fun _ h => h) h (by intro hh; cases hh) ⟨rfl, rfl, rfl⟩
        · rcases x1 with _ | x1
          · rintro _ _ _ ⟨rfl, rfl, rfl⟩
            replace h : more11_k1a r := h
            unfold more11_k1a at h
            refine xq_blk_eq ?_
            refine xq_then (xw_seq (xw_region ?_))
            refine xq rfl trivial (o_as rfl) ?_
            refine xo_nil (xq_then (xw_ret ?_))
            subst h
            exact con_ret1 (.inl rfl) Try.results5 rfl [] (Kp.st (Kp.segNew (Cov.fresh hcBs12) (Kp.segNew (Cov.fresh hcBs6) Kp.nil))) (⟨rfl, rfl⟩)
          cases x1
          rintro _ _ _ ⟨rfl, rfl, rfl⟩
          replace h : more11_k1b r := h
          unfold more11_k1b at h
          refine xq_blk_ret (xq_then_ret ?_)
          subst h
          exact con_ret1 (.inl rfl) Try.results5 rfl [] (Kp.st (Kp.segNew (Cov.fresh hcBs12) (Kp.segNew (Cov.fresh hcBs6) Kp.nil))) (⟨rfl, rfl⟩)

end Go.Proofs.Ytcnbdkkmcdjncaa
