/- The code answers as the relations say. -/
import Derived.Test.YtfpilngnhkcgjaaTab
import Derived.Test.YtfpilngnhkcgjaaC06S
import Derived.Test.YtfpilngnhkcgjaaB06W
set_option maxHeartbeats 1000000
set_option linter.unusedVariables false
set_option linter.unusedSimpArgs false
set_option maxRecDepth 100000
namespace Go.Proofs.Ytfpilngnhkcgjaa
open Go Go.E

theorem dueR_c (l0 : (List (Nat → Int))) (span1 : Int) (now2 : Int) (v0 : Value) (w : World) (hs0 : SL w 2 iv v0 l0) (hP : dueR_P l0 span1 now2) : Con Try.prog 16 #[v0, .int .i64 span1, .int .i64 now2] w (fun v F => ∃ (u0 : Value) (C0 : GH), v = u0 ∧ F = (C0 ++ []) ∧ OJ 3 1 ic C0 u0 (dueR_F l0 span1 now2) ∧ Cov w [] C0) :=
  dueR_con l0 span1 now2 v0 w hs0 _ (dueR_ok l0 span1 now2 hP)

theorem span6_con (span0 : Int) (at1 : Int) (by2 : Int) (id3 : Int) (w : World) (r : Bool) (h : span6_S span0 at1 by2 id3 r) : Con Try.prog 3 #[.int .u16 span0, .int .u32 at1, .int .u32 by2, .int .u32 id3] w (Is (.bool r) []) := by
  unfold span6_S at h
  refine con_enter (n := 108) [(0, _), (1, _), (2, _), (3, _)] Try.func3 rfl Try.ntmps3 rfl (lac rfl (lac rfl (lac rfl (lac rfl lan)))) ?_
  refine xw_seq (xw_region ?_)
  refine xq rfl trivial (o_as rfl) ?_
  refine xo_nil (xq_then (xw_seq (xw_seq (xw_region ?_))))
  obtain ⟨ho1, h⟩ := h
  refine xcallq rfl trivial kf7 rfl (fun w1 hw1 => alive06_c w1 ho1) ?_
  refine xq rfl trivial (o_not rfl) ?_
  refine xo_nil (xq_then ?_)
  refine xw_bool 15 rfl (fun hc2 => ?_) (fun hc2 => ?_)
  · have hq2 : (alive06_F) = false := (bnT hc2)
    have hp2 : ¬ ((alive06_F) = true) := bne' hq2
    rw [if_neg hp2] at h
    refine xw_cond_t rfl rfl (xw_seq (xw_region ?_))
    refine xq rfl trivial (o_as rfl) ?_
    refine xo_nil (xq_then (xw_ret (xq_then_ret ?_)))
    subst h
    exact con_ret1 (.inl rfl) Try.results3 rfl [] (fun _ h => h) (⟨rfl, rfl⟩)
  · have hq2 : (alive06_F) = true := (bnF hc2)
    have hp2 : (alive06_F) = true := hq2
    rw [if_pos hp2] at h
    refine xw_cond_f rfl rfl (xw_skip (xq_then (xw_seq (xw_region ?_))))
    refine xq rfl trivial (o_mv rfl) ?_
    refine xq rfl trivial (o_conv rfl Try.underlying22 Try.underlying3) ?_
    refine xq rfl trivial (o_rem rfl rfl (by decide) rfl) ?_
    obtain ⟨ho3, h⟩ := h
    refine xq rfl trivial (o_add rfl rfl rfl ho3) ?_
    refine xq rfl trivial (o_as rfl) ?_
    refine xo_nil (xq_then (xw_seq (xw_region ?_)))
    refine xq rfl trivial (o_mv rfl) ?_
    refine xoR rfl trivial (ot_in (l := [(0, _)]) kf8 rfl Try.func8 rfl Try.ntmps8 rfl (lac rfl lan) ?_)
    refine xw_seq (xw_region ?_)
    refine xq rfl trivial (o_as rfl) ?_
    refine xq rfl trivial (o_as rfl) ?_
    refine xo_nil (xq_then (xw_seq (xw_seq ?_)))
    refine xw_cut [(0, _)] (lc rfl ln) [(9, .bool ((decide (1 + ((IntKind.i64.wrap span0).tmod 1000) < 1)) || (decide (1000 < 1 + ((IntKind.i64.wrap span0).tmod 1000)))))] ?_ ?_
    · refine xw_region ?_
      refine xq rfl trivial (o_mv rfl) ?_
      refine xq rfl trivial (o_lss rfl rfl) ?_
      refine xq rfl trivial (o_mv rfl) ?_
      refine xo_bool 6 rfl (fun hg4 => ?_) (fun hg4 => ?_)
      · have hq4 : (decide (1 + ((IntKind.i64.wrap span0).tmod 1000) < 1)) = true := hg4
        have hp4 : 1 + ((IntKind.i64.wrap span0).tmod 1000) < 1 := of_decide_eq_true hq4
        refine xs rfl ⟨_, _, rfl, rfl, rfl⟩ (xs rfl ⟨_, _, rfl, rfl, rfl⟩ ?_)
        refine xq rfl trivial (o_pick_t rfl rfl) ?_
        refine xo_nil ?_
        exact xq_cut ((lce rfl (by first | rfl | (simp only [hq2, hq4, if_pos hp2, if_pos hp4, bS]; done) | (simp [hp2, hp4]; done) | (simp_all; done)) (lc rfl ln))) (fun _ h => h)
      · have hq4 : (decide (1 + ((IntKind.i64.wrap span0).tmod 1000) < 1)) = false := hg4
        have hp4 : ¬ (1 + ((IntKind.i64.wrap span0).tmod 1000) < 1) := of_decide_eq_false hq4
        refine xq rfl ⟨_, rfl, rfl⟩ (o_mv rfl) ?_
        refine xq rfl ⟨_, rfl, rfl⟩ (o_gtr rfl rfl) ?_
        refine xq rfl trivial (o_pick_f rfl rfl) ?_
        refine xo_nil ?_
        exact xq_cut ((lce rfl (by first | rfl | (simp only [hq2, hq4, if_pos hp2, if_neg hp4, bS]; done) | (simp [hp2, hp4]; done) | (simp_all; done)) (lc rfl ln))) (fun _ h => h)
    · refine xq_then ?_
      refine xw_bool 9 rfl (fun hc5 => ?_) (fun hc5 => ?_)
      · have hq5 : ((decide (1 + ((IntKind.i64.wrap span0).tmod 1000) < 1)) || (decide (1000 < 1 + ((IntKind.i64.wrap span0).tmod 1000)))) = true := hc5
        have hp5 : ((decide (1 + ((IntKind.i64.wrap span0).tmod 1000) < 1)) || (decide (1000 < 1 + ((IntKind.i64.wrap span0).tmod 1000)))) = true := hq5
        rw [if_pos hp5] at h
        refine xw_cond_t rfl rfl (xw_seq (xw_region ?_))
        refine xq rfl trivial (o_mki rfl Try.underlying54 rfl) ?_
        refine xq rfl trivial (o_as rfl) ?_
        refine xq rfl trivial (o_as rfl) ?_
        refine xo_nil (xq_then (xw_ret (xq_then_ret ?_)))
        refine con_ret2 (.inl rfl) Try.results8 rfl rfl _ (fun _ h => h) (?_)
        refine xq rfl trivial (o_mv rfl) ?_
        refine xq rfl trivial (o_ext rfl rfl) ?_
        refine xq rfl trivial (o_ext rfl rfl) ?_
        refine xq rfl trivial (o_as rfl) ?_
        refine xq rfl trivial (o_as rfl) ?_
        refine xo_nil (xq_then (xw_seq (xw_seq ?_)))
        refine xw_cut [(1, _), (2, _), (3, _), (9, _), (10, _)] (lc rfl (lc rfl (lc rfl (lc rfl (lc rfl ln))))) [(30, .bool true)] ?_ ?_
        · refine xw_region ?_
          refine xq rfl trivial (o_mv rfl) ?_
          refine xq rfl trivial (o_eqn Try.underlying25 rfl rfl rfl rfl) ?_
          refine xq rfl trivial (o_mv rfl) ?_
          refine xs rfl ⟨_, _, rfl, rfl, rfl⟩ (xs rfl ⟨_, _, rfl, rfl, rfl⟩ ?_)
          refine xq rfl trivial (o_pick_t rfl rfl) ?_
          refine xo_nil ?_
          exact xq_cut ((lce rfl (by first | rfl | (simp only [hq2, hq5, if_pos hp2, if_pos hp5, bS]; done) | (simp [hp2, hp5]; done) | (simp_all; done)) (lc rfl (lc rfl (lc rfl (lc rfl (lc rfl ln))))))) (fun _ h => h)
        · refine xq_then (xw_cond_t rfl rfl (xw_seq (xw_region ?_)))
          refine xq rfl trivial (o_as rfl) ?_
          refine xo_nil (xq_then (xw_ret (xq_then_ret ?_)))
          subst h
          exact con_ret1 (.inl rfl) Try.results3 rfl [] (fun _ h => h) (⟨rfl, rfl⟩)
      · have hq5 : ((decide (1 + ((IntKind.i64.wrap span0).tmod 1000) < 1)) || (decide (1000 < 1 + ((IntKind.i64.wrap span0).tmod 1000)))) = false := hc5
        have hp5 : ¬ (((decide (1 + ((IntKind.i64.wrap span0).tmod 1000) < 1)) || (decide (1000 < 1 + ((IntKind.i64.wrap span0).tmod 1000)))) = true) := bne' hq5
        rw [if_neg hp5] at h
        refine xw_cond_f rfl rfl (xw_skip (xq_then (xw_seq (xw_region ?_))))
        refine xq rfl trivial (o_mv rfl) ?_
        refine xo rfl trivial (o_mkmap (α := Int) (cv := kI) kt3 Try.underlying55) ?_
        rintro vs6 _ ⟨Bs6, rfl, hns6, hJs6⟩
        have hcBs6 := hns6
        refine xq rfl trivial (o_buildC [.int .i64 (1 + ((IntKind.i64.wrap span0).tmod 1000)), vs6] fk57 ze57 (.one fl57_0 rfl rfl rfl (.one fl57_1 rfl rfl (MJ.one hJs6) (.nil _))) (fun i hi => match i, hi with | 0, _ => rfl | 1, _ => rfl | q + 2, h => absurd h (by omega))) ?_
        refine xo rfl trivial (o_boxC [.int .i64 (1 + ((IntKind.i64.wrap span0).tmod 1000)), vs6] rfl (fun i hi => match i, hi with | 0, _ => rfl | 1, _ => rfl | q + 2, h => absurd h (by omega))) ?_
        rintro _ _ ⟨b14, hb14, rfl, rfl⟩
        refine xq rfl trivial (o_as rfl) ?_
        refine xq rfl trivial (o_as rfl) ?_
        refine xo_nil (xq_then (xw_ret ?_))
        refine con_ret2 (.inl rfl) Try.results8 rfl rfl _ (fun _ h => h) (?_)
        refine xq rfl trivial (o_mv rfl) ?_
        refine xq rfl trivial (o_ext rfl rfl) ?_
        refine xq rfl trivial (o_ext rfl rfl) ?_
        refine xq rfl trivial (o_as rfl) ?_
        refine xq rfl trivial (o_as rfl) ?_
        refine xo_nil (xq_then (xw_seq (xw_seq ?_)))
        refine xw_cut [(1, _), (2, _), (3, _), (9, _), (10, _)] (lc rfl (lc rfl (lc rfl (lc rfl (lc rfl ln))))) [(30, .bool false)] ?_ ?_
        · refine xw_region ?_
          refine xq rfl trivial (o_mv rfl) ?_
          refine xq rfl trivial (o_eqn Try.underlying25 rfl rfl rfl rfl) ?_
          refine xq rfl trivial (o_mv rfl) ?_
          refine xq rfl ⟨_, rfl, rfl⟩ (o_mv rfl) ?_
          refine xq rfl ⟨_, rfl, rfl⟩ (o_nen Try.underlying27 rfl rfl rfl rfl) ?_
          refine xq rfl trivial (o_pick_f rfl rfl) ?_
          refine xo_nil ?_
          exact xq_cut ((lce rfl (by first | rfl | (simp only [hq2, hq5, if_pos hp2, if_neg hp5, bS]; done) | (simp [hp2, hp5]; done) | (simp_all; done)) (lc rfl (lc rfl (lc rfl (lc rfl (lc rfl ln))))))) (fun _ h => h)
        · refine xq_then (xw_cond_f rfl rfl (xw_skip (xq_then (xw_seq (xw_region ?_)))))
          refine xq rfl trivial (o_mv rfl) ?_
          refine xq rfl trivial (o_conv rfl Try.underlying23 Try.underlying3) ?_
          obtain ⟨ho7, h⟩ := h
          refine xq rfl trivial (o_add rfl rfl rfl ho7) ?_
          refine xq rfl trivial (o_mv rfl) ?_
          refine xq rfl trivial (o_conv rfl Try.underlying23 Try.underlying3) ?_
          refine xq rfl trivial (o_as rfl) ?_
          refine xq rfl trivial (o_as rfl) ?_
          refine xo_nil (xq_then (xw_seq (xw_seq (xw_region ?_))))
          refine xq rfl trivial (o_mv rfl) ?_
          refine xq rfl trivial (o_mv rfl) ?_
          refine xq rfl trivial (o_mv rfl) ?_
          refine xo rfl trivial (OT.st (fun _ h => h) (ot_callF (Cs := [[(b14, _)], Bs6]) (Rs := []) kf9 rfl (fun w1 hw1 => renew_c _ _ _ _ _ _ _ w1 hJs6 (St.hasC hw1)) (fun _ _ _ h => h.1))) ?_
          rintro _ _ ⟨w1, _, rfl, hle, -, vg9_0, Bg9_0, rfl, rfl, hJBg9_0, hcBg9_0⟩
          replace hcBg9_0 := Cov.trans hcBs6 (Cov.base (w0 := w) hcBg9_0 hle)
          refine xo_st ((b14, BK 2 (cl [.int .i64 (1 + ((IntKind.i64.wrap span0).tmod 1000)), vg9_0]) 57) :: (Bg9_0 ++ ([]))) (fun _ h => h) ?_
          refine xq rfl trivial (o_neE Try.underlying27 rfl (fun _ => rfl) rfl rfl) ?_
          refine xq rfl trivial (o_mv rfl) ?_
          refine xo_bool 41 rfl (fun hg10 => ?_) (fun hg10 => ?_)
          · have hq10 : (decide ((renew_F (1 + ((IntKind.i64.wrap span0).tmod 1000)) ([]) (1 + (IntKind.i64.wrap id3)) (IntKind.i64.wrap at1)).1 = 0)) = false := (bnT hg10)
            have hp10 : ¬ ((renew_F (1 + ((IntKind.i64.wrap span0).tmod 1000)) ([]) (1 + (IntKind.i64.wrap id3)) (IntKind.i64.wrap at1)).1 = 0) := of_decide_eq_false hq10
            rw [if_neg hp10] at h
            refine xs rfl ⟨_, _, rfl, rfl, rfl⟩ (xs rfl ⟨_, _, rfl, rfl, rfl⟩ (xs rfl ⟨_, _, rfl, rfl, rfl⟩ (xs rfl ⟨_, _, rfl, rfl, rfl⟩ (xs rfl ⟨_, _, rfl, rfl, rfl⟩ (xs rfl ⟨_, _, rfl, rfl, rfl⟩ (xs rfl ⟨_, _, rfl, rfl, rfl⟩ (xs rfl ⟨_, _, rfl, rfl, rfl⟩ ?_)))))))
            refine xq rfl trivial (o_pick_t rfl rfl) ?_
            refine xq rfl trivial (o_mv rfl) ?_
            refine xs rfl ⟨_, _, rfl, rfl, rfl⟩ (xs rfl ⟨_, _, rfl, rfl, rfl⟩ (xs rfl ⟨_, _, rfl, rfl, rfl⟩ (xs rfl ⟨_, _, rfl, rfl, rfl⟩ (xs rfl ⟨_, _, rfl, rfl, rfl⟩ (xs rfl ⟨_, _, rfl, rfl, rfl⟩ (xs rfl ⟨_, _, rfl, rfl, rfl⟩ (xs rfl ⟨_, _, rfl, rfl, rfl⟩ ?_)))))))
            refine xs rfl ⟨_, _, rfl, rfl, rfl⟩ (xs rfl ⟨_, _, rfl, rfl, rfl⟩ (xs rfl ⟨_, _, rfl, rfl, rfl⟩ (xs rfl ⟨_, _, rfl, rfl, rfl⟩ ?_)))
            refine xq rfl trivial (o_pick_t rfl rfl) ?_
            refine xo_nil (xq_then (xw_cond_t rfl rfl (xw_seq (xw_region ?_))))
            refine xq rfl trivial (o_as rfl) ?_
            refine xo_nil (xq_then (xw_ret (xq_then_ret ?_)))
            subst h
            exact con_ret1 (.inl rfl) Try.results3 rfl [] (Kp.st (Kp.new hb14 (Kp.segNew (Cov.fresh hcBg9_0) Kp.nil))) (⟨rfl, rfl⟩)
          · have hq10 : (decide ((renew_F (1 + ((IntKind.i64.wrap span0).tmod 1000)) ([]) (1 + (IntKind.i64.wrap id3)) (IntKind.i64.wrap at1)).1 = 0)) = true := (bnF hg10)
            have hp10 : (renew_F (1 + ((IntKind.i64.wrap span0).tmod 1000)) ([]) (1 + (IntKind.i64.wrap id3)) (IntKind.i64.wrap at1)).1 = 0 := of_decide_eq_true hq10
            rw [if_pos hp10] at h
            refine xq rfl ⟨_, rfl, rfl⟩ (o_mv rfl) ?_
            refine xq rfl ⟨_, rfl, rfl⟩ (o_mv rfl) ?_
            refine xq rfl ⟨_, rfl, rfl⟩ (o_mv rfl) ?_
            obtain ⟨ho11, h⟩ := h
            refine xq rfl ⟨_, rfl, rfl⟩ (o_add rfl rfl rfl ho11) ?_
            obtain ⟨ho12, h⟩ := h
            refine xq rfl ⟨_, rfl, rfl⟩ (o_sub rfl rfl rfl ho12) ?_
            obtain ⟨ho13, h⟩ := h
            refine xo rfl ⟨_, rfl, rfl⟩ (OT.st (fun _ h => h) (ot_callF (Cs := [[(b14, _)], Bg9_0]) (Rs := []) kf10 rfl (fun w1 hw1 => due_c _ _ _ _ _ _ w1 hJBg9_0 (St.hasC hw1) ho13) (fun _ _ _ h => h.1))) ?_
            rintro vs16 _ ⟨w1, _, rfl, hle, -, _, Bs16, rfl, rfl, hJs16, hcBs16⟩
            replace hcBs16 := Cov.base (w0 := w) hcBs16 hle
            refine xo_st ((b14, BK 2 (cl [.int .i64 (1 + ((IntKind.i64.wrap span0).tmod 1000)), vg9_0]) 57) :: (Bg9_0 ++ (Bs16 ++ ([])))) (fun _ h => h) ?_
            refine xq rfl ⟨_, rfl, rfl⟩ (o_lenL rfl Try.underlying31 rfl (OJ.val hJs16)) ?_
            refine xq rfl ⟨_, rfl, rfl⟩ (o_neq rfl rfl) ?_
            refine xq rfl trivial (o_pick_f rfl rfl) ?_
            refine xq rfl trivial (o_mv rfl) ?_
            refine xo_bool 51 rfl (fun hg17 => ?_) (fun hg17 => ?_)
            · have hq17 : (decide (((due_F (1 + ((IntKind.i64.wrap span0).tmod 1000)) ((renew_F (1 + ((IntKind.i64.wrap span0).tmod 1000)) ([]) (1 + (IntKind.i64.wrap id3)) (IntKind.i64.wrap at1)).2) (((IntKind.i64.wrap at1) + (1 + ((IntKind.i64.wrap span0).tmod 1000))) - 1)).length : Int) = 0)) = false := (bnT hg17)
              have hp17 : ¬ (((due_F (1 + ((IntKind.i64.wrap span0).tmod 1000)) ((renew_F (1 + ((IntKind.i64.wrap span0).tmod 1000)) ([]) (1 + (IntKind.i64.wrap id3)) (IntKind.i64.wrap at1)).2) (((IntKind.i64.wrap at1) + (1 + ((IntKind.i64.wrap span0).tmod 1000))) - 1)).length : Int) = 0) := of_decide_eq_false hq17
              rw [if_neg hp17] at h
              refine xs rfl ⟨_, _, rfl, rfl, rfl⟩ (xs rfl ⟨_, _, rfl, rfl, rfl⟩ (xs rfl ⟨_, _, rfl, rfl, rfl⟩ (xs rfl ⟨_, _, rfl, rfl, rfl⟩ (xs rfl ⟨_, _, rfl, rfl, rfl⟩ (xs rfl ⟨_, _, rfl, rfl, rfl⟩ (xs rfl ⟨_, _, rfl, rfl, rfl⟩ (xs rfl ⟨_, _, rfl, rfl, rfl⟩ ?_)))))))
              refine xs rfl ⟨_, _, rfl, rfl, rfl⟩ (xs rfl ⟨_, _, rfl, rfl, rfl⟩ (xs rfl ⟨_, _, rfl, rfl, rfl⟩ (xs rfl ⟨_, _, rfl, rfl, rfl⟩ ?_)))
              refine xq rfl trivial (o_pick_t rfl rfl) ?_
              refine xo_nil (xq_then (xw_cond_t rfl rfl (xw_seq (xw_region ?_))))
              refine xq rfl trivial (o_as rfl) ?_
              refine xo_nil (xq_then (xw_ret (xq_then_ret ?_)))
              subst h
              exact con_ret1 (.inl rfl) Try.results3 rfl [] (Kp.st (Kp.new hb14 (Kp.segNew (Cov.fresh hcBg9_0) (Kp.segNew (Cov.fresh hcBs16) Kp.nil)))) (⟨rfl, rfl⟩)
            · have hq17 : (decide (((due_F (1 + ((IntKind.i64.wrap span0).tmod 1000)) ((renew_F (1 + ((IntKind.i64.wrap span0).tmod 1000)) ([]) (1 + (IntKind.i64.wrap id3)) (IntKind.i64.wrap at1)).2) (((IntKind.i64.wrap at1) + (1 + ((IntKind.i64.wrap span0).tmod 1000))) - 1)).length : Int) = 0)) = true := (bnF hg17)
              have hp17 : ((due_F (1 + ((IntKind.i64.wrap span0).tmod 1000)) ((renew_F (1 + ((IntKind.i64.wrap span0).tmod 1000)) ([]) (1 + (IntKind.i64.wrap id3)) (IntKind.i64.wrap at1)).2) (((IntKind.i64.wrap at1) + (1 + ((IntKind.i64.wrap span0).tmod 1000))) - 1)).length : Int) = 0 := of_decide_eq_true hq17
              rw [if_pos hp17] at h
              refine xq rfl ⟨_, rfl, rfl⟩ (o_mv rfl) ?_
              refine xq rfl ⟨_, rfl, rfl⟩ (o_mv rfl) ?_
              refine xq rfl ⟨_, rfl, rfl⟩ (o_mv rfl) ?_
              obtain ⟨ho18, h⟩ := h
              refine xq rfl ⟨_, rfl, rfl⟩ (o_add rfl rfl rfl ho18) ?_
              refine xq rfl ⟨_, rfl, rfl⟩ (o_mv rfl) ?_
              refine xq rfl ⟨_, rfl, rfl⟩ (o_conv rfl Try.underlying23 Try.underlying3) ?_
              obtain ⟨ho19, h⟩ := h
              refine xq rfl ⟨_, rfl, rfl⟩ (o_add rfl rfl rfl ho19) ?_
              obtain ⟨ho20, h⟩ := h
              refine xo rfl ⟨_, rfl, rfl⟩ (OT.st (fun _ h => h) (ot_callF (Cs := [[(b14, _)], Bg9_0]) (Rs := [Bs16]) kf10 rfl (fun w1 hw1 => due_c _ _ _ _ _ _ w1 hJBg9_0 (St.hasC hw1) ho20) (fun _ _ _ h => h.1))) ?_
              rintro vs23 _ ⟨w1, _, rfl, hle, -, _, Bs23, rfl, rfl, hJs23, hcBs23⟩
              replace hcBs23 := Cov.base (w0 := w) hcBs23 hle
              refine xo_st ((b14, BK 2 (cl [.int .i64 (1 + ((IntKind.i64.wrap span0).tmod 1000)), vg9_0]) 57) :: (Bg9_0 ++ (Bs23 ++ (Bs16 ++ ([]))))) (fun _ h => h) ?_
              refine xq rfl ⟨_, rfl, rfl⟩ (o_mv rfl) ?_
              refine xo rfl ⟨_, rfl, rfl⟩ (o_bsl el31 ze3 (cells_one rfl) rfl rfl (.int rfl rfl (.nil _))) ?_
              rintro _ _ ⟨b61, hb61, rfl, rfl⟩
              obtain ⟨ho24, h⟩ := h
              refine xcallq rfl ⟨_, rfl, rfl⟩ kf11 rfl (fun w1 hw1 => ints_c _ _ _ _ w1 (hJs23.sl hw1 (Pull.sub (.thereC _ (.thereC _ (.there _ (.here _ _)))))) (SL.lit (l := [1 + (IntKind.i64.wrap id3)]) hw1 (List.Mem.head _) rfl (by omega) (by simp [maxLen]) (by exact (fun i hi => match i, hi with | 0, _ => rfl | q + 1, h => absurd h (by omega)))) ho24) ?_
              refine xq rfl ⟨_, rfl, rfl⟩ (o_not rfl) ?_
              refine xq rfl trivial (o_pick_f rfl rfl) ?_
              refine xo_nil (xq_then ?_)
              refine xw_bool 64 rfl (fun hc25 => ?_) (fun hc25 => ?_)
              · have hq25 : ((ints_F (due_F (1 + ((IntKind.i64.wrap span0).tmod 1000)) ((renew_F (1 + ((IntKind.i64.wrap span0).tmod 1000)) ([]) (1 + (IntKind.i64.wrap id3)) (IntKind.i64.wrap at1)).2) (((IntKind.i64.wrap at1) + (1 + ((IntKind.i64.wrap span0).tmod 1000))) + (IntKind.i64.wrap by2))) ([1 + (IntKind.i64.wrap id3)]))) = false := (bnT hc25)
                have hp25 : ¬ (((ints_F (due_F (1 + ((IntKind.i64.wrap span0).tmod 1000)) ((renew_F (1 + ((IntKind.i64.wrap span0).tmod 1000)) ([]) (1 + (IntKind.i64.wrap id3)) (IntKind.i64.wrap at1)).2) (((IntKind.i64.wrap at1) + (1 + ((IntKind.i64.wrap span0).tmod 1000))) + (IntKind.i64.wrap by2))) ([1 + (IntKind.i64.wrap id3)]))) = true) := bne' hq25
                rw [if_neg hp25] at h
                refine xw_cond_t rfl rfl (xw_seq (xw_region ?_))
                refine xq rfl trivial (o_as rfl) ?_
                refine xo_nil (xq_then (xw_ret (xq_then_ret ?_)))
                subst h
                exact con_ret1 (.inl rfl) Try.results3 rfl [] (Kp.st (Kp.new hb61 (Kp.new hb14 (Kp.segNew (Cov.fresh hcBg9_0) (Kp.segNew (Cov.fresh hcBs23) (Kp.segNew (Cov.fresh hcBs16) Kp.nil)))))) (⟨rfl, rfl⟩)
              · have hq25 : ((ints_F (due_F (1 + ((IntKind.i64.wrap span0).tmod 1000)) ((renew_F (1 + ((IntKind.i64.wrap span0).tmod 1000)) ([]) (1 + (IntKind.i64.wrap id3)) (IntKind.i64.wrap at1)).2) (((IntKind.i64.wrap at1) + (1 + ((IntKind.i64.wrap span0).tmod 1000))) + (IntKind.i64.wrap by2))) ([1 + (IntKind.i64.wrap id3)]))) = true := (bnF hc25)
                have hp25 : ((ints_F (due_F (1 + ((IntKind.i64.wrap span0).tmod 1000)) ((renew_F (1 + ((IntKind.i64.wrap span0).tmod 1000)) ([]) (1 + (IntKind.i64.wrap id3)) (IntKind.i64.wrap at1)).2) (((IntKind.i64.wrap at1) + (1 + ((IntKind.i64.wrap span0).tmod 1000))) + (IntKind.i64.wrap by2))) ([1 + (IntKind.i64.wrap id3)]))) = true := hq25
                rw [if_pos hp25] at h
                refine xw_cond_f rfl rfl (xw_skip (xq_then (xw_seq (xw_seq (xw_region ?_)))))
                refine xq rfl trivial (o_mv rfl) ?_
                refine xq rfl trivial (o_mv rfl) ?_
                refine xq rfl trivial (o_mv rfl) ?_
                refine xq rfl trivial (o_mv rfl) ?_
                obtain ⟨ho26, h⟩ := h
                refine xq rfl trivial (o_add rfl rfl rfl ho26) ?_
                refine xq rfl trivial (o_mv rfl) ?_
                refine xq rfl trivial (o_conv rfl Try.underlying23 Try.underlying3) ?_
                obtain ⟨ho27, h⟩ := h
                refine xq rfl trivial (o_add rfl rfl rfl ho27) ?_
                refine xo rfl trivial (OT.st (fun _ h => St.permI [1, 2, 0, 3, 4] [[(b61, _)], [(b14, _)], Bg9_0, Bs23, Bs16] rfl h) (ot_callF (Cs := [[(b14, _)], Bg9_0]) (Rs := [[(b61, _)], Bs23, Bs16]) kf9 rfl (fun w1 hw1 => renew_c _ _ _ _ _ _ _ w1 hJBg9_0 (St.hasC hw1)) (fun _ _ _ h => h.1))) ?_
                rintro _ _ ⟨w1, _, rfl, hle, -, vg29_0, Bg29_0, rfl, rfl, hJBg29_0, hcBg29_0⟩
                replace hcBg29_0 := Cov.trans hcBg9_0 (Cov.base (w0 := w) hcBg29_0 hle)
                refine xo_st ((b14, BK 2 (cl [.int .i64 (1 + ((IntKind.i64.wrap span0).tmod 1000)), vg29_0]) 57) :: (Bg29_0 ++ ((b61, BK 1 _ 3) :: (Bs23 ++ (Bs16 ++ ([])))))) (fun _ h => h) ?_
                refine xq rfl trivial (o_neE Try.underlying27 rfl (fun _ => rfl) rfl rfl) ?_
                refine xq rfl trivial (o_mv rfl) ?_
                refine xo_bool 75 rfl (fun hg30 => ?_) (fun hg30 => ?_)
                · have hq30 : (decide ((renew_F (1 + ((IntKind.i64.wrap span0).tmod 1000)) ((renew_F (1 + ((IntKind.i64.wrap span0).tmod 1000)) ([]) (1 + (IntKind.i64.wrap id3)) (IntKind.i64.wrap at1)).2) (1 + (IntKind.i64.wrap id3)) (((IntKind.i64.wrap at1) + (1 + ((IntKind.i64.wrap span0).tmod 1000))) + (IntKind.i64.wrap by2))).1 = 0)) = false := (bnT hg30)
                  have hp30 : ¬ ((renew_F (1 + ((IntKind.i64.wrap span0).tmod 1000)) ((renew_F (1 + ((IntKind.i64.wrap span0).tmod 1000)) ([]) (1 + (IntKind.i64.wrap id3)) (IntKind.i64.wrap at1)).2) (1 + (IntKind.i64.wrap id3)) (((IntKind.i64.wrap at1) + (1 + ((IntKind.i64.wrap span0).tmod 1000))) + (IntKind.i64.wrap by2))).1 = 0) := of_decide_eq_false hq30
                  rw [if_neg hp30] at h
                  refine xs rfl ⟨_, _, rfl, rfl, rfl⟩ (xs rfl ⟨_, _, rfl, rfl, rfl⟩ (xs rfl ⟨_, _, rfl, rfl, rfl⟩ (xs rfl ⟨_, _, rfl, rfl, rfl⟩ (xs rfl ⟨_, _, rfl, rfl, rfl⟩ (xs rfl ⟨_, _, rfl, rfl, rfl⟩ (xs rfl ⟨_, _, rfl, rfl, rfl⟩ (xs rfl ⟨_, _, rfl, rfl, rfl⟩ ?_)))))))
                  refine xs rfl ⟨_, _, rfl, rfl, rfl⟩ (xs rfl ⟨_, _, rfl, rfl, rfl⟩ ?_)
                  refine xq rfl trivial (o_pick_t rfl rfl) ?_
                  refine xq rfl trivial (o_mv rfl) ?_
                  refine xs rfl ⟨_, _, rfl, rfl, rfl⟩ (xs rfl ⟨_, _, rfl, rfl, rfl⟩ (xs rfl ⟨_, _, rfl, rfl, rfl⟩ (xs rfl ⟨_, _, rfl, rfl, rfl⟩ ?_)))
                  refine xq rfl trivial (o_pick_t rfl rfl) ?_
                  refine xo_nil (xq_then (xw_cond_t rfl rfl (xw_seq (xw_region ?_))))
                  refine xq rfl trivial (o_as rfl) ?_
                  refine xo_nil (xq_then (xw_ret (xq_then_ret ?_)))
                  subst h
                  exact con_ret1 (.inl rfl) Try.results3 rfl [] (Kp.st (Kp.new hb14 (Kp.segNew (Cov.fresh hcBg29_0) (Kp.new hb61 (Kp.segNew (Cov.fresh hcBs23) (Kp.segNew (Cov.fresh hcBs16) Kp.nil)))))) (⟨rfl, rfl⟩)
                · have hq30 : (decide ((renew_F (1 + ((IntKind.i64.wrap span0).tmod 1000)) ((renew_F (1 + ((IntKind.i64.wrap span0).tmod 1000)) ([]) (1 + (IntKind.i64.wrap id3)) (IntKind.i64.wrap at1)).2) (1 + (IntKind.i64.wrap id3)) (((IntKind.i64.wrap at1) + (1 + ((IntKind.i64.wrap span0).tmod 1000))) + (IntKind.i64.wrap by2))).1 = 0)) = true := (bnF hg30)
                  have hp30 : (renew_F (1 + ((IntKind.i64.wrap span0).tmod 1000)) ((renew_F (1 + ((IntKind.i64.wrap span0).tmod 1000)) ([]) (1 + (IntKind.i64.wrap id3)) (IntKind.i64.wrap at1)).2) (1 + (IntKind.i64.wrap id3)) (((IntKind.i64.wrap at1) + (1 + ((IntKind.i64.wrap span0).tmod 1000))) + (IntKind.i64.wrap by2))).1 = 0 := of_decide_eq_true hq30
                  rw [if_pos hp30] at h
                  refine xq rfl ⟨_, rfl, rfl⟩ (o_mv rfl) ?_
                  refine xq rfl ⟨_, rfl, rfl⟩ (o_mv rfl) ?_
                  refine xq rfl ⟨_, rfl, rfl⟩ (o_mv rfl) ?_
                  obtain ⟨ho31, h⟩ := h
                  refine xq rfl ⟨_, rfl, rfl⟩ (o_add rfl rfl rfl ho31) ?_
                  refine xq rfl ⟨_, rfl, rfl⟩ (o_mv rfl) ?_
                  refine xq rfl ⟨_, rfl, rfl⟩ (o_conv rfl Try.underlying23 Try.underlying3) ?_
                  obtain ⟨ho32, h⟩ := h
                  refine xq rfl ⟨_, rfl, rfl⟩ (o_add rfl rfl rfl ho32) ?_
                  obtain ⟨ho33, h⟩ := h
                  refine xo rfl ⟨_, rfl, rfl⟩ (OT.st (fun _ h => h) (ot_callF (Cs := [[(b14, _)], Bg29_0]) (Rs := [[(b61, _)], Bs23, Bs16]) kf10 rfl (fun w1 hw1 => due_c _ _ _ _ _ _ w1 hJBg29_0 (St.hasC hw1) ho33) (fun _ _ _ h => h.1))) ?_
                  rintro vs36 _ ⟨w1, _, rfl, hle, -, _, Bs36, rfl, rfl, hJs36, hcBs36⟩
                  replace hcBs36 := Cov.base (w0 := w) hcBs36 hle
                  refine xo_st ((b14, BK 2 (cl [.int .i64 (1 + ((IntKind.i64.wrap span0).tmod 1000)), vg29_0]) 57) :: (Bg29_0 ++ (Bs36 ++ ((b61, BK 1 _ 3) :: (Bs23 ++ (Bs16 ++ ([]))))))) (fun _ h => h) ?_
                  refine xq rfl ⟨_, rfl, rfl⟩ (o_lenL rfl Try.underlying31 rfl (OJ.val hJs36)) ?_
                  refine xq rfl ⟨_, rfl, rfl⟩ (o_neq rfl rfl) ?_
                  refine xq rfl trivial (o_pick_f rfl rfl) ?_
                  refine xq rfl trivial (o_mv rfl) ?_
                  refine xo_bool 87 rfl (fun hg37 => ?_) (fun hg37 => ?_)
                  · have hq37 : (decide (((due_F (1 + ((IntKind.i64.wrap span0).tmod 1000)) ((renew_F (1 + ((IntKind.i64.wrap span0).tmod 1000)) ((renew_F (1 + ((IntKind.i64.wrap span0).tmod 1000)) ([]) (1 + (IntKind.i64.wrap id3)) (IntKind.i64.wrap at1)).2) (1 + (IntKind.i64.wrap id3)) (((IntKind.i64.wrap at1) + (1 + ((IntKind.i64.wrap span0).tmod 1000))) + (IntKind.i64.wrap by2))).2) (((IntKind.i64.wrap at1) + (1 + ((IntKind.i64.wrap span0).tmod 1000))) + (IntKind.i64.wrap by2))).length : Int) = 0)) = false := (bnT hg37)
                    have hp37 : ¬ (((due_F (1 + ((IntKind.i64.wrap span0).tmod 1000)) ((renew_F (1 + ((IntKind.i64.wrap span0).tmod 1000)) ((renew_F (1 + ((IntKind.i64.wrap span0).tmod 1000)) ([]) (1 + (IntKind.i64.wrap id3)) (IntKind.i64.wrap at1)).2) (1 + (IntKind.i64.wrap id3)) (((IntKind.i64.wrap at1) + (1 + ((IntKind.i64.wrap span0).tmod 1000))) + (IntKind.i64.wrap by2))).2) (((IntKind.i64.wrap at1) + (1 + ((IntKind.i64.wrap span0).tmod 1000))) + (IntKind.i64.wrap by2))).length : Int) = 0) := of_decide_eq_false hq37
                    rw [if_neg hp37] at h
                    refine xs rfl ⟨_, _, rfl, rfl, rfl⟩ (xs rfl ⟨_, _, rfl, rfl, rfl⟩ (xs rfl ⟨_, _, rfl, rfl, rfl⟩ (xs rfl ⟨_, _, rfl, rfl, rfl⟩ ?_)))
                    refine xq rfl trivial (o_pick_t rfl rfl) ?_
                    refine xo_nil (xq_then (xw_cond_t rfl rfl (xw_seq (xw_region ?_))))
                    refine xq rfl trivial (o_as rfl) ?_
                    refine xo_nil (xq_then (xw_ret (xq_then_ret ?_)))
                    subst h
                    exact con_ret1 (.inl rfl) Try.results3 rfl [] (Kp.st (Kp.new hb14 (Kp.segNew (Cov.fresh hcBg29_0) (Kp.segNew (Cov.fresh hcBs36) (Kp.new hb61 (Kp.segNew (Cov.fresh hcBs23) (Kp.segNew (Cov.fresh hcBs16) Kp.nil))))))) (⟨rfl, rfl⟩)
                  · have hq37 : (decide (((due_F (1 + ((IntKind.i64.wrap span0).tmod 1000)) ((renew_F (1 + ((IntKind.i64.wrap span0).tmod 1000)) ((renew_F (1 + ((IntKind.i64.wrap span0).tmod 1000)) ([]) (1 + (IntKind.i64.wrap id3)) (IntKind.i64.wrap at1)).2) (1 + (IntKind.i64.wrap id3)) (((IntKind.i64.wrap at1) + (1 + ((IntKind.i64.wrap span0).tmod 1000))) + (IntKind.i64.wrap by2))).2) (((IntKind.i64.wrap at1) + (1 + ((IntKind.i64.wrap span0).tmod 1000))) + (IntKind.i64.wrap by2))).length : Int) = 0)) = true := (bnF hg37)
                    have hp37 : ((due_F (1 + ((IntKind.i64.wrap span0).tmod 1000)) ((renew_F (1 + ((IntKind.i64.wrap span0).tmod 1000)) ((renew_F (1 + ((IntKind.i64.wrap span0).tmod 1000)) ([]) (1 + (IntKind.i64.wrap id3)) (IntKind.i64.wrap at1)).2) (1 + (IntKind.i64.wrap id3)) (((IntKind.i64.wrap at1) + (1 + ((IntKind.i64.wrap span0).tmod 1000))) + (IntKind.i64.wrap by2))).2) (((IntKind.i64.wrap at1) + (1 + ((IntKind.i64.wrap span0).tmod 1000))) + (IntKind.i64.wrap by2))).length : Int) = 0 := of_decide_eq_true hq37
                    rw [if_pos hp37] at h
                    refine xq rfl ⟨_, rfl, rfl⟩ (o_mv rfl) ?_
                    refine xq rfl ⟨_, rfl, rfl⟩ (o_mv rfl) ?_
                    refine xo rfl ⟨_, rfl, rfl⟩ (OT.st (fun _ h => h) (ot_callF (Cs := [[(b14, _)], Bg29_0]) (Rs := [Bs36, [(b61, _)], Bs23, Bs16]) kf12 rfl (fun w1 hw1 => lend_c _ _ _ _ _ _ w1 hJBg29_0 (St.hasC hw1)) (fun _ _ _ h => h.1))) ?_
                    rintro _ _ ⟨w1, _, rfl, hle, -, vg39_0, Bg39_0, rfl, rfl, hJBg39_0, hcBg39_0⟩
                    replace hcBg39_0 := Cov.trans hcBg29_0 (Cov.base (w0 := w) hcBg39_0 hle)
                    refine xo_st ((b14, BK 2 (cl [.int .i64 (1 + ((IntKind.i64.wrap span0).tmod 1000)), vg39_0]) 57) :: (Bg39_0 ++ (Bs36 ++ ((b61, BK 1 _ 3) :: (Bs23 ++ (Bs16 ++ ([]))))))) (fun _ h => h) ?_
                    refine xq rfl ⟨_, rfl, rfl⟩ (o_neE Try.underlying27 rfl (fun _ => rfl) rfl rfl) ?_
                    refine xq rfl trivial (o_pick_f rfl rfl) ?_
                    refine xo_nil (xq_then ?_)
                    refine xw_bool 92 rfl (fun hc40 => ?_) (fun hc40 => ?_)
                    · have hq40 : (decide ((lend_F (1 + ((IntKind.i64.wrap span0).tmod 1000)) ((renew_F (1 + ((IntKind.i64.wrap span0).tmod 1000)) ((renew_F (1 + ((IntKind.i64.wrap span0).tmod 1000)) ([]) (1 + (IntKind.i64.wrap id3)) (IntKind.i64.wrap at1)).2) (1 + (IntKind.i64.wrap id3)) (((IntKind.i64.wrap at1) + (1 + ((IntKind.i64.wrap span0).tmod 1000))) + (IntKind.i64.wrap by2))).2) (1 + (IntKind.i64.wrap id3))).1 = 0)) = false := (bnT hc40)
                      have hp40 : ¬ ((lend_F (1 + ((IntKind.i64.wrap span0).tmod 1000)) ((renew_F (1 + ((IntKind.i64.wrap span0).tmod 1000)) ((renew_F (1 + ((IntKind.i64.wrap span0).tmod 1000)) ([]) (1 + (IntKind.i64.wrap id3)) (IntKind.i64.wrap at1)).2) (1 + (IntKind.i64.wrap id3)) (((IntKind.i64.wrap at1) + (1 + ((IntKind.i64.wrap span0).tmod 1000))) + (IntKind.i64.wrap by2))).2) (1 + (IntKind.i64.wrap id3))).1 = 0) := of_decide_eq_false hq40
                      rw [if_neg hp40] at h
                      refine xw_cond_t rfl rfl (xw_seq (xw_region ?_))
                      refine xq rfl trivial (o_as rfl) ?_
                      refine xo_nil (xq_then (xw_ret (xq_then_ret ?_)))
                      subst h
                      exact con_ret1 (.inl rfl) Try.results3 rfl [] (Kp.st (Kp.new hb14 (Kp.segNew (Cov.fresh hcBg39_0) (Kp.segNew (Cov.fresh hcBs36) (Kp.new hb61 (Kp.segNew (Cov.fresh hcBs23) (Kp.segNew (Cov.fresh hcBs16) Kp.nil))))))) (⟨rfl, rfl⟩)
                    · have hq40 : (decide ((lend_F (1 + ((IntKind.i64.wrap span0).tmod 1000)) ((renew_F (1 + ((IntKind.i64.wrap span0).tmod 1000)) ((renew_F (1 + ((IntKind.i64.wrap span0).tmod 1000)) ([]) (1 + (IntKind.i64.wrap id3)) (IntKind.i64.wrap at1)).2) (1 + (IntKind.i64.wrap id3)) (((IntKind.i64.wrap at1) + (1 + ((IntKind.i64.wrap span0).tmod 1000))) + (IntKind.i64.wrap by2))).2) (1 + (IntKind.i64.wrap id3))).1 = 0)) = true := (bnF hc40)
                      have hp40 : (lend_F (1 + ((IntKind.i64.wrap span0).tmod 1000)) ((renew_F (1 + ((IntKind.i64.wrap span0).tmod 1000)) ((renew_F (1 + ((IntKind.i64.wrap span0).tmod 1000)) ([]) (1 + (IntKind.i64.wrap id3)) (IntKind.i64.wrap at1)).2) (1 + (IntKind.i64.wrap id3)) (((IntKind.i64.wrap at1) + (1 + ((IntKind.i64.wrap span0).tmod 1000))) + (IntKind.i64.wrap by2))).2) (1 + (IntKind.i64.wrap id3))).1 = 0 := of_decide_eq_true hq40
                      rw [if_pos hp40] at h
                      refine xw_cond_f rfl rfl (xw_skip (xq_then (xw_seq (xw_region ?_))))
                      refine xq rfl trivial (o_mv rfl) ?_
                      obtain ⟨ho41, h⟩ := h
                      refine xo rfl trivial (OT.st (fun _ h => h) (ot_callF (Cs := [[(b14, _)], Bg39_0]) (Rs := [Bs36, [(b61, _)], Bs23, Bs16]) kf13 rfl (fun w1 hw1 => lall_c _ _ _ _ _ w1 hJBg39_0 (St.hasC hw1) ho41) (fun _ _ _ h => h.1))) ?_
                      rintro vs44 _ ⟨w1, _, rfl, hle, -, _, Bs44, rfl, rfl, hJs44, hcBs44⟩
                      replace hcBs44 := Cov.base (w0 := w) hcBs44 hle
                      refine xo_st ((b14, BK 2 (cl [.int .i64 (1 + ((IntKind.i64.wrap span0).tmod 1000)), vg39_0]) 57) :: (Bg39_0 ++ (Bs44 ++ (Bs36 ++ ((b61, BK 1 _ 3) :: (Bs23 ++ (Bs16 ++ ([])))))))) (fun _ h => h) ?_
                      refine xq rfl trivial (o_lenL rfl Try.underlying31 rfl (OJ.val hJs44)) ?_
                      refine xq rfl trivial (o_eql rfl rfl) ?_
                      refine xq rfl trivial (o_mv rfl) ?_
                      refine xo_bool 97 rfl (fun hg45 => ?_) (fun hg45 => ?_)
                      · have hq45 : (decide (((lall_F (1 + ((IntKind.i64.wrap span0).tmod 1000)) ((lend_F (1 + ((IntKind.i64.wrap span0).tmod 1000)) ((renew_F (1 + ((IntKind.i64.wrap span0).tmod 1000)) ((renew_F (1 + ((IntKind.i64.wrap span0).tmod 1000)) ([]) (1 + (IntKind.i64.wrap id3)) (IntKind.i64.wrap at1)).2) (1 + (IntKind.i64.wrap id3)) (((IntKind.i64.wrap at1) + (1 + ((IntKind.i64.wrap span0).tmod 1000))) + (IntKind.i64.wrap by2))).2) (1 + (IntKind.i64.wrap id3))).2)).length : Int) = 0)) = true := hg45
                        have hp45 : ((lall_F (1 + ((IntKind.i64.wrap span0).tmod 1000)) ((lend_F (1 + ((IntKind.i64.wrap span0).tmod 1000)) ((renew_F (1 + ((IntKind.i64.wrap span0).tmod 1000)) ((renew_F (1 + ((IntKind.i64.wrap span0).tmod 1000)) ([]) (1 + (IntKind.i64.wrap id3)) (IntKind.i64.wrap at1)).2) (1 + (IntKind.i64.wrap id3)) (((IntKind.i64.wrap at1) + (1 + ((IntKind.i64.wrap span0).tmod 1000))) + (IntKind.i64.wrap by2))).2) (1 + (IntKind.i64.wrap id3))).2)).length : Int) = 0 := of_decide_eq_true hq45
                        rw [if_pos hp45] at h
                        refine xq rfl ⟨_, rfl, rfl⟩ (o_mv rfl) ?_
                        refine xq rfl ⟨_, rfl, rfl⟩ (o_mv rfl) ?_
                        obtain ⟨ho46, h⟩ := h
                        refine xq rfl ⟨_, rfl, rfl⟩ (o_add rfl rfl rfl ho46) ?_
                        refine xq rfl ⟨_, rfl, rfl⟩ (o_mv rfl) ?_
                        refine xq rfl ⟨_, rfl, rfl⟩ (o_conv rfl Try.underlying23 Try.underlying3) ?_
                        obtain ⟨ho47, h⟩ := h
                        refine xq rfl ⟨_, rfl, rfl⟩ (o_add rfl rfl rfl ho47) ?_
                        obtain ⟨ho48, h⟩ := h
                        refine xo rfl ⟨_, rfl, rfl⟩ (OT.st (fun _ h => h) (ot_callF (Cs := [[(b14, _)], Bg39_0]) (Rs := [Bs44, Bs36, [(b61, _)], Bs23, Bs16]) kf10 rfl (fun w1 hw1 => due_c _ _ _ _ _ _ w1 hJBg39_0 (St.hasC hw1) ho48) (fun _ _ _ h => h.1))) ?_
                        rintro vs51 _ ⟨w1, _, rfl, hle, -, _, Bs51, rfl, rfl, hJs51, hcBs51⟩
                        replace hcBs51 := Cov.base (w0 := w) hcBs51 hle
                        refine xo_st ((b14, BK 2 (cl [.int .i64 (1 + ((IntKind.i64.wrap span0).tmod 1000)), vg39_0]) 57) :: (Bg39_0 ++ (Bs51 ++ (Bs44 ++ (Bs36 ++ ((b61, BK 1 _ 3) :: (Bs23 ++ (Bs16 ++ ([]))))))))) (fun _ h => h) ?_
                        refine xq rfl ⟨_, rfl, rfl⟩ (o_lenL rfl Try.underlying31 rfl (OJ.val hJs51)) ?_
                        refine xq rfl ⟨_, rfl, rfl⟩ (o_eql rfl rfl) ?_
                        refine xq rfl trivial (o_pick_t rfl rfl) ?_
                        refine xq rfl trivial (o_as rfl) ?_
                        refine xo_nil (xq_then (xw_ret ?_))
                        subst h
                        exact con_ret1 (.inl rfl) Try.results3 rfl [] (Kp.st (Kp.new hb14 (Kp.segNew (Cov.fresh hcBg39_0) (Kp.segNew (Cov.fresh hcBs51) (Kp.segNew (Cov.fresh hcBs44) (Kp.segNew (Cov.fresh hcBs36) (Kp.new hb61 (Kp.segNew (Cov.fresh hcBs23) (Kp.segNew (Cov.fresh hcBs16) Kp.nil))))))))) (⟨rfl, rfl⟩)
                      · have hq45 : (decide (((lall_F (1 + ((IntKind.i64.wrap span0).tmod 1000)) ((lend_F (1 + ((IntKind.i64.wrap span0).tmod 1000)) ((renew_F (1 + ((IntKind.i64.wrap span0).tmod 1000)) ((renew_F (1 + ((IntKind.i64.wrap span0).tmod 1000)) ([]) (1 + (IntKind.i64.wrap id3)) (IntKind.i64.wrap at1)).2) (1 + (IntKind.i64.wrap id3)) (((IntKind.i64.wrap at1) + (1 + ((IntKind.i64.wrap span0).tmod 1000))) + (IntKind.i64.wrap by2))).2) (1 + (IntKind.i64.wrap id3))).2)).length : Int) = 0)) = false := hg45
                        have hp45 : ¬ (((lall_F (1 + ((IntKind.i64.wrap span0).tmod 1000)) ((lend_F (1 + ((IntKind.i64.wrap span0).tmod 1000)) ((renew_F (1 + ((IntKind.i64.wrap span0).tmod 1000)) ((renew_F (1 + ((IntKind.i64.wrap span0).tmod 1000)) ([]) (1 + (IntKind.i64.wrap id3)) (IntKind.i64.wrap at1)).2) (1 + (IntKind.i64.wrap id3)) (((IntKind.i64.wrap at1) + (1 + ((IntKind.i64.wrap span0).tmod 1000))) + (IntKind.i64.wrap by2))).2) (1 + (IntKind.i64.wrap id3))).2)).length : Int) = 0) := of_decide_eq_false hq45
                        rw [if_neg hp45] at h
                        refine xs rfl ⟨_, _, rfl, rfl, rfl⟩ (xs rfl ⟨_, _, rfl, rfl, rfl⟩ (xs rfl ⟨_, _, rfl, rfl, rfl⟩ (xs rfl ⟨_, _, rfl, rfl, rfl⟩ (xs rfl ⟨_, _, rfl, rfl, rfl⟩ (xs rfl ⟨_, _, rfl, rfl, rfl⟩ (xs rfl ⟨_, _, rfl, rfl, rfl⟩ (xs rfl ⟨_, _, rfl, rfl, rfl⟩ ?_)))))))
                        refine xs rfl ⟨_, _, rfl, rfl, rfl⟩ ?_
                        refine xq rfl trivial (o_pick_f rfl rfl) ?_
                        refine xq rfl trivial (o_as rfl) ?_
                        refine xo_nil (xq_then (xw_ret ?_))
                        subst h
                        exact con_ret1 (.inl rfl) Try.results3 rfl [] (Kp.st (Kp.new hb14 (Kp.segNew (Cov.fresh hcBg39_0) (Kp.segNew (Cov.fresh hcBs44) (Kp.segNew (Cov.fresh hcBs36) (Kp.new hb61 (Kp.segNew (Cov.fresh hcBs23) (Kp.segNew (Cov.fresh hcBs16) Kp.nil)))))))) (⟨rfl, rfl⟩)

theorem span6_c (span0 : Int) (at1 : Int) (by2 : Int) (id3 : Int) (w : World) (hP : span6_P span0 at1 by2 id3) : Con Try.prog 3 #[.int .u16 span0, .int .u32 at1, .int .u32 by2, .int .u32 id3] w (Is (.bool (span6_F span0 at1 by2 id3)) []) :=
  span6_con span0 at1 by2 id3 w _ (span6_ok span0 at1 by2 id3 hP)

theorem max6_con (span0 : Int) (times1 : (List Int)) (by2 : Int) (now3 : Int) (v1 : Value) (w : World) (hs1 : SL w 1 (fun (x : Int) (_ : Nat) => Value.int .u16 x) v1 times1) (r : Bool) (h : max6_S span0 times1 by2 now3 r) : Con Try.prog 4 #[.int .u16 span0, v1, .int .u8 by2, .int .u32 now3] w (Is (.bool r) []) := by
  unfold max6_S at h
  refine con_enter (n := 147) [(0, _), (1, _), (2, _), (3, _)] Try.func4 rfl Try.ntmps4 rfl (lac rfl (lac rfl (lac rfl (lac rfl lan)))) ?_
  refine xw_seq (xw_region ?_)
  refine xq rfl trivial (o_as rfl) ?_
  refine xo_nil (xq_then (xw_seq (xw_seq (xw_region ?_))))
  obtain ⟨ho1, h⟩ := h
  refine xcallq rfl trivial kf7 rfl (fun w1 hw1 => alive06_c w1 ho1) ?_
  refine xq rfl trivial (o_not rfl) ?_
  refine xo_nil (xq_then ?_)
  refine xw_bool 24 rfl (fun hc2 => ?_) (fun hc2 => ?_)
  · have hq2 : (alive06_F) = false := (bnT hc2)
    have hp2 : ¬ ((alive06_F) = true) := bne' hq2
    rw [if_neg hp2] at h
    refine xw_cond_t rfl rfl (xw_seq (xw_region ?_))
    refine xq rfl trivial (o_as rfl) ?_
    refine xo_nil (xq_then (xw_ret (xq_then_ret ?_)))
    subst h
    exact con_ret1 (.inl rfl) Try.results4 rfl [] (fun _ h => h) (⟨rfl, rfl⟩)
  · have hq2 : (alive06_F) = true := (bnF hc2)
    have hp2 : (alive06_F) = true := hq2
    rw [if_pos hp2] at h
    refine xw_cond_f rfl rfl (xw_skip (xq_then (xw_seq (xw_seq (xw_region ?_)))))
    refine xq rfl trivial (o_mv rfl) ?_
    refine xq rfl trivial (o_lenL rfl Try.underlying37 rfl (SL.val hs1)) ?_
    refine xq rfl trivial (o_gtr rfl rfl) ?_
    refine xo_nil (xq_then ?_)
    refine xw_bool 27 rfl (fun hc3 => ?_) (fun hc3 => ?_)
    · have hq3 : (decide (60 < (times1.length : Int))) = true := hc3
      have hp3 : 60 < (times1.length : Int) := of_decide_eq_true hq3
      rw [if_pos hp3] at h
      refine xw_cond_t rfl rfl (xw_seq (xw_region ?_))
      refine xq rfl trivial (o_as rfl) ?_
      refine xo_nil (xq_then (xw_ret (xq_then_ret ?_)))
      subst h
      exact con_ret1 (.inl rfl) Try.results4 rfl [] (fun _ h => h) (⟨rfl, rfl⟩)
    · have hq3 : (decide (60 < (times1.length : Int))) = false := hc3
      have hp3 : ¬ (60 < (times1.length : Int)) := of_decide_eq_false hq3
      rw [if_neg hp3] at h
      refine xw_cond_f rfl rfl (xw_skip (xq_then (xw_seq (xw_region ?_))))
      refine xq rfl trivial (o_mv rfl) ?_
      refine xq rfl trivial (o_conv rfl Try.underlying22 Try.underlying3) ?_
      refine xq rfl trivial (o_rem rfl rfl (by decide) rfl) ?_
      obtain ⟨ho4, h⟩ := h
      refine xq rfl trivial (o_add rfl rfl rfl ho4) ?_
      refine xq rfl trivial (o_as rfl) ?_
      refine xo_nil (xq_then (xw_seq (xw_region ?_)))
      refine xq rfl trivial (o_mv rfl) ?_
      refine xoR rfl trivial (ot_in (l := [(0, _)]) kf8 rfl Try.func8 rfl Try.ntmps8 rfl (lac rfl lan) ?_)
      refine xw_seq (xw_region ?_)
      refine xq rfl trivial (o_as rfl) ?_
      refine xq rfl trivial (o_as rfl) ?_
      refine xo_nil (xq_then (xw_seq (xw_seq ?_)))
      refine xw_cut [(0, _)] (lc rfl ln) [(9, .bool ((decide (1 + ((IntKind.i64.wrap span0).tmod 1000) < 1)) || (decide (1000 < 1 + ((IntKind.i64.wrap span0).tmod 1000)))))] ?_ ?_
      · refine xw_region ?_
        refine xq rfl trivial (o_mv rfl) ?_
        refine xq rfl trivial (o_lss rfl rfl) ?_
        refine xq rfl trivial (o_mv rfl) ?_
        refine xo_bool 6 rfl (fun hg5 => ?_) (fun hg5 => ?_)
        · have hq5 : (decide (1 + ((IntKind.i64.wrap span0).tmod 1000) < 1)) = true := hg5
          have hp5 : 1 + ((IntKind.i64.wrap span0).tmod 1000) < 1 := of_decide_eq_true hq5
          refine xs rfl ⟨_, _, rfl, rfl, rfl⟩ (xs rfl ⟨_, _, rfl, rfl, rfl⟩ ?_)
          refine xq rfl trivial (o_pick_t rfl rfl) ?_
          refine xo_nil ?_
          exact xq_cut ((lce rfl (by first | rfl | (simp only [hq2, hq3, hq5, if_pos hp2, if_neg hp3, if_pos hp5, bS]; done) | (simp [hp2, hp3, hp5]; done) | (simp_all; done)) (lc rfl ln))) (fun _ h => h)
        · have hq5 : (decide (1 + ((IntKind.i64.wrap span0).tmod 1000) < 1)) = false := hg5
          have hp5 : ¬ (1 + ((IntKind.i64.wrap span0).tmod 1000) < 1) := of_decide_eq_false hq5
          refine xq rfl ⟨_, rfl, rfl⟩ (o_mv rfl) ?_
          refine xq rfl ⟨_, rfl, rfl⟩ (o_gtr rfl rfl) ?_
          refine xq rfl trivial (o_pick_f rfl rfl) ?_
          refine xo_nil ?_
          exact xq_cut ((lce rfl (by first | rfl | (simp only [hq2, hq3, hq5, if_pos hp2, if_neg hp3, if_neg hp5, bS]; done) | (simp [hp2, hp3, hp5]; done) | (simp_all; done)) (lc rfl ln))) (fun _ h => h)
      · refine xq_then ?_
        refine xw_bool 9 rfl (fun hc6 => ?_) (fun hc6 => ?_)
        · have hq6 : ((decide (1 + ((IntKind.i64.wrap span0).tmod 1000) < 1)) || (decide (1000 < 1 + ((IntKind.i64.wrap span0).tmod 1000)))) = true := hc6
          have hp6 : ((decide (1 + ((IntKind.i64.wrap span0).tmod 1000) < 1)) || (decide (1000 < 1 + ((IntKind.i64.wrap span0).tmod 1000)))) = true := hq6
          rw [if_pos hp6] at h
          refine xw_cond_t rfl rfl (xw_seq (xw_region ?_))
          refine xq rfl trivial (o_mki rfl Try.underlying54 rfl) ?_
          refine xq rfl trivial (o_as rfl) ?_
          refine xq rfl trivial (o_as rfl) ?_
          refine xo_nil (xq_then (xw_ret (xq_then_ret ?_)))
          refine con_ret2 (.inl rfl) Try.results8 rfl rfl _ (fun _ h => h) (?_)
          refine xq rfl trivial (o_mv rfl) ?_
          refine xq rfl trivial (o_ext rfl rfl) ?_
          refine xq rfl trivial (o_ext rfl rfl) ?_
          refine xq rfl trivial (o_as rfl) ?_
          refine xq rfl trivial (o_as rfl) ?_
          refine xo_nil (xq_then (xw_seq (xw_region ?_)))
          refine xq rfl trivial (o_mv rfl) ?_
          refine xoR rfl trivial (ot_in (l := [(0, _)]) kf8 rfl Try.func8 rfl Try.ntmps8 rfl (lac rfl lan) ?_)
          refine xw_seq (xw_region ?_)
          refine xq rfl trivial (o_as rfl) ?_
          refine xq rfl trivial (o_as rfl) ?_
          refine xo_nil (xq_then (xw_seq (xw_seq ?_)))
          refine xw_cut [(0, _)] (lc rfl ln) [(9, .bool ((decide (1 + ((IntKind.i64.wrap span0).tmod 1000) < 1)) || (decide (1000 < 1 + ((IntKind.i64.wrap span0).tmod 1000)))))] ?_ ?_
          · refine xw_region ?_
            refine xq rfl trivial (o_mv rfl) ?_
            refine xq rfl trivial (o_lss rfl rfl) ?_
            refine xq rfl trivial (o_mv rfl) ?_
            refine xo_bool 6 rfl (fun hg7 => ?_) (fun hg7 => ?_)
            · have hq7 : (decide (1 + ((IntKind.i64.wrap span0).tmod 1000) < 1)) = true := hg7
              have hp7 : 1 + ((IntKind.i64.wrap span0).tmod 1000) < 1 := of_decide_eq_true hq7
              refine xs rfl ⟨_, _, rfl, rfl, rfl⟩ (xs rfl ⟨_, _, rfl, rfl, rfl⟩ ?_)
              refine xq rfl trivial (o_pick_t rfl rfl) ?_
              refine xo_nil ?_
              exact xq_cut ((lce rfl (by first | rfl | (simp only [hq2, hq3, hq6, hq7, if_pos hp2, if_neg hp3, if_pos hp6, if_pos hp7, bS]; done) | (simp [hp2, hp3, hp6, hp7]; done) | (simp_all; done)) (lc rfl ln))) (fun _ h => h)
            · have hq7 : (decide (1 + ((IntKind.i64.wrap span0).tmod 1000) < 1)) = false := hg7
              have hp7 : ¬ (1 + ((IntKind.i64.wrap span0).tmod 1000) < 1) := of_decide_eq_false hq7
              refine xq rfl ⟨_, rfl, rfl⟩ (o_mv rfl) ?_
              refine xq rfl ⟨_, rfl, rfl⟩ (o_gtr rfl rfl) ?_
              refine xq rfl trivial (o_pick_f rfl rfl) ?_
              refine xo_nil ?_
              exact xq_cut ((lce rfl (by first | rfl | (simp only [hq2, hq3, hq6, hq7, if_pos hp2, if_neg hp3, if_pos hp6, if_neg hp7, bS]; done) | (simp [hp2, hp3, hp6, hp7]; done) | (simp_all; done)) (lc rfl ln))) (fun _ h => h)
          · refine xq_then ?_
            refine xw_cond_t rfl (by simpa using hp6) ?_
            refine xw_seq (xw_region ?_)
            refine xq rfl trivial (o_mki rfl Try.underlying54 rfl) ?_
            refine xq rfl trivial (o_as rfl) ?_
            refine xq rfl trivial (o_as rfl) ?_
            refine xo_nil (xq_then (xw_ret (xq_then_ret ?_)))
            refine con_ret2 (.inl rfl) Try.results8 rfl rfl _ (fun _ h => h) (?_)
            refine xq rfl trivial (o_mv rfl) ?_
            refine xq rfl trivial (o_ext rfl rfl) ?_
            refine xq rfl trivial (o_ext rfl rfl) ?_
            refine xq rfl trivial (o_as rfl) ?_
            refine xq rfl trivial (o_as rfl) ?_
            refine xo_nil (xq_then (xw_seq (xw_seq ?_)))
            refine xw_cut [(1, _), (2, _), (3, _), (10, _), (12, _)] (lc rfl (lc rfl (lc rfl (lc rfl (lc rfl ln))))) [(55, .bool true)] ?_ ?_
            · refine xw_region ?_
              refine xq rfl trivial (o_mv rfl) ?_
              refine xq rfl trivial (o_eqn Try.underlying25 rfl rfl rfl rfl) ?_
              refine xq rfl trivial (o_mv rfl) ?_
              refine xs rfl ⟨_, _, rfl, rfl, rfl⟩ (xs rfl ⟨_, _, rfl, rfl, rfl⟩ ?_)
              refine xq rfl trivial (o_pick_t rfl rfl) ?_
              refine xq rfl trivial (o_mv rfl) ?_
              refine xs rfl ⟨_, _, rfl, rfl, rfl⟩ (xs rfl ⟨_, _, rfl, rfl, rfl⟩ ?_)
              refine xq rfl trivial (o_pick_t rfl rfl) ?_
              refine xq rfl trivial (o_mv rfl) ?_
              refine xs rfl ⟨_, _, rfl, rfl, rfl⟩ (xs rfl ⟨_, _, rfl, rfl, rfl⟩ ?_)
              refine xq rfl trivial (o_pick_t rfl rfl) ?_
              refine xo_nil ?_
              exact xq_cut ((lce rfl (by first | rfl | (simp only [hq2, hq3, hq6, if_pos hp2, if_neg hp3, if_pos hp6, bS]; done) | (simp [hp2, hp3, hp6]; done) | (simp_all; done)) (lc rfl (lc rfl (lc rfl (lc rfl (lc rfl ln))))))) (fun _ h => h)
            · refine xq_then (xw_cond_t rfl rfl (xw_seq (xw_region ?_)))
              refine xq rfl trivial (o_as rfl) ?_
              refine xo_nil (xq_then (xw_ret (xq_then_ret ?_)))
              subst h
              exact con_ret1 (.inl rfl) Try.results4 rfl [] (fun _ h => h) (⟨rfl, rfl⟩)
        · have hq6 : ((decide (1 + ((IntKind.i64.wrap span0).tmod 1000) < 1)) || (decide (1000 < 1 + ((IntKind.i64.wrap span0).tmod 1000)))) = false := hc6
          have hp6 : ¬ (((decide (1 + ((IntKind.i64.wrap span0).tmod 1000) < 1)) || (decide (1000 < 1 + ((IntKind.i64.wrap span0).tmod 1000)))) = true) := bne' hq6
          rw [if_neg hp6] at h
          refine xw_cond_f rfl rfl (xw_skip (xq_then (xw_seq (xw_region ?_))))
          refine xq rfl trivial (o_mv rfl) ?_
          refine xo rfl trivial (o_mkmap (α := Int) (cv := kI) kt3 Try.underlying55) ?_
          rintro vs8 _ ⟨Bs8, rfl, hns8, hJs8⟩
          have hcBs8 := hns8
          refine xq rfl trivial (o_buildC [.int .i64 (1 + ((IntKind.i64.wrap span0).tmod 1000)), vs8] fk57 ze57 (.one fl57_0 rfl rfl rfl (.one fl57_1 rfl rfl (MJ.one hJs8) (.nil _))) (fun i hi => match i, hi with | 0, _ => rfl | 1, _ => rfl | q + 2, h => absurd h (by omega))) ?_
          refine xo rfl trivial (o_boxC [.int .i64 (1 + ((IntKind.i64.wrap span0).tmod 1000)), vs8] rfl (fun i hi => match i, hi with | 0, _ => rfl | 1, _ => rfl | q + 2, h => absurd h (by omega))) ?_
          rintro _ _ ⟨b14, hb14, rfl, rfl⟩
          refine xq rfl trivial (o_as rfl) ?_
          refine xq rfl trivial (o_as rfl) ?_
          refine xo_nil (xq_then (xw_ret ?_))
          refine con_ret2 (.inl rfl) Try.results8 rfl rfl _ (fun _ h => h) (?_)
          refine xq rfl trivial (o_mv rfl) ?_
          refine xq rfl trivial (o_ext rfl rfl) ?_
          refine xq rfl trivial (o_ext rfl rfl) ?_
          refine xq rfl trivial (o_as rfl) ?_
          refine xq rfl trivial (o_as rfl) ?_
          refine xo_nil (xq_then (xw_seq (xw_region ?_)))
          refine xq rfl trivial (o_mv rfl) ?_
          refine xoR rfl trivial (ot_in (l := [(0, _)]) kf8 rfl Try.func8 rfl Try.ntmps8 rfl (lac rfl lan) ?_)
          refine xw_seq (xw_region ?_)
          refine xq rfl trivial (o_as rfl) ?_
          refine xq rfl trivial (o_as rfl) ?_
          refine xo_nil (xq_then (xw_seq (xw_seq ?_)))
          refine xw_cut [(0, _)] (lc rfl ln) [(9, .bool ((decide (1 + ((IntKind.i64.wrap span0).tmod 1000) < 1)) || (decide (1000 < 1 + ((IntKind.i64.wrap span0).tmod 1000)))))] ?_ ?_
          · refine xw_region ?_
            refine xq rfl trivial (o_mv rfl) ?_
            refine xq rfl trivial (o_lss rfl rfl) ?_
            refine xq rfl trivial (o_mv rfl) ?_
            refine xo_bool 6 rfl (fun hg9 => ?_) (fun hg9 => ?_)
            · have hq9 : (decide (1 + ((IntKind.i64.wrap span0).tmod 1000) < 1)) = true := hg9
              have hp9 : 1 + ((IntKind.i64.wrap span0).tmod 1000) < 1 := of_decide_eq_true hq9
              refine xs rfl ⟨_, _, rfl, rfl, rfl⟩ (xs rfl ⟨_, _, rfl, rfl, rfl⟩ ?_)
              refine xq rfl trivial (o_pick_t rfl rfl) ?_
              refine xo_nil ?_
              exact xq_cut ((lce rfl (by first | rfl | (simp only [hq2, hq3, hq6, hq9, if_pos hp2, if_neg hp3, if_neg hp6, if_pos hp9, bS]; done) | (simp [hp2, hp3, hp6, hp9]; done) | (simp_all; done)) (lc rfl ln))) (fun _ h => h)
            · have hq9 : (decide (1 + ((IntKind.i64.wrap span0).tmod 1000) < 1)) = false := hg9
              have hp9 : ¬ (1 + ((IntKind.i64.wrap span0).tmod 1000) < 1) := of_decide_eq_false hq9
              refine xq rfl ⟨_, rfl, rfl⟩ (o_mv rfl) ?_
              refine xq rfl ⟨_, rfl, rfl⟩ (o_gtr rfl rfl) ?_
              refine xq rfl trivial (o_pick_f rfl rfl) ?_
              refine xo_nil ?_
              exact xq_cut ((lce rfl (by first | rfl | (simp only [hq2, hq3, hq6, hq9, if_pos hp2, if_neg hp3, if_neg hp6, if_neg hp9, bS]; done) | (simp [hp2, hp3, hp6, hp9]; done) | (simp_all; done)) (lc rfl ln))) (fun _ h => h)
          · refine xq_then ?_
            refine xw_cond_f rfl (by simpa using hp6) ?_
            refine xw_skip (xq_then (xw_seq (xw_region ?_)))
            refine xq rfl trivial (o_mv rfl) ?_
            refine xo rfl trivial (o_mkmap (α := Int) (cv := kI) kt3 Try.underlying55) ?_
            rintro vs10 _ ⟨Bs10, rfl, hns10, hJs10⟩
            have hcBs10 := hns10
            refine xq rfl trivial (o_buildC [.int .i64 (1 + ((IntKind.i64.wrap span0).tmod 1000)), vs10] fk57 ze57 (.one fl57_0 rfl rfl rfl (.one fl57_1 rfl rfl (MJ.one hJs10) (.nil _))) (fun i hi => match i, hi with | 0, _ => rfl | 1, _ => rfl | q + 2, h => absurd h (by omega))) ?_
            refine xo rfl trivial (o_boxC [.int .i64 (1 + ((IntKind.i64.wrap span0).tmod 1000)), vs10] rfl (fun i hi => match i, hi with | 0, _ => rfl | 1, _ => rfl | q + 2, h => absurd h (by omega))) ?_
            rintro _ _ ⟨b14a, hb14a, rfl, rfl⟩
            refine xq rfl trivial (o_as rfl) ?_
            refine xq rfl trivial (o_as rfl) ?_
            refine xo_nil (xq_then (xw_ret ?_))
            refine con_ret2 (.inl rfl) Try.results8 rfl rfl _ (fun _ h => h) (?_)
            refine xq rfl trivial (o_mv rfl) ?_
            refine xq rfl trivial (o_ext rfl rfl) ?_
            refine xq rfl trivial (o_ext rfl rfl) ?_
            refine xq rfl trivial (o_as rfl) ?_
            refine xq rfl trivial (o_as rfl) ?_
            refine xo_nil (xq_then (xw_seq (xw_seq ?_)))
            refine xw_cut [(1, _), (2, _), (3, _), (10, _), (12, _)] (lc rfl (lc rfl (lc rfl (lc rfl (lc rfl ln))))) [(55, .bool false)] ?_ ?_
            · refine xw_region ?_
              refine xq rfl trivial (o_mv rfl) ?_
              refine xq rfl trivial (o_eqn Try.underlying25 rfl rfl rfl rfl) ?_
              refine xq rfl trivial (o_mv rfl) ?_
              refine xq rfl ⟨_, rfl, rfl⟩ (o_mv rfl) ?_
              refine xq rfl ⟨_, rfl, rfl⟩ (o_eqn Try.underlying25 rfl rfl rfl rfl) ?_
              refine xq rfl trivial (o_pick_f rfl rfl) ?_
              refine xq rfl trivial (o_mv rfl) ?_
              refine xq rfl ⟨_, rfl, rfl⟩ (o_mv rfl) ?_
              refine xq rfl ⟨_, rfl, rfl⟩ (o_nen Try.underlying27 rfl rfl rfl rfl) ?_
              refine xq rfl trivial (o_pick_f rfl rfl) ?_
              refine xq rfl trivial (o_mv rfl) ?_
              refine xq rfl ⟨_, rfl, rfl⟩ (o_mv rfl) ?_
              refine xq rfl ⟨_, rfl, rfl⟩ (o_nen Try.underlying27 rfl rfl rfl rfl) ?_
              refine xq rfl trivial (o_pick_f rfl rfl) ?_
              refine xo_nil ?_
              exact xq_cut ((lce rfl (by first | rfl | (simp only [hq2, hq3, hq6, if_pos hp2, if_neg hp3, if_neg hp6, bS]; done) | (simp [hp2, hp3, hp6]; done) | (simp_all; done)) (lc rfl (lc rfl (lc rfl (lc rfl (lc rfl ln))))))) (fun _ h => h)
            · refine xq_then (xw_cond_f rfl rfl (xw_skip (xq_then (xw_seq (xw_seq (xw_region ?_))))))
              refine xq rfl trivial (o_as rfl) ?_
              refine xo_nil (xq_then ?_)
              refine xw_block ?_
              obtain ⟨x1, hx1, h⟩ := h
              refine xw_wh (fun s e H => match s with | (i14, fb14_1, fb14a_1) => ∃ (vb14a_1_1 : Value) (vb14_1_1 : Value) (Bb14_1_1 : GH) (Bb14a_1_1 : GH), e = [(1, v1), (2, .int .u8 by2), (3, .int .u32 now3), (10, .pointer (some ⟨b14, 0, none⟩)), (12, .pointer (some ⟨b14a, 0, none⟩)), (14, .int .i64 i14)] ∧ H = (b14a, BK 2 (cl [.int .i64 (1 + ((IntKind.i64.wrap span0).tmod 1000)), vb14a_1_1]) 57) :: (Bb14a_1_1 ++ ((b14, BK 2 (cl [.int .i64 (1 + ((IntKind.i64.wrap span0).tmod 1000)), vb14_1_1]) 57) :: (Bb14_1_1 ++ ([])))) ∧ MJ kI kI ieq Bb14_1_1 vb14_1_1 fb14_1 ∧ MJ kI kI ieq Bb14a_1_1 vb14a_1_1 fb14a_1 ∧ Cov w [] Bb14_1_1 ∧ Cov w [] Bb14a_1_1) (fun x ex e H => match x with | .inl (fb14a_1, fb14_1) => ∃ (vb14_1_1o : Value) (vb14a_1_1o : Value) (Bb14_1_1o : GH) (Bb14a_1_1o : GH), ex = .exit 0 ∧ e = [(3, .int .u32 now3), (10, .pointer (some ⟨b14, 0, none⟩)), (12, .pointer (some ⟨b14a, 0, none⟩))] ∧ H = (b14a, BK 2 (cl [.int .i64 (1 + ((IntKind.i64.wrap span0).tmod 1000)), vb14a_1_1o]) 57) :: (Bb14a_1_1o ++ ((b14, BK 2 (cl [.int .i64 (1 + ((IntKind.i64.wrap span0).tmod 1000)), vb14_1_1o]) 57) :: (Bb14_1_1o ++ ([])))) ∧ MJ kI kI ieq Bb14a_1_1o vb14a_1_1o fb14a_1 ∧ MJ kI kI ieq Bb14_1_1o vb14_1_1o fb14_1 ∧ Cov w [] Bb14_1_1o ∧ Cov w [] Bb14a_1_1o | .inr (fb14a_1, fb14_1) => ∃ (vb14_1_1o : Value) (vb14a_1_1o : Value) (Bb14_1_1o : GH) (Bb14a_1_1o : GH), ex = .ret ∧ e = [(8, .bool false)] ∧ H = (b14a, BK 2 (cl [.int .i64 (1 + ((IntKind.i64.wrap span0).tmod 1000)), vb14a_1_1o]) 57) :: (Bb14a_1_1o ++ ((b14, BK 2 (cl [.int .i64 (1 + ((IntKind.i64.wrap span0).tmod 1000)), vb14_1_1o]) 57) :: (Bb14_1_1o ++ ([])))) ∧ MJ kI kI ieq Bb14a_1_1o vb14a_1_1o fb14a_1 ∧ MJ kI kI ieq Bb14_1_1o vb14_1_1o fb14_1 ∧ Cov w [] Bb14_1_1o ∧ Cov w [] Bb14a_1_1o) hx1 ⟨[(1, v1), (2, .int .u8 by2), (3, .int .u32 now3), (10, .pointer (some ⟨b14, 0, none⟩)), (12, .pointer (some ⟨b14a, 0, none⟩)), (14, .int .i64 0)], (b14a, BK 2 (cl [.int .i64 (1 + ((IntKind.i64.wrap span0).tmod 1000)), vs10]) 57) :: (Bs10 ++ ((b14, BK 2 (cl [.int .i64 (1 + ((IntKind.i64.wrap span0).tmod 1000)), vs8]) 57) :: (Bs8 ++ ([])))), (lc rfl (lc rfl (lc rfl (lc rfl (lc rfl (lc rfl ln)))))), fun _ h => h, ⟨vs10, vs8, Bs8, Bs10, rfl, rfl, hJs8, hJs10, hcBs8, hcBs10⟩⟩ ?_ ?_
              · rintro ⟨i14, fb14_1, fb14a_1⟩ o _ _ ⟨vb14a_1_1, vb14_1_1, Bb14_1_1, Bb14a_1_1, rfl, rfl, hJb14_1_1, hJb14a_1_1, hcBb14_1_1, hcBb14a_1_1⟩ hb
                have h : max6_l1 span0 times1 by2 i14 fb14_1 fb14a_1 o := hb
                clear hb
                unfold max6_l1 at h
                refine xw_seq (xw_seq (xw_region ?_))
                refine xq rfl trivial (o_mv rfl) ?_
                refine xq rfl trivial (o_mv rfl) ?_
                refine xq rfl trivial (o_lenL rfl Try.underlying37 rfl (SL.val hs1)) ?_
                refine xq rfl trivial (o_lss rfl rfl) ?_
                refine xo_nil (xq_then ?_)
                refine xw_bool 59 rfl (fun hc11 => ?_) (fun hc11 => ?_)
                · have hq11 : (decide (i14 < (times1.length : Int))) = true := hc11
                  have hp11 : i14 < (times1.length : Int) := of_decide_eq_true hq11
                  rw [if_pos hp11] at h
                  refine xw_cond_t rfl rfl (xw_skip (xq_then (xw_seq ?_)))
                  refine xw_block ?_
                  refine xw_seq (xw_region ?_)
                  refine xq rfl trivial (o_mv rfl) ?_
                  refine xq rfl trivial (o_mv rfl) ?_
                  refine xq rfl trivial (o_conv rfl Try.underlying5 Try.underlying3) ?_
                  obtain ⟨ho12, h⟩ := h
                  refine xq rfl trivial (o_add rfl rfl rfl ho12) ?_
                  refine xq rfl trivial (o_mv rfl) ?_
                  refine xq rfl trivial (o_lenL rfl Try.underlying37 rfl (SL.val hs1)) ?_
                  obtain ⟨ho13, h⟩ := h
                  refine xq rfl trivial (o_rem rfl rfl ho13 rfl) ?_
                  refine xq rfl trivial (o_as rfl) ?_
                  refine xo_nil (xq_then (xw_seq (xw_region ?_)))
                  refine xq rfl trivial (o_mv rfl) ?_
                  refine xq rfl trivial (o_mv rfl) ?_
                  refine xq rfl trivial (o_mv rfl) ?_
                  obtain ⟨ho14, h⟩ := h
                  refine xq rfl trivial (o_ixL el37 rfl rfl (fun w hw => (hs1.keep hw (Fr.cons hb14a (Fr.seg hcBb14a_1_1 (Fr.cons hb14 (Fr.seg hcBb14_1_1 Fr.nil)))))) rfl ho14) ?_
                  refine xq rfl trivial (o_ldL1 (off := 0) (u := .int .u16 (times1[i14.toNat]!)) rfl ts22 rfl (fun w hw => (hs1.keep hw (Fr.cons hb14a (Fr.seg hcBb14a_1_1 (Fr.cons hb14 (Fr.seg hcBb14_1_1 Fr.nil)))))) (toNat_lt ho14) rfl rfl) ?_
                  refine xq rfl trivial (o_conv rfl Try.underlying22 Try.underlying3) ?_
                  refine xo rfl trivial (OT.st (fun _ h => St.permI [2, 3, 0, 1] [[(b14a, _)], Bb14a_1_1, [(b14, _)], Bb14_1_1] rfl h) (ot_callF (Cs := [[(b14, _)], Bb14_1_1]) (Rs := [[(b14a, _)], Bb14a_1_1]) kf9 rfl (fun w1 hw1 => renew_c _ _ _ _ _ _ _ w1 hJb14_1_1 (St.hasC hw1)) (fun _ _ _ h => h.1))) ?_
                  rintro _ _ ⟨w1, _, rfl, hle, -, vg16_0, Bg16_0, rfl, rfl, hJBg16_0, hcBg16_0⟩
                  replace hcBg16_0 := Cov.trans hcBb14_1_1 (Cov.base (w0 := w) hcBg16_0 hle)
                  refine xo_st ((b14, BK 2 (cl [.int .i64 (1 + ((IntKind.i64.wrap span0).tmod 1000)), vg16_0]) 57) :: (Bg16_0 ++ ((b14a, BK 2 (cl [.int .i64 (1 + ((IntKind.i64.wrap span0).tmod 1000)), vb14a_1_1]) 57) :: (Bb14a_1_1 ++ ([]))))) (fun _ h => h) ?_
                  refine xq rfl trivial (o_neE Try.underlying27 rfl (fun _ => rfl) rfl rfl) ?_
                  refine xq rfl trivial (o_mv rfl) ?_
                  refine xo_bool 77 rfl (fun hg17 => ?_) (fun hg17 => ?_)
                  · have hq17 : (decide ((renew_F (1 + ((IntKind.i64.wrap span0).tmod 1000)) fb14_1 5 (IntKind.i64.wrap (times1[i14.toNat]!))).1 = 0)) = false := (bnT hg17)
                    have hp17 : ¬ ((renew_F (1 + ((IntKind.i64.wrap span0).tmod 1000)) fb14_1 5 (IntKind.i64.wrap (times1[i14.toNat]!))).1 = 0) := of_decide_eq_false hq17
                    rw [if_neg hp17] at h
                    refine xs rfl ⟨_, _, rfl, rfl, rfl⟩ (xs rfl ⟨_, _, rfl, rfl, rfl⟩ (xs rfl ⟨_, _, rfl, rfl, rfl⟩ (xs rfl ⟨_, _, rfl, rfl, rfl⟩ (xs rfl ⟨_, _, rfl, rfl, rfl⟩ (xs rfl ⟨_, _, rfl, rfl, rfl⟩ (xs rfl ⟨_, _, rfl, rfl, rfl⟩ (xs rfl ⟨_, _, rfl, rfl, rfl⟩ ?_)))))))
                    refine xq rfl trivial (o_pick_t rfl rfl) ?_
                    refine xq rfl trivial (o_mv rfl) ?_
                    refine xs rfl ⟨_, _, rfl, rfl, rfl⟩ (xs rfl ⟨_, _, rfl, rfl, rfl⟩ (xs rfl ⟨_, _, rfl, rfl, rfl⟩ (xs rfl ⟨_, _, rfl, rfl, rfl⟩ (xs rfl ⟨_, _, rfl, rfl, rfl⟩ (xs rfl ⟨_, _, rfl, rfl, rfl⟩ (xs rfl ⟨_, _, rfl, rfl, rfl⟩ (xs rfl ⟨_, _, rfl, rfl, rfl⟩ ?_)))))))
                    refine xs rfl ⟨_, _, rfl, rfl, rfl⟩ (xs rfl ⟨_, _, rfl, rfl, rfl⟩ ?_)
                    refine xq rfl trivial (o_pick_t rfl rfl) ?_
                    refine xo_nil (xq_then (xw_cond_t rfl rfl (xw_seq (xw_region ?_))))
                    refine xq rfl trivial (o_as rfl) ?_
                    refine xo_nil (xq_then (xw_ret (xq_blk_ret (xq_then_ret ?_))))
                    exact xq_out (r := (.inr (fb14a_1, (renew_F (1 + ((IntKind.i64.wrap span0).tmod 1000)) fb14_1 5 (IntKind.i64.wrap (times1[i14.toNat]!))).2) : ((List (Int × Int)) × (List (Int × Int))) ⊕ ((List (Int × Int)) × (List (Int × Int))))) (e' := [(8, .bool false)]) ((b14a, BK 2 (cl [.int .i64 (1 + ((IntKind.i64.wrap span0).tmod 1000)), vb14a_1_1]) 57) :: (Bb14a_1_1 ++ ((b14, BK 2 (cl [.int .i64 (1 + ((IntKind.i64.wrap span0).tmod 1000)), vg16_0]) 57) :: (Bg16_0 ++ ([]))))) (lc rfl ln) (fun _ h => St.permI [2, 3, 0, 1] [[(b14, _)], Bg16_0, [(b14a, _)], Bb14a_1_1] rfl (h)) h (by intro hh; cases hh) ⟨vg16_0, vb14a_1_1, Bg16_0, Bb14a_1_1, rfl, rfl, rfl, hJb14a_1_1, hJBg16_0, hcBg16_0, hcBb14a_1_1⟩
                  · have hq17 : (decide ((renew_F (1 + ((IntKind.i64.wrap span0).tmod 1000)) fb14_1 5 (IntKind.i64.wrap (times1[i14.toNat]!))).1 = 0)) = true := (bnF hg17)
                    have hp17 : (renew_F (1 + ((IntKind.i64.wrap span0).tmod 1000)) fb14_1 5 (IntKind.i64.wrap (times1[i14.toNat]!))).1 = 0 := of_decide_eq_true hq17
                    rw [if_pos hp17] at h
                    refine xq rfl ⟨_, rfl, rfl⟩ (o_mv rfl) ?_
                    refine xq rfl ⟨_, rfl, rfl⟩ (o_mv rfl) ?_
                    refine xq rfl ⟨_, rfl, rfl⟩ (o_mv rfl) ?_
                    obtain ⟨ho18, h⟩ := h
                    refine xq rfl ⟨_, rfl, rfl⟩ (o_ixL el37 rfl rfl (fun w hw => (hs1.keep hw (Fr.cons hb14 (Fr.seg hcBg16_0 (Fr.cons hb14a (Fr.seg hcBb14a_1_1 Fr.nil)))))) rfl ho18) ?_
                    refine xq rfl ⟨_, rfl, rfl⟩ (o_ldL1 (off := 0) (u := .int .u16 (times1[((i14 + (IntKind.i64.wrap by2)).tmod (times1.length : Int)).toNat]!)) rfl ts22 rfl (fun w hw => (hs1.keep hw (Fr.cons hb14 (Fr.seg hcBg16_0 (Fr.cons hb14a (Fr.seg hcBb14a_1_1 Fr.nil)))))) (toNat_lt ho18) rfl rfl) ?_
                    refine xq rfl ⟨_, rfl, rfl⟩ (o_conv rfl Try.underlying22 Try.underlying3) ?_
                    refine xo rfl ⟨_, rfl, rfl⟩ (OT.st (fun _ h => St.permI [2, 3, 0, 1] [[(b14, _)], Bg16_0, [(b14a, _)], Bb14a_1_1] rfl h) (ot_callF (Cs := [[(b14a, _)], Bb14a_1_1]) (Rs := [[(b14, _)], Bg16_0]) kf9 rfl (fun w1 hw1 => renew_c _ _ _ _ _ _ _ w1 hJb14a_1_1 (St.hasC hw1)) (fun _ _ _ h => h.1))) ?_
                    rintro _ _ ⟨w1, _, rfl, hle, -, vg20_0, Bg20_0, rfl, rfl, hJBg20_0, hcBg20_0⟩
                    replace hcBg20_0 := Cov.trans hcBb14a_1_1 (Cov.base (w0 := w) hcBg20_0 hle)
                    refine xo_st ((b14a, BK 2 (cl [.int .i64 (1 + ((IntKind.i64.wrap span0).tmod 1000)), vg20_0]) 57) :: (Bg20_0 ++ ((b14, BK 2 (cl [.int .i64 (1 + ((IntKind.i64.wrap span0).tmod 1000)), vg16_0]) 57) :: (Bg16_0 ++ ([]))))) (fun _ h => h) ?_
                    refine xq rfl ⟨_, rfl, rfl⟩ (o_neE Try.underlying27 rfl (fun _ => rfl) rfl rfl) ?_
                    refine xq rfl trivial (o_pick_f rfl rfl) ?_
                    refine xq rfl trivial (o_mv rfl) ?_
                    refine xo_bool 87 rfl (fun hg21 => ?_) (fun hg21 => ?_)
                    · have hq21 : (decide ((renew_F (1 + ((IntKind.i64.wrap span0).tmod 1000)) fb14a_1 5 (IntKind.i64.wrap (times1[((i14 + (IntKind.i64.wrap by2)).tmod (times1.length : Int)).toNat]!))).1 = 0)) = false := (bnT hg21)
                      have hp21 : ¬ ((renew_F (1 + ((IntKind.i64.wrap span0).tmod 1000)) fb14a_1 5 (IntKind.i64.wrap (times1[((i14 + (IntKind.i64.wrap by2)).tmod (times1.length : Int)).toNat]!))).1 = 0) := of_decide_eq_false hq21
                      rw [if_neg hp21] at h
                      refine xs rfl ⟨_, _, rfl, rfl, rfl⟩ (xs rfl ⟨_, _, rfl, rfl, rfl⟩ (xs rfl ⟨_, _, rfl, rfl, rfl⟩ (xs rfl ⟨_, _, rfl, rfl, rfl⟩ (xs rfl ⟨_, _, rfl, rfl, rfl⟩ (xs rfl ⟨_, _, rfl, rfl, rfl⟩ (xs rfl ⟨_, _, rfl, rfl, rfl⟩ (xs rfl ⟨_, _, rfl, rfl, rfl⟩ ?_)))))))
                      refine xs rfl ⟨_, _, rfl, rfl, rfl⟩ (xs rfl ⟨_, _, rfl, rfl, rfl⟩ ?_)
                      refine xq rfl trivial (o_pick_t rfl rfl) ?_
                      refine xo_nil (xq_then (xw_cond_t rfl rfl (xw_seq (xw_region ?_))))
                      refine xq rfl trivial (o_as rfl) ?_
                      refine xo_nil (xq_then (xw_ret (xq_blk_ret (xq_then_ret ?_))))
                      exact xq_out (r := (.inr ((renew_F (1 + ((IntKind.i64.wrap span0).tmod 1000)) fb14a_1 5 (IntKind.i64.wrap (times1[((i14 + (IntKind.i64.wrap by2)).tmod (times1.length : Int)).toNat]!))).2, (renew_F (1 + ((IntKind.i64.wrap span0).tmod 1000)) fb14_1 5 (IntKind.i64.wrap (times1[i14.toNat]!))).2) : ((List (Int × Int)) × (List (Int × Int))) ⊕ ((List (Int × Int)) × (List (Int × Int))))) (e' := [(8, .bool false)]) ((b14a, BK 2 (cl [.int .i64 (1 + ((IntKind.i64.wrap span0).tmod 1000)), vg20_0]) 57) :: (Bg20_0 ++ ((b14, BK 2 (cl [.int .i64 (1 + ((IntKind.i64.wrap span0).tmod 1000)), vg16_0]) 57) :: (Bg16_0 ++ ([]))))) (lc rfl ln) (fun _ h => h) h (by intro hh; cases hh) ⟨vg16_0, vg20_0, Bg16_0, Bg20_0, rfl, rfl, rfl, hJBg20_0, hJBg16_0, hcBg16_0, hcBg20_0⟩
                    · have hq21 : (decide ((renew_F (1 + ((IntKind.i64.wrap span0).tmod 1000)) fb14a_1 5 (IntKind.i64.wrap (times1[((i14 + (IntKind.i64.wrap by2)).tmod (times1.length : Int)).toNat]!))).1 = 0)) = true := (bnF hg21)
                      have hp21 : (renew_F (1 + ((IntKind.i64.wrap span0).tmod 1000)) fb14a_1 5 (IntKind.i64.wrap (times1[((i14 + (IntKind.i64.wrap by2)).tmod (times1.length : Int)).toNat]!))).1 = 0 := of_decide_eq_true hq21
                      rw [if_pos hp21] at h
                      refine xq rfl ⟨_, rfl, rfl⟩ (o_mv rfl) ?_
                      refine xq rfl ⟨_, rfl, rfl⟩ (o_mv rfl) ?_
                      obtain ⟨ho22, h⟩ := h
                      refine xq rfl ⟨_, rfl, rfl⟩ (o_add rfl rfl rfl ho22) ?_
                      refine xq rfl ⟨_, rfl, rfl⟩ (o_mv rfl) ?_
                      refine xq rfl ⟨_, rfl, rfl⟩ (o_mv rfl) ?_
                      obtain ⟨ho23, h⟩ := h
                      refine xq rfl ⟨_, rfl, rfl⟩ (o_ixL el37 rfl rfl (fun w hw => (hs1.keep hw (Fr.cons hb14a (Fr.seg hcBg20_0 (Fr.cons hb14 (Fr.seg hcBg16_0 Fr.nil)))))) rfl ho23) ?_
                      refine xq rfl ⟨_, rfl, rfl⟩ (o_ldL1 (off := 0) (u := .int .u16 (times1[i14.toNat]!)) rfl ts22 rfl (fun w hw => (hs1.keep hw (Fr.cons hb14a (Fr.seg hcBg20_0 (Fr.cons hb14 (Fr.seg hcBg16_0 Fr.nil)))))) (toNat_lt ho23) rfl rfl) ?_
                      refine xq rfl ⟨_, rfl, rfl⟩ (o_conv rfl Try.underlying22 Try.underlying3) ?_
                      refine xo rfl ⟨_, rfl, rfl⟩ (OT.st (fun _ h => h) (ot_callF (Cs := [[(b14a, _)], Bg20_0]) (Rs := [[(b14, _)], Bg16_0]) kf9 rfl (fun w1 hw1 => renew_c _ _ _ _ _ _ _ w1 hJBg20_0 (St.hasC hw1)) (fun _ _ _ h => h.1))) ?_
                      rintro _ _ ⟨w1, _, rfl, hle, -, vg25_0, Bg25_0, rfl, rfl, hJBg25_0, hcBg25_0⟩
                      replace hcBg25_0 := Cov.trans hcBg20_0 (Cov.base (w0 := w) hcBg25_0 hle)
                      refine xo_st ((b14a, BK 2 (cl [.int .i64 (1 + ((IntKind.i64.wrap span0).tmod 1000)), vg25_0]) 57) :: (Bg25_0 ++ ((b14, BK 2 (cl [.int .i64 (1 + ((IntKind.i64.wrap span0).tmod 1000)), vg16_0]) 57) :: (Bg16_0 ++ ([]))))) (fun _ h => h) ?_
                      refine xq rfl ⟨_, rfl, rfl⟩ (o_neE Try.underlying27 rfl (fun _ => rfl) rfl rfl) ?_
                      refine xq rfl trivial (o_pick_f rfl rfl) ?_
                      refine xo_nil (xq_then ?_)
                      refine xw_bool 98 rfl (fun hc26 => ?_) (fun hc26 => ?_)
                      · have hq26 : (decide ((renew_F (1 + ((IntKind.i64.wrap span0).tmod 1000)) ((renew_F (1 + ((IntKind.i64.wrap span0).tmod 1000)) fb14a_1 5 (IntKind.i64.wrap (times1[((i14 + (IntKind.i64.wrap by2)).tmod (times1.length : Int)).toNat]!))).2) (6 + i14) (IntKind.i64.wrap (times1[i14.toNat]!))).1 = 0)) = false := (bnT hc26)
                        have hp26 : ¬ ((renew_F (1 + ((IntKind.i64.wrap span0).tmod 1000)) ((renew_F (1 + ((IntKind.i64.wrap span0).tmod 1000)) fb14a_1 5 (IntKind.i64.wrap (times1[((i14 + (IntKind.i64.wrap by2)).tmod (times1.length : Int)).toNat]!))).2) (6 + i14) (IntKind.i64.wrap (times1[i14.toNat]!))).1 = 0) := of_decide_eq_false hq26
                        rw [if_neg hp26] at h
                        refine xw_cond_t rfl rfl (xw_seq (xw_region ?_))
                        refine xq rfl trivial (o_as rfl) ?_
                        refine xo_nil (xq_then (xw_ret (xq_blk_ret (xq_then_ret ?_))))
                        exact xq_out (r := (.inr ((renew_F (1 + ((IntKind.i64.wrap span0).tmod 1000)) ((renew_F (1 + ((IntKind.i64.wrap span0).tmod 1000)) fb14a_1 5 (IntKind.i64.wrap (times1[((i14 + (IntKind.i64.wrap by2)).tmod (times1.length : Int)).toNat]!))).2) (6 + i14) (IntKind.i64.wrap (times1[i14.toNat]!))).2, (renew_F (1 + ((IntKind.i64.wrap span0).tmod 1000)) fb14_1 5 (IntKind.i64.wrap (times1[i14.toNat]!))).2) : ((List (Int × Int)) × (List (Int × Int))) ⊕ ((List (Int × Int)) × (List (Int × Int))))) (e' := [(8, .bool false)]) ((b14a, BK 2 (cl [.int .i64 (1 + ((IntKind.i64.wrap span0).tmod 1000)), vg25_0]) 57) :: (Bg25_0 ++ ((b14, BK 2 (cl [.int .i64 (1 + ((IntKind.i64.wrap span0).tmod 1000)), vg16_0]) 57) :: (Bg16_0 ++ ([]))))) (lc rfl ln) (fun _ h => h) h (by intro hh; cases hh) ⟨vg16_0, vg25_0, Bg16_0, Bg25_0, rfl, rfl, rfl, hJBg25_0, hJBg16_0, hcBg16_0, hcBg25_0⟩
                      · have hq26 : (decide ((renew_F (1 + ((IntKind.i64.wrap span0).tmod 1000)) ((renew_F (1 + ((IntKind.i64.wrap span0).tmod 1000)) fb14a_1 5 (IntKind.i64.wrap (times1[((i14 + (IntKind.i64.wrap by2)).tmod (times1.length : Int)).toNat]!))).2) (6 + i14) (IntKind.i64.wrap (times1[i14.toNat]!))).1 = 0)) = true := (bnF hc26)
                        have hp26 : (renew_F (1 + ((IntKind.i64.wrap span0).tmod 1000)) ((renew_F (1 + ((IntKind.i64.wrap span0).tmod 1000)) fb14a_1 5 (IntKind.i64.wrap (times1[((i14 + (IntKind.i64.wrap by2)).tmod (times1.length : Int)).toNat]!))).2) (6 + i14) (IntKind.i64.wrap (times1[i14.toNat]!))).1 = 0 := of_decide_eq_true hq26
                        rw [if_pos hp26] at h
                        refine xw_cond_f rfl rfl (xw_skip ?_)
                        refine xq_blk 1 ?_
                        refine xq_then (xw_region ?_)
                        refine xq rfl trivial (o_mv rfl) ?_
                        obtain ⟨ho27, h⟩ := h
                        refine xq rfl trivial (o_add rfl rfl rfl ho27) ?_
                        refine xq rfl trivial (o_as rfl) ?_
                        refine xo_nil ?_
                        exact xq_next (s' := ((i14 + 1, (renew_F (1 + ((IntKind.i64.wrap span0).tmod 1000)) fb14_1 5 (IntKind.i64.wrap (times1[i14.toNat]!))).2, (renew_F (1 + ((IntKind.i64.wrap span0).tmod 1000)) ((renew_F (1 + ((IntKind.i64.wrap span0).tmod 1000)) fb14a_1 5 (IntKind.i64.wrap (times1[((i14 + (IntKind.i64.wrap by2)).tmod (times1.length : Int)).toNat]!))).2) (6 + i14) (IntKind.i64.wrap (times1[i14.toNat]!))).2) : Int × (List (Int × Int)) × (List (Int × Int)))) (e' := [(1, v1), (2, .int .u8 by2), (3, .int .u32 now3), (10, .pointer (some ⟨b14, 0, none⟩)), (12, .pointer (some ⟨b14a, 0, none⟩)), (14, .int .i64 (i14 + 1))]) ((b14a, BK 2 (cl [.int .i64 (1 + ((IntKind.i64.wrap span0).tmod 1000)), vg25_0]) 57) :: (Bg25_0 ++ ((b14, BK 2 (cl [.int .i64 (1 + ((IntKind.i64.wrap span0).tmod 1000)), vg16_0]) 57) :: (Bg16_0 ++ ([]))))) (lc rfl (lc rfl (lc rfl (lc rfl (lc rfl (lc rfl ln)))))) (fun _ h => h) h ⟨vg25_0, vg16_0, Bg16_0, Bg25_0, rfl, rfl, hJBg16_0, hJBg25_0, hcBg16_0, hcBg25_0⟩
                · have hq11 : (decide (i14 < (times1.length : Int))) = false := hc11
                  have hp11 : ¬ (i14 < (times1.length : Int)) := of_decide_eq_false hq11
                  rw [if_neg hp11] at h
                  refine xw_cond_f rfl rfl (xw_exit (xq_then_exit ?_))
                  exact xq_out (r := (.inl (fb14a_1, fb14_1) : ((List (Int × Int)) × (List (Int × Int))) ⊕ ((List (Int × Int)) × (List (Int × Int))))) (e' := [(3, .int .u32 now3), (10, .pointer (some ⟨b14, 0, none⟩)), (12, .pointer (some ⟨b14a, 0, none⟩))]) ((b14a, BK 2 (cl [.int .i64 (1 + ((IntKind.i64.wrap span0).tmod 1000)), vb14a_1_1]) 57) :: (Bb14a_1_1 ++ ((b14, BK 2 (cl [.int .i64 (1 + ((IntKind.i64.wrap span0).tmod 1000)), vb14_1_1]) 57) :: (Bb14_1_1 ++ ([]))))) (lc rfl (lc rfl (lc rfl ln))) (fun _ h => h) h (by intro hh; cases hh) ⟨vb14_1_1, vb14a_1_1, Bb14_1_1, Bb14a_1_1, rfl, rfl, rfl, hJb14a_1_1, hJb14_1_1, hcBb14_1_1, hcBb14a_1_1⟩
              · rcases x1 with ⟨fb14a_1, fb14_1⟩ | x1
                · rintro _ _ _ ⟨vb14_1_1o, vb14a_1_1o, Bb14_1_1o, Bb14a_1_1o, rfl, rfl, rfl, hJb14a_1_1o, hJb14_1_1o, hcBb14_1_1o, hcBb14a_1_1o⟩
                  replace h : max6_k1a span0 now3 fb14a_1 fb14_1 r := h
                  unfold max6_k1a at h
                  refine xq_blk_eq ?_
                  refine xq_then (xw_seq (xw_region ?_))
                  refine xq rfl trivial (o_mv rfl) ?_
                  refine xo rfl trivial (OT.st (fun _ h => St.permI [2, 3, 0, 1] [[(b14a, _)], Bb14a_1_1o, [(b14, _)], Bb14_1_1o] rfl h) (ot_callF (Cs := [[(b14, _)], Bb14_1_1o]) (Rs := [[(b14a, _)], Bb14a_1_1o]) kf14 rfl (fun w1 hw1 => since_c _ _ _ _ _ _ w1 hJb14_1_1o (St.hasC hw1)) (fun _ _ _ h => h.1))) ?_
                  rintro _ _ ⟨w1, _, rfl, hle, -, rfl, rfl⟩
                  refine xo_st ((b14, BK 2 (cl [.int .i64 (1 + ((IntKind.i64.wrap span0).tmod 1000)), vb14_1_1o]) 57) :: (Bb14_1_1o ++ ((b14a, BK 2 (cl [.int .i64 (1 + ((IntKind.i64.wrap span0).tmod 1000)), vb14a_1_1o]) 57) :: (Bb14a_1_1o ++ ([]))))) (fun _ h => h) ?_
                  refine xq rfl trivial (o_mv rfl) ?_
                  refine xq rfl trivial (o_ext rfl rfl) ?_
                  refine xq rfl trivial (o_ext rfl rfl) ?_
                  refine xq rfl trivial (o_as rfl) ?_
                  refine xq rfl trivial (o_as rfl) ?_
                  refine xo_nil (xq_then (xw_seq (xw_region ?_)))
                  refine xq rfl trivial (o_mv rfl) ?_
                  refine xo rfl trivial (OT.st (fun _ h => St.permI [2, 3, 0, 1] [[(b14, _)], Bb14_1_1o, [(b14a, _)], Bb14a_1_1o] rfl h) (ot_callF (Cs := [[(b14a, _)], Bb14a_1_1o]) (Rs := [[(b14, _)], Bb14_1_1o]) kf14 rfl (fun w1 hw1 => since_c _ _ _ _ _ _ w1 hJb14a_1_1o (St.hasC hw1)) (fun _ _ _ h => h.1))) ?_
                  rintro _ _ ⟨w1, _, rfl, hle, -, rfl, rfl⟩
                  refine xo_st ((b14a, BK 2 (cl [.int .i64 (1 + ((IntKind.i64.wrap span0).tmod 1000)), vb14a_1_1o]) 57) :: (Bb14a_1_1o ++ ((b14, BK 2 (cl [.int .i64 (1 + ((IntKind.i64.wrap span0).tmod 1000)), vb14_1_1o]) 57) :: (Bb14_1_1o ++ ([]))))) (fun _ h => h) ?_
                  refine xq rfl trivial (o_mv rfl) ?_
                  refine xq rfl trivial (o_ext rfl rfl) ?_
                  refine xq rfl trivial (o_ext rfl rfl) ?_
                  refine xq rfl trivial (o_as rfl) ?_
                  refine xq rfl trivial (o_as rfl) ?_
                  refine xo_nil (xq_then (xw_seq (xw_region ?_)))
                  refine xq rfl trivial (o_as rfl) ?_
                  refine xo_nil (xq_then (xw_seq (xw_region ?_)))
                  refine xq rfl trivial (o_mv rfl) ?_
                  refine xq rfl trivial (o_mv rfl) ?_
                  refine xq rfl trivial (o_conv rfl Try.underlying23 Try.underlying3) ?_
                  obtain ⟨ho32, h⟩ := h
                  refine xo rfl trivial (OT.st (fun _ h => h) (ot_callF (Cs := [[(b14a, _)], Bb14a_1_1o]) (Rs := [[(b14, _)], Bb14_1_1o]) kf10 rfl (fun w1 hw1 => due_c _ _ _ _ _ _ w1 hJb14a_1_1o (St.hasC hw1) ho32) (fun _ _ _ h => h.1))) ?_
                  rintro vs35 _ ⟨w1, _, rfl, hle, -, _, Bs35, rfl, rfl, hJs35, hcBs35⟩
                  replace hcBs35 := Cov.base (w0 := w) hcBs35 hle
                  refine xo_st ((b14a, BK 2 (cl [.int .i64 (1 + ((IntKind.i64.wrap span0).tmod 1000)), vb14a_1_1o]) 57) :: (Bb14a_1_1o ++ (Bs35 ++ ((b14, BK 2 (cl [.int .i64 (1 + ((IntKind.i64.wrap span0).tmod 1000)), vb14_1_1o]) 57) :: (Bb14_1_1o ++ ([])))))) (fun _ h => h) ?_
                  refine xq rfl trivial (o_as rfl) ?_
                  refine xo_nil (xq_then (xw_seq (xw_seq (xw_region ?_))))
                  refine xq rfl trivial (o_as rfl) ?_
                  refine xo_nil (xq_then ?_)
                  refine xw_block ?_
                  obtain ⟨due20, hx2, h⟩ := h
                  refine xw_wh (fun s e H => match s with | (due20, i22) => e = [(3, .int .u32 now3), (10, .pointer (some ⟨b14, 0, none⟩)), (16, .int .i64 ((since_F (1 + ((IntKind.i64.wrap span0).tmod 1000)) fb14_1 5).1)), (17, errV 54 ((since_F (1 + ((IntKind.i64.wrap span0).tmod 1000)) fb14_1 5).2)), (18, .int .i64 ((since_F (1 + ((IntKind.i64.wrap span0).tmod 1000)) fb14a_1 5).1)), (19, errV 54 ((since_F (1 + ((IntKind.i64.wrap span0).tmod 1000)) fb14a_1 5).2)), (20, .bool (due20)), (21, vs35), (22, .int .i64 i22)] ∧ H = Bs35 ++ ((b14, BK 2 (cl [.int .i64 (1 + ((IntKind.i64.wrap span0).tmod 1000)), vb14_1_1o]) 57) :: (Bb14_1_1o ++ ([])))) (fun (due20 : Bool) ex e H => ex = .exit 2 ∧ e = [(3, .int .u32 now3), (10, .pointer (some ⟨b14, 0, none⟩)), (16, .int .i64 ((since_F (1 + ((IntKind.i64.wrap span0).tmod 1000)) fb14_1 5).1)), (17, errV 54 ((since_F (1 + ((IntKind.i64.wrap span0).tmod 1000)) fb14_1 5).2)), (18, .int .i64 ((since_F (1 + ((IntKind.i64.wrap span0).tmod 1000)) fb14a_1 5).1)), (19, errV 54 ((since_F (1 + ((IntKind.i64.wrap span0).tmod 1000)) fb14a_1 5).2)), (20, .bool (due20))] ∧ H = Bs35 ++ ((b14, BK 2 (cl [.int .i64 (1 + ((IntKind.i64.wrap span0).tmod 1000)), vb14_1_1o]) 57) :: (Bb14_1_1o ++ ([])))) hx2 ⟨[(3, .int .u32 now3), (10, .pointer (some ⟨b14, 0, none⟩)), (16, .int .i64 ((since_F (1 + ((IntKind.i64.wrap span0).tmod 1000)) fb14_1 5).1)), (17, errV 54 ((since_F (1 + ((IntKind.i64.wrap span0).tmod 1000)) fb14_1 5).2)), (18, .int .i64 ((since_F (1 + ((IntKind.i64.wrap span0).tmod 1000)) fb14a_1 5).1)), (19, errV 54 ((since_F (1 + ((IntKind.i64.wrap span0).tmod 1000)) fb14a_1 5).2)), (20, .bool false), (21, vs35), (22, .int .i64 0)], Bs35 ++ ((b14, BK 2 (cl [.int .i64 (1 + ((IntKind.i64.wrap span0).tmod 1000)), vb14_1_1o]) 57) :: (Bb14_1_1o ++ ([]))), (lc rfl (lc rfl (lc rfl (lc rfl (lc rfl (lc rfl (lc rfl (lc rfl (lc rfl ln))))))))), Kp.st (Kp.new hb14a (Kp.segNew (Cov.fresh hcBb14a_1_1o) (Kp.segKeep (Kp.keep (Kp.segKeep Kp.nil))))), ⟨rfl, rfl⟩⟩ ?_ ?_
                  · rintro ⟨due20, i22⟩ o _ _ ⟨rfl, rfl⟩ hb
                    have h : max6_l2 span0 now3 fb14a_1 due20 i22 o := hb
                    clear hb
                    unfold max6_l2 at h
                    refine xw_seq (xw_seq (xw_region ?_))
                    refine xq rfl trivial (o_mv rfl) ?_
                    refine xq rfl trivial (o_mv rfl) ?_
                    refine xq rfl trivial (o_lenL rfl Try.underlying31 rfl (OJ.val hJs35)) ?_
                    refine xq rfl trivial (o_lss rfl rfl) ?_
                    refine xo_nil (xq_then ?_)
                    refine xw_bool 116 rfl (fun hc36 => ?_) (fun hc36 => ?_)
                    · have hq36 : (decide (i22 < ((due_F (1 + ((IntKind.i64.wrap span0).tmod 1000)) fb14a_1 (IntKind.i64.wrap now3)).length : Int))) = true := hc36
                      have hp36 : i22 < ((due_F (1 + ((IntKind.i64.wrap span0).tmod 1000)) fb14a_1 (IntKind.i64.wrap now3)).length : Int) := of_decide_eq_true hq36
                      rw [if_pos hp36] at h
                      refine xw_cond_t rfl rfl (xw_skip (xq_then (xw_seq ?_)))
                      refine xw_block ?_
                      obtain ⟨ho37, h⟩ := h
                      refine xw_cut [(3, _), (10, _), (16, _), (17, _), (18, _), (19, _), (21, _), (22, _)] (lc rfl (lc rfl (lc rfl (lc rfl (lc rfl (lc rfl (lc rfl (lc rfl ln)))))))) [(20, .bool ((due20) || (decide ((due_F (1 + ((IntKind.i64.wrap span0).tmod 1000)) fb14a_1 (IntKind.i64.wrap now3))[i22.toNat]! = 5))))] ?_ ?_
                      · refine xw_region ?_
                        refine xq rfl trivial (o_mv rfl) ?_
                        refine xq rfl trivial (o_mv rfl) ?_
                        refine xo_bool 120 rfl (fun hg38 => ?_) (fun hg38 => ?_)
                        · have hq38 : (due20) = true := hg38
                          have hp38 : (due20) = true := hq38
                          refine xs rfl ⟨_, _, rfl, rfl, rfl⟩ (xs rfl ⟨_, _, rfl, rfl, rfl⟩ (xs rfl ⟨_, _, rfl, rfl, rfl⟩ (xs rfl ⟨_, _, rfl, rfl, rfl⟩ (xs rfl ⟨_, _, rfl, rfl, rfl⟩ ?_))))
                          refine xq rfl trivial (o_pick_t rfl rfl) ?_
                          refine xq rfl trivial (o_as rfl) ?_
                          refine xo_nil ?_
                          exact xq_cut ((lce rfl (by first | rfl | (simp only [hq36, hq38, if_pos hp36, if_pos hp38, bS]; done) | (simp [hp36, hp38]; done) | (simp_all; done)) (lc rfl (lc rfl (lc rfl (lc rfl (lc rfl (lc rfl (lc rfl (lc rfl ln)))))))))) (fun _ h => h)
                        · have hq38 : (due20) = false := hg38
                          have hp38 : ¬ ((due20) = true) := bne' hq38
                          refine xq rfl ⟨_, rfl, rfl⟩ (o_mv rfl) ?_
                          refine xq rfl ⟨_, rfl, rfl⟩ (o_mv rfl) ?_
                          refine xq rfl ⟨_, rfl, rfl⟩ (o_ixL el31 rfl rfl (fun w hw => (hJs35.sl hw (Pull.sub (.here _ _)))) rfl (ho37 (by first | exact hg38 | (simp only [hq36, hq38, if_pos hp36, if_neg hp38, bS]; done) | (simp [hp36, hp38]; done) | (simp_all; done)))) ?_
                          refine xq rfl ⟨_, rfl, rfl⟩ (o_ldL1 (off := 0) (u := .int .i64 ((due_F (1 + ((IntKind.i64.wrap span0).tmod 1000)) fb14a_1 (IntKind.i64.wrap now3))[i22.toNat]!)) rfl ts3 rfl (fun w hw => (hJs35.sl hw (Pull.sub (.here _ _)))) (toNat_lt (ho37 (by first | exact hg38 | (simp only [hq36, hq38, if_pos hp36, if_neg hp38, bS]; done) | (simp [hp36, hp38]; done) | (simp_all; done)))) rfl rfl) ?_
                          refine xq rfl ⟨_, rfl, rfl⟩ (o_eql rfl rfl) ?_
                          refine xq rfl trivial (o_pick_f rfl rfl) ?_
                          refine xq rfl trivial (o_as rfl) ?_
                          refine xo_nil ?_
                          exact xq_cut ((lce rfl (by first | rfl | (simp only [hq36, hq38, if_pos hp36, if_neg hp38, bS]; done) | (simp [hp36, hp38]; done) | (simp_all; done)) (lc rfl (lc rfl (lc rfl (lc rfl (lc rfl (lc rfl (lc rfl (lc rfl ln)))))))))) (fun _ h => h)
                      · refine xq_blk 3 ?_
                        refine xq_then (xw_region ?_)
                        refine xq rfl trivial (o_mv rfl) ?_
                        obtain ⟨ho39, h⟩ := h
                        refine xq rfl trivial (o_add rfl rfl rfl ho39) ?_
                        refine xq rfl trivial (o_as rfl) ?_
                        refine xo_nil ?_
                        exact xq_next (s' := (((due20) || (decide ((due_F (1 + ((IntKind.i64.wrap span0).tmod 1000)) fb14a_1 (IntKind.i64.wrap now3))[i22.toNat]! = 5)), i22 + 1) : Bool × Int)) (e' := [(3, .int .u32 now3), (10, .pointer (some ⟨b14, 0, none⟩)), (16, .int .i64 ((since_F (1 + ((IntKind.i64.wrap span0).tmod 1000)) fb14_1 5).1)), (17, errV 54 ((since_F (1 + ((IntKind.i64.wrap span0).tmod 1000)) fb14_1 5).2)), (18, .int .i64 ((since_F (1 + ((IntKind.i64.wrap span0).tmod 1000)) fb14a_1 5).1)), (19, errV 54 ((since_F (1 + ((IntKind.i64.wrap span0).tmod 1000)) fb14a_1 5).2)), (20, .bool ((due20) || (decide ((due_F (1 + ((IntKind.i64.wrap span0).tmod 1000)) fb14a_1 (IntKind.i64.wrap now3))[i22.toNat]! = 5)))), (21, vs35), (22, .int .i64 (i22 + 1))]) (Bs35 ++ ((b14, BK 2 (cl [.int .i64 (1 + ((IntKind.i64.wrap span0).tmod 1000)), vb14_1_1o]) 57) :: (Bb14_1_1o ++ ([])))) (lc rfl (lc rfl (lc rfl (lc rfl (lc rfl (lc rfl (lc rfl (lc rfl (lc rfl ln))))))))) (fun _ h => h) h ⟨rfl, rfl⟩
                    · have hq36 : (decide (i22 < ((due_F (1 + ((IntKind.i64.wrap span0).tmod 1000)) fb14a_1 (IntKind.i64.wrap now3)).length : Int))) = false := hc36
                      have hp36 : ¬ (i22 < ((due_F (1 + ((IntKind.i64.wrap span0).tmod 1000)) fb14a_1 (IntKind.i64.wrap now3)).length : Int)) := of_decide_eq_false hq36
                      rw [if_neg hp36] at h
                      refine xw_cond_f rfl rfl (xw_exit (xq_then_exit ?_))
                      exact xq_out (r := (due20 : Bool)) (e' := [(3, .int .u32 now3), (10, .pointer (some ⟨b14, 0, none⟩)), (16, .int .i64 ((since_F (1 + ((IntKind.i64.wrap span0).tmod 1000)) fb14_1 5).1)), (17, errV 54 ((since_F (1 + ((IntKind.i64.wrap span0).tmod 1000)) fb14_1 5).2)), (18, .int .i64 ((since_F (1 + ((IntKind.i64.wrap span0).tmod 1000)) fb14a_1 5).1)), (19, errV 54 ((since_F (1 + ((IntKind.i64.wrap span0).tmod 1000)) fb14a_1 5).2)), (20, .bool (due20))]) (Bs35 ++ ((b14, BK 2 (cl [.int .i64 (1 + ((IntKind.i64.wrap span0).tmod 1000)), vb14_1_1o]) 57) :: (Bb14_1_1o ++ ([])))) (lc rfl (lc rfl (lc rfl (lc rfl (lc rfl (lc rfl (lc rfl ln))))))) (fun _ h => h) h (by intro hh; cases hh) ⟨rfl, rfl, rfl⟩
                  · rintro _ _ _ ⟨rfl, rfl, rfl⟩
                    replace h : max6_k2a span0 now3 fb14a_1 fb14_1 due20 r := h
                    unfold max6_k2a at h
                    refine xq_blk_eq ?_
                    refine xq_then (xw_seq (xw_region ?_))
                    refine xq rfl trivial (o_mv rfl) ?_
                    refine xq rfl trivial (o_mv rfl) ?_
                    refine xq rfl trivial (o_eql rfl rfl) ?_
                    refine xq rfl trivial (o_mv rfl) ?_
                    refine xo_bool 130 rfl (fun hg40 => ?_) (fun hg40 => ?_)
                    · have hq40 : (decide ((since_F (1 + ((IntKind.i64.wrap span0).tmod 1000)) fb14_1 5).1 = (since_F (1 + ((IntKind.i64.wrap span0).tmod 1000)) fb14a_1 5).1)) = true := hg40
                      have hp40 : (since_F (1 + ((IntKind.i64.wrap span0).tmod 1000)) fb14_1 5).1 = (since_F (1 + ((IntKind.i64.wrap span0).tmod 1000)) fb14a_1 5).1 := of_decide_eq_true hq40
                      rw [if_pos hp40] at h
                      refine xq rfl ⟨_, rfl, rfl⟩ (o_mv rfl) ?_
                      refine xcallq rfl ⟨_, rfl, rfl⟩ kf15 rfl (fun w1 hw1 => code_c _ w1) ?_
                      refine xq rfl ⟨_, rfl, rfl⟩ (o_mv rfl) ?_
                      refine xcallq rfl ⟨_, rfl, rfl⟩ kf15 rfl (fun w1 hw1 => code_c _ w1) ?_
                      refine xq rfl ⟨_, rfl, rfl⟩ (o_eql rfl rfl) ?_
                      refine xq rfl trivial (o_pick_t rfl rfl) ?_
                      refine xq rfl trivial (o_mv rfl) ?_
                      refine xo_bool 137 rfl (fun hg41 => ?_) (fun hg41 => ?_)
                      · have hq41 : (decide ((code_F ((since_F (1 + ((IntKind.i64.wrap span0).tmod 1000)) fb14_1 5).2)) = (code_F ((since_F (1 + ((IntKind.i64.wrap span0).tmod 1000)) fb14a_1 5).2)))) = true := hg41
                        have hp41 : (code_F ((since_F (1 + ((IntKind.i64.wrap span0).tmod 1000)) fb14_1 5).2)) = (code_F ((since_F (1 + ((IntKind.i64.wrap span0).tmod 1000)) fb14a_1 5).2)) := of_decide_eq_true hq41
                        rw [if_pos hp41] at h
                        refine xq rfl ⟨_, rfl, rfl⟩ (o_mv rfl) ?_
                        refine xq rfl ⟨_, rfl, rfl⟩ (o_mv rfl) ?_
                        refine xq rfl ⟨_, rfl, rfl⟩ (o_conv rfl Try.underlying23 Try.underlying3) ?_
                        obtain ⟨ho42, h⟩ := h
                        refine xo rfl ⟨_, rfl, rfl⟩ (OT.st (fun _ h => St.permI [1, 2, 0] [Bs35, [(b14, _)], Bb14_1_1o] rfl h) (ot_callF (Cs := [[(b14, _)], Bb14_1_1o]) (Rs := [Bs35]) kf10 rfl (fun w1 hw1 => due_c _ _ _ _ _ _ w1 hJb14_1_1o (St.hasC hw1) ho42) (fun _ _ _ h => h.1))) ?_
                        rintro vs45 _ ⟨w1, _, rfl, hle, -, _, Bs45, rfl, rfl, hJs45, hcBs45⟩
                        replace hcBs45 := Cov.base (w0 := w) hcBs45 hle
                        refine xo_st ((b14, BK 2 (cl [.int .i64 (1 + ((IntKind.i64.wrap span0).tmod 1000)), vb14_1_1o]) 57) :: (Bb14_1_1o ++ (Bs45 ++ (Bs35 ++ ([]))))) (fun _ h => h) ?_
                        refine xq rfl ⟨_, rfl, rfl⟩ (o_lenL rfl Try.underlying31 rfl (OJ.val hJs45)) ?_
                        refine xq rfl ⟨_, rfl, rfl⟩ (o_gtr rfl rfl) ?_
                        refine xq rfl ⟨_, rfl, rfl⟩ (o_mv rfl) ?_
                        refine xq rfl ⟨_, rfl, rfl⟩ (o_eqlB Try.underlying4 rfl rfl) ?_
                        refine xq rfl trivial (o_pick_t rfl rfl) ?_
                        refine xq rfl trivial (o_as rfl) ?_
                        refine xo_nil (xq_then (xw_ret ?_))
                        subst h
                        exact con_ret1 (.inl rfl) Try.results4 rfl [] (Kp.st (Kp.new hb14 (Kp.segNew (Cov.fresh hcBb14_1_1o) (Kp.segNew (Cov.fresh hcBs45) (Kp.segNew (Cov.fresh hcBs35) Kp.nil))))) (⟨rfl, rfl⟩)
                      · have hq41 : (decide ((code_F ((since_F (1 + ((IntKind.i64.wrap span0).tmod 1000)) fb14_1 5).2)) = (code_F ((since_F (1 + ((IntKind.i64.wrap span0).tmod 1000)) fb14a_1 5).2)))) = false := hg41
                        have hp41 : ¬ ((code_F ((since_F (1 + ((IntKind.i64.wrap span0).tmod 1000)) fb14_1 5).2)) = (code_F ((since_F (1 + ((IntKind.i64.wrap span0).tmod 1000)) fb14a_1 5).2))) := of_decide_eq_false hq41
                        rw [if_neg hp41] at h
                        refine xs rfl ⟨_, _, rfl, rfl, rfl⟩ (xs rfl ⟨_, _, rfl, rfl, rfl⟩ (xs rfl ⟨_, _, rfl, rfl, rfl⟩ (xs rfl ⟨_, _, rfl, rfl, rfl⟩ (xs rfl ⟨_, _, rfl, rfl, rfl⟩ (xs rfl ⟨_, _, rfl, rfl, rfl⟩ (xs rfl ⟨_, _, rfl, rfl, rfl⟩ (xs rfl ⟨_, _, rfl, rfl, rfl⟩ ?_)))))))
                        refine xq rfl trivial (o_pick_f rfl rfl) ?_
                        refine xq rfl trivial (o_as rfl) ?_
                        refine xo_nil (xq_then (xw_ret ?_))
                        subst h
                        exact con_ret1 (.inl rfl) Try.results4 rfl [] (Kp.st (Kp.segNew (Cov.fresh hcBs35) (Kp.new hb14 (Kp.segNew (Cov.fresh hcBb14_1_1o) Kp.nil)))) (⟨rfl, rfl⟩)
                    · have hq40 : (decide ((since_F (1 + ((IntKind.i64.wrap span0).tmod 1000)) fb14_1 5).1 = (since_F (1 + ((IntKind.i64.wrap span0).tmod 1000)) fb14a_1 5).1)) = false := hg40
                      have hp40 : ¬ ((since_F (1 + ((IntKind.i64.wrap span0).tmod 1000)) fb14_1 5).1 = (since_F (1 + ((IntKind.i64.wrap span0).tmod 1000)) fb14a_1 5).1) := of_decide_eq_false hq40
                      rw [if_neg hp40] at h
                      refine xs rfl ⟨_, _, rfl, rfl, rfl⟩ (xs rfl ⟨_, _, rfl, rfl, rfl⟩ (xs rfl ⟨_, _, rfl, rfl, rfl⟩ (xs rfl ⟨_, _, rfl, rfl, rfl⟩ (xs rfl ⟨_, _, rfl, rfl, rfl⟩ ?_))))
                      refine xq rfl trivial (o_pick_f rfl rfl) ?_
                      refine xq rfl trivial (o_mv rfl) ?_
                      refine xs rfl ⟨_, _, rfl, rfl, rfl⟩ (xs rfl ⟨_, _, rfl, rfl, rfl⟩ (xs rfl ⟨_, _, rfl, rfl, rfl⟩ (xs rfl ⟨_, _, rfl, rfl, rfl⟩ (xs rfl ⟨_, _, rfl, rfl, rfl⟩ (xs rfl ⟨_, _, rfl, rfl, rfl⟩ (xs rfl ⟨_, _, rfl, rfl, rfl⟩ (xs rfl ⟨_, _, rfl, rfl, rfl⟩ ?_)))))))
                      refine xq rfl trivial (o_pick_f rfl rfl) ?_
                      refine xq rfl trivial (o_as rfl) ?_
                      refine xo_nil (xq_then (xw_ret ?_))
                      subst h
                      exact con_ret1 (.inl rfl) Try.results4 rfl [] (Kp.st (Kp.segNew (Cov.fresh hcBs35) (Kp.new hb14 (Kp.segNew (Cov.fresh hcBb14_1_1o) Kp.nil)))) (⟨rfl, rfl⟩)
                obtain ⟨fb14a_1, fb14_1⟩ := x1
                rintro _ _ _ ⟨vb14_1_1o, vb14a_1_1o, Bb14_1_1o, Bb14a_1_1o, rfl, rfl, rfl, hJb14a_1_1o, hJb14_1_1o, hcBb14_1_1o, hcBb14a_1_1o⟩
                replace h : max6_k1b fb14a_1 fb14_1 r := h
                unfold max6_k1b at h
                refine xq_blk_ret (xq_then_ret ?_)
                subst h
                exact con_ret1 (.inl rfl) Try.results4 rfl [] (Kp.st (Kp.new hb14a (Kp.segNew (Cov.fresh hcBb14a_1_1o) (Kp.new hb14 (Kp.segNew (Cov.fresh hcBb14_1_1o) Kp.nil))))) (⟨rfl, rfl⟩)

theorem none6_con (id0 : Int) (now1 : Int) (w : World) (r : Bool) (h : none6_S id0 now1 r) : Con Try.prog 6 #[.int .i64 id0, .int .i64 now1] w (Is (.bool r) []) := by
  unfold none6_S at h
  refine con_enter (n := 49) [(0, _), (1, _)] Try.func6 rfl Try.ntmps6 rfl (lac rfl (lac rfl lan)) ?_
  refine xw_seq (xw_region ?_)
  refine xq rfl trivial (o_as rfl) ?_
  refine xo_nil (xq_then (xw_seq (xw_seq (xw_region ?_))))
  obtain ⟨ho1, h⟩ := h
  refine xcallq rfl trivial kf7 rfl (fun w1 hw1 => alive06_c w1 ho1) ?_
  refine xq rfl trivial (o_not rfl) ?_
  refine xo_nil (xq_then ?_)
  refine xw_bool 9 rfl (fun hc2 => ?_) (fun hc2 => ?_)
  · have hq2 : (alive06_F) = false := (bnT hc2)
    have hp2 : ¬ ((alive06_F) = true) := bne' hq2
    rw [if_neg hp2] at h
    refine xw_cond_t rfl rfl (xw_seq (xw_region ?_))
    refine xq rfl trivial (o_as rfl) ?_
    refine xo_nil (xq_then (xw_ret (xq_then_ret ?_)))
    subst h
    exact con_ret1 (.inl rfl) Try.results6 rfl [] (fun _ h => h) (⟨rfl, rfl⟩)
  · have hq2 : (alive06_F) = true := (bnF hc2)
    have hp2 : (alive06_F) = true := hq2
    rw [if_pos hp2] at h
    refine xw_cond_f rfl rfl (xw_skip (xq_then (xw_seq (xw_region ?_))))
    refine xq rfl trivial (o_as rfl) ?_
    refine xo_nil (xq_then (xw_seq (xw_region ?_)))
    refine xq rfl trivial (o_mv rfl) ?_
    refine xq rfl trivial (o_mv rfl) ?_
    refine xoR rfl trivial (ot_in (l := [(0, _), (1, _)]) kf14 rfl Try.func14 rfl Try.ntmps14 rfl (lac rfl (lac rfl lan)) ?_)
    refine xw_seq (xw_region ?_)
    refine xq rfl trivial (o_as rfl) ?_
    refine xq rfl trivial (o_as rfl) ?_
    refine xo_nil (xq_then (xw_seq (xw_seq (xw_region ?_))))
    refine xq rfl trivial (o_mv rfl) ?_
    refine xq rfl trivial (o_eqn Try.underlying25 rfl rfl rfl rfl) ?_
    refine xo_nil (xq_then (xw_cond_t rfl rfl (xw_seq (xw_region ?_))))
    refine xq rfl trivial (o_mki rfl Try.underlying54 rfl) ?_
    refine xq rfl trivial (o_as rfl) ?_
    refine xq rfl trivial (o_as rfl) ?_
    refine xo_nil (xq_then (xw_ret (xq_then_ret ?_)))
    refine con_ret2 (.inl rfl) Try.results14 rfl rfl _ (fun _ h => h) (?_)
    refine xq rfl trivial (o_mv rfl) ?_
    refine xq rfl trivial (o_ext rfl rfl) ?_
    refine xq rfl trivial (o_ext rfl rfl) ?_
    refine xq rfl trivial (o_as rfl) ?_
    refine xq rfl trivial (o_as rfl) ?_
    refine xo_nil (xq_then (xw_seq (xw_region ?_)))
    refine xq rfl trivial (o_mv rfl) ?_
    refine xq rfl trivial (o_mv rfl) ?_
    refine xq rfl trivial (o_mv rfl) ?_
    refine xoR rfl trivial (ot_in (l := [(0, _), (1, _), (2, _)]) kf9 rfl Try.func9 rfl Try.ntmps9 rfl (lac rfl (lac rfl (lac rfl lan))) ?_)
    refine xw_seq (xw_region ?_)
    refine xq rfl trivial (o_as rfl) ?_
    refine xo_nil (xq_then (xw_seq (xw_seq ?_)))
    refine xw_cut [(0, _), (1, _), (2, _)] (lc rfl (lc rfl (lc rfl ln))) [(17, .bool true)] ?_ ?_
    · refine xw_region ?_
      refine xq rfl trivial (o_mv rfl) ?_
      refine xq rfl trivial (o_eqn Try.underlying25 rfl rfl rfl rfl) ?_
      refine xq rfl trivial (o_mv rfl) ?_
      refine xs rfl ⟨_, _, rfl, rfl, rfl⟩ (xs rfl ⟨_, _, rfl, rfl, rfl⟩ ?_)
      refine xq rfl trivial (o_pick_t rfl rfl) ?_
      refine xq rfl trivial (o_mv rfl) ?_
      refine xs rfl ⟨_, _, rfl, rfl, rfl⟩ (xs rfl ⟨_, _, rfl, rfl, rfl⟩ (xs rfl ⟨_, _, rfl, rfl, rfl⟩ ?_))
      refine xq rfl trivial (o_pick_t rfl rfl) ?_
      refine xo_nil ?_
      exact xq_cut ((lce rfl (by first | rfl | (simp only [hq2, if_pos hp2, bS]; done) | (simp [hp2]; done) | (simp_all; done)) (lc rfl (lc rfl (lc rfl ln))))) (fun _ h => h)
    · refine xq_then (xw_cond_t rfl rfl (xw_seq (xw_region ?_)))
      refine xq rfl trivial (o_mki rfl Try.underlying54 rfl) ?_
      refine xq rfl trivial (o_as rfl) ?_
      refine xo_nil (xq_then (xw_ret (xq_then_ret ?_)))
      refine con_ret1 (.inl rfl) Try.results9 rfl _ (fun _ h => h) (?_)
      refine xcallq rfl trivial kf15 rfl (fun w1 hw1 => code_c 1 w1) ?_
      refine xq rfl trivial (o_eql rfl rfl) ?_
      refine xq rfl trivial (o_mv rfl) ?_
      refine xo_bool 22 rfl (fun hg3 => ?_) (fun hg3 => ?_)
      · have hq3 : (decide ((code_F 1) = 1)) = true := hg3
        have hp3 : (code_F 1) = 1 := of_decide_eq_true hq3
        rw [if_pos hp3] at h
        refine xq rfl ⟨_, rfl, rfl⟩ (o_mv rfl) ?_
        refine xq rfl ⟨_, rfl, rfl⟩ (o_mv rfl) ?_
        refine xoR rfl ⟨_, rfl, rfl⟩ (ot_in (l := [(0, _), (1, _)]) kf12 rfl Try.func12 rfl Try.ntmps12 rfl (lac rfl (lac rfl lan)) ?_)
        refine xw_seq (xw_region ?_)
        refine xq rfl trivial (o_as rfl) ?_
        refine xo_nil (xq_then (xw_seq (xw_seq (xw_region ?_))))
        refine xq rfl trivial (o_mv rfl) ?_
        refine xq rfl trivial (o_eqn Try.underlying25 rfl rfl rfl rfl) ?_
        refine xo_nil (xq_then (xw_cond_t rfl rfl (xw_seq (xw_region ?_))))
        refine xq rfl trivial (o_mki rfl Try.underlying54 rfl) ?_
        refine xq rfl trivial (o_as rfl) ?_
        refine xo_nil (xq_then (xw_ret (xq_then_ret ?_)))
        refine con_ret1 (.inl rfl) Try.results12 rfl _ (fun _ h => h) (?_)
        refine xcallq rfl ⟨_, rfl, rfl⟩ kf15 rfl (fun w1 hw1 => code_c 1 w1) ?_
        refine xq rfl ⟨_, rfl, rfl⟩ (o_eql rfl rfl) ?_
        refine xq rfl trivial (o_pick_t rfl rfl) ?_
        refine xq rfl trivial (o_mv rfl) ?_
        refine xo_val 29 rfl (v' := .bool true) (congrArg Value.bool (by simpa using hp3)) ?_
        refine xq rfl ⟨_, rfl, rfl⟩ (o_mv rfl) ?_
        refine xq rfl ⟨_, rfl, rfl⟩ (o_eql rfl rfl) ?_
        refine xq rfl trivial (o_pick_t rfl rfl) ?_
        refine xq rfl trivial (o_mv rfl) ?_
        refine xq rfl ⟨_, rfl, rfl⟩ (o_mv rfl) ?_
        refine xcallq rfl ⟨_, rfl, rfl⟩ kf15 rfl (fun w1 hw1 => code_c 1 w1) ?_
        refine xq rfl ⟨_, rfl, rfl⟩ (o_eql rfl rfl) ?_
        refine xq rfl trivial (o_pick_t rfl rfl) ?_
        refine xq rfl trivial (o_mv rfl) ?_
        refine xo_val 38 rfl (v' := .bool true) (congrArg Value.bool (by simpa using hp3)) ?_
        refine xq rfl ⟨_, rfl, rfl⟩ (o_mv rfl) ?_
        refine xq rfl ⟨_, rfl, rfl⟩ (o_mv rfl) ?_
        refine xoR rfl ⟨_, rfl, rfl⟩ (ot_in (l := [(0, _), (1, _)]) kf10 rfl Try.func10 rfl Try.ntmps10 rfl (lac rfl (lac rfl lan)) ?_)
        refine xw_seq (xw_region ?_)
        refine xq rfl trivial (o_as rfl) ?_
        refine xo_nil (xq_then (xw_seq (xw_region ?_)))
        refine xq rfl trivial (o_as rfl) ?_
        refine xo_nil (xq_then (xw_seq (xw_seq (xw_region ?_))))
        refine xq rfl trivial (o_mv rfl) ?_
        refine xoR rfl trivial (ot_in (l := [(0, _)]) kf13 rfl Try.func13 rfl Try.ntmps13 rfl (lac rfl lan) ?_)
        refine xw_seq (xw_region ?_)
        refine xq rfl trivial (o_as rfl) ?_
        refine xo_nil (xq_then (xw_seq (xw_seq (xw_region ?_))))
        refine xq rfl trivial (o_mv rfl) ?_
        refine xq rfl trivial (o_eqn Try.underlying25 rfl rfl rfl rfl) ?_
        refine xo_nil (xq_then (xw_cond_t rfl rfl (xw_seq (xw_region ?_))))
        refine xq rfl trivial (o_as rfl) ?_
        refine xo_nil (xq_then (xw_ret (xq_then_ret ?_)))
        refine con_ret1 (.inl rfl) Try.results13 rfl _ (fun _ h => h) (?_)
        refine xq rfl trivial (o_lenL (l := ([] : List Int)) rfl Try.underlying31 rfl ⟨none, 0, rfl⟩) ?_
        refine xq rfl trivial (o_mv rfl) ?_
        refine xo_nil (xq_then ?_)
        refine xw_block ?_
        refine xw_rounds 60 ?_
        refine xr_succ ?_
        refine xw_seq (xw_region ?_)
        refine xq rfl trivial (o_lss rfl rfl) ?_
        refine xo_nil (xq_then (xw_seq (xw_cond_f rfl rfl (xw_exit (xq_then_exit (xq_then_exit ?_))))))
        refine xq_blk_eq ?_
        refine xq_then (xw_seq (xw_region ?_))
        refine xq rfl trivial (o_mv rfl) ?_
        refine xq rfl trivial (o_as rfl) ?_
        refine xo_nil (xq_then (xw_ret ?_))
        refine con_ret1 (.inl rfl) Try.results10 rfl _ (fun _ h => h) (?_)
        refine xq rfl ⟨_, rfl, rfl⟩ (o_lenL (l := ([] : List Int)) rfl Try.underlying31 rfl ⟨none, 0, rfl⟩) ?_
        refine xq rfl ⟨_, rfl, rfl⟩ (o_mv rfl) ?_
        refine xoR rfl ⟨_, rfl, rfl⟩ (ot_in (l := [(0, _)]) kf13 rfl Try.func13 rfl Try.ntmps13 rfl (lac rfl lan) ?_)
        refine xw_seq (xw_region ?_)
        refine xq rfl trivial (o_as rfl) ?_
        refine xo_nil (xq_then (xw_seq (xw_seq (xw_region ?_))))
        refine xq rfl trivial (o_mv rfl) ?_
        refine xq rfl trivial (o_eqn Try.underlying25 rfl rfl rfl rfl) ?_
        refine xo_nil (xq_then (xw_cond_t rfl rfl (xw_seq (xw_region ?_))))
        refine xq rfl trivial (o_as rfl) ?_
        refine xo_nil (xq_then (xw_ret (xq_then_ret ?_)))
        refine con_ret1 (.inl rfl) Try.results13 rfl _ (fun _ h => h) (?_)
        refine xq rfl ⟨_, rfl, rfl⟩ (o_lenL (l := ([] : List Int)) rfl Try.underlying31 rfl ⟨none, 0, rfl⟩) ?_
        refine xq rfl ⟨_, rfl, rfl⟩ (o_add rfl rfl rfl ⟨by first | omega | simp, by first | omega | simp⟩) ?_
        refine xq rfl ⟨_, rfl, rfl⟩ (o_eql rfl rfl) ?_
        refine xq rfl trivial (o_pick_t rfl rfl) ?_
        refine xq rfl trivial (o_as rfl) ?_
        refine xo_nil (xq_then (xw_ret ?_))
        subst h
        exact con_ret1 (.inl rfl) Try.results6 rfl [] (fun _ h => h) (⟨rfl, rfl⟩)
      · have hq3 : (decide ((code_F 1) = 1)) = false := hg3
        have hp3 : ¬ ((code_F 1) = 1) := of_decide_eq_false hq3
        rw [if_neg hp3] at h
        refine xs rfl ⟨_, _, rfl, rfl, rfl⟩ (xs rfl ⟨_, _, rfl, rfl, rfl⟩ (xs rfl ⟨_, _, rfl, rfl, rfl⟩ (xs rfl ⟨_, _, rfl, rfl, rfl⟩ (xs rfl ⟨_, _, rfl, rfl, rfl⟩ ?_))))
        refine xq rfl trivial (o_pick_f rfl rfl) ?_
        refine xq rfl trivial (o_mv rfl) ?_
        refine xs rfl ⟨_, _, rfl, rfl, rfl⟩ (xs rfl ⟨_, _, rfl, rfl, rfl⟩ ?_)
        refine xq rfl trivial (o_pick_f rfl rfl) ?_
        refine xq rfl trivial (o_mv rfl) ?_
        refine xs rfl ⟨_, _, rfl, rfl, rfl⟩ (xs rfl ⟨_, _, rfl, rfl, rfl⟩ (xs rfl ⟨_, _, rfl, rfl, rfl⟩ ?_))
        refine xq rfl trivial (o_pick_f rfl rfl) ?_
        refine xq rfl trivial (o_mv rfl) ?_
        refine xs rfl ⟨_, _, rfl, rfl, rfl⟩ (xs rfl ⟨_, _, rfl, rfl, rfl⟩ (xs rfl ⟨_, _, rfl, rfl, rfl⟩ (xs rfl ⟨_, _, rfl, rfl, rfl⟩ (xs rfl ⟨_, _, rfl, rfl, rfl⟩ (xs rfl ⟨_, _, rfl, rfl, rfl⟩ (xs rfl ⟨_, _, rfl, rfl, rfl⟩ (xs rfl ⟨_, _, rfl, rfl, rfl⟩ ?_)))))))
        refine xs rfl ⟨_, _, rfl, rfl, rfl⟩ ?_
        refine xq rfl trivial (o_pick_f rfl rfl) ?_
        refine xq rfl trivial (o_as rfl) ?_
        refine xo_nil (xq_then (xw_ret ?_))
        subst h
        exact con_ret1 (.inl rfl) Try.results6 rfl [] (fun _ h => h) (⟨rfl, rfl⟩)

theorem none6_c (id0 : Int) (now1 : Int) (w : World) (hP : none6_P id0 now1) : Con Try.prog 6 #[.int .i64 id0, .int .i64 now1] w (Is (.bool (none6_F id0 now1)) []) :=
  none6_con id0 now1 w _ (none6_ok id0 now1 hP)

theorem acts6_con (span0 : Int) (acts1 : (List (Nat → Int))) (now2 : Int) (id3 : Int) (v1 : Value) (w : World) (hs1 : SL w 3 iv v1 acts1) (r : Bool) (h : acts6_S span0 acts1 now2 id3 r) : Con Try.prog 5 #[.int .i64 span0, v1, .int .i64 now2, .int .i64 id3] w (Is (.bool r) []) := by
  unfold acts6_S at h
  refine con_enter (n := 188) [(0, _), (1, _), (2, _), (3, _)] Try.func5 rfl Try.ntmps5 rfl (lac rfl (lac rfl (lac rfl (lac rfl lan)))) ?_
  refine xw_seq (xw_region ?_)
  refine xq rfl trivial (o_as rfl) ?_
  refine xo_nil (xq_then (xw_seq (xw_seq (xw_region ?_))))
  obtain ⟨ho1, h⟩ := h
  refine xcallq rfl trivial kf7 rfl (fun w1 hw1 => alive06_c w1 ho1) ?_
  refine xq rfl trivial (o_not rfl) ?_
  refine xo_nil (xq_then ?_)
  refine xw_bool 23 rfl (fun hc2 => ?_) (fun hc2 => ?_)
  · have hq2 : (alive06_F) = false := (bnT hc2)
    have hp2 : ¬ ((alive06_F) = true) := bne' hq2
    rw [if_neg hp2] at h
    refine xw_cond_t rfl rfl (xw_seq (xw_region ?_))
    refine xq rfl trivial (o_as rfl) ?_
    refine xo_nil (xq_then (xw_ret (xq_then_ret ?_)))
    subst h
    exact con_ret1 (.inl rfl) Try.results5 rfl [] (fun _ h => h) (⟨rfl, rfl⟩)
  · have hq2 : (alive06_F) = true := (bnF hc2)
    have hp2 : (alive06_F) = true := hq2
    rw [if_pos hp2] at h
    refine xw_cond_f rfl rfl (xw_skip (xq_then (xw_seq (xw_seq (xw_region ?_)))))
    refine xq rfl trivial (o_mv rfl) ?_
    refine xq rfl trivial (o_lenL rfl Try.underlying42 rfl (SL.val hs1)) ?_
    refine xq rfl trivial (o_gtr rfl rfl) ?_
    refine xo_nil (xq_then ?_)
    refine xw_bool 26 rfl (fun hc3 => ?_) (fun hc3 => ?_)
    · have hq3 : (decide (200 < (acts1.length : Int))) = true := hc3
      have hp3 : 200 < (acts1.length : Int) := of_decide_eq_true hq3
      rw [if_pos hp3] at h
      refine xw_cond_t rfl rfl (xw_seq (xw_region ?_))
      refine xq rfl trivial (o_as rfl) ?_
      refine xo_nil (xq_then (xw_ret (xq_then_ret ?_)))
      subst h
      exact con_ret1 (.inl rfl) Try.results5 rfl [] (fun _ h => h) (⟨rfl, rfl⟩)
    · have hq3 : (decide (200 < (acts1.length : Int))) = false := hc3
      have hp3 : ¬ (200 < (acts1.length : Int)) := of_decide_eq_false hq3
      rw [if_neg hp3] at h
      refine xw_cond_f rfl rfl (xw_skip (xq_then (xw_seq (xw_region ?_))))
      refine xq rfl trivial (o_mv rfl) ?_
      refine xoR rfl trivial (ot_in (l := [(0, _)]) kf8 rfl Try.func8 rfl Try.ntmps8 rfl (lac rfl lan) ?_)
      refine xw_seq (xw_region ?_)
      refine xq rfl trivial (o_as rfl) ?_
      refine xq rfl trivial (o_as rfl) ?_
      refine xo_nil (xq_then (xw_seq (xw_seq ?_)))
      refine xw_cut [(0, _)] (lc rfl ln) [(9, .bool ((decide (span0 < 1)) || (decide (1000 < span0))))] ?_ ?_
      · refine xw_region ?_
        refine xq rfl trivial (o_mv rfl) ?_
        refine xq rfl trivial (o_lss rfl rfl) ?_
        refine xq rfl trivial (o_mv rfl) ?_
        refine xo_bool 6 rfl (fun hg4 => ?_) (fun hg4 => ?_)
        · have hq4 : (decide (span0 < 1)) = true := hg4
          have hp4 : span0 < 1 := of_decide_eq_true hq4
          refine xs rfl ⟨_, _, rfl, rfl, rfl⟩ (xs rfl ⟨_, _, rfl, rfl, rfl⟩ ?_)
          refine xq rfl trivial (o_pick_t rfl rfl) ?_
          refine xo_nil ?_
          exact xq_cut ((lce rfl (by first | rfl | (simp only [hq2, hq3, hq4, if_pos hp2, if_neg hp3, if_pos hp4, bS]; done) | (simp [hp2, hp3, hp4]; done) | (simp_all; done)) (lc rfl ln))) (fun _ h => h)
        · have hq4 : (decide (span0 < 1)) = false := hg4
          have hp4 : ¬ (span0 < 1) := of_decide_eq_false hq4
          refine xq rfl ⟨_, rfl, rfl⟩ (o_mv rfl) ?_
          refine xq rfl ⟨_, rfl, rfl⟩ (o_gtr rfl rfl) ?_
          refine xq rfl trivial (o_pick_f rfl rfl) ?_
          refine xo_nil ?_
          exact xq_cut ((lce rfl (by first | rfl | (simp only [hq2, hq3, hq4, if_pos hp2, if_neg hp3, if_neg hp4, bS]; done) | (simp [hp2, hp3, hp4]; done) | (simp_all; done)) (lc rfl ln))) (fun _ h => h)
      · refine xq_then ?_
        refine xw_bool 9 rfl (fun hc5 => ?_) (fun hc5 => ?_)
        · have hq5 : ((decide (span0 < 1)) || (decide (1000 < span0))) = true := hc5
          have hp5 : ((decide (span0 < 1)) || (decide (1000 < span0))) = true := hq5
          rw [if_pos hp5] at h
          refine xw_cond_t rfl rfl (xw_seq (xw_region ?_))
          refine xq rfl trivial (o_mki rfl Try.underlying54 rfl) ?_
          refine xq rfl trivial (o_as rfl) ?_
          refine xq rfl trivial (o_as rfl) ?_
          refine xo_nil (xq_then (xw_ret (xq_then_ret ?_)))
          refine con_ret2 (.inl rfl) Try.results8 rfl rfl _ (fun _ h => h) (?_)
          refine xq rfl trivial (o_mv rfl) ?_
          refine xq rfl trivial (o_ext rfl rfl) ?_
          refine xq rfl trivial (o_ext rfl rfl) ?_
          refine xq rfl trivial (o_as rfl) ?_
          refine xq rfl trivial (o_as rfl) ?_
          refine xo_nil (xq_then (xw_seq (xw_seq ?_)))
          refine xw_cut [(0, _), (1, _), (2, _), (3, _), (9, _), (10, _)] (lc rfl (lc rfl (lc rfl (lc rfl (lc rfl (lc rfl ln)))))) [(37, .bool ((decide (span0 < 1)) || (decide (1000 < span0))))] ?_ ?_
          · refine xw_region ?_
            refine xq rfl trivial (o_mv rfl) ?_
            refine xq rfl trivial (o_lss rfl rfl) ?_
            refine xq rfl trivial (o_mv rfl) ?_
            refine xo_bool 34 rfl (fun hg6 => ?_) (fun hg6 => ?_)
            · have hq6 : (decide (span0 < 1)) = true := hg6
              have hp6 : span0 < 1 := of_decide_eq_true hq6
              refine xs rfl ⟨_, _, rfl, rfl, rfl⟩ (xs rfl ⟨_, _, rfl, rfl, rfl⟩ ?_)
              refine xq rfl trivial (o_pick_t rfl rfl) ?_
              refine xo_nil ?_
              exact xq_cut ((lce rfl (by first | rfl | (simp only [hq2, hq3, hq5, hq6, if_pos hp2, if_neg hp3, if_pos hp5, if_pos hp6, bS]; done) | (simp [hp2, hp3, hp5, hp6]; done) | (simp_all; done)) (lc rfl (lc rfl (lc rfl (lc rfl (lc rfl (lc rfl ln)))))))) (fun _ h => h)
            · have hq6 : (decide (span0 < 1)) = false := hg6
              have hp6 : ¬ (span0 < 1) := of_decide_eq_false hq6
              refine xq rfl ⟨_, rfl, rfl⟩ (o_mv rfl) ?_
              refine xq rfl ⟨_, rfl, rfl⟩ (o_gtr rfl rfl) ?_
              refine xq rfl trivial (o_pick_f rfl rfl) ?_
              refine xo_nil ?_
              exact xq_cut ((lce rfl (by first | rfl | (simp only [hq2, hq3, hq5, hq6, if_pos hp2, if_neg hp3, if_pos hp5, if_neg hp6, bS]; done) | (simp [hp2, hp3, hp5, hp6]; done) | (simp_all; done)) (lc rfl (lc rfl (lc rfl (lc rfl (lc rfl (lc rfl ln)))))))) (fun _ h => h)
          · refine xq_then ?_
            refine xw_cond_t rfl (by simpa using hp5) ?_
            refine xw_seq ?_
            refine xw_cut [] ln [(8, .bool (decide ((code_F 2) = 2)))] ?_ ?_
            · refine xw_region ?_
              refine xq rfl trivial (o_mv rfl) ?_
              refine xq rfl trivial (o_eqn Try.underlying25 rfl rfl rfl rfl) ?_
              refine xq rfl trivial (o_mv rfl) ?_
              refine xq rfl ⟨_, rfl, rfl⟩ (o_mv rfl) ?_
              refine xcallq rfl ⟨_, rfl, rfl⟩ kf15 rfl (fun w1 hw1 => code_c 2 w1) ?_
              refine xq rfl ⟨_, rfl, rfl⟩ (o_eql rfl rfl) ?_
              refine xq rfl trivial (o_pick_t rfl rfl) ?_
              refine xq rfl trivial (o_as rfl) ?_
              refine xo_nil ?_
              exact xq_cut ((lce rfl (by first | rfl | (simp only [hq2, hq3, hq5, if_pos hp2, if_neg hp3, if_pos hp5, bS]; done) | (simp [hp2, hp3, hp5]; done) | (simp_all; done)) ln)) (fun _ h => h)
            · refine xq_then (xw_ret (xq_then_ret ?_))
              subst h
              exact con_ret1 (.inl rfl) Try.results5 rfl [] (fun _ h => h) (⟨rfl, rfl⟩)
        · have hq5 : ((decide (span0 < 1)) || (decide (1000 < span0))) = false := hc5
          have hp5 : ¬ (((decide (span0 < 1)) || (decide (1000 < span0))) = true) := bne' hq5
          rw [if_neg hp5] at h
          refine xw_cond_f rfl rfl (xw_skip (xq_then (xw_seq (xw_region ?_))))
          refine xq rfl trivial (o_mv rfl) ?_
          refine xo rfl trivial (o_mkmap (α := Int) (cv := kI) kt3 Try.underlying55) ?_
          rintro vs7 _ ⟨Bs7, rfl, hns7, hJs7⟩
          have hcBs7 := hns7
          refine xq rfl trivial (o_buildC [.int .i64 span0, vs7] fk57 ze57 (.one fl57_0 rfl rfl rfl (.one fl57_1 rfl rfl (MJ.one hJs7) (.nil _))) (fun i hi => match i, hi with | 0, _ => rfl | 1, _ => rfl | q + 2, h => absurd h (by omega))) ?_
          refine xo rfl trivial (o_boxC [.int .i64 span0, vs7] rfl (fun i hi => match i, hi with | 0, _ => rfl | 1, _ => rfl | q + 2, h => absurd h (by omega))) ?_
          rintro _ _ ⟨b14, hb14, rfl, rfl⟩
          refine xq rfl trivial (o_as rfl) ?_
          refine xq rfl trivial (o_as rfl) ?_
          refine xo_nil (xq_then (xw_ret ?_))
          refine con_ret2 (.inl rfl) Try.results8 rfl rfl _ (fun _ h => h) (?_)
          refine xq rfl trivial (o_mv rfl) ?_
          refine xq rfl trivial (o_ext rfl rfl) ?_
          refine xq rfl trivial (o_ext rfl rfl) ?_
          refine xq rfl trivial (o_as rfl) ?_
          refine xq rfl trivial (o_as rfl) ?_
          refine xo_nil (xq_then (xw_seq (xw_seq ?_)))
          refine xw_cut [(0, _), (1, _), (2, _), (3, _), (9, _), (10, _)] (lc rfl (lc rfl (lc rfl (lc rfl (lc rfl (lc rfl ln)))))) [(37, .bool ((decide (span0 < 1)) || (decide (1000 < span0))))] ?_ ?_
          · refine xw_region ?_
            refine xq rfl trivial (o_mv rfl) ?_
            refine xq rfl trivial (o_lss rfl rfl) ?_
            refine xq rfl trivial (o_mv rfl) ?_
            refine xo_bool 34 rfl (fun hg8 => ?_) (fun hg8 => ?_)
            · have hq8 : (decide (span0 < 1)) = true := hg8
              have hp8 : span0 < 1 := of_decide_eq_true hq8
              refine xs rfl ⟨_, _, rfl, rfl, rfl⟩ (xs rfl ⟨_, _, rfl, rfl, rfl⟩ ?_)
              refine xq rfl trivial (o_pick_t rfl rfl) ?_
              refine xo_nil ?_
              exact xq_cut ((lce rfl (by first | rfl | (simp only [hq2, hq3, hq5, hq8, if_pos hp2, if_neg hp3, if_neg hp5, if_pos hp8, bS]; done) | (simp [hp2, hp3, hp5, hp8]; done) | (simp_all; done)) (lc rfl (lc rfl (lc rfl (lc rfl (lc rfl (lc rfl ln)))))))) (fun _ h => h)
            · have hq8 : (decide (span0 < 1)) = false := hg8
              have hp8 : ¬ (span0 < 1) := of_decide_eq_false hq8
              refine xq rfl ⟨_, rfl, rfl⟩ (o_mv rfl) ?_
              refine xq rfl ⟨_, rfl, rfl⟩ (o_gtr rfl rfl) ?_
              refine xq rfl trivial (o_pick_f rfl rfl) ?_
              refine xo_nil ?_
              exact xq_cut ((lce rfl (by first | rfl | (simp only [hq2, hq3, hq5, hq8, if_pos hp2, if_neg hp3, if_neg hp5, if_neg hp8, bS]; done) | (simp [hp2, hp3, hp5, hp8]; done) | (simp_all; done)) (lc rfl (lc rfl (lc rfl (lc rfl (lc rfl (lc rfl ln)))))))) (fun _ h => h)
          · refine xq_then ?_
            refine xw_cond_f rfl (by simpa using hp5) ?_
            refine xw_skip (xq_then (xw_seq (xw_seq ?_)))
            refine xw_cut [(0, _), (1, _), (2, _), (3, _), (9, _)] (lc rfl (lc rfl (lc rfl (lc rfl (lc rfl ln))))) [(50, .bool false)] ?_ ?_
            · refine xw_region ?_
              refine xq rfl trivial (o_mv rfl) ?_
              refine xq rfl trivial (o_eqn Try.underlying25 rfl rfl rfl rfl) ?_
              refine xq rfl trivial (o_mv rfl) ?_
              refine xq rfl ⟨_, rfl, rfl⟩ (o_mv rfl) ?_
              refine xq rfl ⟨_, rfl, rfl⟩ (o_nen Try.underlying27 rfl rfl rfl rfl) ?_
              refine xq rfl trivial (o_pick_f rfl rfl) ?_
              refine xo_nil ?_
              exact xq_cut ((lce rfl (by first | rfl | (simp only [hq2, hq3, hq5, if_pos hp2, if_neg hp3, if_neg hp5, bS]; done) | (simp [hp2, hp3, hp5]; done) | (simp_all; done)) (lc rfl (lc rfl (lc rfl (lc rfl (lc rfl ln))))))) (fun _ h => h)
            · refine xq_then (xw_cond_f rfl rfl (xw_skip (xq_then (xw_seq (xw_region ?_)))))
              refine xq rfl trivial (o_as rfl) ?_
              refine xo_nil (xq_then (xw_seq (xw_seq (xw_region ?_))))
              refine xq rfl trivial (o_as rfl) ?_
              refine xo_nil (xq_then ?_)
              refine xw_block ?_
              obtain ⟨x1, hx1, h⟩ := h
              refine xw_wh (fun s e H => match s with | (v11, i12, fb14_1) => ∃ (vb14_1_1 : Value) (v11_1 : Value) (B11_1 : GH) (Bb14_1_1 : GH), e = [(0, .int .i64 span0), (1, v1), (2, .int .i64 now2), (3, .int .i64 id3), (9, .pointer (some ⟨b14, 0, none⟩)), (11, v11_1), (12, .int .i64 i12)] ∧ H = B11_1 ++ ((b14, BK 2 (cl [.int .i64 span0, vb14_1_1]) 57) :: (Bb14_1_1 ++ ([]))) ∧ OJ 45 2 iv B11_1 v11_1 v11 ∧ MJ kI kI ieq Bb14_1_1 vb14_1_1 fb14_1 ∧ Cov w [] B11_1 ∧ Cov w [] Bb14_1_1) (fun x ex e H => match x with | .inl (v11, fb14_1) => ∃ (vb14_1_1o : Value) (v11_1o : Value) (B11_1o : GH) (Bb14_1_1o : GH), ex = .exit 0 ∧ e = [(3, .int .i64 id3), (9, .pointer (some ⟨b14, 0, none⟩)), (11, v11_1o)] ∧ H = B11_1o ++ ((b14, BK 2 (cl [.int .i64 span0, vb14_1_1o]) 57) :: (Bb14_1_1o ++ ([]))) ∧ OJ 45 2 iv B11_1o v11_1o v11 ∧ MJ kI kI ieq Bb14_1_1o vb14_1_1o fb14_1 ∧ Cov w [] B11_1o ∧ Cov w [] Bb14_1_1o | .inr fb14_1 => ∃ (vb14_1_1o : Value) (B11_1o : GH) (Bb14_1_1o : GH), ex = .ret ∧ e = [(8, .bool false)] ∧ H = B11_1o ++ ((b14, BK 2 (cl [.int .i64 span0, vb14_1_1o]) 57) :: (Bb14_1_1o ++ ([]))) ∧ MJ kI kI ieq Bb14_1_1o vb14_1_1o fb14_1 ∧ Cov w [] B11_1o ∧ Cov w [] Bb14_1_1o) hx1 ⟨[(0, .int .i64 span0), (1, v1), (2, .int .i64 now2), (3, .int .i64 id3), (9, .pointer (some ⟨b14, 0, none⟩)), (11, .slice none 0 0), (12, .int .i64 0)], [] ++ ((b14, BK 2 (cl [.int .i64 span0, vs7]) 57) :: (Bs7 ++ ([]))), (lc rfl (lc rfl (lc rfl (lc rfl (lc rfl (lc rfl (lc rfl ln))))))), fun _ h => h, ⟨vs7, _, [], Bs7, rfl, rfl, OJ.nil, hJs7, (Cov.refl _), hcBs7⟩⟩ ?_ ?_
              · rintro ⟨v11, i12, fb14_1⟩ o _ _ ⟨vb14_1_1, v11_1, B11_1, Bb14_1_1, rfl, rfl, hJ11_1, hJb14_1_1, hcB11_1, hcBb14_1_1⟩ hb
                have h : acts6_l1 span0 acts1 now2 v11 i12 fb14_1 o := hb
                clear hb
                unfold acts6_l1 at h
                refine xw_seq (xw_seq (xw_region ?_))
                refine xq rfl trivial (o_mv rfl) ?_
                refine xq rfl trivial (o_mv rfl) ?_
                refine xq rfl trivial (o_lenL rfl Try.underlying42 rfl (SL.val hs1)) ?_
                refine xq rfl trivial (o_leq rfl rfl) ?_
                refine xo_nil (xq_then ?_)
                refine xw_bool 54 rfl (fun hc9 => ?_) (fun hc9 => ?_)
                · have hq9 : (decide (i12 ≤ (acts1.length : Int))) = true := hc9
                  have hp9 : i12 ≤ (acts1.length : Int) := of_decide_eq_true hq9
                  rw [if_pos hp9] at h
                  refine xw_cond_t rfl rfl (xw_skip (xq_then (xw_seq ?_)))
                  refine xw_block ?_
                  refine xw_seq (xw_region ?_)
                  refine xq rfl trivial (o_as rfl) ?_
                  refine xo_nil (xq_then (xw_seq (xw_seq (xw_region ?_))))
                  refine xq rfl trivial (o_as rfl) ?_
                  refine xo_nil (xq_then ?_)
                  refine xw_block ?_
                  obtain ⟨x2, hx2, h⟩ := h
                  refine xw_wh (fun s e H => match s with | (ids13, k14) => ∃ (v13_2 : Value) (B13_2 : GH), e = [(0, .int .i64 span0), (1, v1), (2, .int .i64 now2), (3, .int .i64 id3), (9, .pointer (some ⟨b14, 0, none⟩)), (11, v11_1), (12, .int .i64 i12), (13, v13_2), (14, .int .i64 k14)] ∧ H = B13_2 ++ (B11_1 ++ ((b14, BK 2 (cl [.int .i64 span0, vb14_1_1]) 57) :: (Bb14_1_1 ++ ([])))) ∧ OJ 3 1 ic B13_2 v13_2 ids13 ∧ Cov w [] B13_2) (fun x ex e H => match x with | .inl ids13 => ∃ (v13_2o : Value) (B13_2o : GH), ex = .exit 2 ∧ e = [(0, .int .i64 span0), (1, v1), (2, .int .i64 now2), (3, .int .i64 id3), (9, .pointer (some ⟨b14, 0, none⟩)), (11, v11_1), (12, .int .i64 i12), (13, v13_2o)] ∧ H = B13_2o ++ (B11_1 ++ ((b14, BK 2 (cl [.int .i64 span0, vb14_1_1]) 57) :: (Bb14_1_1 ++ ([])))) ∧ OJ 3 1 ic B13_2o v13_2o ids13 ∧ Cov w [] B13_2o | .inr _ => ∃ (B13_2o : GH), ex = .ret ∧ e = [(8, .bool false)] ∧ H = B13_2o ++ (B11_1 ++ ((b14, BK 2 (cl [.int .i64 span0, vb14_1_1]) 57) :: (Bb14_1_1 ++ ([])))) ∧ Cov w [] B13_2o) hx2 ⟨[(0, .int .i64 span0), (1, v1), (2, .int .i64 now2), (3, .int .i64 id3), (9, .pointer (some ⟨b14, 0, none⟩)), (11, v11_1), (12, .int .i64 i12), (13, .slice none 0 0), (14, .int .i64 0)], [] ++ (B11_1 ++ ((b14, BK 2 (cl [.int .i64 span0, vb14_1_1]) 57) :: (Bb14_1_1 ++ ([])))), (lc rfl (lc rfl (lc rfl (lc rfl (lc rfl (lc rfl (lc rfl (lc rfl (lc rfl ln))))))))), fun _ h => h, ⟨_, [], rfl, rfl, OJ.nil, (Cov.refl _)⟩⟩ ?_ ?_
                  · rintro ⟨ids13, k14⟩ o _ _ ⟨v13_2, B13_2, rfl, rfl, hJ13_2, hcB13_2⟩ hb
                    have h : acts6_l2 span0 v11 fb14_1 ids13 k14 o := hb
                    clear hb
                    unfold acts6_l2 at h
                    refine xw_seq (xw_seq (xw_region ?_))
                    refine xq rfl trivial (o_mv rfl) ?_
                    refine xq rfl trivial (o_mv rfl) ?_
                    refine xq rfl trivial (o_lenL rfl Try.underlying43 rfl (OJ.val hJ11_1)) ?_
                    refine xq rfl trivial (o_lss rfl rfl) ?_
                    refine xo_nil (xq_then ?_)
                    refine xw_bool 60 rfl (fun hc10 => ?_) (fun hc10 => ?_)
                    · have hq10 : (decide (k14 < (v11.length : Int))) = true := hc10
                      have hp10 : k14 < (v11.length : Int) := of_decide_eq_true hq10
                      rw [if_pos hp10] at h
                      refine xw_cond_t rfl rfl (xw_skip (xq_then (xw_seq ?_)))
                      refine xw_block ?_
                      refine xw_seq (xw_region ?_)
                      refine xq rfl trivial (o_mv rfl) ?_
                      refine xq rfl trivial (o_mv rfl) ?_
                      refine xq rfl trivial (o_mv rfl) ?_
                      obtain ⟨ho11, h⟩ := h
                      refine xq rfl trivial (o_ixL el43 rfl rfl (fun w hw => (hJ11_1.sl hw (Pull.sub (.there _ (.here _ _))))) rfl ho11) ?_
                      refine xq rfl trivial (o_faL fl45_0 rfl rfl (fun w hw => (hJ11_1.sl hw (Pull.sub (.there _ (.here _ _))))) (toNat_lt ho11)) ?_
                      refine xq rfl trivial (o_ldL1 (off := 0) (u := .int .i64 (v11[k14.toNat]! 0)) rfl ts3 rfl (fun w hw => (hJ11_1.sl hw (Pull.sub (.there _ (.here _ _))))) (toNat_lt ho11) rfl rfl) ?_
                      refine xo rfl trivial (o_bsl el31 ze3 (cells_one rfl) rfl rfl (.int rfl rfl (.nil _))) ?_
                      rintro _ _ ⟨b69, hb69, rfl, rfl⟩
                      obtain ⟨ho13, h⟩ := h
                      refine xo rfl trivial (OT.st (fun _ h => Pull.st (.thereC _ (.here _ _)) h) (o_appJ (l := ids13) (l' := [v11[k14.toNat]! 0]) (B := B13_2) ap31 rfl rfl hJ13_2 (fun w2 hw2 => (SL.lit (l := [v11[k14.toNat]! 0]) hw2 (List.mem_append_right _ (List.Mem.head _)) rfl (by omega) (by simp [maxLen]) (by exact (fun i hi => match i, hi with | 0, _ => rfl | q + 1, h => absurd h (by omega))))) (fun _ _ => rfl) ho13 (len_max ho13 (by decide)))) ?_
                      rintro vs12 _ ⟨Bs12, rfl, hns12, hJs12⟩
                      have hcBs12 := Cov.trans hcB13_2 hns12
                      refine xo_st ((b69, BK 1 _ 3) :: (Bs12 ++ (B11_1 ++ ((b14, BK 2 (cl [.int .i64 span0, vb14_1_1]) 57) :: (Bb14_1_1 ++ ([])))))) (fun _ h => Pull.push (.thereC _ (.here _ _)) h) ?_
                      refine xq rfl trivial (o_as rfl) ?_
                      refine xo_nil (xq_then (xw_seq (xw_region ?_)))
                      refine xq rfl trivial (o_mv rfl) ?_
                      refine xq rfl trivial (o_mv rfl) ?_
                      refine xq rfl trivial (o_mv rfl) ?_
                      obtain ⟨ho14, h⟩ := h
                      refine xq rfl trivial (o_ixL el43 rfl rfl (fun w hw => (hJ11_1.sl hw (Pull.sub (.thereC _ (.there _ (.here _ _)))))) rfl ho14) ?_
                      refine xq rfl trivial (o_faL fl45_0 rfl rfl (fun w hw => (hJ11_1.sl hw (Pull.sub (.thereC _ (.there _ (.here _ _)))))) (toNat_lt ho14)) ?_
                      refine xq rfl trivial (o_ldL1 (off := 0) (u := .int .i64 (v11[k14.toNat]! 0)) rfl ts3 rfl (fun w hw => (hJ11_1.sl hw (Pull.sub (.thereC _ (.there _ (.here _ _)))))) (toNat_lt ho14) rfl rfl) ?_
                      refine xo rfl trivial (OT.st (fun _ h => St.permI [3, 4, 0, 1, 2] [[(b69, _)], Bs12, B11_1, [(b14, _)], Bb14_1_1] rfl h) (ot_callF (Cs := [[(b14, _)], Bb14_1_1]) (Rs := [[(b69, _)], Bs12, B11_1]) kf14 rfl (fun w1 hw1 => since_c _ _ _ _ _ _ w1 hJb14_1_1 (St.hasC hw1)) (fun _ _ _ h => h.1))) ?_
                      rintro _ _ ⟨w1, _, rfl, hle, -, rfl, rfl⟩
                      refine xo_st ((b14, BK 2 (cl [.int .i64 span0, vb14_1_1]) 57) :: (Bb14_1_1 ++ ((b69, BK 1 _ 3) :: (Bs12 ++ (B11_1 ++ ([])))))) (fun _ h => h) ?_
                      refine xq rfl trivial (o_mv rfl) ?_
                      refine xq rfl trivial (o_ext rfl rfl) ?_
                      refine xq rfl trivial (o_ext rfl rfl) ?_
                      refine xq rfl trivial (o_as rfl) ?_
                      refine xq rfl trivial (o_as rfl) ?_
                      refine xo_nil (xq_then (xw_seq ?_))
                      obtain ⟨ho17, h⟩ := h
                      refine xw_cut [(0, _), (1, _), (2, _), (3, _), (9, _), (11, _), (12, _), (13, _), (14, _)] (lc rfl (lc rfl (lc rfl (lc rfl (lc rfl (lc rfl (lc rfl (lc rfl (lc rfl ln))))))))) [(91, .bool ((!(decide ((since_F span0 fb14_1 (v11[k14.toNat]! 0)).1 = v11[k14.toNat]! 1))) || (!(decide ((since_F span0 fb14_1 (v11[k14.toNat]! 0)).2 = 0)))))] ?_ ?_
                      · refine xw_region ?_
                        refine xq rfl trivial (o_mv rfl) ?_
                        refine xq rfl trivial (o_mv rfl) ?_
                        refine xq rfl trivial (o_mv rfl) ?_
                        refine xq rfl trivial (o_ixL el43 rfl rfl (fun w hw => (hJ11_1.sl hw (Pull.sub (.thereC _ (.there _ (.thereC _ (.there _ (.here _ _)))))))) rfl (ho17)) ?_
                        refine xq rfl trivial (o_faL fl45_1 rfl rfl (fun w hw => (hJ11_1.sl hw (Pull.sub (.thereC _ (.there _ (.thereC _ (.there _ (.here _ _)))))))) (toNat_lt (ho17))) ?_
                        refine xq rfl trivial (o_ldL1 (off := 1) (u := .int .i64 (v11[k14.toNat]! 1)) rfl ts3 rfl (fun w hw => (hJ11_1.sl hw (Pull.sub (.thereC _ (.there _ (.thereC _ (.there _ (.here _ _)))))))) (toNat_lt (ho17)) rfl rfl) ?_
                        refine xq rfl trivial (o_neq rfl rfl) ?_
                        refine xq rfl trivial (o_mv rfl) ?_
                        refine xo_bool 88 rfl (fun hg18 => ?_) (fun hg18 => ?_)
                        · have hq18 : (decide ((since_F span0 fb14_1 (v11[k14.toNat]! 0)).1 = v11[k14.toNat]! 1)) = false := (bnT hg18)
                          have hp18 : ¬ ((since_F span0 fb14_1 (v11[k14.toNat]! 0)).1 = v11[k14.toNat]! 1) := of_decide_eq_false hq18
                          refine xs rfl ⟨_, _, rfl, rfl, rfl⟩ (xs rfl ⟨_, _, rfl, rfl, rfl⟩ ?_)
                          refine xq rfl trivial (o_pick_t rfl rfl) ?_
                          refine xo_nil ?_
                          exact xq_cut ((lce rfl (by first | rfl | (simp only [hq10, hq18, if_pos hp10, if_neg hp18, bS]; done) | (simp [hp10, hp18]; done) | (simp_all; done)) (lc rfl (lc rfl (lc rfl (lc rfl (lc rfl (lc rfl (lc rfl (lc rfl (lc rfl ln))))))))))) (fun _ h => h)
                        · have hq18 : (decide ((since_F span0 fb14_1 (v11[k14.toNat]! 0)).1 = v11[k14.toNat]! 1)) = true := (bnF hg18)
                          have hp18 : (since_F span0 fb14_1 (v11[k14.toNat]! 0)).1 = v11[k14.toNat]! 1 := of_decide_eq_true hq18
                          refine xq rfl ⟨_, rfl, rfl⟩ (o_mv rfl) ?_
                          refine xq rfl ⟨_, rfl, rfl⟩ (o_neE Try.underlying27 rfl (fun _ => rfl) rfl rfl) ?_
                          refine xq rfl trivial (o_pick_f rfl rfl) ?_
                          refine xo_nil ?_
                          exact xq_cut ((lce rfl (by first | rfl | (simp only [hq10, hq18, if_pos hp10, if_pos hp18, bS]; done) | (simp [hp10, hp18]; done) | (simp_all; done)) (lc rfl (lc rfl (lc rfl (lc rfl (lc rfl (lc rfl (lc rfl (lc rfl (lc rfl ln))))))))))) (fun _ h => h)
                      · refine xq_then ?_
                        refine xw_bool 91 rfl (fun hc19 => ?_) (fun hc19 => ?_)
                        · have hq19 : ((!(decide ((since_F span0 fb14_1 (v11[k14.toNat]! 0)).1 = v11[k14.toNat]! 1))) || (!(decide ((since_F span0 fb14_1 (v11[k14.toNat]! 0)).2 = 0)))) = true := hc19
                          have hp19 : ((!(decide ((since_F span0 fb14_1 (v11[k14.toNat]! 0)).1 = v11[k14.toNat]! 1))) || (!(decide ((since_F span0 fb14_1 (v11[k14.toNat]! 0)).2 = 0)))) = true := hq19
                          rw [if_pos hp19] at h
                          refine xw_cond_t rfl rfl (xw_seq (xw_region ?_))
                          refine xq rfl trivial (o_as rfl) ?_
                          refine xo_nil (xq_then (xw_ret (xq_blk_ret (xq_then_ret ?_))))
                          exact xq_out (r := (.inr () : ((List Int)) ⊕ (Unit))) (e' := [(8, .bool false)]) (Bs12 ++ (B11_1 ++ ((b14, BK 2 (cl [.int .i64 span0, vb14_1_1]) 57) :: (Bb14_1_1 ++ ([]))))) (lc rfl ln) (fun _ h => St.permI [2, 3, 0, 1] [[(b14, _)], Bb14_1_1, Bs12, B11_1] rfl (Kp.st (Kp.keep (Kp.segKeep (Kp.new hb69 (Kp.segKeep (Kp.segKeep Kp.nil))))) _ h)) h (by intro hh; cases hh) ⟨Bs12, rfl, rfl, rfl, hcBs12⟩
                        · have hq19 : ((!(decide ((since_F span0 fb14_1 (v11[k14.toNat]! 0)).1 = v11[k14.toNat]! 1))) || (!(decide ((since_F span0 fb14_1 (v11[k14.toNat]! 0)).2 = 0)))) = false := hc19
                          have hp19 : ¬ (((!(decide ((since_F span0 fb14_1 (v11[k14.toNat]! 0)).1 = v11[k14.toNat]! 1))) || (!(decide ((since_F span0 fb14_1 (v11[k14.toNat]! 0)).2 = 0)))) = true) := bne' hq19
                          rw [if_neg hp19] at h
                          refine xw_cond_f rfl rfl (xw_skip ?_)
                          refine xq_blk 3 ?_
                          refine xq_then (xw_region ?_)
                          refine xq rfl trivial (o_mv rfl) ?_
                          obtain ⟨ho20, h⟩ := h
                          refine xq rfl trivial (o_add rfl rfl rfl ho20) ?_
                          refine xq rfl trivial (o_as rfl) ?_
                          refine xo_nil ?_
                          exact xq_next (s' := (((ids13 ++ [v11[k14.toNat]! 0]), k14 + 1) : (List Int) × Int)) (e' := [(0, .int .i64 span0), (1, v1), (2, .int .i64 now2), (3, .int .i64 id3), (9, .pointer (some ⟨b14, 0, none⟩)), (11, v11_1), (12, .int .i64 i12), (13, vs12), (14, .int .i64 (k14 + 1))]) (Bs12 ++ (B11_1 ++ ((b14, BK 2 (cl [.int .i64 span0, vb14_1_1]) 57) :: (Bb14_1_1 ++ ([]))))) (lc rfl (lc rfl (lc rfl (lc rfl (lc rfl (lc rfl (lc rfl (lc rfl (lc rfl ln))))))))) (fun _ h => St.permI [2, 3, 0, 1] [[(b14, _)], Bb14_1_1, Bs12, B11_1] rfl (Kp.st (Kp.keep (Kp.segKeep (Kp.new hb69 (Kp.segKeep (Kp.segKeep Kp.nil))))) _ h)) h ⟨vs12, Bs12, rfl, rfl, hJs12, hcBs12⟩
                    · have hq10 : (decide (k14 < (v11.length : Int))) = false := hc10
                      have hp10 : ¬ (k14 < (v11.length : Int)) := of_decide_eq_false hq10
                      rw [if_neg hp10] at h
                      refine xw_cond_f rfl rfl (xw_exit (xq_then_exit ?_))
                      exact xq_out (r := (.inl ids13 : ((List Int)) ⊕ (Unit))) (e' := [(0, .int .i64 span0), (1, v1), (2, .int .i64 now2), (3, .int .i64 id3), (9, .pointer (some ⟨b14, 0, none⟩)), (11, v11_1), (12, .int .i64 i12), (13, v13_2)]) (B13_2 ++ (B11_1 ++ ((b14, BK 2 (cl [.int .i64 span0, vb14_1_1]) 57) :: (Bb14_1_1 ++ ([]))))) (lc rfl (lc rfl (lc rfl (lc rfl (lc rfl (lc rfl (lc rfl (lc rfl ln)))))))) (fun _ h => h) h (by intro hh; cases hh) ⟨v13_2, B13_2, rfl, rfl, rfl, hJ13_2, hcB13_2⟩
                  · rcases x2 with ids13 | x2
                    · rintro _ _ _ ⟨v13_2o, B13_2o, rfl, rfl, rfl, hJ13_2o, hcB13_2o⟩
                      replace h : acts6_k2a span0 acts1 now2 v11 i12 fb14_1 ids13 o := h
                      unfold acts6_k2a at h
                      refine xq_blk_eq ?_
                      refine xq_then (xw_seq (xw_seq (xw_region ?_)))
                      refine xq rfl trivial (o_mv rfl) ?_
                      obtain ⟨ho21, h⟩ := h
                      refine xo rfl trivial (OT.st (fun _ h => St.permI [2, 3, 0, 1] [B13_2o, B11_1, [(b14, _)], Bb14_1_1] rfl h) (ot_callF (Cs := [[(b14, _)], Bb14_1_1]) (Rs := [B13_2o, B11_1]) kf13 rfl (fun w1 hw1 => lall_c _ _ _ _ _ w1 hJb14_1_1 (St.hasC hw1) ho21) (fun _ _ _ h => h.1))) ?_
                      rintro vs24 _ ⟨w1, _, rfl, hle, -, _, Bs24, rfl, rfl, hJs24, hcBs24⟩
                      replace hcBs24 := Cov.base (w0 := w) hcBs24 hle
                      refine xo_st ((b14, BK 2 (cl [.int .i64 span0, vb14_1_1]) 57) :: (Bb14_1_1 ++ (Bs24 ++ (B13_2o ++ (B11_1 ++ ([])))))) (fun _ h => h) ?_
                      refine xq rfl trivial (o_mv rfl) ?_
                      obtain ⟨ho25, h⟩ := h
                      refine xcallq rfl trivial kf11 rfl (fun w1 hw1 => ints_c _ _ _ _ w1 (hJs24.sl hw1 (Pull.sub (.thereC _ (.there _ (.here _ _))))) (hJ13_2o.sl hw1 (Pull.sub (.thereC _ (.there _ (.there _ (.here _ _)))))) ho25) ?_
                      refine xq rfl trivial (o_not rfl) ?_
                      refine xq rfl trivial (o_mv rfl) ?_
                      refine xo_bool 97 rfl (fun hg26 => ?_) (fun hg26 => ?_)
                      · have hq26 : ((ints_F (lall_F span0 fb14_1) ids13)) = false := (bnT hg26)
                        have hp26 : ¬ (((ints_F (lall_F span0 fb14_1) ids13)) = true) := bne' hq26
                        rw [if_neg hp26] at h
                        refine xs rfl ⟨_, _, rfl, rfl, rfl⟩ (xs rfl ⟨_, _, rfl, rfl, rfl⟩ (xs rfl ⟨_, _, rfl, rfl, rfl⟩ (xs rfl ⟨_, _, rfl, rfl, rfl⟩ (xs rfl ⟨_, _, rfl, rfl, rfl⟩ (xs rfl ⟨_, _, rfl, rfl, rfl⟩ (xs rfl ⟨_, _, rfl, rfl, rfl⟩ (xs rfl ⟨_, _, rfl, rfl, rfl⟩ ?_)))))))
                        refine xs rfl ⟨_, _, rfl, rfl, rfl⟩ ?_
                        refine xq rfl trivial (o_pick_t rfl rfl) ?_
                        refine xo_nil (xq_then (xw_cond_t rfl rfl (xw_seq (xw_region ?_))))
                        refine xq rfl trivial (o_as rfl) ?_
                        refine xo_nil (xq_then (xw_ret (xq_then_ret (xq_blk_ret (xq_then_ret ?_)))))
                        exact xq_out (r := (.inr fb14_1 : ((List (Nat → Int)) × (List (Int × Int))) ⊕ ((List (Int × Int))))) (e' := [(8, .bool false)]) (B11_1 ++ ((b14, BK 2 (cl [.int .i64 span0, vb14_1_1]) 57) :: (Bb14_1_1 ++ ([])))) (lc rfl ln) (fun _ h => St.permI [2, 0, 1] [[(b14, _)], Bb14_1_1, B11_1] rfl (Kp.st (Kp.keep (Kp.segKeep (Kp.segNew (Cov.fresh hcBs24) (Kp.segNew (Cov.fresh hcB13_2o) (Kp.segKeep Kp.nil))))) _ h)) h (by intro hh; cases hh) ⟨vb14_1_1, B11_1, Bb14_1_1, rfl, rfl, rfl, hJb14_1_1, hcB11_1, hcBb14_1_1⟩
                      · have hq26 : ((ints_F (lall_F span0 fb14_1) ids13)) = true := (bnF hg26)
                        have hp26 : ((ints_F (lall_F span0 fb14_1) ids13)) = true := hq26
                        rw [if_pos hp26] at h
                        refine xq rfl ⟨_, rfl, rfl⟩ (o_mv rfl) ?_
                        refine xq rfl ⟨_, rfl, rfl⟩ (o_mv rfl) ?_
                        obtain ⟨ho27, h⟩ := h
                        refine xo rfl ⟨_, rfl, rfl⟩ (OT.st (fun _ h => h) (ot_callF (Cs := [[(b14, _)], Bb14_1_1]) (Rs := [Bs24, B13_2o, B11_1]) kf10 rfl (fun w1 hw1 => due_c _ _ _ _ _ _ w1 hJb14_1_1 (St.hasC hw1) ho27) (fun _ _ _ h => h.1))) ?_
                        rintro vs30 _ ⟨w1, _, rfl, hle, -, _, Bs30, rfl, rfl, hJs30, hcBs30⟩
                        replace hcBs30 := Cov.base (w0 := w) hcBs30 hle
                        refine xo_st ((b14, BK 2 (cl [.int .i64 span0, vb14_1_1]) 57) :: (Bb14_1_1 ++ (Bs30 ++ (Bs24 ++ (B13_2o ++ (B11_1 ++ ([]))))))) (fun _ h => h) ?_
                        refine xq rfl ⟨_, rfl, rfl⟩ (o_mv rfl) ?_
                        refine xq rfl ⟨_, rfl, rfl⟩ (o_mv rfl) ?_
                        refine xq rfl ⟨_, rfl, rfl⟩ (o_mv rfl) ?_
                        obtain ⟨ho31, h⟩ := h
                        refine xcall rfl ⟨_, rfl, rfl⟩ kf16 rfl (fun w1 hw1 => dueR_c _ _ _ _ w1 (hJ11_1.sl hw1 (Pull.sub (.thereC _ (.there _ (.there _ (.there _ (.there _ (.here _ _)))))))) ho31) ?_
                        rintro w1 vs32 _ hw1 ⟨_, Bs32, rfl, rfl, hJs32, hcBs32⟩
                        refine ⟨_, Mg.news (Cov.fresh hcBs32) (.nil _), ?_⟩
                        replace hcBs32 := Cov.base (w0 := w) hcBs32 hw1.size
                        obtain ⟨ho33, h⟩ := h
                        refine xcallq rfl ⟨_, rfl, rfl⟩ kf11 rfl (fun w1 hw1 => ints_c _ _ _ _ w1 (hJs30.sl hw1 (Pull.sub (.there _ (.thereC _ (.there _ (.here _ _)))))) (hJs32.sl hw1 (Pull.sub (.here _ _))) ho33) ?_
                        refine xq rfl ⟨_, rfl, rfl⟩ (o_not rfl) ?_
                        refine xq rfl trivial (o_pick_f rfl rfl) ?_
                        refine xo_nil (xq_then ?_)
                        refine xw_bool 107 rfl (fun hc34 => ?_) (fun hc34 => ?_)
                        · have hq34 : ((ints_F (due_F span0 fb14_1 now2) (dueR_F v11 span0 now2))) = false := (bnT hc34)
                          have hp34 : ¬ (((ints_F (due_F span0 fb14_1 now2) (dueR_F v11 span0 now2))) = true) := bne' hq34
                          rw [if_neg hp34] at h
                          refine xw_cond_t rfl rfl (xw_seq (xw_region ?_))
                          refine xq rfl trivial (o_as rfl) ?_
                          refine xo_nil (xq_then (xw_ret (xq_then_ret (xq_blk_ret (xq_then_ret ?_)))))
                          exact xq_out (r := (.inr fb14_1 : ((List (Nat → Int)) × (List (Int × Int))) ⊕ ((List (Int × Int))))) (e' := [(8, .bool false)]) (B11_1 ++ ((b14, BK 2 (cl [.int .i64 span0, vb14_1_1]) 57) :: (Bb14_1_1 ++ ([])))) (lc rfl ln) (fun _ h => St.permI [2, 0, 1] [[(b14, _)], Bb14_1_1, B11_1] rfl (Kp.st (Kp.segNew (Cov.fresh hcBs32) (Kp.keep (Kp.segKeep (Kp.segNew (Cov.fresh hcBs30) (Kp.segNew (Cov.fresh hcBs24) (Kp.segNew (Cov.fresh hcB13_2o) (Kp.segKeep Kp.nil))))))) _ h)) h (by intro hh; cases hh) ⟨vb14_1_1, B11_1, Bb14_1_1, rfl, rfl, rfl, hJb14_1_1, hcB11_1, hcBb14_1_1⟩
                        · have hq34 : ((ints_F (due_F span0 fb14_1 now2) (dueR_F v11 span0 now2))) = true := (bnF hc34)
                          have hp34 : ((ints_F (due_F span0 fb14_1 now2) (dueR_F v11 span0 now2))) = true := hq34
                          rw [if_pos hp34] at h
                          refine xw_cond_f rfl rfl (xw_skip (xq_then (xw_seq (xw_seq (xw_region ?_)))))
                          refine xq rfl trivial (o_mv rfl) ?_
                          refine xq rfl trivial (o_mv rfl) ?_
                          refine xq rfl trivial (o_lenL rfl Try.underlying42 rfl (SL.val hs1)) ?_
                          refine xq rfl trivial (o_eql rfl rfl) ?_
                          refine xo_nil (xq_then ?_)
                          refine xw_bool 111 rfl (fun hc35 => ?_) (fun hc35 => ?_)
                          · have hq35 : (decide (i12 = (acts1.length : Int))) = true := hc35
                            have hp35 : i12 = (acts1.length : Int) := of_decide_eq_true hq35
                            rw [if_pos hp35] at h
                            refine xw_cond_t rfl rfl (xw_exit (xq_then_exit (xq_blk_ne rfl (xq_then_exit ?_))))
                            exact xq_out (r := (.inl (v11, fb14_1) : ((List (Nat → Int)) × (List (Int × Int))) ⊕ ((List (Int × Int))))) (e' := [(3, .int .i64 id3), (9, .pointer (some ⟨b14, 0, none⟩)), (11, v11_1)]) (B11_1 ++ ((b14, BK 2 (cl [.int .i64 span0, vb14_1_1]) 57) :: (Bb14_1_1 ++ ([])))) (lc rfl (lc rfl (lc rfl ln))) (fun _ h => St.permI [2, 0, 1] [[(b14, _)], Bb14_1_1, B11_1] rfl (Kp.st (Kp.segNew (Cov.fresh hcBs32) (Kp.keep (Kp.segKeep (Kp.segNew (Cov.fresh hcBs30) (Kp.segNew (Cov.fresh hcBs24) (Kp.segNew (Cov.fresh hcB13_2o) (Kp.segKeep Kp.nil))))))) _ h)) h (by intro hh; cases hh) ⟨vb14_1_1, v11_1, B11_1, Bb14_1_1, rfl, rfl, rfl, hJ11_1, hJb14_1_1, hcB11_1, hcBb14_1_1⟩
                          · have hq35 : (decide (i12 = (acts1.length : Int))) = false := hc35
                            have hp35 : ¬ (i12 = (acts1.length : Int)) := of_decide_eq_false hq35
                            rw [if_neg hp35] at h
                            refine xw_cond_f rfl rfl (xw_skip (xq_then (xw_seq (xw_region ?_))))
                            refine xq rfl trivial (o_mv rfl) ?_
                            refine xq rfl trivial (o_mv rfl) ?_
                            obtain ⟨ho36, h⟩ := h
                            refine xq rfl trivial (o_ixL el42 rfl rfl (fun w hw => (hs1.keep hw (Fr.seg hcBs32 (Fr.cons hb14 (Fr.seg hcBb14_1_1 (Fr.seg hcBs30 (Fr.seg hcBs24 (Fr.seg hcB13_2o (Fr.seg hcB11_1 Fr.nil))))))))) rfl ho36) ?_
                            refine xq rfl trivial (o_ldLI rfl ts48 rfl (fun w hw => (hs1.keep hw (Fr.seg hcBs32 (Fr.cons hb14 (Fr.seg hcBb14_1_1 (Fr.seg hcBs30 (Fr.seg hcBs24 (Fr.seg hcB13_2o (Fr.seg hcB11_1 Fr.nil))))))))) (toNat_lt ho36) rfl) ?_
                            refine xo rfl trivial (o_alloc ze48 rfl) ?_
                            rintro _ _ ⟨b17, hb17, rfl, rfl⟩
                            refine xq0 trivial (o_stWI rfl rfl ts48 (List.Mem.head _) (.here _ _ _ _)) ?_
                            refine xo_nil (xq_then (xw_seq (xw_region ?_)))
                            refine xq rfl trivial (o_as rfl) ?_
                            refine xo_nil (xq_then (xw_seq (xw_region ?_)))
                            first | refine xq rfl trivial (o_fa0 fl48_0 rfl) ?_ | refine xq rfl trivial (o_fa fl48_0 rfl) ?_
                            refine xq rfl trivial (o_ldI (v := (acts1[i12.toNat]!) 0) rfl ts3 (List.Mem.head _) (by omega) rfl) ?_
                            refine xq rfl trivial (o_eql rfl rfl) ?_
                            refine xo_nil (xq_then ?_)
                            refine xw_bool 118 rfl (fun hc37 => ?_) (fun hc37 => ?_)
                            · have hq37 : (decide ((acts1[i12.toNat]!) 0 = 0)) = true := hc37
                              have hp37 : (acts1[i12.toNat]!) 0 = 0 := of_decide_eq_true hq37
                              rw [if_pos hp37] at h
                              refine xw_cond_t rfl rfl (xw_seq (xw_region ?_))
                              refine xq rfl trivial (o_mv rfl) ?_
                              first | refine xq rfl trivial (o_fa0 fl48_1 rfl) ?_ | refine xq rfl trivial (o_fa fl48_1 rfl) ?_
                              refine xq rfl trivial (o_ldI (v := (acts1[i12.toNat]!) 1) rfl ts3 (List.Mem.head _) (by omega) rfl) ?_
                              first | refine xq rfl trivial (o_fa0 fl48_2 rfl) ?_ | refine xq rfl trivial (o_fa fl48_2 rfl) ?_
                              refine xq rfl trivial (o_ldI (v := (acts1[i12.toNat]!) 2) rfl ts3 (List.Mem.head _) (by omega) rfl) ?_
                              refine xoR rfl trivial (ot_in (l := [(0, _), (1, _), (2, _)]) kf17 rfl Try.func17 rfl Try.ntmps17 rfl (lac rfl (lac rfl (lac rfl lan))) ?_)
                              refine xw_seq (xw_region ?_)
                              refine xq rfl trivial (o_as rfl) ?_
                              refine xq rfl trivial (o_as rfl) ?_
                              refine xo_nil (xq_then (xw_seq (xw_seq ?_)))
                              refine xw_cut [(0, _), (1, _), (2, _)] (lc rfl (lc rfl (lc rfl ln))) [(17, .bool ((decide ((acts1[i12.toNat]!) 1 < 1)) || (!((timeR_F ((acts1[i12.toNat]!) 2))))))] ?_ ?_
                              · refine xw_region ?_
                                refine xq rfl trivial (o_mv rfl) ?_
                                refine xq rfl trivial (o_lss rfl rfl) ?_
                                refine xq rfl trivial (o_mv rfl) ?_
                                refine xo_bool 13 rfl (fun hg38 => ?_) (fun hg38 => ?_)
                                · have hq38 : (decide ((acts1[i12.toNat]!) 1 < 1)) = true := hg38
                                  have hp38 : (acts1[i12.toNat]!) 1 < 1 := of_decide_eq_true hq38
                                  refine xs rfl ⟨_, _, rfl, rfl, rfl⟩ (xs rfl ⟨_, _, rfl, rfl, rfl⟩ (xs rfl ⟨_, _, rfl, rfl, rfl⟩ ?_))
                                  refine xq rfl trivial (o_pick_t rfl rfl) ?_
                                  refine xo_nil ?_
                                  exact xq_cut ((lce rfl (by first | rfl | (simp only [hq26, hq34, hq35, hq37, hq38, if_pos hp26, if_pos hp34, if_neg hp35, if_pos hp37, if_pos hp38, bS]; done) | (simp [hp26, hp34, hp35, hp37, hp38]; done) | (simp_all; done)) (lc rfl (lc rfl (lc rfl ln))))) (fun _ h => h)
                                · have hq38 : (decide ((acts1[i12.toNat]!) 1 < 1)) = false := hg38
                                  have hp38 : ¬ ((acts1[i12.toNat]!) 1 < 1) := of_decide_eq_false hq38
                                  refine xq rfl ⟨_, rfl, rfl⟩ (o_mv rfl) ?_
                                  refine xcallq rfl ⟨_, rfl, rfl⟩ kf23 rfl (fun w1 hw1 => timeR_c _ w1) ?_
                                  refine xq rfl ⟨_, rfl, rfl⟩ (o_not rfl) ?_
                                  refine xq rfl trivial (o_pick_f rfl rfl) ?_
                                  refine xo_nil ?_
                                  exact xq_cut ((lce rfl (by first | rfl | (simp only [hq26, hq34, hq35, hq37, hq38, if_pos hp26, if_pos hp34, if_neg hp35, if_pos hp37, if_neg hp38, bS]; done) | (simp [hp26, hp34, hp35, hp37, hp38]; done) | (simp_all; done)) (lc rfl (lc rfl (lc rfl ln))))) (fun _ h => h)
                              · refine xq_then ?_
                                refine xw_bool 17 rfl (fun hc39 => ?_) (fun hc39 => ?_)
                                · have hq39 : ((decide ((acts1[i12.toNat]!) 1 < 1)) || (!((timeR_F ((acts1[i12.toNat]!) 2))))) = true := hc39
                                  have hp39 : ((decide ((acts1[i12.toNat]!) 1 < 1)) || (!((timeR_F ((acts1[i12.toNat]!) 2))))) = true := hq39
                                  rw [if_pos hp39] at h
                                  refine xw_cond_t rfl rfl (xw_seq (xw_region ?_))
                                  refine xq rfl trivial (o_mv rfl) ?_
                                  refine xq rfl trivial (o_as rfl) ?_
                                  refine xq rfl trivial (o_as rfl) ?_
                                  refine xo_nil (xq_then (xw_ret (xq_then_ret ?_)))
                                  refine con_ret2 (.inl rfl) Try.results17 rfl rfl _ (fun _ h => h) (?_)
                                  refine xq rfl trivial (o_mv rfl) ?_
                                  refine xq rfl trivial (o_ext rfl rfl) ?_
                                  refine xq rfl trivial (o_ext rfl rfl) ?_
                                  refine xq rfl trivial (o_as rfl) ?_
                                  refine xq rfl trivial (o_as rfl) ?_
                                  refine xo_nil (xq_then (xw_seq (xw_region ?_)))
                                  refine xq rfl trivial (o_mv rfl) ?_
                                  first | refine xq rfl trivial (o_fa0 fl48_1 rfl) ?_ | refine xq rfl trivial (o_fa fl48_1 rfl) ?_
                                  refine xq rfl trivial (o_ldI (v := (acts1[i12.toNat]!) 1) rfl ts3 (List.Mem.head _) (by omega) rfl) ?_
                                  first | refine xq rfl trivial (o_fa0 fl48_2 rfl) ?_ | refine xq rfl trivial (o_fa fl48_2 rfl) ?_
                                  refine xq rfl trivial (o_ldI (v := (acts1[i12.toNat]!) 2) rfl ts3 (List.Mem.head _) (by omega) rfl) ?_
                                  refine xo rfl trivial (OT.st (fun _ h => St.permI [2, 3, 0, 1, 4, 5, 6, 7] [[(b17, _)], Bs32, [(b14, _)], Bb14_1_1, Bs30, Bs24, B13_2o, B11_1] rfl h) (ot_callF (Cs := [[(b14, _)], Bb14_1_1]) (Rs := [[(b17, _)], Bs32, Bs30, Bs24, B13_2o, B11_1]) kf9 rfl (fun w1 hw1 => renew_c _ _ _ _ _ _ _ w1 hJb14_1_1 (St.hasC hw1)) (fun _ _ _ h => h.1))) ?_
                                  rintro _ _ ⟨w1, _, rfl, hle, -, vg41_0, Bg41_0, rfl, rfl, hJBg41_0, hcBg41_0⟩
                                  replace hcBg41_0 := Cov.trans hcBb14_1_1 (Cov.base (w0 := w) hcBg41_0 hle)
                                  refine xo_st ((b14, BK 2 (cl [.int .i64 span0, vg41_0]) 57) :: (Bg41_0 ++ ((b17, BK 3 (iv (acts1[i12.toNat]!)) 48) :: (Bs32 ++ (Bs30 ++ (Bs24 ++ (B13_2o ++ (B11_1 ++ ([]))))))))) (fun _ h => h) ?_
                                  refine xcallq rfl trivial kf15 rfl (fun w1 hw1 => code_c _ w1) ?_
                                  refine xq rfl trivial (o_mv rfl) ?_
                                  refine xq rfl trivial (o_neq rfl rfl) ?_
                                  refine xo_nil (xq_then ?_)
                                  refine xw_bool 136 rfl (fun hc42 => ?_) (fun hc42 => ?_)
                                  · have hq42 : (decide ((code_F ((renew_F span0 fb14_1 ((acts1[i12.toNat]!) 1) ((acts1[i12.toNat]!) 2)).1)) = 1)) = false := (bnT hc42)
                                    have hp42 : ¬ ((code_F ((renew_F span0 fb14_1 ((acts1[i12.toNat]!) 1) ((acts1[i12.toNat]!) 2)).1)) = 1) := of_decide_eq_false hq42
                                    rw [if_neg hp42] at h
                                    refine xw_cond_t rfl rfl (xw_seq (xw_region ?_))
                                    refine xq rfl trivial (o_as rfl) ?_
                                    refine xo_nil (xq_then (xw_ret (xq_blk_ret (xq_then_ret ?_))))
                                    exact xq_out (r := (.inr ((renew_F span0 fb14_1 ((acts1[i12.toNat]!) 1) ((acts1[i12.toNat]!) 2)).2) : ((List (Nat → Int)) × (List (Int × Int))) ⊕ ((List (Int × Int))))) (e' := [(8, .bool false)]) (B11_1 ++ ((b14, BK 2 (cl [.int .i64 span0, vg41_0]) 57) :: (Bg41_0 ++ ([])))) (lc rfl ln) (fun _ h => St.permI [2, 0, 1] [[(b14, _)], Bg41_0, B11_1] rfl (Kp.st (Kp.keep (Kp.segKeep (Kp.new hb17 (Kp.segNew (Cov.fresh hcBs32) (Kp.segNew (Cov.fresh hcBs30) (Kp.segNew (Cov.fresh hcBs24) (Kp.segNew (Cov.fresh hcB13_2o) (Kp.segKeep Kp.nil)))))))) _ h)) h (by intro hh; cases hh) ⟨vg41_0, B11_1, Bg41_0, rfl, rfl, rfl, hJBg41_0, hcB11_1, hcBg41_0⟩
                                  · have hq42 : (decide ((code_F ((renew_F span0 fb14_1 ((acts1[i12.toNat]!) 1) ((acts1[i12.toNat]!) 2)).1)) = 1)) = true := (bnF hc42)
                                    have hp42 : (code_F ((renew_F span0 fb14_1 ((acts1[i12.toNat]!) 1) ((acts1[i12.toNat]!) 2)).1)) = 1 := of_decide_eq_true hq42
                                    rw [if_pos hp42] at h
                                    refine xw_cond_f rfl rfl (xw_skip ?_)
                                    refine xq_blk 1 ?_
                                    refine xq_then (xw_region ?_)
                                    refine xq rfl trivial (o_mv rfl) ?_
                                    obtain ⟨ho43, h⟩ := h
                                    refine xq rfl trivial (o_add rfl rfl rfl ho43) ?_
                                    refine xq rfl trivial (o_as rfl) ?_
                                    refine xo_nil ?_
                                    exact xq_next (s' := ((v11, i12 + 1, (renew_F span0 fb14_1 ((acts1[i12.toNat]!) 1) ((acts1[i12.toNat]!) 2)).2) : (List (Nat → Int)) × Int × (List (Int × Int)))) (e' := [(0, .int .i64 span0), (1, v1), (2, .int .i64 now2), (3, .int .i64 id3), (9, .pointer (some ⟨b14, 0, none⟩)), (11, v11_1), (12, .int .i64 (i12 + 1))]) (B11_1 ++ ((b14, BK 2 (cl [.int .i64 span0, vg41_0]) 57) :: (Bg41_0 ++ ([])))) (lc rfl (lc rfl (lc rfl (lc rfl (lc rfl (lc rfl (lc rfl ln))))))) (fun _ h => St.permI [2, 0, 1] [[(b14, _)], Bg41_0, B11_1] rfl (Kp.st (Kp.keep (Kp.segKeep (Kp.new hb17 (Kp.segNew (Cov.fresh hcBs32) (Kp.segNew (Cov.fresh hcBs30) (Kp.segNew (Cov.fresh hcBs24) (Kp.segNew (Cov.fresh hcB13_2o) (Kp.segKeep Kp.nil)))))))) _ h)) h ⟨vg41_0, v11_1, B11_1, Bg41_0, rfl, rfl, hJ11_1, hJBg41_0, hcB11_1, hcBg41_0⟩
                                · have hq39 : ((decide ((acts1[i12.toNat]!) 1 < 1)) || (!((timeR_F ((acts1[i12.toNat]!) 2))))) = false := hc39
                                  have hp39 : ¬ (((decide ((acts1[i12.toNat]!) 1 < 1)) || (!((timeR_F ((acts1[i12.toNat]!) 2))))) = true) := bne' hq39
                                  rw [if_neg hp39] at h
                                  refine xw_cond_f rfl rfl (xw_skip (xq_then (xw_seq (xw_region ?_))))
                                  refine xq rfl trivial (o_as rfl) ?_
                                  refine xo_nil (xq_then (xw_seq (xw_region ?_)))
                                  refine xq rfl trivial (o_as rfl) ?_
                                  refine xo_nil (xq_then (xw_seq (xw_seq (xw_region ?_))))
                                  refine xq rfl trivial (o_as rfl) ?_
                                  refine xo_nil (xq_then ?_)
                                  refine xw_block ?_
                                  obtain ⟨x3, hx3, h⟩ := h
                                  refine xw_wh (fun s e H => match s with | (out8, put9, i10) => ∃ (v8_3 : Value) (B8_3 : GH), e = [(0, v11_1), (1, .int .i64 ((acts1[i12.toNat]!) 1)), (2, .int .i64 ((acts1[i12.toNat]!) 2)), (8, v8_3), (9, .bool (put9)), (10, .int .i64 i10)] ∧ H = B8_3 ++ ((b17, BK 3 (iv (acts1[i12.toNat]!)) 48) :: (Bs32 ++ ((b14, BK 2 (cl [.int .i64 span0, vb14_1_1]) 57) :: (Bb14_1_1 ++ (Bs30 ++ (Bs24 ++ (B13_2o ++ (B11_1 ++ ([]))))))))) ∧ OJ 45 2 iv B8_3 v8_3 out8 ∧ Cov w [] B8_3) (fun s ex e H => match s with | (out8, put9) => ∃ (v8_3o : Value) (B8_3o : GH), ex = .exit 0 ∧ e = [(1, .int .i64 ((acts1[i12.toNat]!) 1)), (2, .int .i64 ((acts1[i12.toNat]!) 2)), (8, v8_3o), (9, .bool (put9))] ∧ H = B8_3o ++ ((b17, BK 3 (iv (acts1[i12.toNat]!)) 48) :: (Bs32 ++ ((b14, BK 2 (cl [.int .i64 span0, vb14_1_1]) 57) :: (Bb14_1_1 ++ (Bs30 ++ (Bs24 ++ (B13_2o ++ (B11_1 ++ ([]))))))))) ∧ OJ 45 2 iv B8_3o v8_3o out8 ∧ Cov w [] B8_3o) hx3 ⟨[(0, v11_1), (1, .int .i64 ((acts1[i12.toNat]!) 1)), (2, .int .i64 ((acts1[i12.toNat]!) 2)), (8, .slice none 0 0), (9, .bool false), (10, .int .i64 0)], [] ++ ((b17, BK 3 (iv (acts1[i12.toNat]!)) 48) :: (Bs32 ++ ((b14, BK 2 (cl [.int .i64 span0, vb14_1_1]) 57) :: (Bb14_1_1 ++ (Bs30 ++ (Bs24 ++ (B13_2o ++ (B11_1 ++ ([]))))))))), (lc rfl (lc rfl (lc rfl (lc rfl (lc rfl (lc rfl ln)))))), fun _ h => h, ⟨_, [], rfl, rfl, OJ.nil, (Cov.refl _)⟩⟩ ?_ ?_
                                  · rintro ⟨out8, put9, i10⟩ o _ _ ⟨v8_3, B8_3, rfl, rfl, hJ8_3, hcB8_3⟩ hb
                                    have h : acts6_l3 acts1 v11 i12 out8 put9 i10 o := hb
                                    clear hb
                                    unfold acts6_l3 at h
                                    refine xw_seq (xw_seq (xw_region ?_))
                                    refine xq rfl trivial (o_mv rfl) ?_
                                    refine xq rfl trivial (o_mv rfl) ?_
                                    refine xq rfl trivial (o_lenL rfl Try.underlying43 rfl (OJ.val hJ11_1)) ?_
                                    refine xq rfl trivial (o_lss rfl rfl) ?_
                                    refine xo_nil (xq_then ?_)
                                    refine xw_bool 22 rfl (fun hc44 => ?_) (fun hc44 => ?_)
                                    · have hq44 : (decide (i10 < (v11.length : Int))) = true := hc44
                                      have hp44 : i10 < (v11.length : Int) := of_decide_eq_true hq44
                                      rw [if_pos hp44] at h
                                      refine xw_cond_t rfl rfl (xw_skip (xq_then (xw_seq ?_)))
                                      refine xw_block ?_
                                      refine xw_seq (xw_seq ?_)
                                      obtain ⟨ho45, h⟩ := h
                                      refine xw_cut [(0, _), (1, _), (2, _), (8, _), (9, _), (10, _)] (lc rfl (lc rfl (lc rfl (lc rfl (lc rfl (lc rfl ln)))))) [(35, .bool ((decide ((acts1[i12.toNat]!) 1 < v11[i10.toNat]! 0)) && (!(put9))))] ?_ ?_
                                      · refine xw_region ?_
                                        refine xq rfl trivial (o_mv rfl) ?_
                                        refine xq rfl trivial (o_mv rfl) ?_
                                        refine xq rfl trivial (o_ixL el43 rfl rfl (fun w hw => (hJ11_1.sl hw (Pull.sub (.there _ (.thereC _ (.there _ (.thereC _ (.there _ (.there _ (.there _ (.there _ (.here _ _)))))))))))) rfl (ho45)) ?_
                                        refine xq rfl trivial (o_faL fl45_0 rfl rfl (fun w hw => (hJ11_1.sl hw (Pull.sub (.there _ (.thereC _ (.there _ (.thereC _ (.there _ (.there _ (.there _ (.there _ (.here _ _)))))))))))) (toNat_lt (ho45))) ?_
                                        refine xq rfl trivial (o_ldL1 (off := 0) (u := .int .i64 (v11[i10.toNat]! 0)) rfl ts3 rfl (fun w hw => (hJ11_1.sl hw (Pull.sub (.there _ (.thereC _ (.there _ (.thereC _ (.there _ (.there _ (.there _ (.there _ (.here _ _)))))))))))) (toNat_lt (ho45)) rfl rfl) ?_
                                        refine xq rfl trivial (o_mv rfl) ?_
                                        refine xq rfl trivial (o_gtr rfl rfl) ?_
                                        refine xq rfl trivial (o_mv rfl) ?_
                                        refine xo_bool 32 rfl (fun hg46 => ?_) (fun hg46 => ?_)
                                        · have hq46 : (decide ((acts1[i12.toNat]!) 1 < v11[i10.toNat]! 0)) = true := hg46
                                          have hp46 : (acts1[i12.toNat]!) 1 < v11[i10.toNat]! 0 := of_decide_eq_true hq46
                                          refine xq rfl ⟨_, rfl, rfl⟩ (o_mv rfl) ?_
                                          refine xq rfl ⟨_, rfl, rfl⟩ (o_not rfl) ?_
                                          refine xq rfl trivial (o_pick_t rfl rfl) ?_
                                          refine xo_nil ?_
                                          exact xq_cut ((lce rfl (by first | rfl | (simp only [hq44, hq46, if_pos hp44, if_pos hp46, bS]; done) | (simp [hp44, hp46]; done) | (simp_all; done)) (lc rfl (lc rfl (lc rfl (lc rfl (lc rfl (lc rfl ln)))))))) (fun _ h => h)
                                        · have hq46 : (decide ((acts1[i12.toNat]!) 1 < v11[i10.toNat]! 0)) = false := hg46
                                          have hp46 : ¬ ((acts1[i12.toNat]!) 1 < v11[i10.toNat]! 0) := of_decide_eq_false hq46
                                          refine xs rfl ⟨_, _, rfl, rfl, rfl⟩ (xs rfl ⟨_, _, rfl, rfl, rfl⟩ ?_)
                                          refine xq rfl trivial (o_pick_f rfl rfl) ?_
                                          refine xo_nil ?_
                                          exact xq_cut ((lce rfl (by first | rfl | (simp only [hq44, hq46, if_pos hp44, if_neg hp46, bS]; done) | (simp [hp44, hp46]; done) | (simp_all; done)) (lc rfl (lc rfl (lc rfl (lc rfl (lc rfl (lc rfl ln)))))))) (fun _ h => h)
                                      · refine xq_then ?_
                                        refine xw_bool 35 rfl (fun hc47 => ?_) (fun hc47 => ?_)
                                        · have hq47 : ((decide ((acts1[i12.toNat]!) 1 < v11[i10.toNat]! 0)) && (!(put9))) = true := hc47
                                          have hp47 : ((decide ((acts1[i12.toNat]!) 1 < v11[i10.toNat]! 0)) && (!(put9))) = true := hq47
                                          rw [if_pos hp47] at h
                                          refine xw_cond_t rfl rfl (xw_seq (xw_region ?_))
                                          refine xq rfl trivial (o_mv rfl) ?_
                                          refine xq rfl trivial (o_mv rfl) ?_
                                          refine xq rfl trivial (o_mv rfl) ?_
                                          refine xq rfl trivial (o_build fk45 ze45 (.int fl45_0 rfl rfl (.int fl45_1 rfl rfl (.nil _)))) ?_
                                          refine xo rfl trivial (o_bsl el43 ze45 rfl rfl rfl (.ints rfl rfl (.nil _))) ?_
                                          rintro _ _ ⟨b40, hb40, rfl, rfl⟩
                                          obtain ⟨ho49, h⟩ := h
                                          refine xo rfl trivial (OT.st (fun _ h => Pull.st (.thereC _ (.here _ _)) h) (o_appJ (l := out8) (l' := [(updI (updI (fun _ => 0) 0 ((acts1[i12.toNat]!) 1)) 1 ((acts1[i12.toNat]!) 2))]) (B := B8_3) ap43 rfl rfl hJ8_3 (fun w2 hw2 => (SL.lit (l := [(updI (updI (fun _ => 0) 0 ((acts1[i12.toNat]!) 1)) 1 ((acts1[i12.toNat]!) 2))]) hw2 (List.mem_append_right _ (List.Mem.head _)) rfl (by omega) (by simp [maxLen]) (by exact (fun i hi => match i, hi with | 0, _ => rfl | 1, _ => rfl | q + 2, h => absurd h (by omega))))) (fun _ _ => rfl) ho49 (len_max ho49 (by decide)))) ?_
                                          rintro vs48 _ ⟨Bs48, rfl, hns48, hJs48⟩
                                          have hcBs48 := Cov.trans hcB8_3 hns48
                                          refine xo_st ((b40, BK 2 _ 45) :: (Bs48 ++ ((b17, BK 3 (iv (acts1[i12.toNat]!)) 48) :: (Bs32 ++ ((b14, BK 2 (cl [.int .i64 span0, vb14_1_1]) 57) :: (Bb14_1_1 ++ (Bs30 ++ (Bs24 ++ (B13_2o ++ (B11_1 ++ ([]))))))))))) (fun _ h => Pull.push (.thereC _ (.here _ _)) h) ?_
                                          refine xq rfl trivial (o_as rfl) ?_
                                          refine xo_nil (xq_then (xw_region ?_))
                                          refine xq rfl trivial (o_as rfl) ?_
                                          refine xo_nil (xq_then (xw_seq (xw_seq (xw_region ?_))))
                                          refine xq rfl trivial (o_mv rfl) ?_
                                          refine xq rfl trivial (o_mv rfl) ?_
                                          obtain ⟨ho50, h⟩ := h
                                          refine xq rfl trivial (o_ixL el43 rfl rfl (fun w hw => (hJ11_1.sl hw (Pull.sub (.thereC _ (.there _ (.thereC _ (.there _ (.thereC _ (.there _ (.there _ (.there _ (.there _ (.here _ _))))))))))))) rfl ho50) ?_
                                          refine xq rfl trivial (o_faL fl45_0 rfl rfl (fun w hw => (hJ11_1.sl hw (Pull.sub (.thereC _ (.there _ (.thereC _ (.there _ (.thereC _ (.there _ (.there _ (.there _ (.there _ (.here _ _))))))))))))) (toNat_lt ho50)) ?_
                                          refine xq rfl trivial (o_ldL1 (off := 0) (u := .int .i64 (v11[i10.toNat]! 0)) rfl ts3 rfl (fun w hw => (hJ11_1.sl hw (Pull.sub (.thereC _ (.there _ (.thereC _ (.there _ (.thereC _ (.there _ (.there _ (.there _ (.there _ (.here _ _))))))))))))) (toNat_lt ho50) rfl rfl) ?_
                                          refine xq rfl trivial (o_mv rfl) ?_
                                          refine xq rfl trivial (o_eql rfl rfl) ?_
                                          refine xo_nil (xq_then ?_)
                                          refine xw_bool 48 rfl (fun hc51 => ?_) (fun hc51 => ?_)
                                          · have hq51 : (decide (v11[i10.toNat]! 0 = (acts1[i12.toNat]!) 1)) = true := hc51
                                            have hp51 : v11[i10.toNat]! 0 = (acts1[i12.toNat]!) 1 := of_decide_eq_true hq51
                                            rw [if_pos hp51] at h
                                            refine xw_cond_t rfl rfl (xw_seq (xw_region ?_))
                                            refine xq rfl trivial (o_as rfl) ?_
                                            refine xo_nil (xq_then (xw_seq (xw_seq (xw_region ?_))))
                                            refine xq rfl trivial (o_mv rfl) ?_
                                            refine xq rfl trivial (o_mv rfl) ?_
                                            obtain ⟨ho52, h⟩ := h
                                            refine xq rfl trivial (o_ixL el43 rfl rfl (fun w hw => (hJ11_1.sl hw (Pull.sub (.thereC _ (.there _ (.thereC _ (.there _ (.thereC _ (.there _ (.there _ (.there _ (.there _ (.here _ _))))))))))))) rfl ho52) ?_
                                            refine xq rfl trivial (o_faL fl45_1 rfl rfl (fun w hw => (hJ11_1.sl hw (Pull.sub (.thereC _ (.there _ (.thereC _ (.there _ (.thereC _ (.there _ (.there _ (.there _ (.there _ (.here _ _))))))))))))) (toNat_lt ho52)) ?_
                                            refine xq rfl trivial (o_ldL1 (off := 1) (u := .int .i64 (v11[i10.toNat]! 1)) rfl ts3 rfl (fun w hw => (hJ11_1.sl hw (Pull.sub (.thereC _ (.there _ (.thereC _ (.there _ (.thereC _ (.there _ (.there _ (.there _ (.there _ (.here _ _))))))))))))) (toNat_lt ho52) rfl rfl) ?_
                                            refine xq rfl trivial (o_mv rfl) ?_
                                            refine xq rfl trivial (o_gtr rfl rfl) ?_
                                            refine xo_nil (xq_then ?_)
                                            refine xw_bool 55 rfl (fun hc53 => ?_) (fun hc53 => ?_)
                                            · have hq53 : (decide ((acts1[i12.toNat]!) 2 < v11[i10.toNat]! 1)) = true := hc53
                                              have hp53 : (acts1[i12.toNat]!) 2 < v11[i10.toNat]! 1 := of_decide_eq_true hq53
                                              rw [if_pos hp53] at h
                                              refine xw_cond_t rfl rfl (xw_region ?_)
                                              refine xq rfl trivial (o_mv rfl) ?_
                                              refine xq rfl trivial (o_mv rfl) ?_
                                              refine xq rfl trivial (o_mv rfl) ?_
                                              obtain ⟨ho54, h⟩ := h
                                              refine xq rfl trivial (o_ixL el43 rfl rfl (fun w hw => (hJ11_1.sl hw (Pull.sub (.thereC _ (.there _ (.thereC _ (.there _ (.thereC _ (.there _ (.there _ (.there _ (.there _ (.here _ _))))))))))))) rfl ho54) ?_
                                              refine xq rfl trivial (o_ldLI rfl ts45 rfl (fun w hw => (hJ11_1.sl hw (Pull.sub (.thereC _ (.there _ (.thereC _ (.there _ (.thereC _ (.there _ (.there _ (.there _ (.there _ (.here _ _))))))))))))) (toNat_lt ho54) rfl) ?_
                                              refine xo rfl trivial (o_bsl el43 ze45 rfl rfl rfl (.ints rfl rfl (.nil _))) ?_
                                              rintro _ _ ⟨b61, hb61, rfl, rfl⟩
                                              obtain ⟨ho56, h⟩ := h
                                              refine xo rfl trivial (OT.st (fun _ h => Pull.st (.thereC _ (.thereC _ (.here _ _))) h) (o_appJ (l := (out8 ++ [(updI (updI (fun _ => 0) 0 ((acts1[i12.toNat]!) 1)) 1 ((acts1[i12.toNat]!) 2))])) (l' := [(v11[i10.toNat]!)]) (B := Bs48) ap43 rfl rfl hJs48 (fun w2 hw2 => (SL.lit (l := [(v11[i10.toNat]!)]) hw2 (List.mem_append_right _ (List.Mem.head _)) rfl (by omega) (by simp [maxLen]) (by exact (fun i hi => match i, hi with | 0, _ => rfl | 1, _ => rfl | q + 2, h => absurd h (by omega))))) (fun _ _ => rfl) ho56 (len_max ho56 (by decide)))) ?_
                                              rintro vs55 _ ⟨Bs55, rfl, hns55, hJs55⟩
                                              have hcBs55 := Cov.trans hcBs48 hns55
                                              refine xo_st ((b61, BK 2 _ 45) :: ((b40, BK 2 _ 45) :: (Bs55 ++ ((b17, BK 3 (iv (acts1[i12.toNat]!)) 48) :: (Bs32 ++ ((b14, BK 2 (cl [.int .i64 span0, vb14_1_1]) 57) :: (Bb14_1_1 ++ (Bs30 ++ (Bs24 ++ (B13_2o ++ (B11_1 ++ ([])))))))))))) (fun _ h => Pull.push (.thereC _ (.thereC _ (.here _ _))) h) ?_
                                              refine xq rfl trivial (o_as rfl) ?_
                                              refine xo_nil (xq_then (xw_exit (xq_then_exit ?_)))
                                              refine xq_blk_eq ?_
                                              refine xq_then (xw_region ?_)
                                              refine xq rfl trivial (o_mv rfl) ?_
                                              obtain ⟨ho57, h⟩ := h
                                              refine xq rfl trivial (o_add rfl rfl rfl ho57) ?_
                                              refine xq rfl trivial (o_as rfl) ?_
                                              refine xo_nil ?_
                                              exact xq_next (s' := ((((out8 ++ [(updI (updI (fun _ => 0) 0 ((acts1[i12.toNat]!) 1)) 1 ((acts1[i12.toNat]!) 2))]) ++ [(v11[i10.toNat]!)]), true, i10 + 1) : (List (Nat → Int)) × Bool × Int)) (e' := [(0, v11_1), (1, .int .i64 ((acts1[i12.toNat]!) 1)), (2, .int .i64 ((acts1[i12.toNat]!) 2)), (8, vs55), (9, .bool true), (10, .int .i64 (i10 + 1))]) (Bs55 ++ ((b17, BK 3 (iv (acts1[i12.toNat]!)) 48) :: (Bs32 ++ ((b14, BK 2 (cl [.int .i64 span0, vb14_1_1]) 57) :: (Bb14_1_1 ++ (Bs30 ++ (Bs24 ++ (B13_2o ++ (B11_1 ++ ([])))))))))) (lc rfl (lc rfl (lc rfl (lc rfl (lc rfl (lc rfl ln)))))) (Kp.st (Kp.new hb61 (Kp.new hb40 (Kp.segKeep (Kp.keep (Kp.segKeep (Kp.keep (Kp.segKeep (Kp.segKeep (Kp.segKeep (Kp.segKeep (Kp.segKeep Kp.nil)))))))))))) h ⟨vs55, Bs55, rfl, rfl, hJs55, hcBs55⟩
                                            · have hq53 : (decide ((acts1[i12.toNat]!) 2 < v11[i10.toNat]! 1)) = false := hc53
                                              have hp53 : ¬ ((acts1[i12.toNat]!) 2 < v11[i10.toNat]! 1) := of_decide_eq_false hq53
                                              rw [if_neg hp53] at h
                                              refine xw_cond_f rfl rfl (xw_region ?_)
                                              refine xq rfl trivial (o_mv rfl) ?_
                                              refine xq rfl trivial (o_mv rfl) ?_
                                              refine xq rfl trivial (o_mv rfl) ?_
                                              refine xq rfl trivial (o_build fk45 ze45 (.int fl45_0 rfl rfl (.int fl45_1 rfl rfl (.nil _)))) ?_
                                              refine xo rfl trivial (o_bsl el43 ze45 rfl rfl rfl (.ints rfl rfl (.nil _))) ?_
                                              rintro _ _ ⟨b67, hb67, rfl, rfl⟩
                                              obtain ⟨ho59, h⟩ := h
                                              refine xo rfl trivial (OT.st (fun _ h => Pull.st (.thereC _ (.thereC _ (.here _ _))) h) (o_appJ (l := (out8 ++ [(updI (updI (fun _ => 0) 0 ((acts1[i12.toNat]!) 1)) 1 ((acts1[i12.toNat]!) 2))])) (l' := [(updI (updI (fun _ => 0) 0 ((acts1[i12.toNat]!) 1)) 1 ((acts1[i12.toNat]!) 2))]) (B := Bs48) ap43 rfl rfl hJs48 (fun w2 hw2 => (SL.lit (l := [(updI (updI (fun _ => 0) 0 ((acts1[i12.toNat]!) 1)) 1 ((acts1[i12.toNat]!) 2))]) hw2 (List.mem_append_right _ (List.Mem.head _)) rfl (by omega) (by simp [maxLen]) (by exact (fun i hi => match i, hi with | 0, _ => rfl | 1, _ => rfl | q + 2, h => absurd h (by omega))))) (fun _ _ => rfl) ho59 (len_max ho59 (by decide)))) ?_
                                              rintro vs58 _ ⟨Bs58, rfl, hns58, hJs58⟩
                                              have hcBs58 := Cov.trans hcBs48 hns58
                                              refine xo_st ((b67, BK 2 _ 45) :: ((b40, BK 2 _ 45) :: (Bs58 ++ ((b17, BK 3 (iv (acts1[i12.toNat]!)) 48) :: (Bs32 ++ ((b14, BK 2 (cl [.int .i64 span0, vb14_1_1]) 57) :: (Bb14_1_1 ++ (Bs30 ++ (Bs24 ++ (B13_2o ++ (B11_1 ++ ([])))))))))))) (fun _ h => Pull.push (.thereC _ (.thereC _ (.here _ _))) h) ?_
                                              refine xq rfl trivial (o_as rfl) ?_
                                              refine xo_nil (xq_then (xw_exit (xq_then_exit ?_)))
                                              refine xq_blk_eq ?_
                                              refine xq_then (xw_region ?_)
                                              refine xq rfl trivial (o_mv rfl) ?_
                                              obtain ⟨ho60, h⟩ := h
                                              refine xq rfl trivial (o_add rfl rfl rfl ho60) ?_
                                              refine xq rfl trivial (o_as rfl) ?_
                                              refine xo_nil ?_
                                              exact xq_next (s' := ((((out8 ++ [(updI (updI (fun _ => 0) 0 ((acts1[i12.toNat]!) 1)) 1 ((acts1[i12.toNat]!) 2))]) ++ [(updI (updI (fun _ => 0) 0 ((acts1[i12.toNat]!) 1)) 1 ((acts1[i12.toNat]!) 2))]), true, i10 + 1) : (List (Nat → Int)) × Bool × Int)) (e' := [(0, v11_1), (1, .int .i64 ((acts1[i12.toNat]!) 1)), (2, .int .i64 ((acts1[i12.toNat]!) 2)), (8, vs58), (9, .bool true), (10, .int .i64 (i10 + 1))]) (Bs58 ++ ((b17, BK 3 (iv (acts1[i12.toNat]!)) 48) :: (Bs32 ++ ((b14, BK 2 (cl [.int .i64 span0, vb14_1_1]) 57) :: (Bb14_1_1 ++ (Bs30 ++ (Bs24 ++ (B13_2o ++ (B11_1 ++ ([])))))))))) (lc rfl (lc rfl (lc rfl (lc rfl (lc rfl (lc rfl ln)))))) (Kp.st (Kp.new hb67 (Kp.new hb40 (Kp.segKeep (Kp.keep (Kp.segKeep (Kp.keep (Kp.segKeep (Kp.segKeep (Kp.segKeep (Kp.segKeep (Kp.segKeep Kp.nil)))))))))))) h ⟨vs58, Bs58, rfl, rfl, hJs58, hcBs58⟩
                                          · have hq51 : (decide (v11[i10.toNat]! 0 = (acts1[i12.toNat]!) 1)) = false := hc51
                                            have hp51 : ¬ (v11[i10.toNat]! 0 = (acts1[i12.toNat]!) 1) := of_decide_eq_false hq51
                                            rw [if_neg hp51] at h
                                            refine xw_cond_f rfl rfl (xw_skip (xq_then (xw_region ?_)))
                                            refine xq rfl trivial (o_mv rfl) ?_
                                            refine xq rfl trivial (o_mv rfl) ?_
                                            refine xq rfl trivial (o_mv rfl) ?_
                                            obtain ⟨ho61, h⟩ := h
                                            refine xq rfl trivial (o_ixL el43 rfl rfl (fun w hw => (hJ11_1.sl hw (Pull.sub (.thereC _ (.there _ (.thereC _ (.there _ (.thereC _ (.there _ (.there _ (.there _ (.there _ (.here _ _))))))))))))) rfl ho61) ?_
                                            refine xq rfl trivial (o_ldLI rfl ts45 rfl (fun w hw => (hJ11_1.sl hw (Pull.sub (.thereC _ (.there _ (.thereC _ (.there _ (.thereC _ (.there _ (.there _ (.there _ (.there _ (.here _ _))))))))))))) (toNat_lt ho61) rfl) ?_
                                            refine xo rfl trivial (o_bsl el43 ze45 rfl rfl rfl (.ints rfl rfl (.nil _))) ?_
                                            rintro _ _ ⟨b74, hb74, rfl, rfl⟩
                                            obtain ⟨ho63, h⟩ := h
                                            refine xo rfl trivial (OT.st (fun _ h => Pull.st (.thereC _ (.thereC _ (.here _ _))) h) (o_appJ (l := (out8 ++ [(updI (updI (fun _ => 0) 0 ((acts1[i12.toNat]!) 1)) 1 ((acts1[i12.toNat]!) 2))])) (l' := [(v11[i10.toNat]!)]) (B := Bs48) ap43 rfl rfl hJs48 (fun w2 hw2 => (SL.lit (l := [(v11[i10.toNat]!)]) hw2 (List.mem_append_right _ (List.Mem.head _)) rfl (by omega) (by simp [maxLen]) (by exact (fun i hi => match i, hi with | 0, _ => rfl | 1, _ => rfl | q + 2, h => absurd h (by omega))))) (fun _ _ => rfl) ho63 (len_max ho63 (by decide)))) ?_
                                            rintro vs62 _ ⟨Bs62, rfl, hns62, hJs62⟩
                                            have hcBs62 := Cov.trans hcBs48 hns62
                                            refine xo_st ((b74, BK 2 _ 45) :: ((b40, BK 2 _ 45) :: (Bs62 ++ ((b17, BK 3 (iv (acts1[i12.toNat]!)) 48) :: (Bs32 ++ ((b14, BK 2 (cl [.int .i64 span0, vb14_1_1]) 57) :: (Bb14_1_1 ++ (Bs30 ++ (Bs24 ++ (B13_2o ++ (B11_1 ++ ([])))))))))))) (fun _ h => Pull.push (.thereC _ (.thereC _ (.here _ _))) h) ?_
                                            refine xq rfl trivial (o_as rfl) ?_
                                            refine xo_nil ?_
                                            refine xq_blk 1 ?_
                                            refine xq_then (xw_region ?_)
                                            refine xq rfl trivial (o_mv rfl) ?_
                                            obtain ⟨ho64, h⟩ := h
                                            refine xq rfl trivial (o_add rfl rfl rfl ho64) ?_
                                            refine xq rfl trivial (o_as rfl) ?_
                                            refine xo_nil ?_
                                            exact xq_next (s' := ((((out8 ++ [(updI (updI (fun _ => 0) 0 ((acts1[i12.toNat]!) 1)) 1 ((acts1[i12.toNat]!) 2))]) ++ [(v11[i10.toNat]!)]), true, i10 + 1) : (List (Nat → Int)) × Bool × Int)) (e' := [(0, v11_1), (1, .int .i64 ((acts1[i12.toNat]!) 1)), (2, .int .i64 ((acts1[i12.toNat]!) 2)), (8, vs62), (9, .bool true), (10, .int .i64 (i10 + 1))]) (Bs62 ++ ((b17, BK 3 (iv (acts1[i12.toNat]!)) 48) :: (Bs32 ++ ((b14, BK 2 (cl [.int .i64 span0, vb14_1_1]) 57) :: (Bb14_1_1 ++ (Bs30 ++ (Bs24 ++ (B13_2o ++ (B11_1 ++ ([])))))))))) (lc rfl (lc rfl (lc rfl (lc rfl (lc rfl (lc rfl ln)))))) (Kp.st (Kp.new hb74 (Kp.new hb40 (Kp.segKeep (Kp.keep (Kp.segKeep (Kp.keep (Kp.segKeep (Kp.segKeep (Kp.segKeep (Kp.segKeep (Kp.segKeep Kp.nil)))))))))))) h ⟨vs62, Bs62, rfl, rfl, hJs62, hcBs62⟩
                                        · have hq47 : ((decide ((acts1[i12.toNat]!) 1 < v11[i10.toNat]! 0)) && (!(put9))) = false := hc47
                                          have hp47 : ¬ (((decide ((acts1[i12.toNat]!) 1 < v11[i10.toNat]! 0)) && (!(put9))) = true) := bne' hq47
                                          rw [if_neg hp47] at h
                                          refine xw_cond_f rfl rfl (xw_skip (xq_then (xw_seq (xw_seq (xw_region ?_)))))
                                          refine xq rfl trivial (o_mv rfl) ?_
                                          refine xq rfl trivial (o_mv rfl) ?_
                                          obtain ⟨ho65, h⟩ := h
                                          refine xq rfl trivial (o_ixL el43 rfl rfl (fun w hw => (hJ11_1.sl hw (Pull.sub (.there _ (.thereC _ (.there _ (.thereC _ (.there _ (.there _ (.there _ (.there _ (.here _ _)))))))))))) rfl ho65) ?_
                                          refine xq rfl trivial (o_faL fl45_0 rfl rfl (fun w hw => (hJ11_1.sl hw (Pull.sub (.there _ (.thereC _ (.there _ (.thereC _ (.there _ (.there _ (.there _ (.there _ (.here _ _)))))))))))) (toNat_lt ho65)) ?_
                                          refine xq rfl trivial (o_ldL1 (off := 0) (u := .int .i64 (v11[i10.toNat]! 0)) rfl ts3 rfl (fun w hw => (hJ11_1.sl hw (Pull.sub (.there _ (.thereC _ (.there _ (.thereC _ (.there _ (.there _ (.there _ (.there _ (.here _ _)))))))))))) (toNat_lt ho65) rfl rfl) ?_
                                          refine xq rfl trivial (o_mv rfl) ?_
                                          refine xq rfl trivial (o_eql rfl rfl) ?_
                                          refine xo_nil (xq_then ?_)
                                          refine xw_bool 48 rfl (fun hc66 => ?_) (fun hc66 => ?_)
                                          · have hq66 : (decide (v11[i10.toNat]! 0 = (acts1[i12.toNat]!) 1)) = true := hc66
                                            have hp66 : v11[i10.toNat]! 0 = (acts1[i12.toNat]!) 1 := of_decide_eq_true hq66
                                            rw [if_pos hp66] at h
                                            refine xw_cond_t rfl rfl (xw_seq (xw_region ?_))
                                            refine xq rfl trivial (o_as rfl) ?_
                                            refine xo_nil (xq_then (xw_seq (xw_seq (xw_region ?_))))
                                            refine xq rfl trivial (o_mv rfl) ?_
                                            refine xq rfl trivial (o_mv rfl) ?_
                                            obtain ⟨ho67, h⟩ := h
                                            refine xq rfl trivial (o_ixL el43 rfl rfl (fun w hw => (hJ11_1.sl hw (Pull.sub (.there _ (.thereC _ (.there _ (.thereC _ (.there _ (.there _ (.there _ (.there _ (.here _ _)))))))))))) rfl ho67) ?_
                                            refine xq rfl trivial (o_faL fl45_1 rfl rfl (fun w hw => (hJ11_1.sl hw (Pull.sub (.there _ (.thereC _ (.there _ (.thereC _ (.there _ (.there _ (.there _ (.there _ (.here _ _)))))))))))) (toNat_lt ho67)) ?_
                                            refine xq rfl trivial (o_ldL1 (off := 1) (u := .int .i64 (v11[i10.toNat]! 1)) rfl ts3 rfl (fun w hw => (hJ11_1.sl hw (Pull.sub (.there _ (.thereC _ (.there _ (.thereC _ (.there _ (.there _ (.there _ (.there _ (.here _ _)))))))))))) (toNat_lt ho67) rfl rfl) ?_
                                            refine xq rfl trivial (o_mv rfl) ?_
                                            refine xq rfl trivial (o_gtr rfl rfl) ?_
                                            refine xo_nil (xq_then ?_)
                                            refine xw_bool 55 rfl (fun hc68 => ?_) (fun hc68 => ?_)
                                            · have hq68 : (decide ((acts1[i12.toNat]!) 2 < v11[i10.toNat]! 1)) = true := hc68
                                              have hp68 : (acts1[i12.toNat]!) 2 < v11[i10.toNat]! 1 := of_decide_eq_true hq68
                                              rw [if_pos hp68] at h
                                              refine xw_cond_t rfl rfl (xw_region ?_)
                                              refine xq rfl trivial (o_mv rfl) ?_
                                              refine xq rfl trivial (o_mv rfl) ?_
                                              refine xq rfl trivial (o_mv rfl) ?_
                                              obtain ⟨ho69, h⟩ := h
                                              refine xq rfl trivial (o_ixL el43 rfl rfl (fun w hw => (hJ11_1.sl hw (Pull.sub (.there _ (.thereC _ (.there _ (.thereC _ (.there _ (.there _ (.there _ (.there _ (.here _ _)))))))))))) rfl ho69) ?_
                                              refine xq rfl trivial (o_ldLI rfl ts45 rfl (fun w hw => (hJ11_1.sl hw (Pull.sub (.there _ (.thereC _ (.there _ (.thereC _ (.there _ (.there _ (.there _ (.there _ (.here _ _)))))))))))) (toNat_lt ho69) rfl) ?_
                                              refine xo rfl trivial (o_bsl el43 ze45 rfl rfl rfl (.ints rfl rfl (.nil _))) ?_
                                              rintro _ _ ⟨b61, hb61, rfl, rfl⟩
                                              obtain ⟨ho71, h⟩ := h
                                              refine xo rfl trivial (OT.st (fun _ h => Pull.st (.thereC _ (.here _ _)) h) (o_appJ (l := out8) (l' := [(v11[i10.toNat]!)]) (B := B8_3) ap43 rfl rfl hJ8_3 (fun w2 hw2 => (SL.lit (l := [(v11[i10.toNat]!)]) hw2 (List.mem_append_right _ (List.Mem.head _)) rfl (by omega) (by simp [maxLen]) (by exact (fun i hi => match i, hi with | 0, _ => rfl | 1, _ => rfl | q + 2, h => absurd h (by omega))))) (fun _ _ => rfl) ho71 (len_max ho71 (by decide)))) ?_
                                              rintro vs70 _ ⟨Bs70, rfl, hns70, hJs70⟩
                                              have hcBs70 := Cov.trans hcB8_3 hns70
                                              refine xo_st ((b61, BK 2 _ 45) :: (Bs70 ++ ((b17, BK 3 (iv (acts1[i12.toNat]!)) 48) :: (Bs32 ++ ((b14, BK 2 (cl [.int .i64 span0, vb14_1_1]) 57) :: (Bb14_1_1 ++ (Bs30 ++ (Bs24 ++ (B13_2o ++ (B11_1 ++ ([]))))))))))) (fun _ h => Pull.push (.thereC _ (.here _ _)) h) ?_
                                              refine xq rfl trivial (o_as rfl) ?_
                                              refine xo_nil (xq_then (xw_exit (xq_then_exit ?_)))
                                              refine xq_blk_eq ?_
                                              refine xq_then (xw_region ?_)
                                              refine xq rfl trivial (o_mv rfl) ?_
                                              obtain ⟨ho72, h⟩ := h
                                              refine xq rfl trivial (o_add rfl rfl rfl ho72) ?_
                                              refine xq rfl trivial (o_as rfl) ?_
                                              refine xo_nil ?_
                                              exact xq_next (s' := (((out8 ++ [(v11[i10.toNat]!)]), true, i10 + 1) : (List (Nat → Int)) × Bool × Int)) (e' := [(0, v11_1), (1, .int .i64 ((acts1[i12.toNat]!) 1)), (2, .int .i64 ((acts1[i12.toNat]!) 2)), (8, vs70), (9, .bool true), (10, .int .i64 (i10 + 1))]) (Bs70 ++ ((b17, BK 3 (iv (acts1[i12.toNat]!)) 48) :: (Bs32 ++ ((b14, BK 2 (cl [.int .i64 span0, vb14_1_1]) 57) :: (Bb14_1_1 ++ (Bs30 ++ (Bs24 ++ (B13_2o ++ (B11_1 ++ ([])))))))))) (lc rfl (lc rfl (lc rfl (lc rfl (lc rfl (lc rfl ln)))))) (Kp.st (Kp.new hb61 (Kp.segKeep (Kp.keep (Kp.segKeep (Kp.keep (Kp.segKeep (Kp.segKeep (Kp.segKeep (Kp.segKeep (Kp.segKeep Kp.nil))))))))))) h ⟨vs70, Bs70, rfl, rfl, hJs70, hcBs70⟩
                                            · have hq68 : (decide ((acts1[i12.toNat]!) 2 < v11[i10.toNat]! 1)) = false := hc68
                                              have hp68 : ¬ ((acts1[i12.toNat]!) 2 < v11[i10.toNat]! 1) := of_decide_eq_false hq68
                                              rw [if_neg hp68] at h
                                              refine xw_cond_f rfl rfl (xw_region ?_)
                                              refine xq rfl trivial (o_mv rfl) ?_
                                              refine xq rfl trivial (o_mv rfl) ?_
                                              refine xq rfl trivial (o_mv rfl) ?_
                                              refine xq rfl trivial (o_build fk45 ze45 (.int fl45_0 rfl rfl (.int fl45_1 rfl rfl (.nil _)))) ?_
                                              refine xo rfl trivial (o_bsl el43 ze45 rfl rfl rfl (.ints rfl rfl (.nil _))) ?_
                                              rintro _ _ ⟨b67, hb67, rfl, rfl⟩
                                              obtain ⟨ho74, h⟩ := h
                                              refine xo rfl trivial (OT.st (fun _ h => Pull.st (.thereC _ (.here _ _)) h) (o_appJ (l := out8) (l' := [(updI (updI (fun _ => 0) 0 ((acts1[i12.toNat]!) 1)) 1 ((acts1[i12.toNat]!) 2))]) (B := B8_3) ap43 rfl rfl hJ8_3 (fun w2 hw2 => (SL.lit (l := [(updI (updI (fun _ => 0) 0 ((acts1[i12.toNat]!) 1)) 1 ((acts1[i12.toNat]!) 2))]) hw2 (List.mem_append_right _ (List.Mem.head _)) rfl (by omega) (by simp [maxLen]) (by exact (fun i hi => match i, hi with | 0, _ => rfl | 1, _ => rfl | q + 2, h => absurd h (by omega))))) (fun _ _ => rfl) ho74 (len_max ho74 (by decide)))) ?_
                                              rintro vs73 _ ⟨Bs73, rfl, hns73, hJs73⟩
                                              have hcBs73 := Cov.trans hcB8_3 hns73
                                              refine xo_st ((b67, BK 2 _ 45) :: (Bs73 ++ ((b17, BK 3 (iv (acts1[i12.toNat]!)) 48) :: (Bs32 ++ ((b14, BK 2 (cl [.int .i64 span0, vb14_1_1]) 57) :: (Bb14_1_1 ++ (Bs30 ++ (Bs24 ++ (B13_2o ++ (B11_1 ++ ([]))))))))))) (fun _ h => Pull.push (.thereC _ (.here _ _)) h) ?_
                                              refine xq rfl trivial (o_as rfl) ?_
                                              refine xo_nil (xq_then (xw_exit (xq_then_exit ?_)))
                                              refine xq_blk_eq ?_
                                              refine xq_then (xw_region ?_)
                                              refine xq rfl trivial (o_mv rfl) ?_
                                              obtain ⟨ho75, h⟩ := h
                                              refine xq rfl trivial (o_add rfl rfl rfl ho75) ?_
                                              refine xq rfl trivial (o_as rfl) ?_
                                              refine xo_nil ?_
                                              exact xq_next (s' := (((out8 ++ [(updI (updI (fun _ => 0) 0 ((acts1[i12.toNat]!) 1)) 1 ((acts1[i12.toNat]!) 2))]), true, i10 + 1) : (List (Nat → Int)) × Bool × Int)) (e' := [(0, v11_1), (1, .int .i64 ((acts1[i12.toNat]!) 1)), (2, .int .i64 ((acts1[i12.toNat]!) 2)), (8, vs73), (9, .bool true), (10, .int .i64 (i10 + 1))]) (Bs73 ++ ((b17, BK 3 (iv (acts1[i12.toNat]!)) 48) :: (Bs32 ++ ((b14, BK 2 (cl [.int .i64 span0, vb14_1_1]) 57) :: (Bb14_1_1 ++ (Bs30 ++ (Bs24 ++ (B13_2o ++ (B11_1 ++ ([])))))))))) (lc rfl (lc rfl (lc rfl (lc rfl (lc rfl (lc rfl ln)))))) (Kp.st (Kp.new hb67 (Kp.segKeep (Kp.keep (Kp.segKeep (Kp.keep (Kp.segKeep (Kp.segKeep (Kp.segKeep (Kp.segKeep (Kp.segKeep Kp.nil))))))))))) h ⟨vs73, Bs73, rfl, rfl, hJs73, hcBs73⟩
                                          · have hq66 : (decide (v11[i10.toNat]! 0 = (acts1[i12.toNat]!) 1)) = false := hc66
                                            have hp66 : ¬ (v11[i10.toNat]! 0 = (acts1[i12.toNat]!) 1) := of_decide_eq_false hq66
                                            rw [if_neg hp66] at h
                                            refine xw_cond_f rfl rfl (xw_skip (xq_then (xw_region ?_)))
                                            refine xq rfl trivial (o_mv rfl) ?_
                                            refine xq rfl trivial (o_mv rfl) ?_
                                            refine xq rfl trivial (o_mv rfl) ?_
                                            obtain ⟨ho76, h⟩ := h
                                            refine xq rfl trivial (o_ixL el43 rfl rfl (fun w hw => (hJ11_1.sl hw (Pull.sub (.there _ (.thereC _ (.there _ (.thereC _ (.there _ (.there _ (.there _ (.there _ (.here _ _)))))))))))) rfl ho76) ?_
                                            refine xq rfl trivial (o_ldLI rfl ts45 rfl (fun w hw => (hJ11_1.sl hw (Pull.sub (.there _ (.thereC _ (.there _ (.thereC _ (.there _ (.there _ (.there _ (.there _ (.here _ _)))))))))))) (toNat_lt ho76) rfl) ?_
                                            refine xo rfl trivial (o_bsl el43 ze45 rfl rfl rfl (.ints rfl rfl (.nil _))) ?_
                                            rintro _ _ ⟨b74, hb74, rfl, rfl⟩
                                            obtain ⟨ho78, h⟩ := h
                                            refine xo rfl trivial (OT.st (fun _ h => Pull.st (.thereC _ (.here _ _)) h) (o_appJ (l := out8) (l' := [(v11[i10.toNat]!)]) (B := B8_3) ap43 rfl rfl hJ8_3 (fun w2 hw2 => (SL.lit (l := [(v11[i10.toNat]!)]) hw2 (List.mem_append_right _ (List.Mem.head _)) rfl (by omega) (by simp [maxLen]) (by exact (fun i hi => match i, hi with | 0, _ => rfl | 1, _ => rfl | q + 2, h => absurd h (by omega))))) (fun _ _ => rfl) ho78 (len_max ho78 (by decide)))) ?_
                                            rintro vs77 _ ⟨Bs77, rfl, hns77, hJs77⟩
                                            have hcBs77 := Cov.trans hcB8_3 hns77
                                            refine xo_st ((b74, BK 2 _ 45) :: (Bs77 ++ ((b17, BK 3 (iv (acts1[i12.toNat]!)) 48) :: (Bs32 ++ ((b14, BK 2 (cl [.int .i64 span0, vb14_1_1]) 57) :: (Bb14_1_1 ++ (Bs30 ++ (Bs24 ++ (B13_2o ++ (B11_1 ++ ([]))))))))))) (fun _ h => Pull.push (.thereC _ (.here _ _)) h) ?_
                                            refine xq rfl trivial (o_as rfl) ?_
                                            refine xo_nil ?_
                                            refine xq_blk 1 ?_
                                            refine xq_then (xw_region ?_)
                                            refine xq rfl trivial (o_mv rfl) ?_
                                            obtain ⟨ho79, h⟩ := h
                                            refine xq rfl trivial (o_add rfl rfl rfl ho79) ?_
                                            refine xq rfl trivial (o_as rfl) ?_
                                            refine xo_nil ?_
                                            exact xq_next (s' := (((out8 ++ [(v11[i10.toNat]!)]), put9, i10 + 1) : (List (Nat → Int)) × Bool × Int)) (e' := [(0, v11_1), (1, .int .i64 ((acts1[i12.toNat]!) 1)), (2, .int .i64 ((acts1[i12.toNat]!) 2)), (8, vs77), (9, .bool (put9)), (10, .int .i64 (i10 + 1))]) (Bs77 ++ ((b17, BK 3 (iv (acts1[i12.toNat]!)) 48) :: (Bs32 ++ ((b14, BK 2 (cl [.int .i64 span0, vb14_1_1]) 57) :: (Bb14_1_1 ++ (Bs30 ++ (Bs24 ++ (B13_2o ++ (B11_1 ++ ([])))))))))) (lc rfl (lc rfl (lc rfl (lc rfl (lc rfl (lc rfl ln)))))) (Kp.st (Kp.new hb74 (Kp.segKeep (Kp.keep (Kp.segKeep (Kp.keep (Kp.segKeep (Kp.segKeep (Kp.segKeep (Kp.segKeep (Kp.segKeep Kp.nil))))))))))) h ⟨vs77, Bs77, rfl, rfl, hJs77, hcBs77⟩
                                    · have hq44 : (decide (i10 < (v11.length : Int))) = false := hc44
                                      have hp44 : ¬ (i10 < (v11.length : Int)) := of_decide_eq_false hq44
                                      rw [if_neg hp44] at h
                                      refine xw_cond_f rfl rfl (xw_exit (xq_then_exit ?_))
                                      exact xq_out (r := ((out8, put9) : (List (Nat → Int)) × Bool)) (e' := [(1, .int .i64 ((acts1[i12.toNat]!) 1)), (2, .int .i64 ((acts1[i12.toNat]!) 2)), (8, v8_3), (9, .bool (put9))]) (B8_3 ++ ((b17, BK 3 (iv (acts1[i12.toNat]!)) 48) :: (Bs32 ++ ((b14, BK 2 (cl [.int .i64 span0, vb14_1_1]) 57) :: (Bb14_1_1 ++ (Bs30 ++ (Bs24 ++ (B13_2o ++ (B11_1 ++ ([])))))))))) (lc rfl (lc rfl (lc rfl (lc rfl ln)))) (fun _ h => h) h (by intro hh; cases hh) ⟨v8_3, B8_3, rfl, rfl, rfl, hJ8_3, hcB8_3⟩
                                  · obtain ⟨out8, put9⟩ := x3
                                    rintro _ _ _ ⟨v8_3o, B8_3o, rfl, rfl, rfl, hJ8_3o, hcB8_3o⟩
                                    replace h : acts6_k3a span0 acts1 i12 fb14_1 out8 put9 o := h
                                    unfold acts6_k3a at h
                                    refine xq_blk_eq ?_
                                    refine xq_then (xw_seq (xw_seq (xw_region ?_)))
                                    refine xq rfl trivial (o_mv rfl) ?_
                                    refine xq rfl trivial (o_not rfl) ?_
                                    refine xo_nil (xq_then ?_)
                                    refine xw_bool 77 rfl (fun hc80 => ?_) (fun hc80 => ?_)
                                    · have hq80 : (put9) = false := (bnT hc80)
                                      have hp80 : ¬ ((put9) = true) := bne' hq80
                                      rw [if_neg hp80] at h
                                      refine xw_cond_t rfl rfl (xw_region ?_)
                                      refine xq rfl trivial (o_mv rfl) ?_
                                      refine xq rfl trivial (o_mv rfl) ?_
                                      refine xq rfl trivial (o_mv rfl) ?_
                                      refine xq rfl trivial (o_build fk45 ze45 (.int fl45_0 rfl rfl (.int fl45_1 rfl rfl (.nil _)))) ?_
                                      refine xo rfl trivial (o_bsl el43 ze45 rfl rfl rfl (.ints rfl rfl (.nil _))) ?_
                                      rintro _ _ ⟨b82, hb82, rfl, rfl⟩
                                      obtain ⟨ho82, h⟩ := h
                                      refine xo rfl trivial (OT.st (fun _ h => Pull.st (.thereC _ (.here _ _)) h) (o_appJ (l := out8) (l' := [(updI (updI (fun _ => 0) 0 ((acts1[i12.toNat]!) 1)) 1 ((acts1[i12.toNat]!) 2))]) (B := B8_3o) ap43 rfl rfl hJ8_3o (fun w2 hw2 => (SL.lit (l := [(updI (updI (fun _ => 0) 0 ((acts1[i12.toNat]!) 1)) 1 ((acts1[i12.toNat]!) 2))]) hw2 (List.mem_append_right _ (List.Mem.head _)) rfl (by omega) (by simp [maxLen]) (by exact (fun i hi => match i, hi with | 0, _ => rfl | 1, _ => rfl | q + 2, h => absurd h (by omega))))) (fun _ _ => rfl) ho82 (len_max ho82 (by decide)))) ?_
                                      rintro vs81 _ ⟨Bs81, rfl, hns81, hJs81⟩
                                      have hcBs81 := Cov.trans hcB8_3o hns81
                                      refine xo_st ((b82, BK 2 _ 45) :: (Bs81 ++ ((b17, BK 3 (iv (acts1[i12.toNat]!)) 48) :: (Bs32 ++ ((b14, BK 2 (cl [.int .i64 span0, vb14_1_1]) 57) :: (Bb14_1_1 ++ (Bs30 ++ (Bs24 ++ (B13_2o ++ (B11_1 ++ ([]))))))))))) (fun _ h => Pull.push (.thereC _ (.here _ _)) h) ?_
                                      refine xq rfl trivial (o_as rfl) ?_
                                      refine xo_nil (xq_then (xw_seq (xw_region ?_)))
                                      refine xq rfl trivial (o_mv rfl) ?_
                                      refine xq rfl trivial (o_as rfl) ?_
                                      refine xq rfl trivial (o_as rfl) ?_
                                      refine xo_nil (xq_then (xw_ret ?_))
                                      refine con_ret2 (.inl rfl) Try.results17 rfl rfl _ (fun _ h => h) (?_)
                                      refine xq rfl trivial (o_mv rfl) ?_
                                      refine xq rfl trivial (o_ext rfl rfl) ?_
                                      refine xq rfl trivial (o_ext rfl rfl) ?_
                                      refine xq rfl trivial (o_as rfl) ?_
                                      refine xq rfl trivial (o_as rfl) ?_
                                      refine xo_nil (xq_then (xw_seq (xw_region ?_)))
                                      refine xq rfl trivial (o_mv rfl) ?_
                                      first | refine xq rfl trivial (o_fa0 fl48_1 rfl) ?_ | refine xq rfl trivial (o_fa fl48_1 rfl) ?_
                                      refine xq rfl trivial (o_ldI (v := (acts1[i12.toNat]!) 1) rfl ts3 (List.Mem.tail _ (List.mem_append_right _ (List.Mem.head _))) (by omega) rfl) ?_
                                      first | refine xq rfl trivial (o_fa0 fl48_2 rfl) ?_ | refine xq rfl trivial (o_fa fl48_2 rfl) ?_
                                      refine xq rfl trivial (o_ldI (v := (acts1[i12.toNat]!) 2) rfl ts3 (List.Mem.tail _ (List.mem_append_right _ (List.Mem.head _))) (by omega) rfl) ?_
                                      refine xo rfl trivial (OT.st (fun _ h => St.permI [4, 5, 0, 1, 2, 3, 6, 7, 8, 9] [[(b82, _)], Bs81, [(b17, _)], Bs32, [(b14, _)], Bb14_1_1, Bs30, Bs24, B13_2o, B11_1] rfl h) (ot_callF (Cs := [[(b14, _)], Bb14_1_1]) (Rs := [[(b82, _)], Bs81, [(b17, _)], Bs32, Bs30, Bs24, B13_2o, B11_1]) kf9 rfl (fun w1 hw1 => renew_c _ _ _ _ _ _ _ w1 hJb14_1_1 (St.hasC hw1)) (fun _ _ _ h => h.1))) ?_
                                      rintro _ _ ⟨w1, _, rfl, hle, -, vg84_0, Bg84_0, rfl, rfl, hJBg84_0, hcBg84_0⟩
                                      replace hcBg84_0 := Cov.trans hcBb14_1_1 (Cov.base (w0 := w) hcBg84_0 hle)
                                      refine xo_st ((b14, BK 2 (cl [.int .i64 span0, vg84_0]) 57) :: (Bg84_0 ++ ((b82, BK 2 _ 45) :: (Bs81 ++ ((b17, BK 3 (iv (acts1[i12.toNat]!)) 48) :: (Bs32 ++ (Bs30 ++ (Bs24 ++ (B13_2o ++ (B11_1 ++ ([]))))))))))) (fun _ h => h) ?_
                                      refine xcallq rfl trivial kf15 rfl (fun w1 hw1 => code_c _ w1) ?_
                                      refine xq rfl trivial (o_mv rfl) ?_
                                      refine xq rfl trivial (o_neq rfl rfl) ?_
                                      refine xo_nil (xq_then ?_)
                                      refine xw_bool 136 rfl (fun hc85 => ?_) (fun hc85 => ?_)
                                      · have hq85 : (decide ((code_F ((renew_F span0 fb14_1 ((acts1[i12.toNat]!) 1) ((acts1[i12.toNat]!) 2)).1)) = 0)) = false := (bnT hc85)
                                        have hp85 : ¬ ((code_F ((renew_F span0 fb14_1 ((acts1[i12.toNat]!) 1) ((acts1[i12.toNat]!) 2)).1)) = 0) := of_decide_eq_false hq85
                                        rw [if_neg hp85] at h
                                        refine xw_cond_t rfl rfl (xw_seq (xw_region ?_))
                                        refine xq rfl trivial (o_as rfl) ?_
                                        refine xo_nil (xq_then (xw_ret (xq_blk_ret (xq_then_ret ?_))))
                                        exact xq_out (r := (.inr ((renew_F span0 fb14_1 ((acts1[i12.toNat]!) 1) ((acts1[i12.toNat]!) 2)).2) : ((List (Nat → Int)) × (List (Int × Int))) ⊕ ((List (Int × Int))))) (e' := [(8, .bool false)]) (Bs81 ++ ((b14, BK 2 (cl [.int .i64 span0, vg84_0]) 57) :: (Bg84_0 ++ ([])))) (lc rfl ln) (fun _ h => St.permI [2, 0, 1] [[(b14, _)], Bg84_0, Bs81] rfl (Kp.st (Kp.keep (Kp.segKeep (Kp.new hb82 (Kp.segKeep (Kp.new hb17 (Kp.segNew (Cov.fresh hcBs32) (Kp.segNew (Cov.fresh hcBs30) (Kp.segNew (Cov.fresh hcBs24) (Kp.segNew (Cov.fresh hcB13_2o) (Kp.segNew (Cov.fresh hcB11_1) Kp.nil)))))))))) _ h)) h (by intro hh; cases hh) ⟨vg84_0, Bs81, Bg84_0, rfl, rfl, rfl, hJBg84_0, hcBs81, hcBg84_0⟩
                                      · have hq85 : (decide ((code_F ((renew_F span0 fb14_1 ((acts1[i12.toNat]!) 1) ((acts1[i12.toNat]!) 2)).1)) = 0)) = true := (bnF hc85)
                                        have hp85 : (code_F ((renew_F span0 fb14_1 ((acts1[i12.toNat]!) 1) ((acts1[i12.toNat]!) 2)).1)) = 0 := of_decide_eq_true hq85
                                        rw [if_pos hp85] at h
                                        refine xw_cond_f rfl rfl (xw_skip ?_)
                                        refine xq_blk 1 ?_
                                        refine xq_then (xw_region ?_)
                                        refine xq rfl trivial (o_mv rfl) ?_
                                        obtain ⟨ho86, h⟩ := h
                                        refine xq rfl trivial (o_add rfl rfl rfl ho86) ?_
                                        refine xq rfl trivial (o_as rfl) ?_
                                        refine xo_nil ?_
                                        exact xq_next (s' := (((out8 ++ [(updI (updI (fun _ => 0) 0 ((acts1[i12.toNat]!) 1)) 1 ((acts1[i12.toNat]!) 2))]), i12 + 1, (renew_F span0 fb14_1 ((acts1[i12.toNat]!) 1) ((acts1[i12.toNat]!) 2)).2) : (List (Nat → Int)) × Int × (List (Int × Int)))) (e' := [(0, .int .i64 span0), (1, v1), (2, .int .i64 now2), (3, .int .i64 id3), (9, .pointer (some ⟨b14, 0, none⟩)), (11, vs81), (12, .int .i64 (i12 + 1))]) (Bs81 ++ ((b14, BK 2 (cl [.int .i64 span0, vg84_0]) 57) :: (Bg84_0 ++ ([])))) (lc rfl (lc rfl (lc rfl (lc rfl (lc rfl (lc rfl (lc rfl ln))))))) (fun _ h => St.permI [2, 0, 1] [[(b14, _)], Bg84_0, Bs81] rfl (Kp.st (Kp.keep (Kp.segKeep (Kp.new hb82 (Kp.segKeep (Kp.new hb17 (Kp.segNew (Cov.fresh hcBs32) (Kp.segNew (Cov.fresh hcBs30) (Kp.segNew (Cov.fresh hcBs24) (Kp.segNew (Cov.fresh hcB13_2o) (Kp.segNew (Cov.fresh hcB11_1) Kp.nil)))))))))) _ h)) h ⟨vg84_0, vs81, Bs81, Bg84_0, rfl, rfl, hJs81, hJBg84_0, hcBs81, hcBg84_0⟩
                                    · have hq80 : (put9) = true := (bnF hc80)
                                      have hp80 : (put9) = true := hq80
                                      rw [if_pos hp80] at h
                                      refine xw_cond_f rfl rfl (xw_skip (xq_then (xw_seq (xw_region ?_))))
                                      refine xq rfl trivial (o_mv rfl) ?_
                                      refine xq rfl trivial (o_as rfl) ?_
                                      refine xq rfl trivial (o_as rfl) ?_
                                      refine xo_nil (xq_then (xw_ret ?_))
                                      refine con_ret2 (.inl rfl) Try.results17 rfl rfl _ (fun _ h => h) (?_)
                                      refine xq rfl trivial (o_mv rfl) ?_
                                      refine xq rfl trivial (o_ext rfl rfl) ?_
                                      refine xq rfl trivial (o_ext rfl rfl) ?_
                                      refine xq rfl trivial (o_as rfl) ?_
                                      refine xq rfl trivial (o_as rfl) ?_
                                      refine xo_nil (xq_then (xw_seq (xw_region ?_)))
                                      refine xq rfl trivial (o_mv rfl) ?_
                                      first | refine xq rfl trivial (o_fa0 fl48_1 rfl) ?_ | refine xq rfl trivial (o_fa fl48_1 rfl) ?_
                                      refine xq rfl trivial (o_ldI (v := (acts1[i12.toNat]!) 1) rfl ts3 (List.mem_append_right _ (List.Mem.head _)) (by omega) rfl) ?_
                                      first | refine xq rfl trivial (o_fa0 fl48_2 rfl) ?_ | refine xq rfl trivial (o_fa fl48_2 rfl) ?_
                                      refine xq rfl trivial (o_ldI (v := (acts1[i12.toNat]!) 2) rfl ts3 (List.mem_append_right _ (List.Mem.head _)) (by omega) rfl) ?_
                                      refine xo rfl trivial (OT.st (fun _ h => St.permI [3, 4, 0, 1, 2, 5, 6, 7, 8] [B8_3o, [(b17, _)], Bs32, [(b14, _)], Bb14_1_1, Bs30, Bs24, B13_2o, B11_1] rfl h) (ot_callF (Cs := [[(b14, _)], Bb14_1_1]) (Rs := [B8_3o, [(b17, _)], Bs32, Bs30, Bs24, B13_2o, B11_1]) kf9 rfl (fun w1 hw1 => renew_c _ _ _ _ _ _ _ w1 hJb14_1_1 (St.hasC hw1)) (fun _ _ _ h => h.1))) ?_
                                      rintro _ _ ⟨w1, _, rfl, hle, -, vg88_0, Bg88_0, rfl, rfl, hJBg88_0, hcBg88_0⟩
                                      replace hcBg88_0 := Cov.trans hcBb14_1_1 (Cov.base (w0 := w) hcBg88_0 hle)
                                      refine xo_st ((b14, BK 2 (cl [.int .i64 span0, vg88_0]) 57) :: (Bg88_0 ++ (B8_3o ++ ((b17, BK 3 (iv (acts1[i12.toNat]!)) 48) :: (Bs32 ++ (Bs30 ++ (Bs24 ++ (B13_2o ++ (B11_1 ++ ([])))))))))) (fun _ h => h) ?_
                                      refine xcallq rfl trivial kf15 rfl (fun w1 hw1 => code_c _ w1) ?_
                                      refine xq rfl trivial (o_mv rfl) ?_
                                      refine xq rfl trivial (o_neq rfl rfl) ?_
                                      refine xo_nil (xq_then ?_)
                                      refine xw_bool 136 rfl (fun hc89 => ?_) (fun hc89 => ?_)
                                      · have hq89 : (decide ((code_F ((renew_F span0 fb14_1 ((acts1[i12.toNat]!) 1) ((acts1[i12.toNat]!) 2)).1)) = 0)) = false := (bnT hc89)
                                        have hp89 : ¬ ((code_F ((renew_F span0 fb14_1 ((acts1[i12.toNat]!) 1) ((acts1[i12.toNat]!) 2)).1)) = 0) := of_decide_eq_false hq89
                                        rw [if_neg hp89] at h
                                        refine xw_cond_t rfl rfl (xw_seq (xw_region ?_))
                                        refine xq rfl trivial (o_as rfl) ?_
                                        refine xo_nil (xq_then (xw_ret (xq_blk_ret (xq_then_ret ?_))))
                                        exact xq_out (r := (.inr ((renew_F span0 fb14_1 ((acts1[i12.toNat]!) 1) ((acts1[i12.toNat]!) 2)).2) : ((List (Nat → Int)) × (List (Int × Int))) ⊕ ((List (Int × Int))))) (e' := [(8, .bool false)]) (B8_3o ++ ((b14, BK 2 (cl [.int .i64 span0, vg88_0]) 57) :: (Bg88_0 ++ ([])))) (lc rfl ln) (fun _ h => St.permI [2, 0, 1] [[(b14, _)], Bg88_0, B8_3o] rfl (Kp.st (Kp.keep (Kp.segKeep (Kp.segKeep (Kp.new hb17 (Kp.segNew (Cov.fresh hcBs32) (Kp.segNew (Cov.fresh hcBs30) (Kp.segNew (Cov.fresh hcBs24) (Kp.segNew (Cov.fresh hcB13_2o) (Kp.segNew (Cov.fresh hcB11_1) Kp.nil))))))))) _ h)) h (by intro hh; cases hh) ⟨vg88_0, B8_3o, Bg88_0, rfl, rfl, rfl, hJBg88_0, hcB8_3o, hcBg88_0⟩
                                      · have hq89 : (decide ((code_F ((renew_F span0 fb14_1 ((acts1[i12.toNat]!) 1) ((acts1[i12.toNat]!) 2)).1)) = 0)) = true := (bnF hc89)
                                        have hp89 : (code_F ((renew_F span0 fb14_1 ((acts1[i12.toNat]!) 1) ((acts1[i12.toNat]!) 2)).1)) = 0 := of_decide_eq_true hq89
                                        rw [if_pos hp89] at h
                                        refine xw_cond_f rfl rfl (xw_skip ?_)
                                        refine xq_blk 1 ?_
                                        refine xq_then (xw_region ?_)
                                        refine xq rfl trivial (o_mv rfl) ?_
                                        obtain ⟨ho90, h⟩ := h
                                        refine xq rfl trivial (o_add rfl rfl rfl ho90) ?_
                                        refine xq rfl trivial (o_as rfl) ?_
                                        refine xo_nil ?_
                                        exact xq_next (s' := ((out8, i12 + 1, (renew_F span0 fb14_1 ((acts1[i12.toNat]!) 1) ((acts1[i12.toNat]!) 2)).2) : (List (Nat → Int)) × Int × (List (Int × Int)))) (e' := [(0, .int .i64 span0), (1, v1), (2, .int .i64 now2), (3, .int .i64 id3), (9, .pointer (some ⟨b14, 0, none⟩)), (11, v8_3o), (12, .int .i64 (i12 + 1))]) (B8_3o ++ ((b14, BK 2 (cl [.int .i64 span0, vg88_0]) 57) :: (Bg88_0 ++ ([])))) (lc rfl (lc rfl (lc rfl (lc rfl (lc rfl (lc rfl (lc rfl ln))))))) (fun _ h => St.permI [2, 0, 1] [[(b14, _)], Bg88_0, B8_3o] rfl (Kp.st (Kp.keep (Kp.segKeep (Kp.segKeep (Kp.new hb17 (Kp.segNew (Cov.fresh hcBs32) (Kp.segNew (Cov.fresh hcBs30) (Kp.segNew (Cov.fresh hcBs24) (Kp.segNew (Cov.fresh hcB13_2o) (Kp.segNew (Cov.fresh hcB11_1) Kp.nil))))))))) _ h)) h ⟨vg88_0, v8_3o, B8_3o, Bg88_0, rfl, rfl, hJ8_3o, hJBg88_0, hcB8_3o, hcBg88_0⟩
                            · have hq37 : (decide ((acts1[i12.toNat]!) 0 = 0)) = false := hc37
                              have hp37 : ¬ ((acts1[i12.toNat]!) 0 = 0) := of_decide_eq_false hq37
                              rw [if_neg hp37] at h
                              refine xw_cond_f rfl rfl (xw_seq (xw_region ?_))
                              refine xq rfl trivial (o_mv rfl) ?_
                              first | refine xq rfl trivial (o_fa0 fl48_1 rfl) ?_ | refine xq rfl trivial (o_fa fl48_1 rfl) ?_
                              refine xq rfl trivial (o_ldI (v := (acts1[i12.toNat]!) 1) rfl ts3 (List.Mem.head _) (by omega) rfl) ?_
                              refine xoR rfl trivial (ot_in (l := [(0, _), (1, _)]) kf18 rfl Try.func18 rfl Try.ntmps18 rfl (lac rfl (lac rfl lan)) ?_)
                              refine xw_seq (xw_region ?_)
                              refine xq rfl trivial (o_as rfl) ?_
                              refine xq rfl trivial (o_as rfl) ?_
                              refine xo_nil (xq_then (xw_seq (xw_region ?_)))
                              refine xq rfl trivial (o_as rfl) ?_
                              refine xo_nil (xq_then (xw_seq (xw_seq (xw_region ?_))))
                              refine xq rfl trivial (o_as rfl) ?_
                              refine xo_nil (xq_then ?_)
                              refine xw_block ?_
                              obtain ⟨out6, hx4, h⟩ := h
                              refine xw_wh (fun s e H => match s with | (out6, i7) => ∃ (v6_4 : Value) (B6_4 : GH), e = [(0, v11_1), (1, .int .i64 ((acts1[i12.toNat]!) 1)), (6, v6_4), (7, .int .i64 i7)] ∧ H = B6_4 ++ ((b17, BK 3 (iv (acts1[i12.toNat]!)) 48) :: (Bs32 ++ ((b14, BK 2 (cl [.int .i64 span0, vb14_1_1]) 57) :: (Bb14_1_1 ++ (Bs30 ++ (Bs24 ++ (B13_2o ++ (B11_1 ++ ([]))))))))) ∧ OJ 45 2 iv B6_4 v6_4 out6 ∧ Cov w [] B6_4) (fun (out6 : (List (Nat → Int))) ex e H => ∃ (v6_4o : Value) (B6_4o : GH), ex = .exit 0 ∧ e = [(0, v11_1), (6, v6_4o)] ∧ H = B6_4o ++ ((b17, BK 3 (iv (acts1[i12.toNat]!)) 48) :: (Bs32 ++ ((b14, BK 2 (cl [.int .i64 span0, vb14_1_1]) 57) :: (Bb14_1_1 ++ (Bs30 ++ (Bs24 ++ (B13_2o ++ (B11_1 ++ ([]))))))))) ∧ OJ 45 2 iv B6_4o v6_4o out6 ∧ Cov w [] B6_4o) hx4 ⟨[(0, v11_1), (1, .int .i64 ((acts1[i12.toNat]!) 1)), (6, .slice none 0 0), (7, .int .i64 0)], [] ++ ((b17, BK 3 (iv (acts1[i12.toNat]!)) 48) :: (Bs32 ++ ((b14, BK 2 (cl [.int .i64 span0, vb14_1_1]) 57) :: (Bb14_1_1 ++ (Bs30 ++ (Bs24 ++ (B13_2o ++ (B11_1 ++ ([]))))))))), (lc rfl (lc rfl (lc rfl (lc rfl ln)))), fun _ h => h, ⟨_, [], rfl, rfl, OJ.nil, (Cov.refl _)⟩⟩ ?_ ?_
                              · rintro ⟨out6, i7⟩ o _ _ ⟨v6_4, B6_4, rfl, rfl, hJ6_4, hcB6_4⟩ hb
                                have h : acts6_l4 acts1 v11 i12 out6 i7 o := hb
                                clear hb
                                unfold acts6_l4 at h
                                refine xw_seq (xw_seq (xw_region ?_))
                                refine xq rfl trivial (o_mv rfl) ?_
                                refine xq rfl trivial (o_mv rfl) ?_
                                refine xq rfl trivial (o_lenL rfl Try.underlying43 rfl (OJ.val hJ11_1)) ?_
                                refine xq rfl trivial (o_lss rfl rfl) ?_
                                refine xo_nil (xq_then ?_)
                                refine xw_bool 11 rfl (fun hc91 => ?_) (fun hc91 => ?_)
                                · have hq91 : (decide (i7 < (v11.length : Int))) = true := hc91
                                  have hp91 : i7 < (v11.length : Int) := of_decide_eq_true hq91
                                  rw [if_pos hp91] at h
                                  refine xw_cond_t rfl rfl (xw_skip (xq_then (xw_seq ?_)))
                                  refine xw_block ?_
                                  refine xw_seq (xw_region ?_)
                                  refine xq rfl trivial (o_mv rfl) ?_
                                  refine xq rfl trivial (o_mv rfl) ?_
                                  obtain ⟨ho92, h⟩ := h
                                  refine xq rfl trivial (o_ixL el43 rfl rfl (fun w hw => (hJ11_1.sl hw (Pull.sub (.there _ (.thereC _ (.there _ (.thereC _ (.there _ (.there _ (.there _ (.there _ (.here _ _)))))))))))) rfl ho92) ?_
                                  refine xq rfl trivial (o_faL fl45_0 rfl rfl (fun w hw => (hJ11_1.sl hw (Pull.sub (.there _ (.thereC _ (.there _ (.thereC _ (.there _ (.there _ (.there _ (.there _ (.here _ _)))))))))))) (toNat_lt ho92)) ?_
                                  refine xq rfl trivial (o_ldL1 (off := 0) (u := .int .i64 (v11[i7.toNat]! 0)) rfl ts3 rfl (fun w hw => (hJ11_1.sl hw (Pull.sub (.there _ (.thereC _ (.there _ (.thereC _ (.there _ (.there _ (.there _ (.there _ (.here _ _)))))))))))) (toNat_lt ho92) rfl rfl) ?_
                                  refine xq rfl trivial (o_mv rfl) ?_
                                  refine xq rfl trivial (o_neq rfl rfl) ?_
                                  refine xo_nil (xq_then ?_)
                                  refine xw_bool 20 rfl (fun hc93 => ?_) (fun hc93 => ?_)
                                  · have hq93 : (decide (v11[i7.toNat]! 0 = (acts1[i12.toNat]!) 1)) = false := (bnT hc93)
                                    have hp93 : ¬ (v11[i7.toNat]! 0 = (acts1[i12.toNat]!) 1) := of_decide_eq_false hq93
                                    rw [if_neg hp93] at h
                                    refine xw_cond_t rfl rfl (xw_region ?_)
                                    refine xq rfl trivial (o_mv rfl) ?_
                                    refine xq rfl trivial (o_mv rfl) ?_
                                    refine xq rfl trivial (o_mv rfl) ?_
                                    obtain ⟨ho94, h⟩ := h
                                    refine xq rfl trivial (o_ixL el43 rfl rfl (fun w hw => (hJ11_1.sl hw (Pull.sub (.there _ (.thereC _ (.there _ (.thereC _ (.there _ (.there _ (.there _ (.there _ (.here _ _)))))))))))) rfl ho94) ?_
                                    refine xq rfl trivial (o_ldLI rfl ts45 rfl (fun w hw => (hJ11_1.sl hw (Pull.sub (.there _ (.thereC _ (.there _ (.thereC _ (.there _ (.there _ (.there _ (.there _ (.here _ _)))))))))))) (toNat_lt ho94) rfl) ?_
                                    refine xo rfl trivial (o_bsl el43 ze45 rfl rfl rfl (.ints rfl rfl (.nil _))) ?_
                                    rintro _ _ ⟨b26, hb26, rfl, rfl⟩
                                    obtain ⟨ho96, h⟩ := h
                                    refine xo rfl trivial (OT.st (fun _ h => Pull.st (.thereC _ (.here _ _)) h) (o_appJ (l := out6) (l' := [(v11[i7.toNat]!)]) (B := B6_4) ap43 rfl rfl hJ6_4 (fun w2 hw2 => (SL.lit (l := [(v11[i7.toNat]!)]) hw2 (List.mem_append_right _ (List.Mem.head _)) rfl (by omega) (by simp [maxLen]) (by exact (fun i hi => match i, hi with | 0, _ => rfl | 1, _ => rfl | q + 2, h => absurd h (by omega))))) (fun _ _ => rfl) ho96 (len_max ho96 (by decide)))) ?_
                                    rintro vs95 _ ⟨Bs95, rfl, hns95, hJs95⟩
                                    have hcBs95 := Cov.trans hcB6_4 hns95
                                    refine xo_st ((b26, BK 2 _ 45) :: (Bs95 ++ ((b17, BK 3 (iv (acts1[i12.toNat]!)) 48) :: (Bs32 ++ ((b14, BK 2 (cl [.int .i64 span0, vb14_1_1]) 57) :: (Bb14_1_1 ++ (Bs30 ++ (Bs24 ++ (B13_2o ++ (B11_1 ++ ([]))))))))))) (fun _ h => Pull.push (.thereC _ (.here _ _)) h) ?_
                                    refine xq rfl trivial (o_as rfl) ?_
                                    refine xo_nil ?_
                                    refine xq_blk 1 ?_
                                    refine xq_then (xw_region ?_)
                                    refine xq rfl trivial (o_mv rfl) ?_
                                    obtain ⟨ho97, h⟩ := h
                                    refine xq rfl trivial (o_add rfl rfl rfl ho97) ?_
                                    refine xq rfl trivial (o_as rfl) ?_
                                    refine xo_nil ?_
                                    exact xq_next (s' := (((out6 ++ [(v11[i7.toNat]!)]), i7 + 1) : (List (Nat → Int)) × Int)) (e' := [(0, v11_1), (1, .int .i64 ((acts1[i12.toNat]!) 1)), (6, vs95), (7, .int .i64 (i7 + 1))]) (Bs95 ++ ((b17, BK 3 (iv (acts1[i12.toNat]!)) 48) :: (Bs32 ++ ((b14, BK 2 (cl [.int .i64 span0, vb14_1_1]) 57) :: (Bb14_1_1 ++ (Bs30 ++ (Bs24 ++ (B13_2o ++ (B11_1 ++ ([])))))))))) (lc rfl (lc rfl (lc rfl (lc rfl ln)))) (Kp.st (Kp.new hb26 (Kp.segKeep (Kp.keep (Kp.segKeep (Kp.keep (Kp.segKeep (Kp.segKeep (Kp.segKeep (Kp.segKeep (Kp.segKeep Kp.nil))))))))))) h ⟨vs95, Bs95, rfl, rfl, hJs95, hcBs95⟩
                                  · have hq93 : (decide (v11[i7.toNat]! 0 = (acts1[i12.toNat]!) 1)) = true := (bnF hc93)
                                    have hp93 : v11[i7.toNat]! 0 = (acts1[i12.toNat]!) 1 := of_decide_eq_true hq93
                                    rw [if_pos hp93] at h
                                    refine xw_cond_f rfl rfl (xw_skip ?_)
                                    refine xq_blk 1 ?_
                                    refine xq_then (xw_region ?_)
                                    refine xq rfl trivial (o_mv rfl) ?_
                                    obtain ⟨ho98, h⟩ := h
                                    refine xq rfl trivial (o_add rfl rfl rfl ho98) ?_
                                    refine xq rfl trivial (o_as rfl) ?_
                                    refine xo_nil ?_
                                    exact xq_next (s' := ((out6, i7 + 1) : (List (Nat → Int)) × Int)) (e' := [(0, v11_1), (1, .int .i64 ((acts1[i12.toNat]!) 1)), (6, v6_4), (7, .int .i64 (i7 + 1))]) (B6_4 ++ ((b17, BK 3 (iv (acts1[i12.toNat]!)) 48) :: (Bs32 ++ ((b14, BK 2 (cl [.int .i64 span0, vb14_1_1]) 57) :: (Bb14_1_1 ++ (Bs30 ++ (Bs24 ++ (B13_2o ++ (B11_1 ++ ([])))))))))) (lc rfl (lc rfl (lc rfl (lc rfl ln)))) (fun _ h => h) h ⟨v6_4, B6_4, rfl, rfl, hJ6_4, hcB6_4⟩
                                · have hq91 : (decide (i7 < (v11.length : Int))) = false := hc91
                                  have hp91 : ¬ (i7 < (v11.length : Int)) := of_decide_eq_false hq91
                                  rw [if_neg hp91] at h
                                  refine xw_cond_f rfl rfl (xw_exit (xq_then_exit ?_))
                                  exact xq_out (r := (out6 : (List (Nat → Int)))) (e' := [(0, v11_1), (6, v6_4)]) (B6_4 ++ ((b17, BK 3 (iv (acts1[i12.toNat]!)) 48) :: (Bs32 ++ ((b14, BK 2 (cl [.int .i64 span0, vb14_1_1]) 57) :: (Bb14_1_1 ++ (Bs30 ++ (Bs24 ++ (B13_2o ++ (B11_1 ++ ([])))))))))) (lc rfl (lc rfl ln)) (fun _ h => h) h (by intro hh; cases hh) ⟨v6_4, B6_4, rfl, rfl, rfl, hJ6_4, hcB6_4⟩
                              · rintro _ _ _ ⟨v6_4o, B6_4o, rfl, rfl, rfl, hJ6_4o, hcB6_4o⟩
                                replace h : acts6_k4a span0 acts1 v11 i12 fb14_1 out6 o := h
                                unfold acts6_k4a at h
                                refine xq_blk_eq ?_
                                refine xq_then (xw_seq (xw_seq (xw_region ?_)))
                                refine xq rfl trivial (o_mv rfl) ?_
                                refine xq rfl trivial (o_lenL rfl Try.underlying43 rfl (OJ.val hJ6_4o)) ?_
                                refine xq rfl trivial (o_mv rfl) ?_
                                refine xq rfl trivial (o_lenL rfl Try.underlying43 rfl (OJ.val hJ11_1)) ?_
                                refine xq rfl trivial (o_eql rfl rfl) ?_
                                refine xo_nil (xq_then ?_)
                                refine xw_bool 32 rfl (fun hc99 => ?_) (fun hc99 => ?_)
                                · have hq99 : (decide ((out6.length : Int) = (v11.length : Int))) = true := hc99
                                  have hp99 : (out6.length : Int) = (v11.length : Int) := of_decide_eq_true hq99
                                  rw [if_pos hp99] at h
                                  refine xw_cond_t rfl rfl (xw_seq (xw_region ?_))
                                  refine xq rfl trivial (o_mv rfl) ?_
                                  refine xq rfl trivial (o_as rfl) ?_
                                  refine xq rfl trivial (o_as rfl) ?_
                                  refine xo_nil (xq_then (xw_ret (xq_then_ret ?_)))
                                  refine con_ret2 (.inl rfl) Try.results18 rfl rfl _ (fun _ h => h) (?_)
                                  refine xq rfl trivial (o_mv rfl) ?_
                                  refine xq rfl trivial (o_ext rfl rfl) ?_
                                  refine xq rfl trivial (o_ext rfl rfl) ?_
                                  refine xq rfl trivial (o_as rfl) ?_
                                  refine xq rfl trivial (o_as rfl) ?_
                                  refine xo_nil (xq_then (xw_seq (xw_region ?_)))
                                  refine xq rfl trivial (o_mv rfl) ?_
                                  first | refine xq rfl trivial (o_fa0 fl48_1 rfl) ?_ | refine xq rfl trivial (o_fa fl48_1 rfl) ?_
                                  refine xq rfl trivial (o_ldI (v := (acts1[i12.toNat]!) 1) rfl ts3 (List.mem_append_right _ (List.Mem.head _)) (by omega) rfl) ?_
                                  refine xo rfl trivial (OT.st (fun _ h => St.permI [3, 4, 0, 1, 2, 5, 6, 7, 8] [B6_4o, [(b17, _)], Bs32, [(b14, _)], Bb14_1_1, Bs30, Bs24, B13_2o, B11_1] rfl h) (ot_callF (Cs := [[(b14, _)], Bb14_1_1]) (Rs := [B6_4o, [(b17, _)], Bs32, Bs30, Bs24, B13_2o, B11_1]) kf12 rfl (fun w1 hw1 => lend_c _ _ _ _ _ _ w1 hJb14_1_1 (St.hasC hw1)) (fun _ _ _ h => h.1))) ?_
                                  rintro _ _ ⟨w1, _, rfl, hle, -, vg101_0, Bg101_0, rfl, rfl, hJBg101_0, hcBg101_0⟩
                                  replace hcBg101_0 := Cov.trans hcBb14_1_1 (Cov.base (w0 := w) hcBg101_0 hle)
                                  refine xo_st ((b14, BK 2 (cl [.int .i64 span0, vg101_0]) 57) :: (Bg101_0 ++ (B6_4o ++ ((b17, BK 3 (iv (acts1[i12.toNat]!)) 48) :: (Bs32 ++ (Bs30 ++ (Bs24 ++ (B13_2o ++ (B11_1 ++ ([])))))))))) (fun _ h => h) ?_
                                  refine xcallq rfl trivial kf15 rfl (fun w1 hw1 => code_c _ w1) ?_
                                  refine xq rfl trivial (o_mv rfl) ?_
                                  refine xq rfl trivial (o_neq rfl rfl) ?_
                                  refine xo_nil (xq_then ?_)
                                  refine xw_bool 150 rfl (fun hc102 => ?_) (fun hc102 => ?_)
                                  · have hq102 : (decide ((code_F ((lend_F span0 fb14_1 ((acts1[i12.toNat]!) 1)).1)) = 10)) = false := (bnT hc102)
                                    have hp102 : ¬ ((code_F ((lend_F span0 fb14_1 ((acts1[i12.toNat]!) 1)).1)) = 10) := of_decide_eq_false hq102
                                    rw [if_neg hp102] at h
                                    refine xw_cond_t rfl rfl (xw_seq (xw_region ?_))
                                    refine xq rfl trivial (o_as rfl) ?_
                                    refine xo_nil (xq_then (xw_ret (xq_blk_ret (xq_then_ret ?_))))
                                    exact xq_out (r := (.inr ((lend_F span0 fb14_1 ((acts1[i12.toNat]!) 1)).2) : ((List (Nat → Int)) × (List (Int × Int))) ⊕ ((List (Int × Int))))) (e' := [(8, .bool false)]) (B11_1 ++ ((b14, BK 2 (cl [.int .i64 span0, vg101_0]) 57) :: (Bg101_0 ++ ([])))) (lc rfl ln) (fun _ h => St.permI [2, 0, 1] [[(b14, _)], Bg101_0, B11_1] rfl (Kp.st (Kp.keep (Kp.segKeep (Kp.segNew (Cov.fresh hcB6_4o) (Kp.new hb17 (Kp.segNew (Cov.fresh hcBs32) (Kp.segNew (Cov.fresh hcBs30) (Kp.segNew (Cov.fresh hcBs24) (Kp.segNew (Cov.fresh hcB13_2o) (Kp.segKeep Kp.nil))))))))) _ h)) h (by intro hh; cases hh) ⟨vg101_0, B11_1, Bg101_0, rfl, rfl, rfl, hJBg101_0, hcB11_1, hcBg101_0⟩
                                  · have hq102 : (decide ((code_F ((lend_F span0 fb14_1 ((acts1[i12.toNat]!) 1)).1)) = 10)) = true := (bnF hc102)
                                    have hp102 : (code_F ((lend_F span0 fb14_1 ((acts1[i12.toNat]!) 1)).1)) = 10 := of_decide_eq_true hq102
                                    rw [if_pos hp102] at h
                                    refine xw_cond_f rfl rfl (xw_skip ?_)
                                    refine xq_blk 1 ?_
                                    refine xq_then (xw_region ?_)
                                    refine xq rfl trivial (o_mv rfl) ?_
                                    obtain ⟨ho103, h⟩ := h
                                    refine xq rfl trivial (o_add rfl rfl rfl ho103) ?_
                                    refine xq rfl trivial (o_as rfl) ?_
                                    refine xo_nil ?_
                                    exact xq_next (s' := ((v11, i12 + 1, (lend_F span0 fb14_1 ((acts1[i12.toNat]!) 1)).2) : (List (Nat → Int)) × Int × (List (Int × Int)))) (e' := [(0, .int .i64 span0), (1, v1), (2, .int .i64 now2), (3, .int .i64 id3), (9, .pointer (some ⟨b14, 0, none⟩)), (11, v11_1), (12, .int .i64 (i12 + 1))]) (B11_1 ++ ((b14, BK 2 (cl [.int .i64 span0, vg101_0]) 57) :: (Bg101_0 ++ ([])))) (lc rfl (lc rfl (lc rfl (lc rfl (lc rfl (lc rfl (lc rfl ln))))))) (fun _ h => St.permI [2, 0, 1] [[(b14, _)], Bg101_0, B11_1] rfl (Kp.st (Kp.keep (Kp.segKeep (Kp.segNew (Cov.fresh hcB6_4o) (Kp.new hb17 (Kp.segNew (Cov.fresh hcBs32) (Kp.segNew (Cov.fresh hcBs30) (Kp.segNew (Cov.fresh hcBs24) (Kp.segNew (Cov.fresh hcB13_2o) (Kp.segKeep Kp.nil))))))))) _ h)) h ⟨vg101_0, v11_1, B11_1, Bg101_0, rfl, rfl, hJ11_1, hJBg101_0, hcB11_1, hcBg101_0⟩
                                · have hq99 : (decide ((out6.length : Int) = (v11.length : Int))) = false := hc99
                                  have hp99 : ¬ ((out6.length : Int) = (v11.length : Int)) := of_decide_eq_false hq99
                                  rw [if_neg hp99] at h
                                  refine xw_cond_f rfl rfl (xw_skip (xq_then (xw_seq (xw_region ?_))))
                                  refine xq rfl trivial (o_mv rfl) ?_
                                  refine xq rfl trivial (o_as rfl) ?_
                                  refine xq rfl trivial (o_as rfl) ?_
                                  refine xo_nil (xq_then (xw_ret ?_))
                                  refine con_ret2 (.inl rfl) Try.results18 rfl rfl _ (fun _ h => h) (?_)
                                  refine xq rfl trivial (o_mv rfl) ?_
                                  refine xq rfl trivial (o_ext rfl rfl) ?_
                                  refine xq rfl trivial (o_ext rfl rfl) ?_
                                  refine xq rfl trivial (o_as rfl) ?_
                                  refine xq rfl trivial (o_as rfl) ?_
                                  refine xo_nil (xq_then (xw_seq (xw_region ?_)))
                                  refine xq rfl trivial (o_mv rfl) ?_
                                  first | refine xq rfl trivial (o_fa0 fl48_1 rfl) ?_ | refine xq rfl trivial (o_fa fl48_1 rfl) ?_
                                  refine xq rfl trivial (o_ldI (v := (acts1[i12.toNat]!) 1) rfl ts3 (List.mem_append_right _ (List.Mem.head _)) (by omega) rfl) ?_
                                  refine xo rfl trivial (OT.st (fun _ h => St.permI [3, 4, 0, 1, 2, 5, 6, 7, 8] [B6_4o, [(b17, _)], Bs32, [(b14, _)], Bb14_1_1, Bs30, Bs24, B13_2o, B11_1] rfl h) (ot_callF (Cs := [[(b14, _)], Bb14_1_1]) (Rs := [B6_4o, [(b17, _)], Bs32, Bs30, Bs24, B13_2o, B11_1]) kf12 rfl (fun w1 hw1 => lend_c _ _ _ _ _ _ w1 hJb14_1_1 (St.hasC hw1)) (fun _ _ _ h => h.1))) ?_
                                  rintro _ _ ⟨w1, _, rfl, hle, -, vg105_0, Bg105_0, rfl, rfl, hJBg105_0, hcBg105_0⟩
                                  replace hcBg105_0 := Cov.trans hcBb14_1_1 (Cov.base (w0 := w) hcBg105_0 hle)
                                  refine xo_st ((b14, BK 2 (cl [.int .i64 span0, vg105_0]) 57) :: (Bg105_0 ++ (B6_4o ++ ((b17, BK 3 (iv (acts1[i12.toNat]!)) 48) :: (Bs32 ++ (Bs30 ++ (Bs24 ++ (B13_2o ++ (B11_1 ++ ([])))))))))) (fun _ h => h) ?_
                                  refine xcallq rfl trivial kf15 rfl (fun w1 hw1 => code_c _ w1) ?_
                                  refine xq rfl trivial (o_mv rfl) ?_
                                  refine xq rfl trivial (o_neq rfl rfl) ?_
                                  refine xo_nil (xq_then ?_)
                                  refine xw_bool 150 rfl (fun hc106 => ?_) (fun hc106 => ?_)
                                  · have hq106 : (decide ((code_F ((lend_F span0 fb14_1 ((acts1[i12.toNat]!) 1)).1)) = 0)) = false := (bnT hc106)
                                    have hp106 : ¬ ((code_F ((lend_F span0 fb14_1 ((acts1[i12.toNat]!) 1)).1)) = 0) := of_decide_eq_false hq106
                                    rw [if_neg hp106] at h
                                    refine xw_cond_t rfl rfl (xw_seq (xw_region ?_))
                                    refine xq rfl trivial (o_as rfl) ?_
                                    refine xo_nil (xq_then (xw_ret (xq_blk_ret (xq_then_ret ?_))))
                                    exact xq_out (r := (.inr ((lend_F span0 fb14_1 ((acts1[i12.toNat]!) 1)).2) : ((List (Nat → Int)) × (List (Int × Int))) ⊕ ((List (Int × Int))))) (e' := [(8, .bool false)]) (B6_4o ++ ((b14, BK 2 (cl [.int .i64 span0, vg105_0]) 57) :: (Bg105_0 ++ ([])))) (lc rfl ln) (fun _ h => St.permI [2, 0, 1] [[(b14, _)], Bg105_0, B6_4o] rfl (Kp.st (Kp.keep (Kp.segKeep (Kp.segKeep (Kp.new hb17 (Kp.segNew (Cov.fresh hcBs32) (Kp.segNew (Cov.fresh hcBs30) (Kp.segNew (Cov.fresh hcBs24) (Kp.segNew (Cov.fresh hcB13_2o) (Kp.segNew (Cov.fresh hcB11_1) Kp.nil))))))))) _ h)) h (by intro hh; cases hh) ⟨vg105_0, B6_4o, Bg105_0, rfl, rfl, rfl, hJBg105_0, hcB6_4o, hcBg105_0⟩
                                  · have hq106 : (decide ((code_F ((lend_F span0 fb14_1 ((acts1[i12.toNat]!) 1)).1)) = 0)) = true := (bnF hc106)
                                    have hp106 : (code_F ((lend_F span0 fb14_1 ((acts1[i12.toNat]!) 1)).1)) = 0 := of_decide_eq_true hq106
                                    rw [if_pos hp106] at h
                                    refine xw_cond_f rfl rfl (xw_skip ?_)
                                    refine xq_blk 1 ?_
                                    refine xq_then (xw_region ?_)
                                    refine xq rfl trivial (o_mv rfl) ?_
                                    obtain ⟨ho107, h⟩ := h
                                    refine xq rfl trivial (o_add rfl rfl rfl ho107) ?_
                                    refine xq rfl trivial (o_as rfl) ?_
                                    refine xo_nil ?_
                                    exact xq_next (s' := ((out6, i12 + 1, (lend_F span0 fb14_1 ((acts1[i12.toNat]!) 1)).2) : (List (Nat → Int)) × Int × (List (Int × Int)))) (e' := [(0, .int .i64 span0), (1, v1), (2, .int .i64 now2), (3, .int .i64 id3), (9, .pointer (some ⟨b14, 0, none⟩)), (11, v6_4o), (12, .int .i64 (i12 + 1))]) (B6_4o ++ ((b14, BK 2 (cl [.int .i64 span0, vg105_0]) 57) :: (Bg105_0 ++ ([])))) (lc rfl (lc rfl (lc rfl (lc rfl (lc rfl (lc rfl (lc rfl ln))))))) (fun _ h => St.permI [2, 0, 1] [[(b14, _)], Bg105_0, B6_4o] rfl (Kp.st (Kp.keep (Kp.segKeep (Kp.segKeep (Kp.new hb17 (Kp.segNew (Cov.fresh hcBs32) (Kp.segNew (Cov.fresh hcBs30) (Kp.segNew (Cov.fresh hcBs24) (Kp.segNew (Cov.fresh hcB13_2o) (Kp.segNew (Cov.fresh hcB11_1) Kp.nil))))))))) _ h)) h ⟨vg105_0, v6_4o, B6_4o, Bg105_0, rfl, rfl, hJ6_4o, hJBg105_0, hcB6_4o, hcBg105_0⟩
                    cases x2
                    rintro _ _ _ ⟨B13_2o, rfl, rfl, rfl, hcB13_2o⟩
                    replace h : acts6_k2b fb14_1 o := h
                    unfold acts6_k2b at h
                    refine xq_blk_ret (xq_then_ret (xq_blk_ret (xq_then_ret ?_)))
                    exact xq_out (r := (.inr fb14_1 : ((List (Nat → Int)) × (List (Int × Int))) ⊕ ((List (Int × Int))))) (e' := [(8, .bool false)]) (B11_1 ++ ((b14, BK 2 (cl [.int .i64 span0, vb14_1_1]) 57) :: (Bb14_1_1 ++ ([])))) (lc rfl ln) (Kp.st (Kp.segNew (Cov.fresh hcB13_2o) (Kp.segKeep (Kp.keep (Kp.segKeep Kp.nil))))) h (by intro hh; cases hh) ⟨vb14_1_1, B11_1, Bb14_1_1, rfl, rfl, rfl, hJb14_1_1, hcB11_1, hcBb14_1_1⟩
                · have hq9 : (decide (i12 ≤ (acts1.length : Int))) = false := hc9
                  have hp9 : ¬ (i12 ≤ (acts1.length : Int)) := of_decide_eq_false hq9
                  rw [if_neg hp9] at h
                  refine xw_cond_f rfl rfl (xw_exit (xq_then_exit ?_))
                  exact xq_out (r := (.inl (v11, fb14_1) : ((List (Nat → Int)) × (List (Int × Int))) ⊕ ((List (Int × Int))))) (e' := [(3, .int .i64 id3), (9, .pointer (some ⟨b14, 0, none⟩)), (11, v11_1)]) (B11_1 ++ ((b14, BK 2 (cl [.int .i64 span0, vb14_1_1]) 57) :: (Bb14_1_1 ++ ([])))) (lc rfl (lc rfl (lc rfl ln))) (fun _ h => h) h (by intro hh; cases hh) ⟨vb14_1_1, v11_1, B11_1, Bb14_1_1, rfl, rfl, rfl, hJ11_1, hJb14_1_1, hcB11_1, hcBb14_1_1⟩
              · rcases x1 with ⟨v11, fb14_1⟩ | fb14_1
                · rintro _ _ _ ⟨vb14_1_1o, v11_1o, B11_1o, Bb14_1_1o, rfl, rfl, rfl, hJ11_1o, hJb14_1_1o, hcB11_1o, hcBb14_1_1o⟩
                  replace h : acts6_k1a span0 id3 v11 fb14_1 r := h
                  unfold acts6_k1a at h
                  refine xq_blk_eq ?_
                  refine xq_then (xw_seq (xw_region ?_))
                  refine xq rfl trivial (o_mv rfl) ?_
                  refine xq rfl trivial (o_mv rfl) ?_
                  refine xo rfl trivial (OT.st (fun _ h => St.permI [1, 2, 0] [B11_1o, [(b14, _)], Bb14_1_1o] rfl h) (ot_callF (Cs := [[(b14, _)], Bb14_1_1o]) (Rs := [B11_1o]) kf14 rfl (fun w1 hw1 => since_c _ _ _ _ _ _ w1 hJb14_1_1o (St.hasC hw1)) (fun _ _ _ h => h.1))) ?_
                  rintro _ _ ⟨w1, _, rfl, hle, -, rfl, rfl⟩
                  refine xo_st ((b14, BK 2 (cl [.int .i64 span0, vb14_1_1o]) 57) :: (Bb14_1_1o ++ (B11_1o ++ ([])))) (fun _ h => h) ?_
                  refine xq rfl trivial (o_mv rfl) ?_
                  refine xq rfl trivial (o_ext rfl rfl) ?_
                  refine xq rfl trivial (o_ext rfl rfl) ?_
                  refine xq rfl trivial (o_as rfl) ?_
                  refine xq rfl trivial (o_as rfl) ?_
                  refine xo_nil (xq_then (xw_seq (xw_seq (xw_region ?_))))
                  refine xq rfl trivial (o_as rfl) ?_
                  refine xo_nil (xq_then ?_)
                  refine xw_block ?_
                  obtain ⟨x5, hx5, h⟩ := h
                  refine xw_wh (fun (k21 : Int) e H => e = [(3, .int .i64 id3), (11, v11_1o), (19, .int .i64 ((since_F span0 fb14_1 id3).1)), (20, errV 54 ((since_F span0 fb14_1 id3).2)), (21, .int .i64 k21)] ∧ H = B11_1o ++ ([])) (fun x ex e H => match x with | .inl _ => ex = .exit 4 ∧ e = [(19, .int .i64 ((since_F span0 fb14_1 id3).1)), (20, errV 54 ((since_F span0 fb14_1 id3).2))] ∧ H = B11_1o ++ ([]) | .inr x8 => ex = .ret ∧ e = [(8, .bool (x8))] ∧ H = B11_1o ++ ([])) hx5 ⟨[(3, .int .i64 id3), (11, v11_1o), (19, .int .i64 ((since_F span0 fb14_1 id3).1)), (20, errV 54 ((since_F span0 fb14_1 id3).2)), (21, .int .i64 0)], B11_1o ++ ([]), (lc rfl (lc rfl (lc rfl (lc rfl (lc rfl ln))))), Kp.st (Kp.new hb14 (Kp.segNew (Cov.fresh hcBb14_1_1o) (Kp.segKeep Kp.nil))), ⟨rfl, rfl⟩⟩ ?_ ?_
                  · rintro k21 o _ _ ⟨rfl, rfl⟩ hb
                    have h : acts6_l5 span0 id3 v11 fb14_1 k21 o := hb
                    clear hb
                    unfold acts6_l5 at h
                    refine xw_seq (xw_seq (xw_region ?_))
                    refine xq rfl trivial (o_mv rfl) ?_
                    refine xq rfl trivial (o_mv rfl) ?_
                    refine xq rfl trivial (o_lenL rfl Try.underlying43 rfl (OJ.val hJ11_1o)) ?_
                    refine xq rfl trivial (o_lss rfl rfl) ?_
                    refine xo_nil (xq_then ?_)
                    refine xw_bool 160 rfl (fun hc110 => ?_) (fun hc110 => ?_)
                    · have hq110 : (decide (k21 < (v11.length : Int))) = true := hc110
                      have hp110 : k21 < (v11.length : Int) := of_decide_eq_true hq110
                      rw [if_pos hp110] at h
                      refine xw_cond_t rfl rfl (xw_skip (xq_then (xw_seq ?_)))
                      refine xw_block ?_
                      refine xw_seq (xw_region ?_)
                      refine xq rfl trivial (o_mv rfl) ?_
                      refine xq rfl trivial (o_mv rfl) ?_
                      obtain ⟨ho111, h⟩ := h
                      refine xq rfl trivial (o_ixL el43 rfl rfl (fun w hw => (hJ11_1o.sl hw (Pull.sub (.here _ _)))) rfl ho111) ?_
                      refine xq rfl trivial (o_faL fl45_0 rfl rfl (fun w hw => (hJ11_1o.sl hw (Pull.sub (.here _ _)))) (toNat_lt ho111)) ?_
                      refine xq rfl trivial (o_ldL1 (off := 0) (u := .int .i64 (v11[k21.toNat]! 0)) rfl ts3 rfl (fun w hw => (hJ11_1o.sl hw (Pull.sub (.here _ _)))) (toNat_lt ho111) rfl rfl) ?_
                      refine xq rfl trivial (o_mv rfl) ?_
                      refine xq rfl trivial (o_eql rfl rfl) ?_
                      refine xo_nil (xq_then ?_)
                      refine xw_bool 169 rfl (fun hc112 => ?_) (fun hc112 => ?_)
                      · have hq112 : (decide (v11[k21.toNat]! 0 = id3)) = true := hc112
                        have hp112 : v11[k21.toNat]! 0 = id3 := of_decide_eq_true hq112
                        rw [if_pos hp112] at h
                        refine xw_cond_t rfl rfl (xw_seq ?_)
                        obtain ⟨ho113, h⟩ := h
                        refine xw_cut [] ln [(8, .bool ((decide ((since_F span0 fb14_1 id3).1 = v11[k21.toNat]! 1)) && (decide ((since_F span0 fb14_1 id3).2 = 0))))] ?_ ?_
                        · refine xw_region ?_
                          refine xq rfl trivial (o_mv rfl) ?_
                          refine xq rfl trivial (o_mv rfl) ?_
                          refine xq rfl trivial (o_mv rfl) ?_
                          refine xq rfl trivial (o_ixL el43 rfl rfl (fun w hw => (hJ11_1o.sl hw (Pull.sub (.here _ _)))) rfl (ho113)) ?_
                          refine xq rfl trivial (o_faL fl45_1 rfl rfl (fun w hw => (hJ11_1o.sl hw (Pull.sub (.here _ _)))) (toNat_lt (ho113))) ?_
                          refine xq rfl trivial (o_ldL1 (off := 1) (u := .int .i64 (v11[k21.toNat]! 1)) rfl ts3 rfl (fun w hw => (hJ11_1o.sl hw (Pull.sub (.here _ _)))) (toNat_lt (ho113)) rfl rfl) ?_
                          refine xq rfl trivial (o_eql rfl rfl) ?_
                          refine xq rfl trivial (o_mv rfl) ?_
                          refine xo_bool 177 rfl (fun hg114 => ?_) (fun hg114 => ?_)
                          · have hq114 : (decide ((since_F span0 fb14_1 id3).1 = v11[k21.toNat]! 1)) = true := hg114
                            have hp114 : (since_F span0 fb14_1 id3).1 = v11[k21.toNat]! 1 := of_decide_eq_true hq114
                            refine xq rfl ⟨_, rfl, rfl⟩ (o_mv rfl) ?_
                            refine xq rfl ⟨_, rfl, rfl⟩ (o_eqE Try.underlying27 rfl (fun _ => rfl) rfl rfl) ?_
                            refine xq rfl trivial (o_pick_t rfl rfl) ?_
                            refine xq rfl trivial (o_as rfl) ?_
                            refine xo_nil ?_
                            exact xq_cut ((lce rfl (by first | rfl | (simp only [hq110, hq112, hq114, if_pos hp110, if_pos hp112, if_pos hp114, bS]; done) | (simp [hp110, hp112, hp114]; done) | (simp_all; done)) ln)) (fun _ h => h)
                          · have hq114 : (decide ((since_F span0 fb14_1 id3).1 = v11[k21.toNat]! 1)) = false := hg114
                            have hp114 : ¬ ((since_F span0 fb14_1 id3).1 = v11[k21.toNat]! 1) := of_decide_eq_false hq114
                            refine xs rfl ⟨_, _, rfl, rfl, rfl⟩ (xs rfl ⟨_, _, rfl, rfl, rfl⟩ ?_)
                            refine xq rfl trivial (o_pick_f rfl rfl) ?_
                            refine xq rfl trivial (o_as rfl) ?_
                            refine xo_nil ?_
                            exact xq_cut ((lce rfl (by first | rfl | (simp only [hq110, hq112, hq114, if_pos hp110, if_pos hp112, if_neg hp114, bS]; done) | (simp [hp110, hp112, hp114]; done) | (simp_all; done)) ln)) (fun _ h => h)
                        · refine xq_then (xw_ret (xq_blk_ret (xq_then_ret ?_)))
                          exact xq_out (r := (.inr ((decide ((since_F span0 fb14_1 id3).1 = v11[k21.toNat]! 1)) && (decide ((since_F span0 fb14_1 id3).2 = 0))) : (Unit) ⊕ (Bool))) (e' := [(8, .bool ((decide ((since_F span0 fb14_1 id3).1 = v11[k21.toNat]! 1)) && (decide ((since_F span0 fb14_1 id3).2 = 0))))]) (B11_1o ++ ([])) (lc rfl ln) (fun _ h => h) h (by intro hh; cases hh) ⟨rfl, rfl, rfl⟩
                      · have hq112 : (decide (v11[k21.toNat]! 0 = id3)) = false := hc112
                        have hp112 : ¬ (v11[k21.toNat]! 0 = id3) := of_decide_eq_false hq112
                        rw [if_neg hp112] at h
                        refine xw_cond_f rfl rfl (xw_skip ?_)
                        refine xq_blk 5 ?_
                        refine xq_then (xw_region ?_)
                        refine xq rfl trivial (o_mv rfl) ?_
                        obtain ⟨ho115, h⟩ := h
                        refine xq rfl trivial (o_add rfl rfl rfl ho115) ?_
                        refine xq rfl trivial (o_as rfl) ?_
                        refine xo_nil ?_
                        exact xq_next (s' := (k21 + 1 : Int)) (e' := [(3, .int .i64 id3), (11, v11_1o), (19, .int .i64 ((since_F span0 fb14_1 id3).1)), (20, errV 54 ((since_F span0 fb14_1 id3).2)), (21, .int .i64 (k21 + 1))]) (B11_1o ++ ([])) (lc rfl (lc rfl (lc rfl (lc rfl (lc rfl ln))))) (fun _ h => h) h ⟨rfl, rfl⟩
                    · have hq110 : (decide (k21 < (v11.length : Int))) = false := hc110
                      have hp110 : ¬ (k21 < (v11.length : Int)) := of_decide_eq_false hq110
                      rw [if_neg hp110] at h
                      refine xw_cond_f rfl rfl (xw_exit (xq_then_exit ?_))
                      exact xq_out (r := (.inl () : (Unit) ⊕ (Bool))) (e' := [(19, .int .i64 ((since_F span0 fb14_1 id3).1)), (20, errV 54 ((since_F span0 fb14_1 id3).2))]) (B11_1o ++ ([])) (lc rfl (lc rfl ln)) (fun _ h => h) h (by intro hh; cases hh) ⟨rfl, rfl, rfl⟩
                  · rcases x5 with _ | x8
                    · rintro _ _ _ ⟨rfl, rfl, rfl⟩
                      replace h : acts6_k5a span0 id3 fb14_1 r := h
                      unfold acts6_k5a at h
                      refine xq_blk_eq ?_
                      refine xq_then (xw_seq ?_)
                      refine xw_cut [] ln [(8, .bool ((decide ((since_F span0 fb14_1 id3).1 = 0)) && (decide ((code_F ((since_F span0 fb14_1 id3).2)) = 10))))] ?_ ?_
                      · refine xw_region ?_
                        refine xq rfl trivial (o_mv rfl) ?_
                        refine xq rfl trivial (o_eql rfl rfl) ?_
                        refine xq rfl trivial (o_mv rfl) ?_
                        refine xo_bool 183 rfl (fun hg116 => ?_) (fun hg116 => ?_)
                        · have hq116 : (decide ((since_F span0 fb14_1 id3).1 = 0)) = true := hg116
                          have hp116 : (since_F span0 fb14_1 id3).1 = 0 := of_decide_eq_true hq116
                          refine xq rfl ⟨_, rfl, rfl⟩ (o_mv rfl) ?_
                          refine xcallq rfl ⟨_, rfl, rfl⟩ kf15 rfl (fun w1 hw1 => code_c _ w1) ?_
                          refine xq rfl ⟨_, rfl, rfl⟩ (o_eql rfl rfl) ?_
                          refine xq rfl trivial (o_pick_t rfl rfl) ?_
                          refine xq rfl trivial (o_as rfl) ?_
                          refine xo_nil ?_
                          exact xq_cut ((lce rfl (by first | rfl | (simp only [hq116, if_pos hp116, bS]; done) | (simp [hp116]; done) | (simp_all; done)) ln)) (fun _ h => h)
                        · have hq116 : (decide ((since_F span0 fb14_1 id3).1 = 0)) = false := hg116
                          have hp116 : ¬ ((since_F span0 fb14_1 id3).1 = 0) := of_decide_eq_false hq116
                          refine xs rfl ⟨_, _, rfl, rfl, rfl⟩ (xs rfl ⟨_, _, rfl, rfl, rfl⟩ (xs rfl ⟨_, _, rfl, rfl, rfl⟩ ?_))
                          refine xq rfl trivial (o_pick_f rfl rfl) ?_
                          refine xq rfl trivial (o_as rfl) ?_
                          refine xo_nil ?_
                          exact xq_cut ((lce rfl (by first | rfl | (simp only [hq116, if_neg hp116, bS]; done) | (simp [hp116]; done) | (simp_all; done)) ln)) (fun _ h => h)
                      · refine xq_then (xw_ret ?_)
                        subst h
                        exact con_ret1 (.inl rfl) Try.results5 rfl [] (Kp.st (Kp.segNew (Cov.fresh hcB11_1o) Kp.nil)) (⟨rfl, rfl⟩)
                    rintro _ _ _ ⟨rfl, rfl, rfl⟩
                    replace h : acts6_k5b x8 r := h
                    unfold acts6_k5b at h
                    refine xq_blk_ret (xq_then_ret ?_)
                    subst h
                    exact con_ret1 (.inl rfl) Try.results5 rfl [] (Kp.st (Kp.segNew (Cov.fresh hcB11_1o) Kp.nil)) (⟨rfl, rfl⟩)
                rintro _ _ _ ⟨vb14_1_1o, B11_1o, Bb14_1_1o, rfl, rfl, rfl, hJb14_1_1o, hcB11_1o, hcBb14_1_1o⟩
                replace h : acts6_k1b fb14_1 r := h
                unfold acts6_k1b at h
                refine xq_blk_ret (xq_then_ret ?_)
                subst h
                exact con_ret1 (.inl rfl) Try.results5 rfl [] (Kp.st (Kp.segNew (Cov.fresh hcB11_1o) (Kp.new hb14 (Kp.segNew (Cov.fresh hcBb14_1_1o) Kp.nil)))) (⟨rfl, rfl⟩)

end Go.Proofs.Ytfpilngnhkcgjaa
