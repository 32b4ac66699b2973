/- The code answers as the relations say. -/
import Derived.Test.YtmcohikcgdfhcaaTab
import Derived.Test.YtmcohikcgdfhcaaG4S
import Derived.Test.YtmcohikcgdfhcaaF4W
set_option maxHeartbeats 1000000
set_option linter.unusedVariables false
set_option linter.unusedSimpArgs false
set_option maxRecDepth 100000
namespace Go.Proofs.Ytmcohikcgdfhcaa
open Go Go.E

theorem alive4_c (w : World) : Con Try.prog 8 #[] w (Is (.bool alive4_F) []) :=
  alive4_con w _ (alive4_ok)

theorem msgOkL_con (m0 : (Nat → Int)) (w : World) (r : Bool) (h : msgOkL_S m0 r) : Con Try.prog 4 #[AI 28 m0] w (Is (.bool r) []) := by
  unfold msgOkL_S at h
  refine con_enter (n := 42) [(0, _)] Try.func4 rfl Try.ntmps4 rfl (lac rfl lan) ?_
  refine xw_seq (xw_region ?_)
  refine xo rfl trivial (o_boxA rfl) ?_
  rintro _ _ ⟨b1, hb1, rfl, rfl⟩
  refine xq rfl trivial (o_as rfl) ?_
  refine xo_nil (xq_then (xw_seq (xw_seq (xw_region ?_))))
  refine xcallq rfl trivial kf8 rfl (fun w1 hw1 => alive4_c w1) ?_
  refine xq rfl trivial (o_not rfl) ?_
  refine xo_nil (xq_then ?_)
  refine xw_bool 6 rfl (fun hc1 => ?_) (fun hc1 => ?_)
  · have hq1 : (alive4_F) = false := (bnT hc1)
    have hp1 : ¬ ((alive4_F) = true) := bne' hq1
    rw [if_neg hp1] at h
    refine xw_cond_t rfl rfl (xw_seq (xw_region ?_))
    refine xq rfl trivial (o_as rfl) ?_
    refine xo_nil (xq_then (xw_ret (xq_then_ret ?_)))
    subst h
    exact con_ret1 (.inl rfl) Try.results4 rfl [] (Kp.st (Kp.new hb1 Kp.nil)) (⟨rfl, rfl⟩)
  · have hq1 : (alive4_F) = true := (bnF hc1)
    have hp1 : (alive4_F) = true := hq1
    rw [if_pos hp1] at h
    refine xw_cond_f rfl rfl (xw_skip (xq_then (xw_seq (xw_region ?_))))
    refine xq rfl trivial (o_ldW rfl ts34 (List.Mem.head _)) ?_
    refine xcall rfl trivial kf10 rfl (fun w1 hw1 => encA_c _ w1) ?_
    rintro w1 _ _ hw1 ⟨vs2, Bs2, rfl, rfl, hJs2, hcBs2⟩
    refine ⟨_, Mg.news (Cov.fresh hcBs2) (.nil _), ?_⟩
    replace hcBs2 := Cov.base (w0 := w) hcBs2 hw1.size
    refine xq rfl trivial (o_mv rfl) ?_
    refine xq rfl trivial (o_ext rfl rfl) ?_
    refine xq rfl trivial (o_ext rfl rfl) ?_
    refine xq rfl trivial (o_as rfl) ?_
    refine xq rfl trivial (o_as rfl) ?_
    refine xo_nil (xq_then (xw_seq (xw_seq (xw_region ?_))))
    refine xq rfl trivial (o_ldW rfl ts34 (List.mem_append_right _ (List.Mem.head _))) ?_
    refine xcallq rfl trivial kf11 rfl (fun w1 hw1 => ref04Ok_c _ w1) ?_
    refine xq rfl trivial (o_not rfl) ?_
    refine xo_nil (xq_then ?_)
    refine xw_bool 14 rfl (fun hc3 => ?_) (fun hc3 => ?_)
    · have hq3 : ((ref04Ok_F m0)) = false := (bnT hc3)
      have hp3 : ¬ (((ref04Ok_F m0)) = true) := bne' hq3
      rw [if_neg hp3] at h
      refine xw_cond_t rfl rfl (xw_seq ?_)
      refine xw_cut [] ln [(2, .bool (((decide ((code_F (msgOk_F m0)) = 5)) && (decide ((((enc_F m0).1).length : Int) = 0))) && (decide ((code_F ((enc_F m0).2)) = 5))))] ?_ ?_
      · refine xw_region ?_
        refine xq rfl trivial (o_ldW rfl ts34 (List.mem_append_right _ (List.Mem.head _))) ?_
        refine xcallq rfl trivial kf13 rfl (fun w1 hw1 => msgOk_c _ w1) ?_
        refine xcallq rfl trivial kf12 rfl (fun w1 hw1 => code_c _ w1) ?_
        refine xq rfl trivial (o_eql rfl rfl) ?_
        refine xq rfl trivial (o_mv rfl) ?_
        refine xo_bool 19 rfl (fun hg4 => ?_) (fun hg4 => ?_)
        · have hq4 : (decide ((code_F (msgOk_F m0)) = 5)) = true := hg4
          have hp4 : (code_F (msgOk_F m0)) = 5 := of_decide_eq_true hq4
          refine xq rfl ⟨_, rfl, rfl⟩ (o_mv rfl) ?_
          refine xq rfl ⟨_, rfl, rfl⟩ (o_lenL rfl Try.underlying35 rfl (OJ.val hJs2)) ?_
          refine xq rfl ⟨_, rfl, rfl⟩ (o_eql rfl rfl) ?_
          refine xq rfl trivial (o_pick_t rfl rfl) ?_
          refine xq rfl trivial (o_mv rfl) ?_
          refine xo_bool 24 rfl (fun hg5 => ?_) (fun hg5 => ?_)
          · have hq5 : (decide ((((enc_F m0).1).length : Int) = 0)) = true := hg5
            have hp5 : (((enc_F m0).1).length : Int) = 0 := of_decide_eq_true hq5
            refine xq rfl ⟨_, rfl, rfl⟩ (o_mv rfl) ?_
            refine xcallq rfl ⟨_, rfl, rfl⟩ kf12 rfl (fun w1 hw1 => code_c _ w1) ?_
            refine xq rfl ⟨_, rfl, rfl⟩ (o_eql rfl rfl) ?_
            refine xq rfl trivial (o_pick_t rfl rfl) ?_
            refine xq rfl trivial (o_as rfl) ?_
            refine xo_nil ?_
            exact xq_cut ((lce rfl (by first | rfl | (simp only [hq1, hq3, hq4, hq5, if_pos hp1, if_neg hp3, if_pos hp4, if_pos hp5, bS]; done) | (simp [hp1, hp3, hp4, hp5]; done) | (simp_all; done)) ln)) (fun _ h => h)
          · have hq5 : (decide ((((enc_F m0).1).length : Int) = 0)) = false := hg5
            have hp5 : ¬ ((((enc_F m0).1).length : Int) = 0) := of_decide_eq_false hq5
            refine xs rfl ⟨_, _, rfl, rfl, rfl⟩ (xs rfl ⟨_, _, rfl, rfl, rfl⟩ (xs rfl ⟨_, _, rfl, rfl, rfl⟩ ?_))
            refine xq rfl trivial (o_pick_f rfl rfl) ?_
            refine xq rfl trivial (o_as rfl) ?_
            refine xo_nil ?_
            exact xq_cut ((lce rfl (by first | rfl | (simp only [hq1, hq3, hq4, hq5, if_pos hp1, if_neg hp3, if_pos hp4, if_neg hp5, bS]; done) | (simp [hp1, hp3, hp4, hp5]; done) | (simp_all; done)) ln)) (fun _ h => h)
        · have hq4 : (decide ((code_F (msgOk_F m0)) = 5)) = false := hg4
          have hp4 : ¬ ((code_F (msgOk_F m0)) = 5) := of_decide_eq_false hq4
          refine xs rfl ⟨_, _, rfl, rfl, rfl⟩ (xs rfl ⟨_, _, rfl, rfl, rfl⟩ (xs rfl ⟨_, _, rfl, rfl, rfl⟩ ?_))
          refine xq rfl trivial (o_pick_f rfl rfl) ?_
          refine xq rfl trivial (o_mv rfl) ?_
          refine xs rfl ⟨_, _, rfl, rfl, rfl⟩ (xs rfl ⟨_, _, rfl, rfl, rfl⟩ (xs rfl ⟨_, _, rfl, rfl, rfl⟩ ?_))
          refine xq rfl trivial (o_pick_f rfl rfl) ?_
          refine xq rfl trivial (o_as rfl) ?_
          refine xo_nil ?_
          exact xq_cut ((lce rfl (by first | rfl | (simp only [hq1, hq3, hq4, if_pos hp1, if_neg hp3, if_neg hp4, bS]; done) | (simp [hp1, hp3, hp4]; done) | (simp_all; done)) ln)) (fun _ h => h)
      · refine xq_then (xw_ret (xq_then_ret ?_))
        subst h
        exact con_ret1 (.inl rfl) Try.results4 rfl [] (Kp.st (Kp.segNew (Cov.fresh hcBs2) (Kp.new hb1 Kp.nil))) (⟨rfl, rfl⟩)
    · have hq3 : ((ref04Ok_F m0)) = true := (bnF hc3)
      have hp3 : ((ref04Ok_F m0)) = true := hq3
      rw [if_pos hp3] at h
      refine xw_cond_f rfl rfl (xw_skip (xq_then (xw_seq (xw_region ?_))))
      refine xq rfl trivial (o_ldW rfl ts34 (List.mem_append_right _ (List.Mem.head _))) ?_
      refine xcallq rfl trivial kf13 rfl (fun w1 hw1 => msgOk_c _ w1) ?_
      refine xq rfl trivial (o_eqE Try.underlying37 rfl (fun _ => rfl) rfl rfl) ?_
      refine xq rfl trivial (o_mv rfl) ?_
      refine xo_bool 32 rfl (fun hg6 => ?_) (fun hg6 => ?_)
      · have hq6 : (decide ((msgOk_F m0) = 0)) = true := hg6
        have hp6 : (msgOk_F m0) = 0 := of_decide_eq_true hq6
        rw [if_pos hp6] at h
        refine xq rfl ⟨_, rfl, rfl⟩ (o_mv rfl) ?_
        refine xq rfl ⟨_, rfl, rfl⟩ (o_eqE Try.underlying37 rfl (fun _ => rfl) rfl rfl) ?_
        refine xq rfl trivial (o_pick_t rfl rfl) ?_
        refine xq rfl trivial (o_mv rfl) ?_
        refine xo_bool 36 rfl (fun hg7 => ?_) (fun hg7 => ?_)
        · have hq7 : (decide ((enc_F m0).2 = 0)) = true := hg7
          have hp7 : (enc_F m0).2 = 0 := of_decide_eq_true hq7
          rw [if_pos hp7] at h
          refine xq rfl ⟨_, rfl, rfl⟩ (o_mv rfl) ?_
          refine xq rfl ⟨_, rfl, rfl⟩ (o_ldW rfl ts34 (List.mem_append_right _ (List.Mem.head _))) ?_
          obtain ⟨ho8, h⟩ := h
          refine xcall rfl ⟨_, rfl, rfl⟩ kf15 rfl (fun w1 hw1 => refEnc_c _ w1 ho8) ?_
          rintro w1 vs9 _ hw1 ⟨_, Bs9, rfl, rfl, hJs9, hcBs9⟩
          refine ⟨_, Mg.news (Cov.fresh hcBs9) (.nil _), ?_⟩
          replace hcBs9 := Cov.base (w0 := w) hcBs9 hw1.size
          obtain ⟨ho10, h⟩ := h
          refine xcallq rfl ⟨_, rfl, rfl⟩ kf14 rfl (fun w1 hw1 => same_c _ _ _ _ w1 (hJs2.sl hw1 (Pull.sub (.there _ (.here _ _)))) (hJs9.sl hw1 (Pull.sub (.here _ _))) ho10) ?_
          refine xq rfl trivial (o_pick_t rfl rfl) ?_
          refine xq rfl trivial (o_as rfl) ?_
          refine xo_nil (xq_then (xw_ret ?_))
          subst h
          exact con_ret1 (.inl rfl) Try.results4 rfl [] (Kp.st (Kp.segNew (Cov.fresh hcBs9) (Kp.segNew (Cov.fresh hcBs2) (Kp.new hb1 Kp.nil)))) (⟨rfl, rfl⟩)
        · have hq7 : (decide ((enc_F m0).2 = 0)) = false := hg7
          have hp7 : ¬ ((enc_F m0).2 = 0) := of_decide_eq_false hq7
          rw [if_neg hp7] at h
          refine xs rfl ⟨_, _, rfl, rfl, rfl⟩ (xs rfl ⟨_, _, rfl, rfl, rfl⟩ (xs rfl ⟨_, _, rfl, rfl, rfl⟩ (xs rfl ⟨_, _, rfl, rfl, rfl⟩ ?_)))
          refine xq rfl trivial (o_pick_f rfl rfl) ?_
          refine xq rfl trivial (o_as rfl) ?_
          refine xo_nil (xq_then (xw_ret ?_))
          subst h
          exact con_ret1 (.inl rfl) Try.results4 rfl [] (Kp.st (Kp.segNew (Cov.fresh hcBs2) (Kp.new hb1 Kp.nil))) (⟨rfl, rfl⟩)
      · have hq6 : (decide ((msgOk_F m0) = 0)) = false := hg6
        have hp6 : ¬ ((msgOk_F m0) = 0) := of_decide_eq_false hq6
        rw [if_neg hp6] at h
        refine xs rfl ⟨_, _, rfl, rfl, rfl⟩ (xs rfl ⟨_, _, rfl, rfl, rfl⟩ ?_)
        refine xq rfl trivial (o_pick_f rfl rfl) ?_
        refine xq rfl trivial (o_mv rfl) ?_
        refine xs rfl ⟨_, _, rfl, rfl, rfl⟩ (xs rfl ⟨_, _, rfl, rfl, rfl⟩ (xs rfl ⟨_, _, rfl, rfl, rfl⟩ (xs rfl ⟨_, _, rfl, rfl, rfl⟩ ?_)))
        refine xq rfl trivial (o_pick_f rfl rfl) ?_
        refine xq rfl trivial (o_as rfl) ?_
        refine xo_nil (xq_then (xw_ret ?_))
        subst h
        exact con_ret1 (.inl rfl) Try.results4 rfl [] (Kp.st (Kp.segNew (Cov.fresh hcBs2) (Kp.new hb1 Kp.nil))) (⟨rfl, rfl⟩)

theorem msgOkL_c (m0 : (Nat → Int)) (w : World) (hP : msgOkL_P m0) : Con Try.prog 4 #[AI 28 m0] w (Is (.bool (msgOkL_F m0)) []) :=
  msgOkL_con m0 w _ (msgOkL_ok m0 hP)

theorem msgReadsL_con (b0 : (List Int)) (v0 : Value) (w : World) (hs0 : SL w 1 u8c v0 b0) (r : Bool) (h : msgReadsL_S b0 r) : Con Try.prog 7 #[v0] w (Is (.bool r) []) := by
  unfold msgReadsL_S at h
  refine con_enter (n := 30) [(0, _)] Try.func7 rfl Try.ntmps7 rfl (lac rfl lan) ?_
  refine xw_seq (xw_region ?_)
  refine xq rfl trivial (o_as rfl) ?_
  refine xo_nil (xq_then (xw_seq (xw_seq (xw_region ?_))))
  refine xcallq rfl trivial kf8 rfl (fun w1 hw1 => alive4_c w1) ?_
  refine xq rfl trivial (o_not rfl) ?_
  refine xo_nil (xq_then ?_)
  refine xw_bool 8 rfl (fun hc1 => ?_) (fun hc1 => ?_)
  · have hq1 : (alive4_F) = false := (bnT hc1)
    have hp1 : ¬ ((alive4_F) = true) := bne' hq1
    rw [if_neg hp1] at h
    refine xw_cond_t rfl rfl (xw_seq (xw_region ?_))
    refine xq rfl trivial (o_as rfl) ?_
    refine xo_nil (xq_then (xw_ret (xq_then_ret ?_)))
    subst h
    exact con_ret1 (.inl rfl) Try.results7 rfl [] (fun _ h => h) (⟨rfl, rfl⟩)
  · have hq1 : (alive4_F) = true := (bnF hc1)
    have hp1 : (alive4_F) = true := hq1
    rw [if_pos hp1] at h
    refine xw_cond_f rfl rfl (xw_skip (xq_then (xw_seq (xw_region ?_))))
    refine xo rfl trivial (o_bsl el35 ze5 (cells_one rfl) rfl rfl (.nil _)) ?_
    rintro _ _ ⟨b10, hb10, rfl, rfl⟩
    refine xq rfl trivial (o_mv rfl) ?_
    obtain ⟨ho3, h⟩ := h
    refine xo rfl trivial (OT.st (fun _ h => Pull.st (.hereC _ _) h) (o_appJ (l := []) (l' := b0) (B := [_]) ap35 rfl rfl (OJ.lit (l := []) (List.Mem.head _) rfl (by omega) (by simp [maxLen]) (by exact (fun i hi => match i, hi with  | q + 0, h => absurd h (by omega)))) (fun w2 hw2 => (hs0.keep hw2 (Fr.seg (Cov.new hb10) Fr.nil))) (fun _ _ => rfl) ho3 (len_max ho3 (by decide)))) ?_
    rintro vs2 _ ⟨Bs2, rfl, hns2, hJs2⟩
    have hcBs2 := Cov.trans (Cov.new hb10) hns2
    obtain ⟨ho4, h⟩ := h
    refine xcallq rfl trivial kf16 rfl (fun w1 hw1 => dcd_c _ _ w1 (hJs2.sl hw1 (Pull.sub (.here _ _))) ho4) ?_
    refine xq rfl trivial (o_mv rfl) ?_
    refine xq rfl trivial (o_ext rfl rfl) ?_
    refine xq rfl trivial (o_ext rfl rfl) ?_
    refine xo rfl trivial (o_alloc ze34 rfl) ?_
    rintro _ _ ⟨b3, hb3, rfl, rfl⟩
    refine xq0 trivial (o_stWI rfl rfl ts34 (List.Mem.head _) (.here _ _ _ _)) ?_
    refine xq rfl trivial (o_as rfl) ?_
    refine xo_nil (xq_then (xw_seq (xw_region ?_)))
    refine xq rfl trivial (o_mv rfl) ?_
    obtain ⟨ho5, h⟩ := h
    refine xcallq rfl trivial kf17 rfl (fun w1 hw1 => refDec_c _ _ w1 (hs0.keep hw1 (Fr.cons hb3 (Fr.seg hcBs2 Fr.nil))) ho5) ?_
    refine xq rfl trivial (o_mv rfl) ?_
    refine xq rfl trivial (o_ext rfl rfl) ?_
    refine xq rfl trivial (o_ext rfl rfl) ?_
    refine xo rfl trivial (o_alloc ze34 rfl) ?_
    rintro _ _ ⟨b5, hb5, rfl, rfl⟩
    refine xq0 trivial (o_stWI rfl rfl ts34 (List.Mem.head _) (.here _ _ _ _)) ?_
    refine xq rfl trivial (o_as rfl) ?_
    refine xo_nil (xq_then (xw_seq ?_))
    refine xw_cut [] ln [(2, .bool (((eqN 28 ((dcd_F ([] ++ b0)).1) ((refDec_F b0).1))) && (decide ((code_F ((dcd_F ([] ++ b0)).2)) = (refDec_F b0).2))))] ?_ ?_
    · refine xw_region ?_
      refine xq rfl trivial (o_ldW rfl ts34 (List.Mem.tail _ (List.Mem.head _))) ?_
      refine xq rfl trivial (o_ldW rfl ts34 (List.Mem.head _)) ?_
      refine xq rfl trivial (o_eqlA eq34 rfl rfl) ?_
      refine xq rfl trivial (o_mv rfl) ?_
      refine xo_bool 24 rfl (fun hg6 => ?_) (fun hg6 => ?_)
      · have hq6 : ((eqN 28 ((dcd_F ([] ++ b0)).1) ((refDec_F b0).1))) = true := hg6
        have hp6 : ((eqN 28 ((dcd_F ([] ++ b0)).1) ((refDec_F b0).1))) = true := hq6
        refine xq rfl ⟨_, rfl, rfl⟩ (o_mv rfl) ?_
        refine xcallq rfl ⟨_, rfl, rfl⟩ kf12 rfl (fun w1 hw1 => code_c _ w1) ?_
        refine xq rfl ⟨_, rfl, rfl⟩ (o_mv rfl) ?_
        refine xq rfl ⟨_, rfl, rfl⟩ (o_eql rfl rfl) ?_
        refine xq rfl trivial (o_pick_t rfl rfl) ?_
        refine xq rfl trivial (o_as rfl) ?_
        refine xo_nil ?_
        exact xq_cut ((lce rfl (by first | rfl | (simp only [hq1, hq6, if_pos hp1, if_pos hp6, bS]; done) | (simp [hp1, hp6]; done) | (simp_all; done)) ln)) (fun _ h => h)
      · have hq6 : ((eqN 28 ((dcd_F ([] ++ b0)).1) ((refDec_F b0).1))) = false := hg6
        have hp6 : ¬ (((eqN 28 ((dcd_F ([] ++ b0)).1) ((refDec_F b0).1))) = true) := bne' hq6
        refine xs rfl ⟨_, _, rfl, rfl, rfl⟩ (xs rfl ⟨_, _, rfl, rfl, rfl⟩ (xs rfl ⟨_, _, rfl, rfl, rfl⟩ (xs rfl ⟨_, _, rfl, rfl, rfl⟩ ?_)))
        refine xq rfl trivial (o_pick_f rfl rfl) ?_
        refine xq rfl trivial (o_as rfl) ?_
        refine xo_nil ?_
        exact xq_cut ((lce rfl (by first | rfl | (simp only [hq1, hq6, if_pos hp1, if_neg hp6, bS]; done) | (simp [hp1, hp6]; done) | (simp_all; done)) ln)) (fun _ h => h)
    · refine xq_then (xw_ret ?_)
      subst h
      exact con_ret1 (.inl rfl) Try.results7 rfl [] (Kp.st (Kp.new hb5 (Kp.new hb3 (Kp.segNew (Cov.fresh hcBs2) Kp.nil)))) (⟨rfl, rfl⟩)

theorem msgReadsL_c (b0 : (List Int)) (v0 : Value) (w : World) (hs0 : SL w 1 u8c v0 b0) (hP : msgReadsL_P b0) : Con Try.prog 7 #[v0] w (Is (.bool (msgReadsL_F b0)) []) :=
  msgReadsL_con b0 v0 w hs0 _ (msgReadsL_ok b0 hP)

theorem msgBackL_con (m0 : (Nat → Int)) (b1 : (List Int)) (v1 : Value) (w : World) (hs1 : SL w 1 u8c v1 b1) (r : Bool) (h : msgBackL_S m0 b1 r) : Con Try.prog 5 #[AI 28 m0, v1] w (Is (.bool r) []) := by
  unfold msgBackL_S at h
  refine con_enter (n := 61) [(0, _), (1, _)] Try.func5 rfl Try.ntmps5 rfl (lac rfl (lac rfl lan)) ?_
  refine xw_seq (xw_region ?_)
  refine xo rfl trivial (o_boxA rfl) ?_
  rintro _ _ ⟨b2, hb2, rfl, rfl⟩
  refine xq rfl trivial (o_as rfl) ?_
  refine xo_nil (xq_then (xw_seq (xw_seq (xw_region ?_))))
  refine xcallq rfl trivial kf8 rfl (fun w1 hw1 => alive4_c w1) ?_
  refine xq rfl trivial (o_not rfl) ?_
  refine xo_nil (xq_then ?_)
  refine xw_bool 14 rfl (fun hc1 => ?_) (fun hc1 => ?_)
  · have hq1 : (alive4_F) = false := (bnT hc1)
    have hp1 : ¬ ((alive4_F) = true) := bne' hq1
    rw [if_neg hp1] at h
    refine xw_cond_t rfl rfl (xw_seq (xw_region ?_))
    refine xq rfl trivial (o_as rfl) ?_
    refine xo_nil (xq_then (xw_ret (xq_then_ret ?_)))
    subst h
    exact con_ret1 (.inl rfl) Try.results5 rfl [] (Kp.st (Kp.new hb2 Kp.nil)) (⟨rfl, rfl⟩)
  · have hq1 : (alive4_F) = true := (bnF hc1)
    have hp1 : (alive4_F) = true := hq1
    rw [if_pos hp1] at h
    refine xw_cond_f rfl rfl (xw_skip (xq_then (xw_seq (xw_region ?_))))
    refine xq rfl trivial (o_ldW rfl ts34 (List.Mem.head _)) ?_
    refine xcall rfl trivial kf10 rfl (fun w1 hw1 => encA_c _ w1) ?_
    rintro w1 _ _ hw1 ⟨vs2, Bs2, rfl, rfl, hJs2, hcBs2⟩
    refine ⟨_, Mg.news (Cov.fresh hcBs2) (.nil _), ?_⟩
    replace hcBs2 := Cov.base (w0 := w) hcBs2 hw1.size
    refine xq rfl trivial (o_mv rfl) ?_
    refine xq rfl trivial (o_ext rfl rfl) ?_
    refine xq rfl trivial (o_ext rfl rfl) ?_
    refine xq rfl trivial (o_as rfl) ?_
    refine xq rfl trivial (o_as rfl) ?_
    refine xo_nil (xq_then (xw_seq (xw_seq (xw_region ?_))))
    refine xq rfl trivial (o_mv rfl) ?_
    refine xq rfl trivial (o_eqE Try.underlying37 rfl (fun _ => rfl) rfl rfl) ?_
    refine xo_nil (xq_then ?_)
    refine xw_bool 21 rfl (fun hc3 => ?_) (fun hc3 => ?_)
    · have hq3 : (decide ((enc_F m0).2 = 0)) = true := hc3
      have hp3 : (enc_F m0).2 = 0 := of_decide_eq_true hq3
      rw [if_pos hp3] at h
      refine xw_cond_t rfl rfl (xw_seq (xw_region ?_))
      refine xq rfl trivial (o_mv rfl) ?_
      obtain ⟨ho4, h⟩ := h
      refine xcallq rfl trivial kf16 rfl (fun w1 hw1 => dcd_c _ _ w1 (hJs2.sl hw1 (Pull.sub (.here _ _))) ho4) ?_
      refine xq rfl trivial (o_mv rfl) ?_
      refine xq rfl trivial (o_ext rfl rfl) ?_
      refine xq rfl trivial (o_ext rfl rfl) ?_
      refine xo rfl trivial (o_alloc ze34 rfl) ?_
      rintro _ _ ⟨b7, hb7, rfl, rfl⟩
      refine xq0 trivial (o_stWI rfl rfl ts34 (List.Mem.head _) (.here _ _ _ _)) ?_
      refine xq rfl trivial (o_as rfl) ?_
      refine xo_nil (xq_then (xw_seq ?_))
      refine xw_cut [(1, _)] (lc rfl ln) [(38, .bool (((!(decide ((dcd_F ((enc_F m0).1)).2 = 0))) || (!((eqN 28 ((dcd_F ((enc_F m0).1)).1) m0)))) || (!(decide ((((enc_F m0).1).length : Int) = 88)))))] ?_ ?_
      · refine xw_region ?_
        refine xq rfl trivial (o_mv rfl) ?_
        refine xq rfl trivial (o_neE Try.underlying37 rfl (fun _ => rfl) rfl rfl) ?_
        refine xq rfl trivial (o_mv rfl) ?_
        refine xo_bool 29 rfl (fun hg5 => ?_) (fun hg5 => ?_)
        · have hq5 : (decide ((dcd_F ((enc_F m0).1)).2 = 0)) = false := (bnT hg5)
          have hp5 : ¬ ((dcd_F ((enc_F m0).1)).2 = 0) := of_decide_eq_false hq5
          refine xs rfl ⟨_, _, rfl, rfl, rfl⟩ (xs rfl ⟨_, _, rfl, rfl, rfl⟩ (xs rfl ⟨_, _, rfl, rfl, rfl⟩ ?_))
          refine xq rfl trivial (o_pick_t rfl rfl) ?_
          refine xq rfl trivial (o_mv rfl) ?_
          refine xs rfl ⟨_, _, rfl, rfl, rfl⟩ (xs rfl ⟨_, _, rfl, rfl, rfl⟩ (xs rfl ⟨_, _, rfl, rfl, rfl⟩ ?_))
          refine xq rfl trivial (o_pick_t rfl rfl) ?_
          refine xo_nil ?_
          exact xq_cut ((lce rfl (by first | rfl | (simp only [hq1, hq3, hq5, if_pos hp1, if_pos hp3, if_neg hp5, bS]; done) | (simp [hp1, hp3, hp5]; done) | (simp_all; done)) (lc rfl ln))) (fun _ h => h)
        · have hq5 : (decide ((dcd_F ((enc_F m0).1)).2 = 0)) = true := (bnF hg5)
          have hp5 : (dcd_F ((enc_F m0).1)).2 = 0 := of_decide_eq_true hq5
          refine xq rfl ⟨_, rfl, rfl⟩ (o_ldW rfl ts34 (List.Mem.head _)) ?_
          refine xq rfl ⟨_, rfl, rfl⟩ (o_ldW rfl ts34 (List.Mem.tail _ (List.mem_append_right _ (List.Mem.head _)))) ?_
          refine xq rfl ⟨_, rfl, rfl⟩ (o_neqA eq34 rfl rfl) ?_
          refine xq rfl trivial (o_pick_f rfl rfl) ?_
          refine xq rfl trivial (o_mv rfl) ?_
          refine xo_bool 34 rfl (fun hg6 => ?_) (fun hg6 => ?_)
          · have hq6 : ((eqN 28 ((dcd_F ((enc_F m0).1)).1) m0)) = false := (bnT hg6)
            have hp6 : ¬ (((eqN 28 ((dcd_F ((enc_F m0).1)).1) m0)) = true) := bne' hq6
            refine xs rfl ⟨_, _, rfl, rfl, rfl⟩ (xs rfl ⟨_, _, rfl, rfl, rfl⟩ (xs rfl ⟨_, _, rfl, rfl, rfl⟩ ?_))
            refine xq rfl trivial (o_pick_t rfl rfl) ?_
            refine xo_nil ?_
            exact xq_cut ((lce rfl (by first | rfl | (simp only [hq1, hq3, hq5, hq6, if_pos hp1, if_pos hp3, if_pos hp5, if_neg hp6, bS]; done) | (simp [hp1, hp3, hp5, hp6]; done) | (simp_all; done)) (lc rfl ln))) (fun _ h => h)
          · have hq6 : ((eqN 28 ((dcd_F ((enc_F m0).1)).1) m0)) = true := (bnF hg6)
            have hp6 : ((eqN 28 ((dcd_F ((enc_F m0).1)).1) m0)) = true := hq6
            refine xq rfl ⟨_, rfl, rfl⟩ (o_mv rfl) ?_
            refine xq rfl ⟨_, rfl, rfl⟩ (o_lenL rfl Try.underlying35 rfl (OJ.val hJs2)) ?_
            refine xq rfl ⟨_, rfl, rfl⟩ (o_neq rfl rfl) ?_
            refine xq rfl trivial (o_pick_f rfl rfl) ?_
            refine xo_nil ?_
            exact xq_cut ((lce rfl (by first | rfl | (simp only [hq1, hq3, hq5, hq6, if_pos hp1, if_pos hp3, if_pos hp5, if_pos hp6, bS]; done) | (simp [hp1, hp3, hp5, hp6]; done) | (simp_all; done)) (lc rfl ln))) (fun _ h => h)
      · refine xq_then ?_
        refine xw_bool 38 rfl (fun hc7 => ?_) (fun hc7 => ?_)
        · have hq7 : (((!(decide ((dcd_F ((enc_F m0).1)).2 = 0))) || (!((eqN 28 ((dcd_F ((enc_F m0).1)).1) m0)))) || (!(decide ((((enc_F m0).1).length : Int) = 88)))) = true := hc7
          have hp7 : (((!(decide ((dcd_F ((enc_F m0).1)).2 = 0))) || (!((eqN 28 ((dcd_F ((enc_F m0).1)).1) m0)))) || (!(decide ((((enc_F m0).1).length : Int) = 88)))) = true := hq7
          rw [if_pos hp7] at h
          refine xw_cond_t rfl rfl (xw_seq (xw_region ?_))
          refine xq rfl trivial (o_as rfl) ?_
          refine xo_nil (xq_then (xw_ret (xq_then_ret ?_)))
          subst h
          exact con_ret1 (.inl rfl) Try.results5 rfl [] (Kp.st (Kp.new hb7 (Kp.segNew (Cov.fresh hcBs2) (Kp.new hb2 Kp.nil)))) (⟨rfl, rfl⟩)
        · have hq7 : (((!(decide ((dcd_F ((enc_F m0).1)).2 = 0))) || (!((eqN 28 ((dcd_F ((enc_F m0).1)).1) m0)))) || (!(decide ((((enc_F m0).1).length : Int) = 88)))) = false := hc7
          have hp7 : ¬ ((((!(decide ((dcd_F ((enc_F m0).1)).2 = 0))) || (!((eqN 28 ((dcd_F ((enc_F m0).1)).1) m0)))) || (!(decide ((((enc_F m0).1).length : Int) = 88)))) = true) := bne' hq7
          rw [if_neg hp7] at h
          refine xw_cond_f rfl rfl (xw_skip (xq_then (xw_seq (xw_region ?_))))
          refine xq rfl trivial (o_mv rfl) ?_
          obtain ⟨ho8, h⟩ := h
          refine xcallq rfl trivial kf16 rfl (fun w1 hw1 => dcd_c _ _ w1 (hs1.keep hw1 (Fr.cons hb7 (Fr.seg hcBs2 (Fr.cons hb2 Fr.nil)))) ho8) ?_
          refine xq rfl trivial (o_mv rfl) ?_
          refine xq rfl trivial (o_ext rfl rfl) ?_
          refine xq rfl trivial (o_ext rfl rfl) ?_
          refine xo rfl trivial (o_alloc ze34 rfl) ?_
          rintro _ _ ⟨b9, hb9, rfl, rfl⟩
          refine xq0 trivial (o_stWI rfl rfl ts34 (List.Mem.head _) (.here _ _ _ _)) ?_
          refine xq rfl trivial (o_as rfl) ?_
          refine xo_nil (xq_then (xw_seq (xw_seq (xw_region ?_))))
          refine xq rfl trivial (o_mv rfl) ?_
          refine xq rfl trivial (o_neE Try.underlying37 rfl (fun _ => rfl) rfl rfl) ?_
          refine xo_nil (xq_then ?_)
          refine xw_bool 45 rfl (fun hc9 => ?_) (fun hc9 => ?_)
          · have hq9 : (decide ((dcd_F b1).2 = 0)) = false := (bnT hc9)
            have hp9 : ¬ ((dcd_F b1).2 = 0) := of_decide_eq_false hq9
            rw [if_neg hp9] at h
            refine xw_cond_t rfl rfl (xw_seq (xw_region ?_))
            refine xq rfl trivial (o_ldW rfl ts34 (List.Mem.head _)) ?_
            refine xq rfl trivial (o_build fk34 ze34 (.nil _)) ?_
            refine xq rfl trivial (o_eqlA eq34 rfl rfl) ?_
            refine xq rfl trivial (o_as rfl) ?_
            refine xo_nil (xq_then (xw_ret (xq_then_ret ?_)))
            subst h
            exact con_ret1 (.inl rfl) Try.results5 rfl [] (Kp.st (Kp.new hb9 (Kp.new hb7 (Kp.segNew (Cov.fresh hcBs2) (Kp.new hb2 Kp.nil))))) (⟨rfl, rfl⟩)
          · have hq9 : (decide ((dcd_F b1).2 = 0)) = true := (bnF hc9)
            have hp9 : (dcd_F b1).2 = 0 := of_decide_eq_true hq9
            rw [if_pos hp9] at h
            refine xw_cond_f rfl rfl (xw_skip (xq_then (xw_seq (xw_region ?_))))
            refine xq rfl trivial (o_ldW rfl ts34 (List.Mem.head _)) ?_
            refine xcall rfl trivial kf10 rfl (fun w1 hw1 => encA_c _ w1) ?_
            rintro w1 _ _ hw1 ⟨vs10, Bs10, rfl, rfl, hJs10, hcBs10⟩
            refine ⟨_, Mg.news (Cov.fresh hcBs10) (.nil _), ?_⟩
            replace hcBs10 := Cov.base (w0 := w) hcBs10 hw1.size
            refine xq rfl trivial (o_mv rfl) ?_
            refine xq rfl trivial (o_ext rfl rfl) ?_
            refine xq rfl trivial (o_ext rfl rfl) ?_
            refine xq rfl trivial (o_as rfl) ?_
            refine xq rfl trivial (o_as rfl) ?_
            refine xo_nil (xq_then (xw_seq ?_))
            obtain ⟨ho11, h⟩ := h
            refine xw_cut [] ln [(4, .bool ((decide ((enc_F ((dcd_F b1).1)).2 = 0)) && ((same_F ((enc_F ((dcd_F b1).1)).1) b1))))] ?_ ?_
            · refine xw_region ?_
              refine xq rfl trivial (o_mv rfl) ?_
              refine xq rfl trivial (o_eqE Try.underlying37 rfl (fun _ => rfl) rfl rfl) ?_
              refine xq rfl trivial (o_mv rfl) ?_
              refine xo_bool 56 rfl (fun hg12 => ?_) (fun hg12 => ?_)
              · have hq12 : (decide ((enc_F ((dcd_F b1).1)).2 = 0)) = true := hg12
                have hp12 : (enc_F ((dcd_F b1).1)).2 = 0 := of_decide_eq_true hq12
                refine xq rfl ⟨_, rfl, rfl⟩ (o_mv rfl) ?_
                refine xq rfl ⟨_, rfl, rfl⟩ (o_mv rfl) ?_
                refine xcallq rfl ⟨_, rfl, rfl⟩ kf14 rfl (fun w1 hw1 => same_c _ _ _ _ w1 (hJs10.sl hw1 (Pull.sub (.here _ _))) (hs1.keep hw1 (Fr.seg hcBs10 (Fr.cons hb9 (Fr.cons hb7 (Fr.seg hcBs2 (Fr.cons hb2 Fr.nil)))))) (ho11 hg12)) ?_
                refine xq rfl trivial (o_pick_t rfl rfl) ?_
                refine xq rfl trivial (o_as rfl) ?_
                refine xo_nil ?_
                exact xq_cut ((lce rfl (by first | rfl | (simp only [hq1, hq3, hq7, hq9, hq12, if_pos hp1, if_pos hp3, if_neg hp7, if_pos hp9, if_pos hp12, bS]; done) | (simp [hp1, hp3, hp7, hp9, hp12]; done) | (simp_all; done)) ln)) (fun _ h => h)
              · have hq12 : (decide ((enc_F ((dcd_F b1).1)).2 = 0)) = false := hg12
                have hp12 : ¬ ((enc_F ((dcd_F b1).1)).2 = 0) := of_decide_eq_false hq12
                refine xs rfl ⟨_, _, rfl, rfl, rfl⟩ (xs rfl ⟨_, _, rfl, rfl, rfl⟩ (xs rfl ⟨_, _, rfl, rfl, rfl⟩ ?_))
                refine xq rfl trivial (o_pick_f rfl rfl) ?_
                refine xq rfl trivial (o_as rfl) ?_
                refine xo_nil ?_
                exact xq_cut ((lce rfl (by first | rfl | (simp only [hq1, hq3, hq7, hq9, hq12, if_pos hp1, if_pos hp3, if_neg hp7, if_pos hp9, if_neg hp12, bS]; done) | (simp [hp1, hp3, hp7, hp9, hp12]; done) | (simp_all; done)) ln)) (fun _ h => h)
            · refine xq_then (xw_ret ?_)
              subst h
              exact con_ret1 (.inl rfl) Try.results5 rfl [] (Kp.st (Kp.segNew (Cov.fresh hcBs10) (Kp.new hb9 (Kp.new hb7 (Kp.segNew (Cov.fresh hcBs2) (Kp.new hb2 Kp.nil)))))) (⟨rfl, rfl⟩)
    · have hq3 : (decide ((enc_F m0).2 = 0)) = false := hc3
      have hp3 : ¬ ((enc_F m0).2 = 0) := of_decide_eq_false hq3
      rw [if_neg hp3] at h
      refine xw_cond_f rfl rfl (xw_skip (xq_then (xw_seq (xw_region ?_))))
      refine xq rfl trivial (o_mv rfl) ?_
      obtain ⟨ho13, h⟩ := h
      refine xcallq rfl trivial kf16 rfl (fun w1 hw1 => dcd_c _ _ w1 (hs1.keep hw1 (Fr.seg hcBs2 (Fr.cons hb2 Fr.nil))) ho13) ?_
      refine xq rfl trivial (o_mv rfl) ?_
      refine xq rfl trivial (o_ext rfl rfl) ?_
      refine xq rfl trivial (o_ext rfl rfl) ?_
      refine xo rfl trivial (o_alloc ze34 rfl) ?_
      rintro _ _ ⟨b9, hb9, rfl, rfl⟩
      refine xq0 trivial (o_stWI rfl rfl ts34 (List.Mem.head _) (.here _ _ _ _)) ?_
      refine xq rfl trivial (o_as rfl) ?_
      refine xo_nil (xq_then (xw_seq (xw_seq (xw_region ?_))))
      refine xq rfl trivial (o_mv rfl) ?_
      refine xq rfl trivial (o_neE Try.underlying37 rfl (fun _ => rfl) rfl rfl) ?_
      refine xo_nil (xq_then ?_)
      refine xw_bool 45 rfl (fun hc14 => ?_) (fun hc14 => ?_)
      · have hq14 : (decide ((dcd_F b1).2 = 0)) = false := (bnT hc14)
        have hp14 : ¬ ((dcd_F b1).2 = 0) := of_decide_eq_false hq14
        rw [if_neg hp14] at h
        refine xw_cond_t rfl rfl (xw_seq (xw_region ?_))
        refine xq rfl trivial (o_ldW rfl ts34 (List.Mem.head _)) ?_
        refine xq rfl trivial (o_build fk34 ze34 (.nil _)) ?_
        refine xq rfl trivial (o_eqlA eq34 rfl rfl) ?_
        refine xq rfl trivial (o_as rfl) ?_
        refine xo_nil (xq_then (xw_ret (xq_then_ret ?_)))
        subst h
        exact con_ret1 (.inl rfl) Try.results5 rfl [] (Kp.st (Kp.new hb9 (Kp.segNew (Cov.fresh hcBs2) (Kp.new hb2 Kp.nil)))) (⟨rfl, rfl⟩)
      · have hq14 : (decide ((dcd_F b1).2 = 0)) = true := (bnF hc14)
        have hp14 : (dcd_F b1).2 = 0 := of_decide_eq_true hq14
        rw [if_pos hp14] at h
        refine xw_cond_f rfl rfl (xw_skip (xq_then (xw_seq (xw_region ?_))))
        refine xq rfl trivial (o_ldW rfl ts34 (List.Mem.head _)) ?_
        refine xcall rfl trivial kf10 rfl (fun w1 hw1 => encA_c _ w1) ?_
        rintro w1 _ _ hw1 ⟨vs15, Bs15, rfl, rfl, hJs15, hcBs15⟩
        refine ⟨_, Mg.news (Cov.fresh hcBs15) (.nil _), ?_⟩
        replace hcBs15 := Cov.base (w0 := w) hcBs15 hw1.size
        refine xq rfl trivial (o_mv rfl) ?_
        refine xq rfl trivial (o_ext rfl rfl) ?_
        refine xq rfl trivial (o_ext rfl rfl) ?_
        refine xq rfl trivial (o_as rfl) ?_
        refine xq rfl trivial (o_as rfl) ?_
        refine xo_nil (xq_then (xw_seq ?_))
        obtain ⟨ho16, h⟩ := h
        refine xw_cut [] ln [(4, .bool ((decide ((enc_F ((dcd_F b1).1)).2 = 0)) && ((same_F ((enc_F ((dcd_F b1).1)).1) b1))))] ?_ ?_
        · refine xw_region ?_
          refine xq rfl trivial (o_mv rfl) ?_
          refine xq rfl trivial (o_eqE Try.underlying37 rfl (fun _ => rfl) rfl rfl) ?_
          refine xq rfl trivial (o_mv rfl) ?_
          refine xo_bool 56 rfl (fun hg17 => ?_) (fun hg17 => ?_)
          · have hq17 : (decide ((enc_F ((dcd_F b1).1)).2 = 0)) = true := hg17
            have hp17 : (enc_F ((dcd_F b1).1)).2 = 0 := of_decide_eq_true hq17
            refine xq rfl ⟨_, rfl, rfl⟩ (o_mv rfl) ?_
            refine xq rfl ⟨_, rfl, rfl⟩ (o_mv rfl) ?_
            refine xcallq rfl ⟨_, rfl, rfl⟩ kf14 rfl (fun w1 hw1 => same_c _ _ _ _ w1 (hJs15.sl hw1 (Pull.sub (.here _ _))) (hs1.keep hw1 (Fr.seg hcBs15 (Fr.cons hb9 (Fr.seg hcBs2 (Fr.cons hb2 Fr.nil))))) (ho16 hg17)) ?_
            refine xq rfl trivial (o_pick_t rfl rfl) ?_
            refine xq rfl trivial (o_as rfl) ?_
            refine xo_nil ?_
            exact xq_cut ((lce rfl (by first | rfl | (simp only [hq1, hq3, hq14, hq17, if_pos hp1, if_neg hp3, if_pos hp14, if_pos hp17, bS]; done) | (simp [hp1, hp3, hp14, hp17]; done) | (simp_all; done)) ln)) (fun _ h => h)
          · have hq17 : (decide ((enc_F ((dcd_F b1).1)).2 = 0)) = false := hg17
            have hp17 : ¬ ((enc_F ((dcd_F b1).1)).2 = 0) := of_decide_eq_false hq17
            refine xs rfl ⟨_, _, rfl, rfl, rfl⟩ (xs rfl ⟨_, _, rfl, rfl, rfl⟩ (xs rfl ⟨_, _, rfl, rfl, rfl⟩ ?_))
            refine xq rfl trivial (o_pick_f rfl rfl) ?_
            refine xq rfl trivial (o_as rfl) ?_
            refine xo_nil ?_
            exact xq_cut ((lce rfl (by first | rfl | (simp only [hq1, hq3, hq14, hq17, if_pos hp1, if_neg hp3, if_pos hp14, if_neg hp17, bS]; done) | (simp [hp1, hp3, hp14, hp17]; done) | (simp_all; done)) ln)) (fun _ h => h)
        · refine xq_then (xw_ret ?_)
          subst h
          exact con_ret1 (.inl rfl) Try.results5 rfl [] (Kp.st (Kp.segNew (Cov.fresh hcBs15) (Kp.new hb9 (Kp.segNew (Cov.fresh hcBs2) (Kp.new hb2 Kp.nil))))) (⟨rfl, rfl⟩)

theorem msgBackL_c (m0 : (Nat → Int)) (b1 : (List Int)) (v1 : Value) (w : World) (hs1 : SL w 1 u8c v1 b1) (hP : msgBackL_P m0 b1) : Con Try.prog 5 #[AI 28 m0, v1] w (Is (.bool (msgBackL_F m0 b1)) []) :=
  msgBackL_con m0 b1 v1 w hs1 _ (msgBackL_ok m0 b1 hP)

theorem msgOneL_con (m0 : (Nat → Int)) (at1 : Int) (by2 : Int) (w : World) (r : Bool) (h : msgOneL_S m0 at1 by2 r) : Con Try.prog 6 #[AI 28 m0, .int .u8 at1, .int .u8 by2] w (Is (.bool r) []) := by
  unfold msgOneL_S at h
  refine con_enter (n := 55) [(0, _), (1, _), (2, _)] Try.func6 rfl Try.ntmps6 rfl (lac rfl (lac rfl (lac rfl lan))) ?_
  refine xw_seq (xw_region ?_)
  refine xo rfl trivial (o_boxA rfl) ?_
  rintro _ _ ⟨b3, hb3, rfl, rfl⟩
  refine xq rfl trivial (o_as rfl) ?_
  refine xo_nil (xq_then (xw_seq (xw_seq (xw_region ?_))))
  refine xcallq rfl trivial kf8 rfl (fun w1 hw1 => alive4_c w1) ?_
  refine xq rfl trivial (o_not rfl) ?_
  refine xo_nil (xq_then ?_)
  refine xw_bool 13 rfl (fun hc1 => ?_) (fun hc1 => ?_)
  · have hq1 : (alive4_F) = false := (bnT hc1)
    have hp1 : ¬ ((alive4_F) = true) := bne' hq1
    rw [if_neg hp1] at h
    refine xw_cond_t rfl rfl (xw_seq (xw_region ?_))
    refine xq rfl trivial (o_as rfl) ?_
    refine xo_nil (xq_then (xw_ret (xq_then_ret ?_)))
    subst h
    exact con_ret1 (.inl rfl) Try.results6 rfl [] (Kp.st (Kp.new hb3 Kp.nil)) (⟨rfl, rfl⟩)
  · have hq1 : (alive4_F) = true := (bnF hc1)
    have hp1 : (alive4_F) = true := hq1
    rw [if_pos hp1] at h
    refine xw_cond_f rfl rfl (xw_skip (xq_then (xw_seq (xw_region ?_))))
    refine xq rfl trivial (o_ldW rfl ts34 (List.Mem.head _)) ?_
    refine xcall rfl trivial kf10 rfl (fun w1 hw1 => encA_c _ w1) ?_
    rintro w1 _ _ hw1 ⟨vs2, Bs2, rfl, rfl, hJs2, hcBs2⟩
    refine ⟨_, Mg.news (Cov.fresh hcBs2) (.nil _), ?_⟩
    replace hcBs2 := Cov.base (w0 := w) hcBs2 hw1.size
    refine xq rfl trivial (o_mv rfl) ?_
    refine xq rfl trivial (o_ext rfl rfl) ?_
    refine xq rfl trivial (o_ext rfl rfl) ?_
    refine xq rfl trivial (o_as rfl) ?_
    refine xq rfl trivial (o_as rfl) ?_
    refine xo_nil (xq_then (xw_seq (xw_seq ?_)))
    refine xw_cut [(1, _), (2, _), (3, _), (7, _), (8, _)] (lc rfl (lc rfl (lc rfl (lc rfl (lc rfl ln))))) [(25, .bool ((!(decide ((enc_F m0).2 = 0))) || (!(decide ((((enc_F m0).1).length : Int) = 88)))))] ?_ ?_
    · refine xw_region ?_
      refine xq rfl trivial (o_mv rfl) ?_
      refine xq rfl trivial (o_neE Try.underlying37 rfl (fun _ => rfl) rfl rfl) ?_
      refine xq rfl trivial (o_mv rfl) ?_
      refine xo_bool 21 rfl (fun hg3 => ?_) (fun hg3 => ?_)
      · have hq3 : (decide ((enc_F m0).2 = 0)) = false := (bnT hg3)
        have hp3 : ¬ ((enc_F m0).2 = 0) := of_decide_eq_false hq3
        refine xs rfl ⟨_, _, rfl, rfl, rfl⟩ (xs rfl ⟨_, _, rfl, rfl, rfl⟩ (xs rfl ⟨_, _, rfl, rfl, rfl⟩ ?_))
        refine xq rfl trivial (o_pick_t rfl rfl) ?_
        refine xo_nil ?_
        exact xq_cut ((lce rfl (by first | rfl | (simp only [hq1, hq3, if_pos hp1, if_neg hp3, bS]; done) | (simp [hp1, hp3]; done) | (simp_all; done)) (lc rfl (lc rfl (lc rfl (lc rfl (lc rfl ln))))))) (fun _ h => h)
      · have hq3 : (decide ((enc_F m0).2 = 0)) = true := (bnF hg3)
        have hp3 : (enc_F m0).2 = 0 := of_decide_eq_true hq3
        refine xq rfl ⟨_, rfl, rfl⟩ (o_mv rfl) ?_
        refine xq rfl ⟨_, rfl, rfl⟩ (o_lenL rfl Try.underlying35 rfl (OJ.val hJs2)) ?_
        refine xq rfl ⟨_, rfl, rfl⟩ (o_neq rfl rfl) ?_
        refine xq rfl trivial (o_pick_f rfl rfl) ?_
        refine xo_nil ?_
        exact xq_cut ((lce rfl (by first | rfl | (simp only [hq1, hq3, if_pos hp1, if_pos hp3, bS]; done) | (simp [hp1, hp3]; done) | (simp_all; done)) (lc rfl (lc rfl (lc rfl (lc rfl (lc rfl ln))))))) (fun _ h => h)
    · refine xq_then ?_
      refine xw_bool 25 rfl (fun hc4 => ?_) (fun hc4 => ?_)
      · have hq4 : ((!(decide ((enc_F m0).2 = 0))) || (!(decide ((((enc_F m0).1).length : Int) = 88)))) = true := hc4
        have hp4 : ((!(decide ((enc_F m0).2 = 0))) || (!(decide ((((enc_F m0).1).length : Int) = 88)))) = true := hq4
        rw [if_pos hp4] at h
        refine xw_cond_t rfl rfl (xw_seq (xw_region ?_))
        refine xq rfl trivial (o_mv rfl) ?_
        refine xq rfl trivial (o_neE Try.underlying37 rfl (fun _ => rfl) rfl rfl) ?_
        refine xq rfl trivial (o_as rfl) ?_
        refine xo_nil (xq_then (xw_ret (xq_then_ret ?_)))
        subst h
        exact con_ret1 (.inl rfl) Try.results6 rfl [] (Kp.st (Kp.segNew (Cov.fresh hcBs2) (Kp.new hb3 Kp.nil))) (⟨rfl, rfl⟩)
      · have hq4 : ((!(decide ((enc_F m0).2 = 0))) || (!(decide ((((enc_F m0).1).length : Int) = 88)))) = false := hc4
        have hp4 : ¬ (((!(decide ((enc_F m0).2 = 0))) || (!(decide ((((enc_F m0).1).length : Int) = 88)))) = true) := bne' hq4
        rw [if_neg hp4] at h
        refine xw_cond_f rfl rfl (xw_skip (xq_then (xw_seq (xw_region ?_))))
        refine xq rfl trivial (o_mv rfl) ?_
        refine xq rfl trivial (o_conv rfl Try.underlying5 Try.underlying3) ?_
        refine xq rfl trivial (o_rem rfl rfl (by decide) rfl) ?_
        refine xq rfl trivial (o_as rfl) ?_
        refine xo_nil (xq_then (xw_seq (xw_region ?_)))
        refine xq rfl trivial (o_mv rfl) ?_
        refine xq rfl trivial (o_mv rfl) ?_
        refine xq rfl trivial (o_mv rfl) ?_
        refine xq rfl trivial (o_mv rfl) ?_
        obtain ⟨ho5, h⟩ := h
        refine xq rfl trivial (o_ixL el35 rfl rfl (fun w hw => (hJs2.sl hw (Pull.sub (.here _ _)))) rfl ho5) ?_
        refine xq rfl trivial (o_ldL1 (off := 0) (u := .int .u8 (((enc_F m0).1)[((IntKind.i64.wrap at1).tmod 88).toNat]!)) rfl ts5 rfl (fun w hw => (hJs2.sl hw (Pull.sub (.here _ _)))) (toNat_lt ho5) rfl rfl) ?_
        refine xq rfl trivial (o_mv rfl) ?_
        refine xq rfl trivial (o_addk rfl rfl) ?_
        obtain ⟨ho6, h⟩ := h
        refine xq rfl trivial (o_ixL el35 rfl rfl (fun w hw => (hJs2.sl hw (Pull.sub (.here _ _)))) rfl ho6) ?_
        refine xo0 trivial (OT.st (fun _ h => Pull.st (.here _ _) h) (o_stL1 (e := IntKind.u8.wrap ((((enc_F m0).1)[((IntKind.i64.wrap at1).tmod 88).toNat]!) + by2)) rfl rfl ts5 rfl hJs2 (toNat_lt ho6) rfl rfl)) ?_
        rintro _ _ ⟨Bs7, rfl, hcnBs7, hJBs7⟩
        have hcBs7 := hcBs2.trans hcnBs7
        refine xo_nil (xq_then (xw_seq (xw_region ?_)))
        refine xq rfl trivial (o_mv rfl) ?_
        obtain ⟨ho8, h⟩ := h
        refine xcallq rfl trivial kf16 rfl (fun w1 hw1 => dcd_c _ _ w1 (hJBs7.sl hw1 (Pull.sub (.here _ _))) ho8) ?_
        refine xq rfl trivial (o_mv rfl) ?_
        refine xq rfl trivial (o_ext rfl rfl) ?_
        refine xq rfl trivial (o_ext rfl rfl) ?_
        refine xo rfl trivial (o_alloc ze34 rfl) ?_
        rintro _ _ ⟨b10, hb10, rfl, rfl⟩
        refine xq0 trivial (o_stWI rfl rfl ts34 (List.Mem.head _) (.here _ _ _ _)) ?_
        refine xq rfl trivial (o_as rfl) ?_
        refine xo_nil (xq_then (xw_seq ?_))
        refine xw_cut [] ln [(6, .bool ((!(decide ((dcd_F (((enc_F m0).1).set (((IntKind.i64.wrap at1).tmod 88).toNat) (IntKind.u8.wrap ((((enc_F m0).1)[((IntKind.i64.wrap at1).tmod 88).toNat]!) + by2)))).2 = 0))) || ((((eqN 28 ((dcd_F (((enc_F m0).1).set (((IntKind.i64.wrap at1).tmod 88).toNat) (IntKind.u8.wrap ((((enc_F m0).1)[((IntKind.i64.wrap at1).tmod 88).toNat]!) + by2)))).1) m0)) == (decide (by2 = 0))))))] ?_ ?_
        · refine xw_region ?_
          refine xq rfl trivial (o_mv rfl) ?_
          refine xq rfl trivial (o_neE Try.underlying37 rfl (fun _ => rfl) rfl rfl) ?_
          refine xq rfl trivial (o_mv rfl) ?_
          refine xo_bool 47 rfl (fun hg9 => ?_) (fun hg9 => ?_)
          · have hq9 : (decide ((dcd_F (((enc_F m0).1).set (((IntKind.i64.wrap at1).tmod 88).toNat) (IntKind.u8.wrap ((((enc_F m0).1)[((IntKind.i64.wrap at1).tmod 88).toNat]!) + by2)))).2 = 0)) = false := (bnT hg9)
            have hp9 : ¬ ((dcd_F (((enc_F m0).1).set (((IntKind.i64.wrap at1).tmod 88).toNat) (IntKind.u8.wrap ((((enc_F m0).1)[((IntKind.i64.wrap at1).tmod 88).toNat]!) + by2)))).2 = 0) := of_decide_eq_false hq9
            refine xs rfl ⟨_, _, rfl, rfl, rfl⟩ (xs rfl ⟨_, _, rfl, rfl, rfl⟩ (xs rfl ⟨_, _, rfl, rfl, rfl⟩ (xs rfl ⟨_, _, rfl, rfl, rfl⟩ (xs rfl ⟨_, _, rfl, rfl, rfl⟩ (xs rfl ⟨_, _, rfl, rfl, rfl⟩ ?_)))))
            refine xq rfl trivial (o_pick_t rfl rfl) ?_
            refine xq rfl trivial (o_as rfl) ?_
            refine xo_nil ?_
            exact xq_cut ((lce rfl (by first | rfl | (simp only [hq1, hq4, hq9, if_pos hp1, if_neg hp4, if_neg hp9, bS]; done) | (simp [hp1, hp4, hp9]; done) | (simp_all; done)) ln)) (fun _ h => h)
          · have hq9 : (decide ((dcd_F (((enc_F m0).1).set (((IntKind.i64.wrap at1).tmod 88).toNat) (IntKind.u8.wrap ((((enc_F m0).1)[((IntKind.i64.wrap at1).tmod 88).toNat]!) + by2)))).2 = 0)) = true := (bnF hg9)
            have hp9 : (dcd_F (((enc_F m0).1).set (((IntKind.i64.wrap at1).tmod 88).toNat) (IntKind.u8.wrap ((((enc_F m0).1)[((IntKind.i64.wrap at1).tmod 88).toNat]!) + by2)))).2 = 0 := of_decide_eq_true hq9
            refine xq rfl ⟨_, rfl, rfl⟩ (o_ldW rfl ts34 (List.Mem.head _)) ?_
            refine xq rfl ⟨_, rfl, rfl⟩ (o_ldW rfl ts34 (List.Mem.tail _ (List.mem_append_right _ (List.Mem.head _)))) ?_
            refine xq rfl ⟨_, rfl, rfl⟩ (o_eqlA eq34 rfl rfl) ?_
            refine xq rfl ⟨_, rfl, rfl⟩ (o_mv rfl) ?_
            refine xq rfl ⟨_, rfl, rfl⟩ (o_eql rfl rfl) ?_
            refine xq rfl ⟨_, rfl, rfl⟩ (o_eqlB Try.underlying4 rfl rfl) ?_
            refine xq rfl trivial (o_pick_f rfl rfl) ?_
            refine xq rfl trivial (o_as rfl) ?_
            refine xo_nil ?_
            exact xq_cut ((lce rfl (by first | rfl | (simp only [hq1, hq4, hq9, if_pos hp1, if_neg hp4, if_pos hp9, bS]; done) | (simp [hp1, hp4, hp9]; done) | (simp_all; done)) ln)) (fun _ h => h)
        · refine xq_then (xw_ret ?_)
          subst h
          exact con_ret1 (.inl rfl) Try.results6 rfl [] (Kp.st (Kp.new hb10 (Kp.segNew (Cov.fresh hcBs7) (Kp.new hb3 Kp.nil)))) (⟨rfl, rfl⟩)

theorem msgOneL_c (m0 : (Nat → Int)) (at1 : Int) (by2 : Int) (w : World) (hP : msgOneL_P m0 at1 by2) : Con Try.prog 6 #[AI 28 m0, .int .u8 at1, .int .u8 by2] w (Is (.bool (msgOneL_F m0 at1 by2)) []) :=
  msgOneL_con m0 at1 by2 w _ (msgOneL_ok m0 at1 by2 hP)

end Go.Proofs.Ytmcohikcgdfhcaa
