/- The code answers as the relations say. -/
import Derived.Test.YtjmfnohbeoiddaaTab
import Derived.Test.YtjmfnohbeoiddaaF12S
import Derived.Test.YtjmfnohbeoiddaaE12W
set_option maxHeartbeats 1000000
set_option linter.unusedVariables false
set_option linter.unusedSimpArgs false
set_option maxRecDepth 100000
namespace Go.Proofs.Ytjmfnohbeoiddaa
open Go Go.E

theorem goR_c (shard0 : Int) (m1 : (Nat → Int)) (seq2 : Int) (l3 : (List (Nat → Int))) (v3 : Value) (w : World) (hs3 : SL w 4 iv v3 l3) (hP : goR_P shard0 m1 seq2 l3) : Con Try.prog 20 #[.int .i64 shard0, AI 28 m1, .int .i64 seq2, v3] w (fun v F => ∃ (u0 : Value) (C0 : GH), v = .tuple #[u0, .int .i64 ((goR_F shard0 m1 seq2 l3).2)] ∧ F = (C0 ++ []) ∧ OJ 29 28 iv C0 u0 ((goR_F shard0 m1 seq2 l3).1) ∧ Cov w [] C0) :=
  goR_con shard0 m1 seq2 l3 v3 w hs3 _ (goR_ok shard0 m1 seq2 l3 hP)

theorem starts12_con (shard0 : Int) (ww1 : (Nat → Int)) (l2 : (List (Nat → Int))) (v2 : Value) (w : World) (hs2 : SL w 4 iv v2 l2) (r : Bool) (h : starts12_S shard0 ww1 l2 r) : Con Try.prog 4 #[.int .i64 shard0, AI 2 ww1, v2] w (Is (.bool r) []) := by
  unfold starts12_S at h
  refine con_enter (n := 39) [(0, _), (1, _), (2, _)] Try.func4 rfl Try.ntmps4 rfl (lac rfl (lac rfl (lac rfl lan))) ?_
  refine xw_seq (xw_region ?_)
  refine xo rfl trivial (o_boxA rfl) ?_
  rintro _ _ ⟨b4, hb4, rfl, rfl⟩
  refine xq rfl trivial (o_as rfl) ?_
  refine xo_nil (xq_then (xw_seq (xw_seq (xw_region ?_))))
  obtain ⟨ho1, h⟩ := h
  refine xcallq rfl trivial kf8 rfl (fun w1 hw1 => alive12_c w1 ho1) ?_
  refine xq rfl trivial (o_not rfl) ?_
  refine xo_nil (xq_then ?_)
  refine xw_bool 12 rfl (fun hc2 => ?_) (fun hc2 => ?_)
  · have hq2 : (alive12_F) = false := (bnT hc2)
    have hp2 : ¬ ((alive12_F) = true) := bne' hq2
    rw [if_neg hp2] at h
    refine xw_cond_t rfl rfl (xw_seq (xw_region ?_))
    refine xq rfl trivial (o_as rfl) ?_
    refine xo_nil (xq_then (xw_ret (xq_then_ret ?_)))
    subst h
    exact con_ret1 (.inl rfl) Try.results4 rfl [] (Kp.st (Kp.new hb4 Kp.nil)) (⟨rfl, rfl⟩)
  · have hq2 : (alive12_F) = true := (bnF hc2)
    have hp2 : (alive12_F) = true := hq2
    rw [if_pos hp2] at h
    refine xw_cond_f rfl rfl (xw_skip (xq_then (xw_seq (xw_seq (xw_region ?_)))))
    refine xq rfl trivial (o_mv rfl) ?_
    refine xq rfl trivial (o_lenL rfl Try.underlying30 rfl (SL.val hs2)) ?_
    refine xq rfl trivial (o_gtr rfl rfl) ?_
    refine xo_nil (xq_then ?_)
    refine xw_bool 15 rfl (fun hc3 => ?_) (fun hc3 => ?_)
    · have hq3 : (decide (100 < (l2.length : Int))) = true := hc3
      have hp3 : 100 < (l2.length : Int) := of_decide_eq_true hq3
      rw [if_pos hp3] at h
      refine xw_cond_t rfl rfl (xw_seq (xw_region ?_))
      refine xq rfl trivial (o_as rfl) ?_
      refine xo_nil (xq_then (xw_ret (xq_then_ret ?_)))
      subst h
      exact con_ret1 (.inl rfl) Try.results4 rfl [] (Kp.st (Kp.new hb4 Kp.nil)) (⟨rfl, rfl⟩)
    · have hq3 : (decide (100 < (l2.length : Int))) = false := hc3
      have hp3 : ¬ (100 < (l2.length : Int)) := of_decide_eq_false hq3
      rw [if_neg hp3] at h
      refine xw_cond_f rfl rfl (xw_skip (xq_then (xw_seq (xw_region ?_))))
      refine xq rfl trivial (o_mv rfl) ?_
      refine xq rfl trivial (o_ldW rfl ts26 (List.Mem.head _)) ?_
      refine xq rfl trivial (o_mv rfl) ?_
      obtain ⟨ho4, h⟩ := h
      refine xcall rfl trivial kf14 rfl (fun w1 hw1 => startP_c _ _ _ _ w1 (hs2.keep hw1 (Fr.cons hb4 Fr.nil)) ho4) ?_
      rintro w1 _ _ hw1 ⟨vs5, Bs5, rfl, rfl, hJs5, hcBs5⟩
      refine ⟨_, Mg.news (Cov.fresh hcBs5) (.nil _), ?_⟩
      replace hcBs5 := Cov.base (w0 := w) hcBs5 hw1.size
      refine xq rfl trivial (o_mv rfl) ?_
      refine xq rfl trivial (o_ext rfl rfl) ?_
      refine xq rfl trivial (o_ext rfl rfl) ?_
      refine xq rfl trivial (o_as rfl) ?_
      refine xq rfl trivial (o_as rfl) ?_
      refine xo_nil (xq_then (xw_seq (xw_region ?_)))
      refine xq rfl trivial (o_mv rfl) ?_
      refine xq rfl trivial (o_ldW rfl ts26 (List.mem_append_right _ (List.Mem.head _))) ?_
      refine xq rfl trivial (o_mv rfl) ?_
      obtain ⟨ho6, h⟩ := h
      refine xcall rfl trivial kf15 rfl (fun w1 hw1 => startR_c _ _ _ _ w1 (hs2.keep hw1 (Fr.seg hcBs5 (Fr.cons hb4 Fr.nil))) ho6) ?_
      rintro w1 _ _ hw1 ⟨vs7, Bs7, rfl, rfl, hJs7, hcBs7⟩
      refine ⟨_, Mg.news (Cov.fresh hcBs7) (.nil _), ?_⟩
      replace hcBs7 := Cov.base (w0 := w) hcBs7 hw1.size
      refine xq rfl trivial (o_mv rfl) ?_
      refine xq rfl trivial (o_ext rfl rfl) ?_
      refine xq rfl trivial (o_ext rfl rfl) ?_
      refine xq rfl trivial (o_as rfl) ?_
      refine xq rfl trivial (o_as rfl) ?_
      refine xo_nil (xq_then (xw_seq ?_))
      obtain ⟨ho8, h⟩ := h
      refine xw_cut [] ln [(6, .bool (((msgs_F ((startP_F shard0 ww1 l2).1) ((startR_F shard0 ww1 l2).1))) && (decide ((code_F ((startP_F shard0 ww1 l2).2)) = (startR_F shard0 ww1 l2).2))))] ?_ ?_
      · refine xw_region ?_
        refine xq rfl trivial (o_mv rfl) ?_
        refine xq rfl trivial (o_mv rfl) ?_
        refine xcallq rfl trivial kf16 rfl (fun w1 hw1 => msgs_c _ _ _ _ w1 (hJs5.sl hw1 (Pull.sub (.there _ (.here _ _)))) (hJs7.sl hw1 (Pull.sub (.here _ _))) (ho8)) ?_
        refine xq rfl trivial (o_mv rfl) ?_
        refine xo_bool 33 rfl (fun hg9 => ?_) (fun hg9 => ?_)
        · have hq9 : ((msgs_F ((startP_F shard0 ww1 l2).1) ((startR_F shard0 ww1 l2).1))) = true := hg9
          have hp9 : ((msgs_F ((startP_F shard0 ww1 l2).1) ((startR_F shard0 ww1 l2).1))) = true := hq9
          refine xq rfl ⟨_, rfl, rfl⟩ (o_mv rfl) ?_
          refine xcallq rfl ⟨_, rfl, rfl⟩ kf17 rfl (fun w1 hw1 => code_c _ w1) ?_
          refine xq rfl ⟨_, rfl, rfl⟩ (o_mv rfl) ?_
          refine xq rfl ⟨_, rfl, rfl⟩ (o_eql rfl rfl) ?_
          refine xq rfl trivial (o_pick_t rfl rfl) ?_
          refine xq rfl trivial (o_as rfl) ?_
          refine xo_nil ?_
          exact xq_cut ((lce rfl (by first | rfl | (simp only [hq2, hq3, hq9, if_pos hp2, if_neg hp3, if_pos hp9, bS]; done) | (simp [hp2, hp3, hp9]; done) | (simp_all; done)) ln)) (fun _ h => h)
        · have hq9 : ((msgs_F ((startP_F shard0 ww1 l2).1) ((startR_F shard0 ww1 l2).1))) = false := hg9
          have hp9 : ¬ (((msgs_F ((startP_F shard0 ww1 l2).1) ((startR_F shard0 ww1 l2).1))) = true) := bne' hq9
          refine xs rfl ⟨_, _, rfl, rfl, rfl⟩ (xs rfl ⟨_, _, rfl, rfl, rfl⟩ (xs rfl ⟨_, _, rfl, rfl, rfl⟩ (xs rfl ⟨_, _, rfl, rfl, rfl⟩ ?_)))
          refine xq rfl trivial (o_pick_f rfl rfl) ?_
          refine xq rfl trivial (o_as rfl) ?_
          refine xo_nil ?_
          exact xq_cut ((lce rfl (by first | rfl | (simp only [hq2, hq3, hq9, if_pos hp2, if_neg hp3, if_neg hp9, bS]; done) | (simp [hp2, hp3, hp9]; done) | (simp_all; done)) ln)) (fun _ h => h)
      · refine xq_then (xw_ret ?_)
        subst h
        exact con_ret1 (.inl rfl) Try.results4 rfl [] (Kp.st (Kp.segNew (Cov.fresh hcBs7) (Kp.segNew (Cov.fresh hcBs5) (Kp.new hb4 Kp.nil)))) (⟨rfl, rfl⟩)

theorem starts12_c (shard0 : Int) (ww1 : (Nat → Int)) (l2 : (List (Nat → Int))) (v2 : Value) (w : World) (hs2 : SL w 4 iv v2 l2) (hP : starts12_P shard0 ww1 l2) : Con Try.prog 4 #[.int .i64 shard0, AI 2 ww1, v2] w (Is (.bool (starts12_F shard0 ww1 l2)) []) :=
  starts12_con shard0 ww1 l2 v2 w hs2 _ (starts12_ok shard0 ww1 l2 hP)

theorem goes12_con (shard0 : Int) (m1 : (Nat → Int)) (seq2 : Int) (l3 : (List (Nat → Int))) (v3 : Value) (w : World) (hs3 : SL w 4 iv v3 l3) (r : Bool) (h : goes12_S shard0 m1 seq2 l3 r) : Con Try.prog 6 #[.int .i64 shard0, AI 28 m1, .int .i64 seq2, v3] w (Is (.bool r) []) := by
  unfold goes12_S at h
  refine con_enter (n := 89) [(0, _), (1, _), (2, _), (3, _)] Try.func6 rfl Try.ntmps6 rfl (lac rfl (lac rfl (lac rfl (lac rfl lan)))) ?_
  refine xw_seq (xw_region ?_)
  refine xo rfl trivial (o_boxA rfl) ?_
  rintro _ _ ⟨b5, hb5, rfl, rfl⟩
  refine xq rfl trivial (o_as rfl) ?_
  refine xo_nil (xq_then (xw_seq (xw_seq (xw_region ?_))))
  obtain ⟨ho1, h⟩ := h
  refine xcallq rfl trivial kf8 rfl (fun w1 hw1 => alive12_c w1 ho1) ?_
  refine xq rfl trivial (o_not rfl) ?_
  refine xo_nil (xq_then ?_)
  refine xw_bool 17 rfl (fun hc2 => ?_) (fun hc2 => ?_)
  · have hq2 : (alive12_F) = false := (bnT hc2)
    have hp2 : ¬ ((alive12_F) = true) := bne' hq2
    rw [if_neg hp2] at h
    refine xw_cond_t rfl rfl (xw_seq (xw_region ?_))
    refine xq rfl trivial (o_as rfl) ?_
    refine xo_nil (xq_then (xw_ret (xq_then_ret ?_)))
    subst h
    exact con_ret1 (.inl rfl) Try.results6 rfl [] (Kp.st (Kp.new hb5 Kp.nil)) (⟨rfl, rfl⟩)
  · have hq2 : (alive12_F) = true := (bnF hc2)
    have hp2 : (alive12_F) = true := hq2
    rw [if_pos hp2] at h
    refine xw_cond_f rfl rfl (xw_skip (xq_then (xw_seq (xw_seq (xw_region ?_)))))
    refine xq rfl trivial (o_mv rfl) ?_
    refine xq rfl trivial (o_lenL rfl Try.underlying30 rfl (SL.val hs3)) ?_
    refine xq rfl trivial (o_gtr rfl rfl) ?_
    refine xo_nil (xq_then ?_)
    refine xw_bool 20 rfl (fun hc3 => ?_) (fun hc3 => ?_)
    · have hq3 : (decide (100 < (l3.length : Int))) = true := hc3
      have hp3 : 100 < (l3.length : Int) := of_decide_eq_true hq3
      rw [if_pos hp3] at h
      refine xw_cond_t rfl rfl (xw_seq (xw_region ?_))
      refine xq rfl trivial (o_as rfl) ?_
      refine xo_nil (xq_then (xw_ret (xq_then_ret ?_)))
      subst h
      exact con_ret1 (.inl rfl) Try.results6 rfl [] (Kp.st (Kp.new hb5 Kp.nil)) (⟨rfl, rfl⟩)
    · have hq3 : (decide (100 < (l3.length : Int))) = false := hc3
      have hp3 : ¬ (100 < (l3.length : Int)) := of_decide_eq_false hq3
      rw [if_neg hp3] at h
      refine xw_cond_f rfl rfl (xw_skip (xq_then (xw_seq (xw_region ?_))))
      refine xq rfl trivial (o_mv rfl) ?_
      refine xq rfl trivial (o_ldW rfl ts29 (List.Mem.head _)) ?_
      refine xq rfl trivial (o_mv rfl) ?_
      refine xq rfl trivial (o_mv rfl) ?_
      obtain ⟨ho4, h⟩ := h
      refine xcall rfl trivial kf13 rfl (fun w1 hw1 => goP_c _ _ _ _ _ w1 (hs3.keep hw1 (Fr.cons hb5 Fr.nil)) ho4) ?_
      rintro w1 _ _ hw1 ⟨vs5, Bs5, rfl, rfl, hJs5, hcBs5⟩
      refine ⟨_, Mg.news (Cov.fresh hcBs5) (.nil _), ?_⟩
      replace hcBs5 := Cov.base (w0 := w) hcBs5 hw1.size
      refine xq rfl trivial (o_mv rfl) ?_
      refine xq rfl trivial (o_ext rfl rfl) ?_
      refine xq rfl trivial (o_ext rfl rfl) ?_
      refine xq rfl trivial (o_as rfl) ?_
      refine xq rfl trivial (o_as rfl) ?_
      refine xo_nil (xq_then (xw_seq (xw_region ?_)))
      refine xq rfl trivial (o_mv rfl) ?_
      refine xq rfl trivial (o_ldW rfl ts29 (List.mem_append_right _ (List.Mem.head _))) ?_
      refine xq rfl trivial (o_mv rfl) ?_
      refine xq rfl trivial (o_mv rfl) ?_
      obtain ⟨ho6, h⟩ := h
      refine xcall rfl trivial kf20 rfl (fun w1 hw1 => goR_c _ _ _ _ _ w1 (hs3.keep hw1 (Fr.seg hcBs5 (Fr.cons hb5 Fr.nil))) ho6) ?_
      rintro w1 _ _ hw1 ⟨vs7, Bs7, rfl, rfl, hJs7, hcBs7⟩
      refine ⟨_, Mg.news (Cov.fresh hcBs7) (.nil _), ?_⟩
      replace hcBs7 := Cov.base (w0 := w) hcBs7 hw1.size
      refine xq rfl trivial (o_mv rfl) ?_
      refine xq rfl trivial (o_ext rfl rfl) ?_
      refine xq rfl trivial (o_ext rfl rfl) ?_
      refine xq rfl trivial (o_as rfl) ?_
      refine xq rfl trivial (o_as rfl) ?_
      refine xo_nil (xq_then (xw_seq (xw_seq ?_)))
      obtain ⟨ho8, h⟩ := h
      refine xw_cut [(0, _), (5, _)] (lc rfl (lc rfl ln)) [(46, .bool ((!((msgs_F ((goP_F shard0 m1 seq2 l3).1) ((goR_F shard0 m1 seq2 l3).1)))) || (!(decide ((code_F ((goP_F shard0 m1 seq2 l3).2)) = (goR_F shard0 m1 seq2 l3).2)))))] ?_ ?_
      · refine xw_region ?_
        refine xq rfl trivial (o_mv rfl) ?_
        refine xq rfl trivial (o_mv rfl) ?_
        refine xcallq rfl trivial kf16 rfl (fun w1 hw1 => msgs_c _ _ _ _ w1 (hJs5.sl hw1 (Pull.sub (.there _ (.here _ _)))) (hJs7.sl hw1 (Pull.sub (.here _ _))) (ho8)) ?_
        refine xq rfl trivial (o_not rfl) ?_
        refine xq rfl trivial (o_mv rfl) ?_
        refine xo_bool 41 rfl (fun hg9 => ?_) (fun hg9 => ?_)
        · have hq9 : ((msgs_F ((goP_F shard0 m1 seq2 l3).1) ((goR_F shard0 m1 seq2 l3).1))) = false := (bnT hg9)
          have hp9 : ¬ (((msgs_F ((goP_F shard0 m1 seq2 l3).1) ((goR_F shard0 m1 seq2 l3).1))) = true) := bne' hq9
          refine xs rfl ⟨_, _, rfl, rfl, rfl⟩ (xs rfl ⟨_, _, rfl, rfl, rfl⟩ (xs rfl ⟨_, _, rfl, rfl, rfl⟩ (xs rfl ⟨_, _, rfl, rfl, rfl⟩ ?_)))
          refine xq rfl trivial (o_pick_t rfl rfl) ?_
          refine xo_nil ?_
          exact xq_cut ((lce rfl (by first | rfl | (simp only [hq2, hq3, hq9, if_pos hp2, if_neg hp3, if_neg hp9, bS]; done) | (simp [hp2, hp3, hp9]; done) | (simp_all; done)) (lc rfl (lc rfl ln)))) (fun _ h => h)
        · have hq9 : ((msgs_F ((goP_F shard0 m1 seq2 l3).1) ((goR_F shard0 m1 seq2 l3).1))) = true := (bnF hg9)
          have hp9 : ((msgs_F ((goP_F shard0 m1 seq2 l3).1) ((goR_F shard0 m1 seq2 l3).1))) = true := hq9
          refine xq rfl ⟨_, rfl, rfl⟩ (o_mv rfl) ?_
          refine xcallq rfl ⟨_, rfl, rfl⟩ kf17 rfl (fun w1 hw1 => code_c _ w1) ?_
          refine xq rfl ⟨_, rfl, rfl⟩ (o_mv rfl) ?_
          refine xq rfl ⟨_, rfl, rfl⟩ (o_neq rfl rfl) ?_
          refine xq rfl trivial (o_pick_f rfl rfl) ?_
          refine xo_nil ?_
          exact xq_cut ((lce rfl (by first | rfl | (simp only [hq2, hq3, hq9, if_pos hp2, if_neg hp3, if_pos hp9, bS]; done) | (simp [hp2, hp3, hp9]; done) | (simp_all; done)) (lc rfl (lc rfl ln)))) (fun _ h => h)
      · refine xq_then ?_
        refine xw_bool 46 rfl (fun hc10 => ?_) (fun hc10 => ?_)
        · have hq10 : ((!((msgs_F ((goP_F shard0 m1 seq2 l3).1) ((goR_F shard0 m1 seq2 l3).1)))) || (!(decide ((code_F ((goP_F shard0 m1 seq2 l3).2)) = (goR_F shard0 m1 seq2 l3).2)))) = true := hc10
          have hp10 : ((!((msgs_F ((goP_F shard0 m1 seq2 l3).1) ((goR_F shard0 m1 seq2 l3).1)))) || (!(decide ((code_F ((goP_F shard0 m1 seq2 l3).2)) = (goR_F shard0 m1 seq2 l3).2)))) = true := hq10
          rw [if_pos hp10] at h
          refine xw_cond_t rfl rfl (xw_seq (xw_region ?_))
          refine xq rfl trivial (o_as rfl) ?_
          refine xo_nil (xq_then (xw_ret (xq_then_ret ?_)))
          subst h
          exact con_ret1 (.inl rfl) Try.results6 rfl [] (Kp.st (Kp.segNew (Cov.fresh hcBs7) (Kp.segNew (Cov.fresh hcBs5) (Kp.new hb5 Kp.nil)))) (⟨rfl, rfl⟩)
        · have hq10 : ((!((msgs_F ((goP_F shard0 m1 seq2 l3).1) ((goR_F shard0 m1 seq2 l3).1)))) || (!(decide ((code_F ((goP_F shard0 m1 seq2 l3).2)) = (goR_F shard0 m1 seq2 l3).2)))) = false := hc10
          have hp10 : ¬ (((!((msgs_F ((goP_F shard0 m1 seq2 l3).1) ((goR_F shard0 m1 seq2 l3).1)))) || (!(decide ((code_F ((goP_F shard0 m1 seq2 l3).2)) = (goR_F shard0 m1 seq2 l3).2)))) = true) := bne' hq10
          rw [if_neg hp10] at h
          refine xw_cond_f rfl rfl (xw_skip (xq_then (xw_seq (xw_region ?_))))
          refine xq rfl trivial (o_mv rfl) ?_
          refine xq rfl trivial (o_ldW rfl ts29 (List.mem_append_right _ (List.mem_append_right _ (List.Mem.head _)))) ?_
          refine xcallq rfl trivial kf9 rfl (fun w1 hw1 => onward_c _ _ w1) ?_
          refine xq rfl trivial (o_mv rfl) ?_
          refine xq rfl trivial (o_ext rfl rfl) ?_
          refine xq rfl trivial (o_ext rfl rfl) ?_
          refine xo rfl trivial (o_alloc ze29 rfl) ?_
          rintro _ _ ⟨b13, hb13, rfl, rfl⟩
          refine xq0 trivial (o_stWI rfl rfl ts29 (List.Mem.head _) (.here _ _ _ _)) ?_
          refine xq rfl trivial (o_as rfl) ?_
          refine xo_nil (xq_then (xw_seq (xw_seq (xw_region ?_))))
          refine xq rfl trivial (o_ldW rfl ts29 (List.Mem.tail _ (List.mem_append_right _ (List.mem_append_right _ (List.Mem.head _))))) ?_
          refine xcallq rfl trivial kf21 rfl (fun w1 hw1 => isR_c _ w1) ?_
          refine xq rfl trivial (o_not rfl) ?_
          refine xo_nil (xq_then ?_)
          refine xw_bool 55 rfl (fun hc11 => ?_) (fun hc11 => ?_)
          · have hq11 : ((isR_F m1)) = false := (bnT hc11)
            have hp11 : ¬ (((isR_F m1)) = true) := bne' hq11
            rw [if_neg hp11] at h
            refine xw_cond_t rfl rfl (xw_seq ?_)
            refine xw_cut [] ln [(8, .bool (((eqN 28 ((onward_F shard0 m1).1) (fun _ => 0))) && (decide ((code_F ((onward_F shard0 m1).2)) = 5))))] ?_ ?_
            · refine xw_region ?_
              refine xq rfl trivial (o_ldW rfl ts29 (List.Mem.head _)) ?_
              refine xq rfl trivial (o_build fk29 ze29 (.nil _)) ?_
              refine xq rfl trivial (o_eqlA eq29 rfl rfl) ?_
              refine xq rfl trivial (o_mv rfl) ?_
              refine xo_bool 59 rfl (fun hg12 => ?_) (fun hg12 => ?_)
              · have hq12 : ((eqN 28 ((onward_F shard0 m1).1) (fun _ => 0))) = true := hg12
                have hp12 : ((eqN 28 ((onward_F shard0 m1).1) (fun _ => 0))) = true := hq12
                refine xq rfl ⟨_, rfl, rfl⟩ (o_mv rfl) ?_
                refine xcallq rfl ⟨_, rfl, rfl⟩ kf17 rfl (fun w1 hw1 => code_c _ w1) ?_
                refine xq rfl ⟨_, rfl, rfl⟩ (o_eql rfl rfl) ?_
                refine xq rfl trivial (o_pick_t rfl rfl) ?_
                refine xq rfl trivial (o_as rfl) ?_
                refine xo_nil ?_
                exact xq_cut ((lce rfl (by first | rfl | (simp only [hq2, hq3, hq10, hq11, hq12, if_pos hp2, if_neg hp3, if_neg hp10, if_neg hp11, if_pos hp12, bS]; done) | (simp [hp2, hp3, hp10, hp11, hp12]; done) | (simp_all; done)) ln)) (fun _ h => h)
              · have hq12 : ((eqN 28 ((onward_F shard0 m1).1) (fun _ => 0))) = false := hg12
                have hp12 : ¬ (((eqN 28 ((onward_F shard0 m1).1) (fun _ => 0))) = true) := bne' hq12
                refine xs rfl ⟨_, _, rfl, rfl, rfl⟩ (xs rfl ⟨_, _, rfl, rfl, rfl⟩ (xs rfl ⟨_, _, rfl, rfl, rfl⟩ ?_))
                refine xq rfl trivial (o_pick_f rfl rfl) ?_
                refine xq rfl trivial (o_as rfl) ?_
                refine xo_nil ?_
                exact xq_cut ((lce rfl (by first | rfl | (simp only [hq2, hq3, hq10, hq11, hq12, if_pos hp2, if_neg hp3, if_neg hp10, if_neg hp11, if_neg hp12, bS]; done) | (simp [hp2, hp3, hp10, hp11, hp12]; done) | (simp_all; done)) ln)) (fun _ h => h)
            · refine xq_then (xw_ret (xq_then_ret ?_))
              subst h
              exact con_ret1 (.inl rfl) Try.results6 rfl [] (Kp.st (Kp.new hb13 (Kp.segNew (Cov.fresh hcBs7) (Kp.segNew (Cov.fresh hcBs5) (Kp.new hb5 Kp.nil))))) (⟨rfl, rfl⟩)
          · have hq11 : ((isR_F m1)) = true := (bnF hc11)
            have hp11 : ((isR_F m1)) = true := hq11
            rw [if_pos hp11] at h
            refine xw_cond_f rfl rfl (xw_skip (xq_then (xw_seq (xw_seq ?_))))
            refine xw_cut [(0, _), (5, _), (13, _), (14, _)] (lc rfl (lc rfl (lc rfl (lc rfl ln)))) [(69, .bool ((decide (shard0 < 1)) || (decide (64 < shard0))))] ?_ ?_
            · refine xw_region ?_
              refine xq rfl trivial (o_mv rfl) ?_
              refine xq rfl trivial (o_lss rfl rfl) ?_
              refine xq rfl trivial (o_mv rfl) ?_
              refine xo_bool 66 rfl (fun hg13 => ?_) (fun hg13 => ?_)
              · have hq13 : (decide (shard0 < 1)) = true := hg13
                have hp13 : shard0 < 1 := of_decide_eq_true hq13
                refine xs rfl ⟨_, _, rfl, rfl, rfl⟩ (xs rfl ⟨_, _, rfl, rfl, rfl⟩ ?_)
                refine xq rfl trivial (o_pick_t rfl rfl) ?_
                refine xo_nil ?_
                exact xq_cut ((lce rfl (by first | rfl | (simp only [hq2, hq3, hq10, hq11, hq13, if_pos hp2, if_neg hp3, if_neg hp10, if_pos hp11, if_pos hp13, bS]; done) | (simp [hp2, hp3, hp10, hp11, hp13]; done) | (simp_all; done)) (lc rfl (lc rfl (lc rfl (lc rfl ln)))))) (fun _ h => h)
              · have hq13 : (decide (shard0 < 1)) = false := hg13
                have hp13 : ¬ (shard0 < 1) := of_decide_eq_false hq13
                refine xq rfl ⟨_, rfl, rfl⟩ (o_mv rfl) ?_
                refine xq rfl ⟨_, rfl, rfl⟩ (o_gtr rfl rfl) ?_
                refine xq rfl trivial (o_pick_f rfl rfl) ?_
                refine xo_nil ?_
                exact xq_cut ((lce rfl (by first | rfl | (simp only [hq2, hq3, hq10, hq11, hq13, if_pos hp2, if_neg hp3, if_neg hp10, if_pos hp11, if_neg hp13, bS]; done) | (simp [hp2, hp3, hp10, hp11, hp13]; done) | (simp_all; done)) (lc rfl (lc rfl (lc rfl (lc rfl ln)))))) (fun _ h => h)
            · refine xq_then ?_
              refine xw_bool 69 rfl (fun hc14 => ?_) (fun hc14 => ?_)
              · have hq14 : ((decide (shard0 < 1)) || (decide (64 < shard0))) = true := hc14
                have hp14 : ((decide (shard0 < 1)) || (decide (64 < shard0))) = true := hq14
                rw [if_pos hp14] at h
                refine xw_cond_t rfl rfl (xw_seq ?_)
                refine xw_cut [] ln [(8, .bool (((eqN 28 ((onward_F shard0 m1).1) (fun _ => 0))) && (decide ((code_F ((onward_F shard0 m1).2)) = 1))))] ?_ ?_
                · refine xw_region ?_
                  refine xq rfl trivial (o_ldW rfl ts29 (List.Mem.head _)) ?_
                  refine xq rfl trivial (o_build fk29 ze29 (.nil _)) ?_
                  refine xq rfl trivial (o_eqlA eq29 rfl rfl) ?_
                  refine xq rfl trivial (o_mv rfl) ?_
                  refine xo_bool 73 rfl (fun hg15 => ?_) (fun hg15 => ?_)
                  · have hq15 : ((eqN 28 ((onward_F shard0 m1).1) (fun _ => 0))) = true := hg15
                    have hp15 : ((eqN 28 ((onward_F shard0 m1).1) (fun _ => 0))) = true := hq15
                    refine xq rfl ⟨_, rfl, rfl⟩ (o_mv rfl) ?_
                    refine xcallq rfl ⟨_, rfl, rfl⟩ kf17 rfl (fun w1 hw1 => code_c _ w1) ?_
                    refine xq rfl ⟨_, rfl, rfl⟩ (o_eql rfl rfl) ?_
                    refine xq rfl trivial (o_pick_t rfl rfl) ?_
                    refine xq rfl trivial (o_as rfl) ?_
                    refine xo_nil ?_
                    exact xq_cut ((lce rfl (by first | rfl | (simp only [hq2, hq3, hq10, hq11, hq14, hq15, if_pos hp2, if_neg hp3, if_neg hp10, if_pos hp11, if_pos hp14, if_pos hp15, bS]; done) | (simp [hp2, hp3, hp10, hp11, hp14, hp15]; done) | (simp_all; done)) ln)) (fun _ h => h)
                  · have hq15 : ((eqN 28 ((onward_F shard0 m1).1) (fun _ => 0))) = false := hg15
                    have hp15 : ¬ (((eqN 28 ((onward_F shard0 m1).1) (fun _ => 0))) = true) := bne' hq15
                    refine xs rfl ⟨_, _, rfl, rfl, rfl⟩ (xs rfl ⟨_, _, rfl, rfl, rfl⟩ (xs rfl ⟨_, _, rfl, rfl, rfl⟩ ?_))
                    refine xq rfl trivial (o_pick_f rfl rfl) ?_
                    refine xq rfl trivial (o_as rfl) ?_
                    refine xo_nil ?_
                    exact xq_cut ((lce rfl (by first | rfl | (simp only [hq2, hq3, hq10, hq11, hq14, hq15, if_pos hp2, if_neg hp3, if_neg hp10, if_pos hp11, if_pos hp14, if_neg hp15, bS]; done) | (simp [hp2, hp3, hp10, hp11, hp14, hp15]; done) | (simp_all; done)) ln)) (fun _ h => h)
                · refine xq_then (xw_ret (xq_then_ret ?_))
                  subst h
                  exact con_ret1 (.inl rfl) Try.results6 rfl [] (Kp.st (Kp.new hb13 (Kp.segNew (Cov.fresh hcBs7) (Kp.segNew (Cov.fresh hcBs5) (Kp.new hb5 Kp.nil))))) (⟨rfl, rfl⟩)
              · have hq14 : ((decide (shard0 < 1)) || (decide (64 < shard0))) = false := hc14
                have hp14 : ¬ (((decide (shard0 < 1)) || (decide (64 < shard0))) = true) := bne' hq14
                rw [if_neg hp14] at h
                refine xw_cond_f rfl rfl (xw_skip (xq_then (xw_seq (xw_region ?_))))
                refine xq rfl trivial (o_ldW rfl ts29 (List.Mem.tail _ (List.mem_append_right _ (List.mem_append_right _ (List.Mem.head _))))) ?_
                refine xo rfl trivial (o_alloc ze29 rfl) ?_
                rintro _ _ ⟨b15, hb15, rfl, rfl⟩
                refine xq0 trivial (o_stWI rfl rfl ts29 (List.Mem.head _) (.here _ _ _ _)) ?_
                refine xo_nil (xq_then (xw_seq (xw_region ?_)))
                refine xq rfl trivial (o_mv rfl) ?_
                first | refine xq rfl trivial (o_fa0 fl29_1 rfl) ?_ | refine xq rfl trivial (o_fa fl29_1 rfl) ?_
                refine xq0 trivial (o_stI rfl rfl ts3 (List.Mem.head _) (by omega) (.here _ _ _ _)) ?_
                first | refine xq rfl trivial (o_fa0 fl29_2 rfl) ?_ | refine xq rfl trivial (o_fa fl29_2 rfl) ?_
                refine xq0 trivial (o_stI rfl rfl ts3 (List.Mem.head _) (by omega) (.here _ _ _ _)) ?_
                refine xo_nil (xq_then (xw_seq ?_))
                refine xw_cut [] ln [(8, .bool (((eqN 28 ((onward_F shard0 m1).1) (updI (updI m1 1 0) 2 shard0))) && (decide ((onward_F shard0 m1).2 = 0))))] ?_ ?_
                · refine xw_region ?_
                  refine xq rfl trivial (o_ldW rfl ts29 (List.Mem.tail _ (List.Mem.head _))) ?_
                  refine xq rfl trivial (o_ldW rfl ts29 (List.Mem.head _)) ?_
                  refine xq rfl trivial (o_eqlA eq29 rfl rfl) ?_
                  refine xq rfl trivial (o_mv rfl) ?_
                  refine xo_bool 85 rfl (fun hg16 => ?_) (fun hg16 => ?_)
                  · have hq16 : ((eqN 28 ((onward_F shard0 m1).1) (updI (updI m1 1 0) 2 shard0))) = true := hg16
                    have hp16 : ((eqN 28 ((onward_F shard0 m1).1) (updI (updI m1 1 0) 2 shard0))) = true := hq16
                    refine xq rfl ⟨_, rfl, rfl⟩ (o_mv rfl) ?_
                    refine xq rfl ⟨_, rfl, rfl⟩ (o_eqE Try.underlying34 rfl (fun _ => rfl) rfl rfl) ?_
                    refine xq rfl trivial (o_pick_t rfl rfl) ?_
                    refine xq rfl trivial (o_as rfl) ?_
                    refine xo_nil ?_
                    exact xq_cut ((lce rfl (by first | rfl | (simp only [hq2, hq3, hq10, hq11, hq14, hq16, if_pos hp2, if_neg hp3, if_neg hp10, if_pos hp11, if_neg hp14, if_pos hp16, bS]; done) | (simp [hp2, hp3, hp10, hp11, hp14, hp16]; done) | (simp_all; done)) ln)) (fun _ h => h)
                  · have hq16 : ((eqN 28 ((onward_F shard0 m1).1) (updI (updI m1 1 0) 2 shard0))) = false := hg16
                    have hp16 : ¬ (((eqN 28 ((onward_F shard0 m1).1) (updI (updI m1 1 0) 2 shard0))) = true) := bne' hq16
                    refine xs rfl ⟨_, _, rfl, rfl, rfl⟩ (xs rfl ⟨_, _, rfl, rfl, rfl⟩ ?_)
                    refine xq rfl trivial (o_pick_f rfl rfl) ?_
                    refine xq rfl trivial (o_as rfl) ?_
                    refine xo_nil ?_
                    exact xq_cut ((lce rfl (by first | rfl | (simp only [hq2, hq3, hq10, hq11, hq14, hq16, if_pos hp2, if_neg hp3, if_neg hp10, if_pos hp11, if_neg hp14, if_neg hp16, bS]; done) | (simp [hp2, hp3, hp10, hp11, hp14, hp16]; done) | (simp_all; done)) ln)) (fun _ h => h)
                · refine xq_then (xw_ret ?_)
                  subst h
                  exact con_ret1 (.inl rfl) Try.results6 rfl [] (Kp.st (Kp.new hb15 (Kp.new hb13 (Kp.segNew (Cov.fresh hcBs7) (Kp.segNew (Cov.fresh hcBs5) (Kp.new hb5 Kp.nil)))))) (⟨rfl, rfl⟩)

theorem goes12_c (shard0 : Int) (m1 : (Nat → Int)) (seq2 : Int) (l3 : (List (Nat → Int))) (v3 : Value) (w : World) (hs3 : SL w 4 iv v3 l3) (hP : goes12_P shard0 m1 seq2 l3) : Con Try.prog 6 #[.int .i64 shard0, AI 28 m1, .int .i64 seq2, v3] w (Is (.bool (goes12_F shard0 m1 seq2 l3)) []) :=
  goes12_con shard0 m1 seq2 l3 v3 w hs3 _ (goes12_ok shard0 m1 seq2 l3 hP)

theorem tells12_con (m0 : (Nat → Int)) (open1 : (List (Nat → Int))) (v1 : Value) (w : World) (hs1 : SL w 2 iv v1 open1) (r : Bool) (h : tells12_S m0 open1 r) : Con Try.prog 7 #[AI 28 m0, v1] w (Is (.bool r) []) := by
  unfold tells12_S at h
  refine con_enter (n := 46) [(0, _), (1, _)] Try.func7 rfl Try.ntmps7 rfl (lac rfl (lac rfl lan)) ?_
  refine xw_seq (xw_region ?_)
  refine xo rfl trivial (o_boxA rfl) ?_
  rintro _ _ ⟨b2, hb2, rfl, rfl⟩
  refine xq rfl trivial (o_as rfl) ?_
  refine xo_nil (xq_then (xw_seq (xw_seq (xw_region ?_))))
  obtain ⟨ho1, h⟩ := h
  refine xcallq rfl trivial kf8 rfl (fun w1 hw1 => alive12_c w1 ho1) ?_
  refine xq rfl trivial (o_not rfl) ?_
  refine xo_nil (xq_then ?_)
  refine xw_bool 8 rfl (fun hc2 => ?_) (fun hc2 => ?_)
  · have hq2 : (alive12_F) = false := (bnT hc2)
    have hp2 : ¬ ((alive12_F) = true) := bne' hq2
    rw [if_neg hp2] at h
    refine xw_cond_t rfl rfl (xw_seq (xw_region ?_))
    refine xq rfl trivial (o_as rfl) ?_
    refine xo_nil (xq_then (xw_ret (xq_then_ret ?_)))
    subst h
    exact con_ret1 (.inl rfl) Try.results7 rfl [] (Kp.st (Kp.new hb2 Kp.nil)) (⟨rfl, rfl⟩)
  · have hq2 : (alive12_F) = true := (bnF hc2)
    have hp2 : (alive12_F) = true := hq2
    rw [if_pos hp2] at h
    refine xw_cond_f rfl rfl (xw_skip (xq_then (xw_seq (xw_region ?_))))
    refine xq rfl trivial (o_ldW rfl ts29 (List.Mem.head _)) ?_
    refine xcallq rfl trivial kf10 rfl (fun w1 hw1 => victim_c _ w1) ?_
    refine xq rfl trivial (o_mv rfl) ?_
    refine xq rfl trivial (o_ext rfl rfl) ?_
    refine xq rfl trivial (o_ext rfl rfl) ?_
    refine xq rfl trivial (o_as rfl) ?_
    refine xq rfl trivial (o_as rfl) ?_
    refine xo_nil (xq_then (xw_seq (xw_seq ?_)))
    obtain ⟨ho3, ho4, h⟩ := h
    refine xw_cut [(2, _), (5, _), (6, _)] (lc rfl (lc rfl (lc rfl ln))) [(27, .bool ((!((((back_F m0)) == ((backR_F m0))))) || (!((((live_F m0 open1)) == ((liveR_F m0 open1)))))))] ?_ ?_
    · refine xd_start (by kernel_rfl) (by kernel_rfl) (fun hok => ?_)
      refine xd_b hok 0 [(2, _)] ((b2, BK 28 (iv m0) 29) :: ([])) (rsC (List.Mem.head _) rsN) rfl rfl rfl (lc rfl ln) (by kernel_rfl) trivial (fun H' hy hK => o_ldW rfl ts29 (hy _ (List.Mem.head _))) ?_
      refine xd_b hok 1 [(14, _)] ([]) rsN rfl rfl rfl (lc rfl ln) (by kernel_rfl) trivial (fun H' hy hK => o_callq kf11 rfl (fun w1 hw1 => back_c _ w1)) ?_
      refine xd_b hok 2 [(2, _)] ((b2, BK 28 (iv m0) 29) :: ([])) (rsC (List.Mem.head _) rsN) rfl rfl rfl (lc rfl ln) (by kernel_rfl) trivial (fun H' hy hK => o_ldW rfl ts29 (hy _ (List.Mem.head _))) ?_
      refine xd_b hok 3 [(16, _)] ([]) rsN rfl rfl rfl (lc rfl ln) (by kernel_rfl) trivial (fun H' hy hK => o_callq kf22 rfl (fun w1 hw1 => backR_c _ w1)) ?_
      refine xd_b hok 4 [(15, _), (17, _)] ([]) rsN rfl rfl rfl (lc rfl (lc rfl ln)) (by kernel_rfl) trivial (fun H' hy hK => o_neqB Try.underlying4 rfl rfl) ?_
      refine xd_b hok 5 [(18, _)] ([]) rsN rfl rfl rfl (lc rfl ln) (by kernel_rfl) trivial (fun H' hy hK => o_mv rfl) ?_
      refine xd_bool 19 rfl (fun hg5 => ?_) (fun hg5 => ?_)
      · have hq5 : ((((back_F m0)) == ((backR_F m0)))) = false := (bnT hg5)
        have hp5 : ¬ (((((back_F m0)) == ((backR_F m0)))) = true) := bne' hq5
        refine xd_skip hok 6 [(2, _), (19, _)] rfl rfl rfl (lc rfl (lc rfl ln)) (by kernel_rfl) ⟨_, _, rfl, rfl, rfl⟩ ?_
        refine xd_skip hok 7 [(1, _), (19, _)] rfl rfl rfl (lc rfl (lc rfl ln)) (by kernel_rfl) ⟨_, _, rfl, rfl, rfl⟩ ?_
        refine xd_skip hok 8 [(20, _), (21, _), (19, _)] rfl rfl rfl (lc rfl (lc rfl (lc rfl ln))) (by kernel_rfl) ⟨_, _, rfl, rfl, rfl⟩ ?_
        refine xd_skip hok 9 [(2, _), (19, _)] rfl rfl rfl (lc rfl (lc rfl ln)) (by kernel_rfl) ⟨_, _, rfl, rfl, rfl⟩ ?_
        refine xd_skip hok 10 [(1, _), (19, _)] rfl rfl rfl (lc rfl (lc rfl ln)) (by kernel_rfl) ⟨_, _, rfl, rfl, rfl⟩ ?_
        refine xd_skip hok 11 [(23, _), (24, _), (19, _)] rfl rfl rfl (lc rfl (lc rfl (lc rfl ln))) (by kernel_rfl) ⟨_, _, rfl, rfl, rfl⟩ ?_
        refine xd_skip hok 12 [(22, _), (25, _), (19, _)] rfl rfl rfl (lc rfl (lc rfl (lc rfl ln))) (by kernel_rfl) ⟨_, _, rfl, rfl, rfl⟩ ?_
        refine xd_b hok 13 [(19, _), (26, _)] ([]) rsN rfl rfl rfl (lc rfl (lc rfl ln)) (by kernel_rfl) trivial (fun H' hy hK => o_pick_t rfl rfl) ?_
        refine xd_end hok (by kernel_rfl) ?_
        exact xq_cut ((lce rfl (by first | rfl | (simp only [hq2, hq5, if_pos hp2, if_neg hp5, bS]; done) | (simp [hp2, hp5]; done) | (simp_all; done)) (lc rfl (lc rfl (lc rfl ln))))) (fun _ h => h)
      · have hq5 : ((((back_F m0)) == ((backR_F m0)))) = true := (bnF hg5)
        have hp5 : ((((back_F m0)) == ((backR_F m0)))) = true := hq5
        refine xd_b hok 6 [(2, _), (19, _)] ((b2, BK 28 (iv m0) 29) :: ([])) (rsC (List.Mem.head _) rsN) rfl rfl rfl (lc rfl (lc rfl ln)) (by kernel_rfl) ⟨_, rfl, rfl⟩ (fun H' hy hK => o_ldW rfl ts29 (hy _ (List.Mem.head _))) ?_
        refine xd_b hok 7 [(1, _), (19, _)] ([]) rsN rfl rfl rfl (lc rfl (lc rfl ln)) (by kernel_rfl) ⟨_, rfl, rfl⟩ (fun H' hy hK => o_mv rfl) ?_
        refine xd_b hok 8 [(20, _), (21, _), (19, _)] ([]) rsN rfl rfl rfl (lc rfl (lc rfl (lc rfl ln))) (by kernel_rfl) ⟨_, rfl, rfl⟩ (fun H' hy hK => o_callq kf12 rfl (fun w1 hw1 => live_c _ _ _ w1 (hs1.keep hw1 (fun k hk => (hK k hk).elim (fun h => (Fr.cons hb2 Fr.nil) k h) id)) (ho3 (by first | exact hg5 | (simp only [hq2, hq5, if_pos hp2, if_pos hp5, bS]; done) | (simp [hp2, hp5]; done) | (simp_all; done))))) ?_
        refine xd_b hok 9 [(2, _), (19, _)] ((b2, BK 28 (iv m0) 29) :: ([])) (rsC (List.Mem.head _) rsN) rfl rfl rfl (lc rfl (lc rfl ln)) (by kernel_rfl) ⟨_, rfl, rfl⟩ (fun H' hy hK => o_ldW rfl ts29 (hy _ (List.Mem.head _))) ?_
        refine xd_b hok 10 [(1, _), (19, _)] ([]) rsN rfl rfl rfl (lc rfl (lc rfl ln)) (by kernel_rfl) ⟨_, rfl, rfl⟩ (fun H' hy hK => o_mv rfl) ?_
        refine xd_b hok 11 [(23, _), (24, _), (19, _)] ([]) rsN rfl rfl rfl (lc rfl (lc rfl (lc rfl ln))) (by kernel_rfl) ⟨_, rfl, rfl⟩ (fun H' hy hK => o_callq kf23 rfl (fun w1 hw1 => liveR_c _ _ _ w1 (hs1.keep hw1 (fun k hk => (hK k hk).elim (fun h => (Fr.cons hb2 Fr.nil) k h) id)) (ho4 (by first | exact hg5 | (simp only [hq2, hq5, if_pos hp2, if_pos hp5, bS]; done) | (simp [hp2, hp5]; done) | (simp_all; done))))) ?_
        refine xd_b hok 12 [(22, _), (25, _), (19, _)] ([]) rsN rfl rfl rfl (lc rfl (lc rfl (lc rfl ln))) (by kernel_rfl) ⟨_, rfl, rfl⟩ (fun H' hy hK => o_neqB Try.underlying4 rfl rfl) ?_
        refine xd_b hok 13 [(19, _), (26, _)] ([]) rsN rfl rfl rfl (lc rfl (lc rfl ln)) (by kernel_rfl) trivial (fun H' hy hK => o_pick_f rfl rfl) ?_
        refine xd_end hok (by kernel_rfl) ?_
        exact xq_cut ((lce rfl (by first | rfl | (simp only [hq2, hq5, if_pos hp2, if_pos hp5, bS]; done) | (simp [hp2, hp5]; done) | (simp_all; done)) (lc rfl (lc rfl (lc rfl ln))))) (fun _ h => h)
    · refine xq_then ?_
      refine xw_bool 27 rfl (fun hc6 => ?_) (fun hc6 => ?_)
      · have hq6 : ((!((((back_F m0)) == ((backR_F m0))))) || (!((((live_F m0 open1)) == ((liveR_F m0 open1)))))) = true := hc6
        have hp6 : ((!((((back_F m0)) == ((backR_F m0))))) || (!((((live_F m0 open1)) == ((liveR_F m0 open1)))))) = true := hq6
        rw [if_pos hp6] at h
        refine xw_cond_t rfl rfl (xw_seq (xw_region ?_))
        refine xq rfl trivial (o_as rfl) ?_
        refine xo_nil (xq_then (xw_ret (xq_then_ret ?_)))
        subst h
        exact con_ret1 (.inl rfl) Try.results7 rfl [] (Kp.st (Kp.new hb2 Kp.nil)) (⟨rfl, rfl⟩)
      · have hq6 : ((!((((back_F m0)) == ((backR_F m0))))) || (!((((live_F m0 open1)) == ((liveR_F m0 open1)))))) = false := hc6
        have hp6 : ¬ (((!((((back_F m0)) == ((backR_F m0))))) || (!((((live_F m0 open1)) == ((liveR_F m0 open1)))))) = true) := bne' hq6
        rw [if_neg hp6] at h
        refine xw_cond_f rfl rfl (xw_skip (xq_then (xw_seq (xw_seq (xw_region ?_)))))
        refine xq rfl trivial (o_ldW rfl ts29 (List.Mem.head _)) ?_
        refine xcallq rfl trivial kf21 rfl (fun w1 hw1 => isR_c _ w1) ?_
        refine xq rfl trivial (o_not rfl) ?_
        refine xo_nil (xq_then ?_)
        refine xw_bool 30 rfl (fun hc7 => ?_) (fun hc7 => ?_)
        · have hq7 : ((isR_F m0)) = false := (bnT hc7)
          have hp7 : ¬ (((isR_F m0)) = true) := bne' hq7
          rw [if_neg hp7] at h
          refine xw_cond_t rfl rfl (xw_seq ?_)
          refine xw_cut [] ln [(4, .bool ((decide ((victim_F m0).1 = 0)) && (decide ((code_F ((victim_F m0).2)) = 5))))] ?_ ?_
          · refine xw_region ?_
            refine xq rfl trivial (o_mv rfl) ?_
            refine xq rfl trivial (o_eql rfl rfl) ?_
            refine xq rfl trivial (o_mv rfl) ?_
            refine xo_bool 33 rfl (fun hg8 => ?_) (fun hg8 => ?_)
            · have hq8 : (decide ((victim_F m0).1 = 0)) = true := hg8
              have hp8 : (victim_F m0).1 = 0 := of_decide_eq_true hq8
              refine xq rfl ⟨_, rfl, rfl⟩ (o_mv rfl) ?_
              refine xcallq rfl ⟨_, rfl, rfl⟩ kf17 rfl (fun w1 hw1 => code_c _ w1) ?_
              refine xq rfl ⟨_, rfl, rfl⟩ (o_eql rfl rfl) ?_
              refine xq rfl trivial (o_pick_t rfl rfl) ?_
              refine xq rfl trivial (o_as rfl) ?_
              refine xo_nil ?_
              exact xq_cut ((lce rfl (by first | rfl | (simp only [hq2, hq6, hq7, hq8, if_pos hp2, if_neg hp6, if_neg hp7, if_pos hp8, bS]; done) | (simp [hp2, hp6, hp7, hp8]; done) | (simp_all; done)) ln)) (fun _ h => h)
            · have hq8 : (decide ((victim_F m0).1 = 0)) = false := hg8
              have hp8 : ¬ ((victim_F m0).1 = 0) := of_decide_eq_false hq8
              refine xs rfl ⟨_, _, rfl, rfl, rfl⟩ (xs rfl ⟨_, _, rfl, rfl, rfl⟩ (xs rfl ⟨_, _, rfl, rfl, rfl⟩ ?_))
              refine xq rfl trivial (o_pick_f rfl rfl) ?_
              refine xq rfl trivial (o_as rfl) ?_
              refine xo_nil ?_
              exact xq_cut ((lce rfl (by first | rfl | (simp only [hq2, hq6, hq7, hq8, if_pos hp2, if_neg hp6, if_neg hp7, if_neg hp8, bS]; done) | (simp [hp2, hp6, hp7, hp8]; done) | (simp_all; done)) ln)) (fun _ h => h)
          · refine xq_then (xw_ret (xq_then_ret ?_))
            subst h
            exact con_ret1 (.inl rfl) Try.results7 rfl [] (Kp.st (Kp.new hb2 Kp.nil)) (⟨rfl, rfl⟩)
        · have hq7 : ((isR_F m0)) = true := (bnF hc7)
          have hp7 : ((isR_F m0)) = true := hq7
          rw [if_pos hp7] at h
          refine xw_cond_f rfl rfl (xw_skip (xq_then (xw_seq ?_)))
          obtain ⟨ho9, h⟩ := h
          refine xw_cut [] ln [(4, .bool ((decide ((victim_F m0).1 = (victimR_F m0))) && (decide ((victim_F m0).2 = 0))))] ?_ ?_
          · refine xw_region ?_
            refine xq rfl trivial (o_mv rfl) ?_
            refine xq rfl trivial (o_ldW rfl ts29 (List.Mem.head _)) ?_
            refine xcallq rfl trivial kf24 rfl (fun w1 hw1 => victimR_c _ w1 (ho9)) ?_
            refine xq rfl trivial (o_eql rfl rfl) ?_
            refine xq rfl trivial (o_mv rfl) ?_
            refine xo_bool 42 rfl (fun hg10 => ?_) (fun hg10 => ?_)
            · have hq10 : (decide ((victim_F m0).1 = (victimR_F m0))) = true := hg10
              have hp10 : (victim_F m0).1 = (victimR_F m0) := of_decide_eq_true hq10
              refine xq rfl ⟨_, rfl, rfl⟩ (o_mv rfl) ?_
              refine xq rfl ⟨_, rfl, rfl⟩ (o_eqE Try.underlying34 rfl (fun _ => rfl) rfl rfl) ?_
              refine xq rfl trivial (o_pick_t rfl rfl) ?_
              refine xq rfl trivial (o_as rfl) ?_
              refine xo_nil ?_
              exact xq_cut ((lce rfl (by first | rfl | (simp only [hq2, hq6, hq7, hq10, if_pos hp2, if_neg hp6, if_pos hp7, if_pos hp10, bS]; done) | (simp [hp2, hp6, hp7, hp10]; done) | (simp_all; done)) ln)) (fun _ h => h)
            · have hq10 : (decide ((victim_F m0).1 = (victimR_F m0))) = false := hg10
              have hp10 : ¬ ((victim_F m0).1 = (victimR_F m0)) := of_decide_eq_false hq10
              refine xs rfl ⟨_, _, rfl, rfl, rfl⟩ (xs rfl ⟨_, _, rfl, rfl, rfl⟩ ?_)
              refine xq rfl trivial (o_pick_f rfl rfl) ?_
              refine xq rfl trivial (o_as rfl) ?_
              refine xo_nil ?_
              exact xq_cut ((lce rfl (by first | rfl | (simp only [hq2, hq6, hq7, hq10, if_pos hp2, if_neg hp6, if_pos hp7, if_neg hp10, bS]; done) | (simp [hp2, hp6, hp7, hp10]; done) | (simp_all; done)) ln)) (fun _ h => h)
          · refine xq_then (xw_ret ?_)
            subst h
            exact con_ret1 (.inl rfl) Try.results7 rfl [] (Kp.st (Kp.new hb2 Kp.nil)) (⟨rfl, rfl⟩)

theorem tells12_c (m0 : (Nat → Int)) (open1 : (List (Nat → Int))) (v1 : Value) (w : World) (hs1 : SL w 2 iv v1 open1) (hP : tells12_P m0 open1) : Con Try.prog 7 #[AI 28 m0, v1] w (Is (.bool (tells12_F m0 open1)) []) :=
  tells12_con m0 open1 v1 w hs1 _ (tells12_ok m0 open1 hP)

end Go.Proofs.Ytjmfnohbeoiddaa
