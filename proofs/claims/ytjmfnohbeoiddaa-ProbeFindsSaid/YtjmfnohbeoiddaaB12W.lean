/- The code answers as the relations say. -/
import Derived.Test.YtjmfnohbeoiddaaTab
import Derived.Test.YtjmfnohbeoiddaaB12S
import Derived.Test.YtjmfnohbeoiddaaA12W
set_option maxHeartbeats 1000000
set_option linter.unusedVariables false
set_option linter.unusedSimpArgs false
set_option maxRecDepth 100000
namespace Go.Proofs.Ytjmfnohbeoiddaa
open Go Go.E

theorem victim_c (m0 : (Nat → Int)) (w : World) : Con Try.prog 10 #[AI 28 m0] w (Is (.tuple #[.int .i64 ((victim_F m0).1), errV 63 ((victim_F m0).2)]) []) :=
  victim_con m0 w _ (victim_ok m0)

theorem live_c (m0 : (Nat → Int)) (open1 : (List (Nat → Int))) (v1 : Value) (w : World) (hs1 : SL w 2 iv v1 open1) (hP : live_P m0 open1) : Con Try.prog 12 #[AI 28 m0, v1] w (Is (.bool (live_F m0 open1)) []) :=
  live_con m0 open1 v1 w hs1 _ (live_ok m0 open1 hP)

theorem stops_c (m0 : (Nat → Int)) (seq1 : Int) (w : World) : Con Try.prog 30 #[AI 28 m0, .int .i64 seq1] w (Is (errV 63 (stops_F m0 seq1)) []) :=
  stops_con m0 seq1 w _ (stops_ok m0 seq1)

theorem longer_c (shard0 : Int) (m1 : (Nat → Int)) (ww2 : (Nat → Int)) (l3 : (List (Nat → Int))) (v3 : Value) (w : World) (hs3 : SL w 4 iv v3 l3) (hP : longer_P shard0 m1 ww2 l3) : Con Try.prog 31 #[.int .i64 shard0, AI 28 m1, AI 2 ww2, v3] w (fun v F => ∃ (u0 : Value) (C0 : GH), v = .tuple #[u0, errV 63 ((longer_F shard0 m1 ww2 l3).2)] ∧ F = (C0 ++ []) ∧ OJ 29 28 iv C0 u0 ((longer_F shard0 m1 ww2 l3).1) ∧ Cov w [] C0) :=
  longer_con shard0 m1 ww2 l3 v3 w hs3 _ (longer_ok shard0 m1 ww2 l3 hP)

theorem goP_con (shard0 : Int) (m1 : (Nat → Int)) (seq2 : Int) (l3 : (List (Nat → Int))) (v3 : Value) (w : World) (hs3 : SL w 4 iv v3 l3) (r : (List (Nat → Int)) × Int) (h : goP_S shard0 m1 seq2 l3 r) : Con Try.prog 13 #[.int .i64 shard0, AI 28 m1, .int .i64 seq2, v3] w (fun v F => ∃ (u0 : Value) (C0 : GH), v = .tuple #[u0, errV 63 r.2] ∧ F = (C0 ++ []) ∧ OJ 29 28 iv C0 u0 r.1 ∧ Cov w [] C0) := by
  unfold goP_S at h
  refine con_enter (n := 27) [(0, _), (1, _), (2, _), (3, _)] Try.func13 rfl Try.ntmps13 rfl (lac rfl (lac rfl (lac rfl (lac rfl lan)))) ?_
  refine xw_seq (xw_region ?_)
  refine xo rfl trivial (o_boxA rfl) ?_
  rintro _ _ ⟨b5, hb5, rfl, rfl⟩
  refine xq rfl trivial (o_as rfl) ?_
  refine xq rfl trivial (o_as rfl) ?_
  refine xo_nil (xq_then (xw_seq (xw_seq (xw_region ?_))))
  refine xq rfl trivial (o_ldW rfl ts29 (List.Mem.head _)) ?_
  refine xq rfl trivial (o_mv rfl) ?_
  refine xcallq rfl trivial kf30 rfl (fun w1 hw1 => stops_c _ _ w1) ?_
  refine xq rfl trivial (o_as rfl) ?_
  refine xo_nil (xq_then (xw_seq (xw_region ?_)))
  refine xq rfl trivial (o_mv rfl) ?_
  refine xq rfl trivial (o_neE Try.underlying34 rfl (fun _ => rfl) rfl rfl) ?_
  refine xo_nil (xq_then ?_)
  refine xw_bool 15 rfl (fun hc1 => ?_) (fun hc1 => ?_)
  · have hq1 : (decide ((stops_F m1 seq2) = 0)) = false := (bnT hc1)
    have hp1 : ¬ ((stops_F m1 seq2) = 0) := of_decide_eq_false hq1
    rw [if_neg hp1] at h
    refine xw_cond_t rfl rfl (xw_seq (xw_region ?_))
    refine xq rfl trivial (o_mv rfl) ?_
    refine xq rfl trivial (o_as rfl) ?_
    refine xq rfl trivial (o_as rfl) ?_
    refine xo_nil (xq_then (xw_ret (xq_then_ret ?_)))
    subst h
    exact con_ret2 (.inl rfl) Try.results13 rfl rfl [] (Kp.st (Kp.new hb5 Kp.nil)) (⟨_, [], rfl, rfl, OJ.nil, Cov.refl _⟩)
  · have hq1 : (decide ((stops_F m1 seq2) = 0)) = true := (bnF hc1)
    have hp1 : (stops_F m1 seq2) = 0 := of_decide_eq_true hq1
    rw [if_pos hp1] at h
    refine xw_cond_f rfl rfl (xw_skip (xq_then (xw_seq (xw_region ?_))))
    refine xq rfl trivial (o_mv rfl) ?_
    refine xq rfl trivial (o_ldW rfl ts29 (List.Mem.head _)) ?_
    first | refine xq rfl trivial (o_fa0 fl29_8 rfl) ?_ | refine xq rfl trivial (o_fa fl29_8 rfl) ?_
    refine xq rfl trivial (o_ldI (v := m1 9) rfl ts3 (List.Mem.head _) (by omega) rfl) ?_
    refine xq rfl trivial (o_mv rfl) ?_
    refine xq rfl trivial (o_build fk26 ze26 (.int fl26_0 rfl rfl (.int fl26_1 rfl rfl (.nil _)))) ?_
    refine xq rfl trivial (o_mv rfl) ?_
    obtain ⟨ho2, h⟩ := h
    refine xcall rfl trivial kf31 rfl (fun w1 hw1 => longer_c _ _ _ _ _ w1 (hs3.keep hw1 (Fr.cons hb5 Fr.nil)) ho2) ?_
    rintro w1 _ _ hw1 ⟨vs3, Bs3, rfl, rfl, hJs3, hcBs3⟩
    refine ⟨_, Mg.news (Cov.fresh hcBs3) (.nil _), ?_⟩
    replace hcBs3 := Cov.base (w0 := w) hcBs3 hw1.size
    refine xq rfl trivial (o_ext rfl rfl) ?_
    refine xq rfl trivial (o_ext rfl rfl) ?_
    refine xq rfl trivial (o_as rfl) ?_
    refine xq rfl trivial (o_as rfl) ?_
    refine xo_nil (xq_then (xw_ret ?_))
    subst h
    exact con_ret2 (.inl rfl) Try.results13 rfl rfl (Bs3 ++ []) (Kp.st (Kp.segKeep (Kp.new hb5 Kp.nil))) (⟨_, Bs3, rfl, rfl, hJs3, hcBs3⟩)

theorem goP_c (shard0 : Int) (m1 : (Nat → Int)) (seq2 : Int) (l3 : (List (Nat → Int))) (v3 : Value) (w : World) (hs3 : SL w 4 iv v3 l3) (hP : goP_P shard0 m1 seq2 l3) : Con Try.prog 13 #[.int .i64 shard0, AI 28 m1, .int .i64 seq2, v3] w (fun v F => ∃ (u0 : Value) (C0 : GH), v = .tuple #[u0, errV 63 ((goP_F shard0 m1 seq2 l3).2)] ∧ F = (C0 ++ []) ∧ OJ 29 28 iv C0 u0 ((goP_F shard0 m1 seq2 l3).1) ∧ Cov w [] C0) :=
  goP_con shard0 m1 seq2 l3 v3 w hs3 _ (goP_ok shard0 m1 seq2 l3 hP)

theorem startP_con (shard0 : Int) (ww1 : (Nat → Int)) (l2 : (List (Nat → Int))) (v2 : Value) (w : World) (hs2 : SL w 4 iv v2 l2) (r : (List (Nat → Int)) × Int) (h : startP_S shard0 ww1 l2 r) : Con Try.prog 14 #[.int .i64 shard0, AI 2 ww1, v2] w (fun v F => ∃ (u0 : Value) (C0 : GH), v = .tuple #[u0, errV 63 r.2] ∧ F = (C0 ++ []) ∧ OJ 29 28 iv C0 u0 r.1 ∧ Cov w [] C0) := by
  unfold startP_S at h
  refine con_enter (n := 22) [(0, _), (1, _), (2, _)] Try.func14 rfl Try.ntmps14 rfl (lac rfl (lac rfl (lac rfl lan))) ?_
  refine xw_seq (xw_region ?_)
  refine xo rfl trivial (o_boxA rfl) ?_
  rintro _ _ ⟨b4, hb4, rfl, rfl⟩
  refine xq rfl trivial (o_as rfl) ?_
  refine xq rfl trivial (o_as rfl) ?_
  refine xo_nil (xq_then (xw_seq (xw_seq (xw_region ?_))))
  refine xq rfl trivial (o_mv rfl) ?_
  refine xq rfl trivial (o_ldW rfl ts26 (List.Mem.head _)) ?_
  refine xq rfl trivial (o_bldP ea27 ze27 (.ints rfl rfl (.nil _))) ?_
  refine xq rfl trivial (o_build fk29 ze29 (.int fl29_0 rfl rfl (.int fl29_1 rfl rfl (.int fl29_10 rfl rfl (.ints fl29_11 rfl rfl (.int fl29_8 rfl rfl (.nil _))))))) ?_
  refine xcallq rfl trivial kf25 rfl (fun w1 hw1 => isP_c _ w1) ?_
  refine xq rfl trivial (o_not rfl) ?_
  refine xo_nil (xq_then ?_)
  refine xw_bool 13 rfl (fun hc1 => ?_) (fun hc1 => ?_)
  · have hq1 : ((isP_F (updI (updRI (updI (updI (updI (fun _ => 0) 0 11) 1 shard0) 11 1) 12 16 (updRI (fun _ => 0) 0 2 ww1)) 9 1))) = false := (bnT hc1)
    have hp1 : ¬ (((isP_F (updI (updRI (updI (updI (updI (fun _ => 0) 0 11) 1 shard0) 11 1) 12 16 (updRI (fun _ => 0) 0 2 ww1)) 9 1))) = true) := bne' hq1
    rw [if_neg hp1] at h
    refine xw_cond_t rfl rfl (xw_seq (xw_region ?_))
    refine xq rfl trivial (o_mki rfl Try.underlying63 rfl) ?_
    refine xq rfl trivial (o_as rfl) ?_
    refine xq rfl trivial (o_as rfl) ?_
    refine xo_nil (xq_then (xw_ret (xq_then_ret ?_)))
    subst h
    exact con_ret2 (.inl rfl) Try.results14 rfl rfl [] (Kp.st (Kp.new hb4 Kp.nil)) (⟨_, [], rfl, rfl, OJ.nil, Cov.refl _⟩)
  · have hq1 : ((isP_F (updI (updRI (updI (updI (updI (fun _ => 0) 0 11) 1 shard0) 11 1) 12 16 (updRI (fun _ => 0) 0 2 ww1)) 9 1))) = true := (bnF hc1)
    have hp1 : ((isP_F (updI (updRI (updI (updI (updI (fun _ => 0) 0 11) 1 shard0) 11 1) 12 16 (updRI (fun _ => 0) 0 2 ww1)) 9 1))) = true := hq1
    rw [if_pos hp1] at h
    refine xw_cond_f rfl rfl (xw_skip (xq_then (xw_seq (xw_region ?_))))
    refine xq rfl trivial (o_mv rfl) ?_
    refine xq rfl trivial (o_build fk29 ze29 (.nil _)) ?_
    refine xq rfl trivial (o_ldW rfl ts26 (List.Mem.head _)) ?_
    refine xq rfl trivial (o_mv rfl) ?_
    obtain ⟨ho2, h⟩ := h
    refine xcall rfl trivial kf31 rfl (fun w1 hw1 => longer_c _ _ _ _ _ w1 (hs2.keep hw1 (Fr.cons hb4 Fr.nil)) ho2) ?_
    rintro w1 _ _ hw1 ⟨vs3, Bs3, rfl, rfl, hJs3, hcBs3⟩
    refine ⟨_, Mg.news (Cov.fresh hcBs3) (.nil _), ?_⟩
    replace hcBs3 := Cov.base (w0 := w) hcBs3 hw1.size
    refine xq rfl trivial (o_ext rfl rfl) ?_
    refine xq rfl trivial (o_ext rfl rfl) ?_
    refine xq rfl trivial (o_as rfl) ?_
    refine xq rfl trivial (o_as rfl) ?_
    refine xo_nil (xq_then (xw_ret ?_))
    subst h
    exact con_ret2 (.inl rfl) Try.results14 rfl rfl (Bs3 ++ []) (Kp.st (Kp.segKeep (Kp.new hb4 Kp.nil))) (⟨_, Bs3, rfl, rfl, hJs3, hcBs3⟩)

theorem startP_c (shard0 : Int) (ww1 : (Nat → Int)) (l2 : (List (Nat → Int))) (v2 : Value) (w : World) (hs2 : SL w 4 iv v2 l2) (hP : startP_P shard0 ww1 l2) : Con Try.prog 14 #[.int .i64 shard0, AI 2 ww1, v2] w (fun v F => ∃ (u0 : Value) (C0 : GH), v = .tuple #[u0, errV 63 ((startP_F shard0 ww1 l2).2)] ∧ F = (C0 ++ []) ∧ OJ 29 28 iv C0 u0 ((startP_F shard0 ww1 l2).1) ∧ Cov w [] C0) :=
  startP_con shard0 ww1 l2 v2 w hs2 _ (startP_ok shard0 ww1 l2 hP)

theorem alive12_con (w : World) (r : Bool) (h : alive12_S r) : Con Try.prog 8 #[] w (Is (.bool r) []) := by
  unfold alive12_S at h
  refine con_enter (n := 80) [] Try.func8 rfl Try.ntmps8 rfl lan ?_
  refine xw_seq (xw_region ?_)
  refine xq rfl trivial (o_as rfl) ?_
  refine xo_nil (xq_then (xw_seq (xw_region ?_)))
  refine xq rfl trivial (o_build fk54 ze54 (.int fl54_0 rfl rfl (.int fl54_1 rfl rfl (.int fl54_2 rfl rfl (.nil _))))) ?_
  refine xq rfl trivial (o_build fk54 ze54 (.int fl54_0 rfl rfl (.int fl54_1 rfl rfl (.int fl54_2 rfl rfl (.nil _))))) ?_
  refine xo rfl trivial (o_bsl el30 ze54 rfl rfl rfl (.ints rfl rfl (.ints rfl rfl (.nil _)))) ?_
  rintro _ _ ⟨b10, hb10, rfl, rfl⟩
  refine xq rfl trivial (o_as rfl) ?_
  refine xo_nil (xq_then (xw_seq (xw_region ?_)))
  refine xq rfl trivial (o_build fk26 ze26 (.int fl26_0 rfl rfl (.int fl26_1 rfl rfl (.nil _)))) ?_
  refine xq rfl trivial (o_mv rfl) ?_
  obtain ⟨ho1, h⟩ := h
  refine xcall rfl trivial kf14 rfl (fun w1 hw1 => startP_c _ _ _ _ w1 (SL.lit (l := [(updI (updI (updI (fun _ => 0) 0 1) 1 4) 2 2), (updI (updI (updI (fun _ => 0) 0 2) 1 7) 2 1)]) hw1 (List.Mem.head _) rfl (by omega) (by simp [maxLen]) (by exact (fun i hi => match i, hi with | 0, _ => rfl | 1, _ => rfl | 2, _ => rfl | 3, _ => rfl | 4, _ => rfl | 5, _ => rfl | 6, _ => rfl | 7, _ => rfl | q + 8, h => absurd h (by omega)))) ho1) ?_
  rintro w1 _ _ hw1 ⟨vs2, Bs2, rfl, rfl, hJs2, hcBs2⟩
  refine ⟨_, Mg.news (Cov.fresh hcBs2) (.nil _), ?_⟩
  replace hcBs2 := Cov.base (w0 := w) hcBs2 hw1.size
  refine xq rfl trivial (o_mv rfl) ?_
  refine xq rfl trivial (o_ext rfl rfl) ?_
  refine xq rfl trivial (o_ext rfl rfl) ?_
  refine xq rfl trivial (o_as rfl) ?_
  refine xq rfl trivial (o_as rfl) ?_
  refine xo_nil (xq_then (xw_seq (xw_seq ?_)))
  obtain ⟨ho3, h⟩ := h
  refine xw_cut [(1, _), (2, _)] (lc rfl (lc rfl ln)) [(30, .bool (((!(decide ((startP_F 1 (updI (updI (fun _ => 0) 0 1) 1 4) ([(updI (updI (updI (fun _ => 0) 0 1) 1 4) 2 2), (updI (updI (updI (fun _ => 0) 0 2) 1 7) 2 1)])).2 = 0))) || (!(decide ((((startP_F 1 (updI (updI (fun _ => 0) 0 1) 1 4) ([(updI (updI (updI (fun _ => 0) 0 1) 1 4) 2 2), (updI (updI (updI (fun _ => 0) 0 2) 1 7) 2 1)])).1).length : Int) = 1)))) || (!(decide (((startP_F 1 (updI (updI (fun _ => 0) 0 1) 1 4) ([(updI (updI (updI (fun _ => 0) 0 1) 1 4) 2 2), (updI (updI (updI (fun _ => 0) 0 2) 1 7) 2 1)])).1)[0]! 9 = 2)))))] ?_ ?_
  · refine xw_region ?_
    refine xq rfl trivial (o_mv rfl) ?_
    refine xq rfl trivial (o_neE Try.underlying34 rfl (fun _ => rfl) rfl rfl) ?_
    refine xq rfl trivial (o_mv rfl) ?_
    refine xo_bool 19 rfl (fun hg4 => ?_) (fun hg4 => ?_)
    · have hq4 : (decide ((startP_F 1 (updI (updI (fun _ => 0) 0 1) 1 4) ([(updI (updI (updI (fun _ => 0) 0 1) 1 4) 2 2), (updI (updI (updI (fun _ => 0) 0 2) 1 7) 2 1)])).2 = 0)) = false := (bnT hg4)
      have hp4 : ¬ ((startP_F 1 (updI (updI (fun _ => 0) 0 1) 1 4) ([(updI (updI (updI (fun _ => 0) 0 1) 1 4) 2 2), (updI (updI (updI (fun _ => 0) 0 2) 1 7) 2 1)])).2 = 0) := of_decide_eq_false hq4
      refine xs rfl ⟨_, _, rfl, rfl, rfl⟩ (xs rfl ⟨_, _, rfl, rfl, rfl⟩ (xs rfl ⟨_, _, rfl, rfl, rfl⟩ ?_))
      refine xq rfl trivial (o_pick_t rfl rfl) ?_
      refine xq rfl trivial (o_mv rfl) ?_
      refine xs rfl ⟨_, _, rfl, rfl, rfl⟩ (xs rfl ⟨_, _, rfl, rfl, rfl⟩ (xs rfl ⟨_, _, rfl, rfl, rfl⟩ (xs rfl ⟨_, _, rfl, rfl, rfl⟩ (xs rfl ⟨_, _, rfl, rfl, rfl⟩ ?_))))
      refine xq rfl trivial (o_pick_t rfl rfl) ?_
      refine xo_nil ?_
      exact xq_cut ((lce rfl (by first | rfl | (simp only [hq4, if_neg hp4, bS]; done) | (simp only [hq4, if_neg hp4, bS, reduceIte, Bool.false_eq_true]; done) | (simp [hp4]; done) | (simp_all; done)) (lc rfl (lc rfl ln)))) (fun _ h => h)
    · have hq4 : (decide ((startP_F 1 (updI (updI (fun _ => 0) 0 1) 1 4) ([(updI (updI (updI (fun _ => 0) 0 1) 1 4) 2 2), (updI (updI (updI (fun _ => 0) 0 2) 1 7) 2 1)])).2 = 0)) = true := (bnF hg4)
      have hp4 : (startP_F 1 (updI (updI (fun _ => 0) 0 1) 1 4) ([(updI (updI (updI (fun _ => 0) 0 1) 1 4) 2 2), (updI (updI (updI (fun _ => 0) 0 2) 1 7) 2 1)])).2 = 0 := of_decide_eq_true hq4
      refine xq rfl ⟨_, rfl, rfl⟩ (o_mv rfl) ?_
      refine xq rfl ⟨_, rfl, rfl⟩ (o_lenL rfl Try.underlying41 rfl (OJ.val hJs2)) ?_
      refine xq rfl ⟨_, rfl, rfl⟩ (o_neq rfl rfl) ?_
      refine xq rfl trivial (o_pick_f rfl rfl) ?_
      refine xq rfl trivial (o_mv rfl) ?_
      refine xo_bool 24 rfl (fun hg5 => ?_) (fun hg5 => ?_)
      · have hq5 : (decide ((((startP_F 1 (updI (updI (fun _ => 0) 0 1) 1 4) ([(updI (updI (updI (fun _ => 0) 0 1) 1 4) 2 2), (updI (updI (updI (fun _ => 0) 0 2) 1 7) 2 1)])).1).length : Int) = 1)) = false := (bnT hg5)
        have hp5 : ¬ ((((startP_F 1 (updI (updI (fun _ => 0) 0 1) 1 4) ([(updI (updI (updI (fun _ => 0) 0 1) 1 4) 2 2), (updI (updI (updI (fun _ => 0) 0 2) 1 7) 2 1)])).1).length : Int) = 1) := of_decide_eq_false hq5
        refine xs rfl ⟨_, _, rfl, rfl, rfl⟩ (xs rfl ⟨_, _, rfl, rfl, rfl⟩ (xs rfl ⟨_, _, rfl, rfl, rfl⟩ (xs rfl ⟨_, _, rfl, rfl, rfl⟩ (xs rfl ⟨_, _, rfl, rfl, rfl⟩ ?_))))
        refine xq rfl trivial (o_pick_t rfl rfl) ?_
        refine xo_nil ?_
        exact xq_cut ((lce rfl (by first | rfl | (simp only [hq4, hq5, if_pos hp4, if_neg hp5, bS]; done) | (simp only [hq4, hq5, if_pos hp4, if_neg hp5, bS, reduceIte, Bool.false_eq_true]; done) | (simp [hp4, hp5]; done) | (simp_all; done)) (lc rfl (lc rfl ln)))) (fun _ h => h)
      · have hq5 : (decide ((((startP_F 1 (updI (updI (fun _ => 0) 0 1) 1 4) ([(updI (updI (updI (fun _ => 0) 0 1) 1 4) 2 2), (updI (updI (updI (fun _ => 0) 0 2) 1 7) 2 1)])).1).length : Int) = 1)) = true := (bnF hg5)
        have hp5 : (((startP_F 1 (updI (updI (fun _ => 0) 0 1) 1 4) ([(updI (updI (updI (fun _ => 0) 0 1) 1 4) 2 2), (updI (updI (updI (fun _ => 0) 0 2) 1 7) 2 1)])).1).length : Int) = 1 := of_decide_eq_true hq5
        refine xq rfl ⟨_, rfl, rfl⟩ (o_mv rfl) ?_
        refine xq rfl ⟨_, rfl, rfl⟩ (o_ixL el41 rfl rfl (fun w hw => (hJs2.sl hw (Pull.sub (.here _ _)))) rfl (ho3 (by first | exact hg5 | (simp only [hq4, hq5, if_pos hp4, if_pos hp5, bS]; done) | (simp only [hq4, hq5, if_pos hp4, if_pos hp5, bS, reduceIte, Bool.false_eq_true]; done) | (simp [hp4, hp5]; done) | (simp_all; done)))) ?_
        refine xq rfl ⟨_, rfl, rfl⟩ (o_faL fl29_8 rfl rfl (fun w hw => (hJs2.sl hw (Pull.sub (.here _ _)))) (toNat_lt (ho3 (by first | exact hg5 | (simp only [hq4, hq5, if_pos hp4, if_pos hp5, bS]; done) | (simp only [hq4, hq5, if_pos hp4, if_pos hp5, bS, reduceIte, Bool.false_eq_true]; done) | (simp [hp4, hp5]; done) | (simp_all; done))))) ?_
        refine xq rfl ⟨_, rfl, rfl⟩ (o_ldL1 (off := 9) (u := .int .i64 (((startP_F 1 (updI (updI (fun _ => 0) 0 1) 1 4) ([(updI (updI (updI (fun _ => 0) 0 1) 1 4) 2 2), (updI (updI (updI (fun _ => 0) 0 2) 1 7) 2 1)])).1)[0]! 9)) rfl ts3 rfl (fun w hw => (hJs2.sl hw (Pull.sub (.here _ _)))) (toNat_lt (ho3 (by first | exact hg5 | (simp only [hq4, hq5, if_pos hp4, if_pos hp5, bS]; done) | (simp only [hq4, hq5, if_pos hp4, if_pos hp5, bS, reduceIte, Bool.false_eq_true]; done) | (simp [hp4, hp5]; done) | (simp_all; done)))) rfl rfl) ?_
        refine xq rfl ⟨_, rfl, rfl⟩ (o_neq rfl rfl) ?_
        refine xq rfl trivial (o_pick_f rfl rfl) ?_
        refine xo_nil ?_
        exact xq_cut ((lce rfl (by first | rfl | (simp only [hq4, hq5, if_pos hp4, if_pos hp5, bS]; done) | (simp only [hq4, hq5, if_pos hp4, if_pos hp5, bS, reduceIte, Bool.false_eq_true]; done) | (simp [hp4, hp5]; done) | (simp_all; done)) (lc rfl (lc rfl ln)))) (fun _ h => h)
  · refine xq_then ?_
    refine xw_bool 30 rfl (fun hc6 => ?_) (fun hc6 => ?_)
    · have hq6 : (((!(decide ((startP_F 1 (updI (updI (fun _ => 0) 0 1) 1 4) ([(updI (updI (updI (fun _ => 0) 0 1) 1 4) 2 2), (updI (updI (updI (fun _ => 0) 0 2) 1 7) 2 1)])).2 = 0))) || (!(decide ((((startP_F 1 (updI (updI (fun _ => 0) 0 1) 1 4) ([(updI (updI (updI (fun _ => 0) 0 1) 1 4) 2 2), (updI (updI (updI (fun _ => 0) 0 2) 1 7) 2 1)])).1).length : Int) = 1)))) || (!(decide (((startP_F 1 (updI (updI (fun _ => 0) 0 1) 1 4) ([(updI (updI (updI (fun _ => 0) 0 1) 1 4) 2 2), (updI (updI (updI (fun _ => 0) 0 2) 1 7) 2 1)])).1)[0]! 9 = 2)))) = true := hc6
      have hp6 : (((!(decide ((startP_F 1 (updI (updI (fun _ => 0) 0 1) 1 4) ([(updI (updI (updI (fun _ => 0) 0 1) 1 4) 2 2), (updI (updI (updI (fun _ => 0) 0 2) 1 7) 2 1)])).2 = 0))) || (!(decide ((((startP_F 1 (updI (updI (fun _ => 0) 0 1) 1 4) ([(updI (updI (updI (fun _ => 0) 0 1) 1 4) 2 2), (updI (updI (updI (fun _ => 0) 0 2) 1 7) 2 1)])).1).length : Int) = 1)))) || (!(decide (((startP_F 1 (updI (updI (fun _ => 0) 0 1) 1 4) ([(updI (updI (updI (fun _ => 0) 0 1) 1 4) 2 2), (updI (updI (updI (fun _ => 0) 0 2) 1 7) 2 1)])).1)[0]! 9 = 2)))) = true := hq6
      rw [if_pos hp6] at h
      refine xw_cond_t rfl rfl (xw_seq (xw_region ?_))
      refine xq rfl trivial (o_as rfl) ?_
      refine xo_nil (xq_then (xw_ret (xq_then_ret ?_)))
      subst h
      exact con_ret1 (.inl rfl) Try.results8 rfl [] (Kp.st (Kp.segNew (Cov.fresh hcBs2) (Kp.new hb10 Kp.nil))) (⟨rfl, rfl⟩)
    · have hq6 : (((!(decide ((startP_F 1 (updI (updI (fun _ => 0) 0 1) 1 4) ([(updI (updI (updI (fun _ => 0) 0 1) 1 4) 2 2), (updI (updI (updI (fun _ => 0) 0 2) 1 7) 2 1)])).2 = 0))) || (!(decide ((((startP_F 1 (updI (updI (fun _ => 0) 0 1) 1 4) ([(updI (updI (updI (fun _ => 0) 0 1) 1 4) 2 2), (updI (updI (updI (fun _ => 0) 0 2) 1 7) 2 1)])).1).length : Int) = 1)))) || (!(decide (((startP_F 1 (updI (updI (fun _ => 0) 0 1) 1 4) ([(updI (updI (updI (fun _ => 0) 0 1) 1 4) 2 2), (updI (updI (updI (fun _ => 0) 0 2) 1 7) 2 1)])).1)[0]! 9 = 2)))) = false := hc6
      have hp6 : ¬ ((((!(decide ((startP_F 1 (updI (updI (fun _ => 0) 0 1) 1 4) ([(updI (updI (updI (fun _ => 0) 0 1) 1 4) 2 2), (updI (updI (updI (fun _ => 0) 0 2) 1 7) 2 1)])).2 = 0))) || (!(decide ((((startP_F 1 (updI (updI (fun _ => 0) 0 1) 1 4) ([(updI (updI (updI (fun _ => 0) 0 1) 1 4) 2 2), (updI (updI (updI (fun _ => 0) 0 2) 1 7) 2 1)])).1).length : Int) = 1)))) || (!(decide (((startP_F 1 (updI (updI (fun _ => 0) 0 1) 1 4) ([(updI (updI (updI (fun _ => 0) 0 1) 1 4) 2 2), (updI (updI (updI (fun _ => 0) 0 2) 1 7) 2 1)])).1)[0]! 9 = 2)))) = true) := bne' hq6
      rw [if_neg hp6] at h
      refine xw_cond_f rfl rfl (xw_skip (xq_then (xw_seq (xw_region ?_))))
      refine xq rfl trivial (o_mv rfl) ?_
      obtain ⟨ho7, h⟩ := h
      refine xq rfl trivial (o_ixL el41 rfl rfl (fun w hw => (hJs2.sl hw (Pull.sub (.here _ _)))) rfl ho7) ?_
      refine xq rfl trivial (o_ldLI rfl ts29 rfl (fun w hw => (hJs2.sl hw (Pull.sub (.here _ _)))) (toNat_lt ho7) rfl) ?_
      refine xq rfl trivial (o_mv rfl) ?_
      obtain ⟨ho8, h⟩ := h
      refine xcall rfl trivial kf13 rfl (fun w1 hw1 => goP_c _ _ _ _ _ w1 (SL.lit (l := [(updI (updI (updI (fun _ => 0) 0 1) 1 4) 2 2), (updI (updI (updI (fun _ => 0) 0 2) 1 7) 2 1)]) hw1 (List.mem_append_right _ (List.Mem.head _)) rfl (by omega) (by simp [maxLen]) (by exact (fun i hi => match i, hi with | 0, _ => rfl | 1, _ => rfl | 2, _ => rfl | 3, _ => rfl | 4, _ => rfl | 5, _ => rfl | 6, _ => rfl | 7, _ => rfl | q + 8, h => absurd h (by omega)))) ho8) ?_
      rintro w1 _ _ hw1 ⟨vs9, Bs9, rfl, rfl, hJs9, hcBs9⟩
      refine ⟨_, Mg.news (Cov.fresh hcBs9) (.nil _), ?_⟩
      replace hcBs9 := Cov.base (w0 := w) hcBs9 hw1.size
      refine xq rfl trivial (o_mv rfl) ?_
      refine xq rfl trivial (o_ext rfl rfl) ?_
      refine xq rfl trivial (o_ext rfl rfl) ?_
      refine xq rfl trivial (o_as rfl) ?_
      refine xq rfl trivial (o_as rfl) ?_
      refine xo_nil (xq_then (xw_seq (xw_seq ?_)))
      obtain ⟨ho10, ho11, ho12, h⟩ := h
      refine xw_cut [(4, _)] (lc rfl ln) [(66, .bool (((((!(decide ((goP_F 1 (((startP_F 1 (updI (updI (fun _ => 0) 0 1) 1 4) ([(updI (updI (updI (fun _ => 0) 0 1) 1 4) 2 2), (updI (updI (updI (fun _ => 0) 0 2) 1 7) 2 1)])).1)[0]!) 7 ([(updI (updI (updI (fun _ => 0) 0 1) 1 4) 2 2), (updI (updI (updI (fun _ => 0) 0 2) 1 7) 2 1)])).2 = 0))) || (!(decide ((((goP_F 1 (((startP_F 1 (updI (updI (fun _ => 0) 0 1) 1 4) ([(updI (updI (updI (fun _ => 0) 0 1) 1 4) 2 2), (updI (updI (updI (fun _ => 0) 0 2) 1 7) 2 1)])).1)[0]!) 7 ([(updI (updI (updI (fun _ => 0) 0 1) 1 4) 2 2), (updI (updI (updI (fun _ => 0) 0 2) 1 7) 2 1)])).1).length : Int) = 1)))) || (!(decide (((goP_F 1 (((startP_F 1 (updI (updI (fun _ => 0) 0 1) 1 4) ([(updI (updI (updI (fun _ => 0) 0 1) 1 4) 2 2), (updI (updI (updI (fun _ => 0) 0 2) 1 7) 2 1)])).1)[0]!) 7 ([(updI (updI (updI (fun _ => 0) 0 1) 1 4) 2 2), (updI (updI (updI (fun _ => 0) 0 2) 1 7) 2 1)])).1)[0]! 11 = 2)))) || (!(decide (((goP_F 1 (((startP_F 1 (updI (updI (fun _ => 0) 0 1) 1 4) ([(updI (updI (updI (fun _ => 0) 0 1) 1 4) 2 2), (updI (updI (updI (fun _ => 0) 0 2) 1 7) 2 1)])).1)[0]!) 7 ([(updI (updI (updI (fun _ => 0) 0 1) 1 4) 2 2), (updI (updI (updI (fun _ => 0) 0 2) 1 7) 2 1)])).1)[0]! 9 = 1)))) || (!((back_F (((goP_F 1 (((startP_F 1 (updI (updI (fun _ => 0) 0 1) 1 4) ([(updI (updI (updI (fun _ => 0) 0 1) 1 4) 2 2), (updI (updI (updI (fun _ => 0) 0 2) 1 7) 2 1)])).1)[0]!) 7 ([(updI (updI (updI (fun _ => 0) 0 1) 1 4) 2 2), (updI (updI (updI (fun _ => 0) 0 2) 1 7) 2 1)])).1)[0]!))))))] ?_ ?_
      · refine xw_region ?_
        refine xq rfl trivial (o_mv rfl) ?_
        refine xq rfl trivial (o_neE Try.underlying34 rfl (fun _ => rfl) rfl rfl) ?_
        refine xq rfl trivial (o_mv rfl) ?_
        refine xo_bool 41 rfl (fun hg13 => ?_) (fun hg13 => ?_)
        · have hq13 : (decide ((goP_F 1 (((startP_F 1 (updI (updI (fun _ => 0) 0 1) 1 4) ([(updI (updI (updI (fun _ => 0) 0 1) 1 4) 2 2), (updI (updI (updI (fun _ => 0) 0 2) 1 7) 2 1)])).1)[0]!) 7 ([(updI (updI (updI (fun _ => 0) 0 1) 1 4) 2 2), (updI (updI (updI (fun _ => 0) 0 2) 1 7) 2 1)])).2 = 0)) = false := (bnT hg13)
          have hp13 : ¬ ((goP_F 1 (((startP_F 1 (updI (updI (fun _ => 0) 0 1) 1 4) ([(updI (updI (updI (fun _ => 0) 0 1) 1 4) 2 2), (updI (updI (updI (fun _ => 0) 0 2) 1 7) 2 1)])).1)[0]!) 7 ([(updI (updI (updI (fun _ => 0) 0 1) 1 4) 2 2), (updI (updI (updI (fun _ => 0) 0 2) 1 7) 2 1)])).2 = 0) := of_decide_eq_false hq13
          refine xs rfl ⟨_, _, rfl, rfl, rfl⟩ (xs rfl ⟨_, _, rfl, rfl, rfl⟩ (xs rfl ⟨_, _, rfl, rfl, rfl⟩ ?_))
          refine xq rfl trivial (o_pick_t rfl rfl) ?_
          refine xq rfl trivial (o_mv rfl) ?_
          refine xs rfl ⟨_, _, rfl, rfl, rfl⟩ (xs rfl ⟨_, _, rfl, rfl, rfl⟩ (xs rfl ⟨_, _, rfl, rfl, rfl⟩ (xs rfl ⟨_, _, rfl, rfl, rfl⟩ (xs rfl ⟨_, _, rfl, rfl, rfl⟩ ?_))))
          refine xq rfl trivial (o_pick_t rfl rfl) ?_
          refine xq rfl trivial (o_mv rfl) ?_
          refine xs rfl ⟨_, _, rfl, rfl, rfl⟩ (xs rfl ⟨_, _, rfl, rfl, rfl⟩ (xs rfl ⟨_, _, rfl, rfl, rfl⟩ (xs rfl ⟨_, _, rfl, rfl, rfl⟩ (xs rfl ⟨_, _, rfl, rfl, rfl⟩ ?_))))
          refine xq rfl trivial (o_pick_t rfl rfl) ?_
          refine xq rfl trivial (o_mv rfl) ?_
          refine xs rfl ⟨_, _, rfl, rfl, rfl⟩ (xs rfl ⟨_, _, rfl, rfl, rfl⟩ (xs rfl ⟨_, _, rfl, rfl, rfl⟩ (xs rfl ⟨_, _, rfl, rfl, rfl⟩ (xs rfl ⟨_, _, rfl, rfl, rfl⟩ ?_))))
          refine xq rfl trivial (o_pick_t rfl rfl) ?_
          refine xo_nil ?_
          exact xq_cut ((lce rfl (by first | rfl | (simp only [hq6, hq13, if_neg hp6, if_neg hp13, bS]; done) | (simp only [hq6, hq13, if_neg hp6, if_neg hp13, bS, reduceIte, Bool.false_eq_true]; done) | (simp [hp6, hp13]; done) | (simp_all; done)) (lc rfl ln))) (fun _ h => h)
        · have hq13 : (decide ((goP_F 1 (((startP_F 1 (updI (updI (fun _ => 0) 0 1) 1 4) ([(updI (updI (updI (fun _ => 0) 0 1) 1 4) 2 2), (updI (updI (updI (fun _ => 0) 0 2) 1 7) 2 1)])).1)[0]!) 7 ([(updI (updI (updI (fun _ => 0) 0 1) 1 4) 2 2), (updI (updI (updI (fun _ => 0) 0 2) 1 7) 2 1)])).2 = 0)) = true := (bnF hg13)
          have hp13 : (goP_F 1 (((startP_F 1 (updI (updI (fun _ => 0) 0 1) 1 4) ([(updI (updI (updI (fun _ => 0) 0 1) 1 4) 2 2), (updI (updI (updI (fun _ => 0) 0 2) 1 7) 2 1)])).1)[0]!) 7 ([(updI (updI (updI (fun _ => 0) 0 1) 1 4) 2 2), (updI (updI (updI (fun _ => 0) 0 2) 1 7) 2 1)])).2 = 0 := of_decide_eq_true hq13
          refine xq rfl ⟨_, rfl, rfl⟩ (o_mv rfl) ?_
          refine xq rfl ⟨_, rfl, rfl⟩ (o_lenL rfl Try.underlying41 rfl (OJ.val hJs9)) ?_
          refine xq rfl ⟨_, rfl, rfl⟩ (o_neq rfl rfl) ?_
          refine xq rfl trivial (o_pick_f rfl rfl) ?_
          refine xq rfl trivial (o_mv rfl) ?_
          refine xo_bool 46 rfl (fun hg14 => ?_) (fun hg14 => ?_)
          · have hq14 : (decide ((((goP_F 1 (((startP_F 1 (updI (updI (fun _ => 0) 0 1) 1 4) ([(updI (updI (updI (fun _ => 0) 0 1) 1 4) 2 2), (updI (updI (updI (fun _ => 0) 0 2) 1 7) 2 1)])).1)[0]!) 7 ([(updI (updI (updI (fun _ => 0) 0 1) 1 4) 2 2), (updI (updI (updI (fun _ => 0) 0 2) 1 7) 2 1)])).1).length : Int) = 1)) = false := (bnT hg14)
            have hp14 : ¬ ((((goP_F 1 (((startP_F 1 (updI (updI (fun _ => 0) 0 1) 1 4) ([(updI (updI (updI (fun _ => 0) 0 1) 1 4) 2 2), (updI (updI (updI (fun _ => 0) 0 2) 1 7) 2 1)])).1)[0]!) 7 ([(updI (updI (updI (fun _ => 0) 0 1) 1 4) 2 2), (updI (updI (updI (fun _ => 0) 0 2) 1 7) 2 1)])).1).length : Int) = 1) := of_decide_eq_false hq14
            refine xs rfl ⟨_, _, rfl, rfl, rfl⟩ (xs rfl ⟨_, _, rfl, rfl, rfl⟩ (xs rfl ⟨_, _, rfl, rfl, rfl⟩ (xs rfl ⟨_, _, rfl, rfl, rfl⟩ (xs rfl ⟨_, _, rfl, rfl, rfl⟩ ?_))))
            refine xq rfl trivial (o_pick_t rfl rfl) ?_
            refine xq rfl trivial (o_mv rfl) ?_
            refine xs rfl ⟨_, _, rfl, rfl, rfl⟩ (xs rfl ⟨_, _, rfl, rfl, rfl⟩ (xs rfl ⟨_, _, rfl, rfl, rfl⟩ (xs rfl ⟨_, _, rfl, rfl, rfl⟩ (xs rfl ⟨_, _, rfl, rfl, rfl⟩ ?_))))
            refine xq rfl trivial (o_pick_t rfl rfl) ?_
            refine xq rfl trivial (o_mv rfl) ?_
            refine xs rfl ⟨_, _, rfl, rfl, rfl⟩ (xs rfl ⟨_, _, rfl, rfl, rfl⟩ (xs rfl ⟨_, _, rfl, rfl, rfl⟩ (xs rfl ⟨_, _, rfl, rfl, rfl⟩ (xs rfl ⟨_, _, rfl, rfl, rfl⟩ ?_))))
            refine xq rfl trivial (o_pick_t rfl rfl) ?_
            refine xo_nil ?_
            exact xq_cut ((lce rfl (by first | rfl | (simp only [hq6, hq13, hq14, if_neg hp6, if_pos hp13, if_neg hp14, bS]; done) | (simp only [hq6, hq13, hq14, if_neg hp6, if_pos hp13, if_neg hp14, bS, reduceIte, Bool.false_eq_true]; done) | (simp [hp6, hp13, hp14]; done) | (simp_all; done)) (lc rfl ln))) (fun _ h => h)
          · have hq14 : (decide ((((goP_F 1 (((startP_F 1 (updI (updI (fun _ => 0) 0 1) 1 4) ([(updI (updI (updI (fun _ => 0) 0 1) 1 4) 2 2), (updI (updI (updI (fun _ => 0) 0 2) 1 7) 2 1)])).1)[0]!) 7 ([(updI (updI (updI (fun _ => 0) 0 1) 1 4) 2 2), (updI (updI (updI (fun _ => 0) 0 2) 1 7) 2 1)])).1).length : Int) = 1)) = true := (bnF hg14)
            have hp14 : (((goP_F 1 (((startP_F 1 (updI (updI (fun _ => 0) 0 1) 1 4) ([(updI (updI (updI (fun _ => 0) 0 1) 1 4) 2 2), (updI (updI (updI (fun _ => 0) 0 2) 1 7) 2 1)])).1)[0]!) 7 ([(updI (updI (updI (fun _ => 0) 0 1) 1 4) 2 2), (updI (updI (updI (fun _ => 0) 0 2) 1 7) 2 1)])).1).length : Int) = 1 := of_decide_eq_true hq14
            refine xq rfl ⟨_, rfl, rfl⟩ (o_mv rfl) ?_
            refine xq rfl ⟨_, rfl, rfl⟩ (o_ixL el41 rfl rfl (fun w hw => (hJs9.sl hw (Pull.sub (.here _ _)))) rfl (ho10 (by first | exact hg14 | (simp only [hq6, hq13, hq14, if_neg hp6, if_pos hp13, if_pos hp14, bS]; done) | (simp only [hq6, hq13, hq14, if_neg hp6, if_pos hp13, if_pos hp14, bS, reduceIte, Bool.false_eq_true]; done) | (simp [hp6, hp13, hp14]; done) | (simp_all; done)))) ?_
            refine xq rfl ⟨_, rfl, rfl⟩ (o_faL fl29_10 rfl rfl (fun w hw => (hJs9.sl hw (Pull.sub (.here _ _)))) (toNat_lt (ho10 (by first | exact hg14 | (simp only [hq6, hq13, hq14, if_neg hp6, if_pos hp13, if_pos hp14, bS]; done) | (simp only [hq6, hq13, hq14, if_neg hp6, if_pos hp13, if_pos hp14, bS, reduceIte, Bool.false_eq_true]; done) | (simp [hp6, hp13, hp14]; done) | (simp_all; done))))) ?_
            refine xq rfl ⟨_, rfl, rfl⟩ (o_ldL1 (off := 11) (u := .int .i64 (((goP_F 1 (((startP_F 1 (updI (updI (fun _ => 0) 0 1) 1 4) ([(updI (updI (updI (fun _ => 0) 0 1) 1 4) 2 2), (updI (updI (updI (fun _ => 0) 0 2) 1 7) 2 1)])).1)[0]!) 7 ([(updI (updI (updI (fun _ => 0) 0 1) 1 4) 2 2), (updI (updI (updI (fun _ => 0) 0 2) 1 7) 2 1)])).1)[0]! 11)) rfl ts3 rfl (fun w hw => (hJs9.sl hw (Pull.sub (.here _ _)))) (toNat_lt (ho10 (by first | exact hg14 | (simp only [hq6, hq13, hq14, if_neg hp6, if_pos hp13, if_pos hp14, bS]; done) | (simp only [hq6, hq13, hq14, if_neg hp6, if_pos hp13, if_pos hp14, bS, reduceIte, Bool.false_eq_true]; done) | (simp [hp6, hp13, hp14]; done) | (simp_all; done)))) rfl rfl) ?_
            refine xq rfl ⟨_, rfl, rfl⟩ (o_neq rfl rfl) ?_
            refine xq rfl trivial (o_pick_f rfl rfl) ?_
            refine xq rfl trivial (o_mv rfl) ?_
            refine xo_bool 53 rfl (fun hg15 => ?_) (fun hg15 => ?_)
            · have hq15 : (decide (((goP_F 1 (((startP_F 1 (updI (updI (fun _ => 0) 0 1) 1 4) ([(updI (updI (updI (fun _ => 0) 0 1) 1 4) 2 2), (updI (updI (updI (fun _ => 0) 0 2) 1 7) 2 1)])).1)[0]!) 7 ([(updI (updI (updI (fun _ => 0) 0 1) 1 4) 2 2), (updI (updI (updI (fun _ => 0) 0 2) 1 7) 2 1)])).1)[0]! 11 = 2)) = false := (bnT hg15)
              have hp15 : ¬ (((goP_F 1 (((startP_F 1 (updI (updI (fun _ => 0) 0 1) 1 4) ([(updI (updI (updI (fun _ => 0) 0 1) 1 4) 2 2), (updI (updI (updI (fun _ => 0) 0 2) 1 7) 2 1)])).1)[0]!) 7 ([(updI (updI (updI (fun _ => 0) 0 1) 1 4) 2 2), (updI (updI (updI (fun _ => 0) 0 2) 1 7) 2 1)])).1)[0]! 11 = 2) := of_decide_eq_false hq15
              refine xs rfl ⟨_, _, rfl, rfl, rfl⟩ (xs rfl ⟨_, _, rfl, rfl, rfl⟩ (xs rfl ⟨_, _, rfl, rfl, rfl⟩ (xs rfl ⟨_, _, rfl, rfl, rfl⟩ (xs rfl ⟨_, _, rfl, rfl, rfl⟩ ?_))))
              refine xq rfl trivial (o_pick_t rfl rfl) ?_
              refine xq rfl trivial (o_mv rfl) ?_
              refine xs rfl ⟨_, _, rfl, rfl, rfl⟩ (xs rfl ⟨_, _, rfl, rfl, rfl⟩ (xs rfl ⟨_, _, rfl, rfl, rfl⟩ (xs rfl ⟨_, _, rfl, rfl, rfl⟩ (xs rfl ⟨_, _, rfl, rfl, rfl⟩ ?_))))
              refine xq rfl trivial (o_pick_t rfl rfl) ?_
              refine xo_nil ?_
              exact xq_cut ((lce rfl (by first | rfl | (simp only [hq6, hq13, hq14, hq15, if_neg hp6, if_pos hp13, if_pos hp14, if_neg hp15, bS]; done) | (simp only [hq6, hq13, hq14, hq15, if_neg hp6, if_pos hp13, if_pos hp14, if_neg hp15, bS, reduceIte, Bool.false_eq_true]; done) | (simp [hp6, hp13, hp14, hp15]; done) | (simp_all; done)) (lc rfl ln))) (fun _ h => h)
            · have hq15 : (decide (((goP_F 1 (((startP_F 1 (updI (updI (fun _ => 0) 0 1) 1 4) ([(updI (updI (updI (fun _ => 0) 0 1) 1 4) 2 2), (updI (updI (updI (fun _ => 0) 0 2) 1 7) 2 1)])).1)[0]!) 7 ([(updI (updI (updI (fun _ => 0) 0 1) 1 4) 2 2), (updI (updI (updI (fun _ => 0) 0 2) 1 7) 2 1)])).1)[0]! 11 = 2)) = true := (bnF hg15)
              have hp15 : ((goP_F 1 (((startP_F 1 (updI (updI (fun _ => 0) 0 1) 1 4) ([(updI (updI (updI (fun _ => 0) 0 1) 1 4) 2 2), (updI (updI (updI (fun _ => 0) 0 2) 1 7) 2 1)])).1)[0]!) 7 ([(updI (updI (updI (fun _ => 0) 0 1) 1 4) 2 2), (updI (updI (updI (fun _ => 0) 0 2) 1 7) 2 1)])).1)[0]! 11 = 2 := of_decide_eq_true hq15
              refine xq rfl ⟨_, rfl, rfl⟩ (o_mv rfl) ?_
              refine xq rfl ⟨_, rfl, rfl⟩ (o_ixL el41 rfl rfl (fun w hw => (hJs9.sl hw (Pull.sub (.here _ _)))) rfl (ho11 (by first | exact hg15 | (simp only [hq6, hq13, hq14, hq15, if_neg hp6, if_pos hp13, if_pos hp14, if_pos hp15, bS]; done) | (simp only [hq6, hq13, hq14, hq15, if_neg hp6, if_pos hp13, if_pos hp14, if_pos hp15, bS, reduceIte, Bool.false_eq_true]; done) | (simp [hp6, hp13, hp14, hp15]; done) | (simp_all; done)))) ?_
              refine xq rfl ⟨_, rfl, rfl⟩ (o_faL fl29_8 rfl rfl (fun w hw => (hJs9.sl hw (Pull.sub (.here _ _)))) (toNat_lt (ho11 (by first | exact hg15 | (simp only [hq6, hq13, hq14, hq15, if_neg hp6, if_pos hp13, if_pos hp14, if_pos hp15, bS]; done) | (simp only [hq6, hq13, hq14, hq15, if_neg hp6, if_pos hp13, if_pos hp14, if_pos hp15, bS, reduceIte, Bool.false_eq_true]; done) | (simp [hp6, hp13, hp14, hp15]; done) | (simp_all; done))))) ?_
              refine xq rfl ⟨_, rfl, rfl⟩ (o_ldL1 (off := 9) (u := .int .i64 (((goP_F 1 (((startP_F 1 (updI (updI (fun _ => 0) 0 1) 1 4) ([(updI (updI (updI (fun _ => 0) 0 1) 1 4) 2 2), (updI (updI (updI (fun _ => 0) 0 2) 1 7) 2 1)])).1)[0]!) 7 ([(updI (updI (updI (fun _ => 0) 0 1) 1 4) 2 2), (updI (updI (updI (fun _ => 0) 0 2) 1 7) 2 1)])).1)[0]! 9)) rfl ts3 rfl (fun w hw => (hJs9.sl hw (Pull.sub (.here _ _)))) (toNat_lt (ho11 (by first | exact hg15 | (simp only [hq6, hq13, hq14, hq15, if_neg hp6, if_pos hp13, if_pos hp14, if_pos hp15, bS]; done) | (simp only [hq6, hq13, hq14, hq15, if_neg hp6, if_pos hp13, if_pos hp14, if_pos hp15, bS, reduceIte, Bool.false_eq_true]; done) | (simp [hp6, hp13, hp14, hp15]; done) | (simp_all; done)))) rfl rfl) ?_
              refine xq rfl ⟨_, rfl, rfl⟩ (o_neq rfl rfl) ?_
              refine xq rfl trivial (o_pick_f rfl rfl) ?_
              refine xq rfl trivial (o_mv rfl) ?_
              refine xo_bool 60 rfl (fun hg16 => ?_) (fun hg16 => ?_)
              · have hq16 : (decide (((goP_F 1 (((startP_F 1 (updI (updI (fun _ => 0) 0 1) 1 4) ([(updI (updI (updI (fun _ => 0) 0 1) 1 4) 2 2), (updI (updI (updI (fun _ => 0) 0 2) 1 7) 2 1)])).1)[0]!) 7 ([(updI (updI (updI (fun _ => 0) 0 1) 1 4) 2 2), (updI (updI (updI (fun _ => 0) 0 2) 1 7) 2 1)])).1)[0]! 9 = 1)) = false := (bnT hg16)
                have hp16 : ¬ (((goP_F 1 (((startP_F 1 (updI (updI (fun _ => 0) 0 1) 1 4) ([(updI (updI (updI (fun _ => 0) 0 1) 1 4) 2 2), (updI (updI (updI (fun _ => 0) 0 2) 1 7) 2 1)])).1)[0]!) 7 ([(updI (updI (updI (fun _ => 0) 0 1) 1 4) 2 2), (updI (updI (updI (fun _ => 0) 0 2) 1 7) 2 1)])).1)[0]! 9 = 1) := of_decide_eq_false hq16
                refine xs rfl ⟨_, _, rfl, rfl, rfl⟩ (xs rfl ⟨_, _, rfl, rfl, rfl⟩ (xs rfl ⟨_, _, rfl, rfl, rfl⟩ (xs rfl ⟨_, _, rfl, rfl, rfl⟩ (xs rfl ⟨_, _, rfl, rfl, rfl⟩ ?_))))
                refine xq rfl trivial (o_pick_t rfl rfl) ?_
                refine xo_nil ?_
                exact xq_cut ((lce rfl (by first | rfl | (simp only [hq6, hq13, hq14, hq15, hq16, if_neg hp6, if_pos hp13, if_pos hp14, if_pos hp15, if_neg hp16, bS]; done) | (simp only [hq6, hq13, hq14, hq15, hq16, if_neg hp6, if_pos hp13, if_pos hp14, if_pos hp15, if_neg hp16, bS, reduceIte, Bool.false_eq_true]; done) | (simp [hp6, hp13, hp14, hp15, hp16]; done) | (simp_all; done)) (lc rfl ln))) (fun _ h => h)
              · have hq16 : (decide (((goP_F 1 (((startP_F 1 (updI (updI (fun _ => 0) 0 1) 1 4) ([(updI (updI (updI (fun _ => 0) 0 1) 1 4) 2 2), (updI (updI (updI (fun _ => 0) 0 2) 1 7) 2 1)])).1)[0]!) 7 ([(updI (updI (updI (fun _ => 0) 0 1) 1 4) 2 2), (updI (updI (updI (fun _ => 0) 0 2) 1 7) 2 1)])).1)[0]! 9 = 1)) = true := (bnF hg16)
                have hp16 : ((goP_F 1 (((startP_F 1 (updI (updI (fun _ => 0) 0 1) 1 4) ([(updI (updI (updI (fun _ => 0) 0 1) 1 4) 2 2), (updI (updI (updI (fun _ => 0) 0 2) 1 7) 2 1)])).1)[0]!) 7 ([(updI (updI (updI (fun _ => 0) 0 1) 1 4) 2 2), (updI (updI (updI (fun _ => 0) 0 2) 1 7) 2 1)])).1)[0]! 9 = 1 := of_decide_eq_true hq16
                refine xq rfl ⟨_, rfl, rfl⟩ (o_mv rfl) ?_
                refine xq rfl ⟨_, rfl, rfl⟩ (o_ixL el41 rfl rfl (fun w hw => (hJs9.sl hw (Pull.sub (.here _ _)))) rfl (ho12 (by first | exact hg16 | (simp only [hq6, hq13, hq14, hq15, hq16, if_neg hp6, if_pos hp13, if_pos hp14, if_pos hp15, if_pos hp16, bS]; done) | (simp only [hq6, hq13, hq14, hq15, hq16, if_neg hp6, if_pos hp13, if_pos hp14, if_pos hp15, if_pos hp16, bS, reduceIte, Bool.false_eq_true]; done) | (simp [hp6, hp13, hp14, hp15, hp16]; done) | (simp_all; done)))) ?_
                refine xq rfl ⟨_, rfl, rfl⟩ (o_ldLI rfl ts29 rfl (fun w hw => (hJs9.sl hw (Pull.sub (.here _ _)))) (toNat_lt (ho12 (by first | exact hg16 | (simp only [hq6, hq13, hq14, hq15, hq16, if_neg hp6, if_pos hp13, if_pos hp14, if_pos hp15, if_pos hp16, bS]; done) | (simp only [hq6, hq13, hq14, hq15, hq16, if_neg hp6, if_pos hp13, if_pos hp14, if_pos hp15, if_pos hp16, bS, reduceIte, Bool.false_eq_true]; done) | (simp [hp6, hp13, hp14, hp15, hp16]; done) | (simp_all; done)))) rfl) ?_
                refine xcallq rfl ⟨_, rfl, rfl⟩ kf11 rfl (fun w1 hw1 => back_c _ w1) ?_
                refine xq rfl ⟨_, rfl, rfl⟩ (o_not rfl) ?_
                refine xq rfl trivial (o_pick_f rfl rfl) ?_
                refine xo_nil ?_
                exact xq_cut ((lce rfl (by first | rfl | (simp only [hq6, hq13, hq14, hq15, hq16, if_neg hp6, if_pos hp13, if_pos hp14, if_pos hp15, if_pos hp16, bS]; done) | (simp only [hq6, hq13, hq14, hq15, hq16, if_neg hp6, if_pos hp13, if_pos hp14, if_pos hp15, if_pos hp16, bS, reduceIte, Bool.false_eq_true]; done) | (simp [hp6, hp13, hp14, hp15, hp16]; done) | (simp_all; done)) (lc rfl ln))) (fun _ h => h)
      · refine xq_then ?_
        refine xw_bool 66 rfl (fun hc17 => ?_) (fun hc17 => ?_)
        · have hq17 : (((((!(decide ((goP_F 1 (((startP_F 1 (updI (updI (fun _ => 0) 0 1) 1 4) ([(updI (updI (updI (fun _ => 0) 0 1) 1 4) 2 2), (updI (updI (updI (fun _ => 0) 0 2) 1 7) 2 1)])).1)[0]!) 7 ([(updI (updI (updI (fun _ => 0) 0 1) 1 4) 2 2), (updI (updI (updI (fun _ => 0) 0 2) 1 7) 2 1)])).2 = 0))) || (!(decide ((((goP_F 1 (((startP_F 1 (updI (updI (fun _ => 0) 0 1) 1 4) ([(updI (updI (updI (fun _ => 0) 0 1) 1 4) 2 2), (updI (updI (updI (fun _ => 0) 0 2) 1 7) 2 1)])).1)[0]!) 7 ([(updI (updI (updI (fun _ => 0) 0 1) 1 4) 2 2), (updI (updI (updI (fun _ => 0) 0 2) 1 7) 2 1)])).1).length : Int) = 1)))) || (!(decide (((goP_F 1 (((startP_F 1 (updI (updI (fun _ => 0) 0 1) 1 4) ([(updI (updI (updI (fun _ => 0) 0 1) 1 4) 2 2), (updI (updI (updI (fun _ => 0) 0 2) 1 7) 2 1)])).1)[0]!) 7 ([(updI (updI (updI (fun _ => 0) 0 1) 1 4) 2 2), (updI (updI (updI (fun _ => 0) 0 2) 1 7) 2 1)])).1)[0]! 11 = 2)))) || (!(decide (((goP_F 1 (((startP_F 1 (updI (updI (fun _ => 0) 0 1) 1 4) ([(updI (updI (updI (fun _ => 0) 0 1) 1 4) 2 2), (updI (updI (updI (fun _ => 0) 0 2) 1 7) 2 1)])).1)[0]!) 7 ([(updI (updI (updI (fun _ => 0) 0 1) 1 4) 2 2), (updI (updI (updI (fun _ => 0) 0 2) 1 7) 2 1)])).1)[0]! 9 = 1)))) || (!((back_F (((goP_F 1 (((startP_F 1 (updI (updI (fun _ => 0) 0 1) 1 4) ([(updI (updI (updI (fun _ => 0) 0 1) 1 4) 2 2), (updI (updI (updI (fun _ => 0) 0 2) 1 7) 2 1)])).1)[0]!) 7 ([(updI (updI (updI (fun _ => 0) 0 1) 1 4) 2 2), (updI (updI (updI (fun _ => 0) 0 2) 1 7) 2 1)])).1)[0]!))))) = true := hc17
          have hp17 : (((((!(decide ((goP_F 1 (((startP_F 1 (updI (updI (fun _ => 0) 0 1) 1 4) ([(updI (updI (updI (fun _ => 0) 0 1) 1 4) 2 2), (updI (updI (updI (fun _ => 0) 0 2) 1 7) 2 1)])).1)[0]!) 7 ([(updI (updI (updI (fun _ => 0) 0 1) 1 4) 2 2), (updI (updI (updI (fun _ => 0) 0 2) 1 7) 2 1)])).2 = 0))) || (!(decide ((((goP_F 1 (((startP_F 1 (updI (updI (fun _ => 0) 0 1) 1 4) ([(updI (updI (updI (fun _ => 0) 0 1) 1 4) 2 2), (updI (updI (updI (fun _ => 0) 0 2) 1 7) 2 1)])).1)[0]!) 7 ([(updI (updI (updI (fun _ => 0) 0 1) 1 4) 2 2), (updI (updI (updI (fun _ => 0) 0 2) 1 7) 2 1)])).1).length : Int) = 1)))) || (!(decide (((goP_F 1 (((startP_F 1 (updI (updI (fun _ => 0) 0 1) 1 4) ([(updI (updI (updI (fun _ => 0) 0 1) 1 4) 2 2), (updI (updI (updI (fun _ => 0) 0 2) 1 7) 2 1)])).1)[0]!) 7 ([(updI (updI (updI (fun _ => 0) 0 1) 1 4) 2 2), (updI (updI (updI (fun _ => 0) 0 2) 1 7) 2 1)])).1)[0]! 11 = 2)))) || (!(decide (((goP_F 1 (((startP_F 1 (updI (updI (fun _ => 0) 0 1) 1 4) ([(updI (updI (updI (fun _ => 0) 0 1) 1 4) 2 2), (updI (updI (updI (fun _ => 0) 0 2) 1 7) 2 1)])).1)[0]!) 7 ([(updI (updI (updI (fun _ => 0) 0 1) 1 4) 2 2), (updI (updI (updI (fun _ => 0) 0 2) 1 7) 2 1)])).1)[0]! 9 = 1)))) || (!((back_F (((goP_F 1 (((startP_F 1 (updI (updI (fun _ => 0) 0 1) 1 4) ([(updI (updI (updI (fun _ => 0) 0 1) 1 4) 2 2), (updI (updI (updI (fun _ => 0) 0 2) 1 7) 2 1)])).1)[0]!) 7 ([(updI (updI (updI (fun _ => 0) 0 1) 1 4) 2 2), (updI (updI (updI (fun _ => 0) 0 2) 1 7) 2 1)])).1)[0]!))))) = true := hq17
          rw [if_pos hp17] at h
          refine xw_cond_t rfl rfl (xw_seq (xw_region ?_))
          refine xq rfl trivial (o_as rfl) ?_
          refine xo_nil (xq_then (xw_ret (xq_then_ret ?_)))
          subst h
          exact con_ret1 (.inl rfl) Try.results8 rfl [] (Kp.st (Kp.segNew (Cov.fresh hcBs9) (Kp.segNew (Cov.fresh hcBs2) (Kp.new hb10 Kp.nil)))) (⟨rfl, rfl⟩)
        · have hq17 : (((((!(decide ((goP_F 1 (((startP_F 1 (updI (updI (fun _ => 0) 0 1) 1 4) ([(updI (updI (updI (fun _ => 0) 0 1) 1 4) 2 2), (updI (updI (updI (fun _ => 0) 0 2) 1 7) 2 1)])).1)[0]!) 7 ([(updI (updI (updI (fun _ => 0) 0 1) 1 4) 2 2), (updI (updI (updI (fun _ => 0) 0 2) 1 7) 2 1)])).2 = 0))) || (!(decide ((((goP_F 1 (((startP_F 1 (updI (updI (fun _ => 0) 0 1) 1 4) ([(updI (updI (updI (fun _ => 0) 0 1) 1 4) 2 2), (updI (updI (updI (fun _ => 0) 0 2) 1 7) 2 1)])).1)[0]!) 7 ([(updI (updI (updI (fun _ => 0) 0 1) 1 4) 2 2), (updI (updI (updI (fun _ => 0) 0 2) 1 7) 2 1)])).1).length : Int) = 1)))) || (!(decide (((goP_F 1 (((startP_F 1 (updI (updI (fun _ => 0) 0 1) 1 4) ([(updI (updI (updI (fun _ => 0) 0 1) 1 4) 2 2), (updI (updI (updI (fun _ => 0) 0 2) 1 7) 2 1)])).1)[0]!) 7 ([(updI (updI (updI (fun _ => 0) 0 1) 1 4) 2 2), (updI (updI (updI (fun _ => 0) 0 2) 1 7) 2 1)])).1)[0]! 11 = 2)))) || (!(decide (((goP_F 1 (((startP_F 1 (updI (updI (fun _ => 0) 0 1) 1 4) ([(updI (updI (updI (fun _ => 0) 0 1) 1 4) 2 2), (updI (updI (updI (fun _ => 0) 0 2) 1 7) 2 1)])).1)[0]!) 7 ([(updI (updI (updI (fun _ => 0) 0 1) 1 4) 2 2), (updI (updI (updI (fun _ => 0) 0 2) 1 7) 2 1)])).1)[0]! 9 = 1)))) || (!((back_F (((goP_F 1 (((startP_F 1 (updI (updI (fun _ => 0) 0 1) 1 4) ([(updI (updI (updI (fun _ => 0) 0 1) 1 4) 2 2), (updI (updI (updI (fun _ => 0) 0 2) 1 7) 2 1)])).1)[0]!) 7 ([(updI (updI (updI (fun _ => 0) 0 1) 1 4) 2 2), (updI (updI (updI (fun _ => 0) 0 2) 1 7) 2 1)])).1)[0]!))))) = false := hc17
          have hp17 : ¬ ((((((!(decide ((goP_F 1 (((startP_F 1 (updI (updI (fun _ => 0) 0 1) 1 4) ([(updI (updI (updI (fun _ => 0) 0 1) 1 4) 2 2), (updI (updI (updI (fun _ => 0) 0 2) 1 7) 2 1)])).1)[0]!) 7 ([(updI (updI (updI (fun _ => 0) 0 1) 1 4) 2 2), (updI (updI (updI (fun _ => 0) 0 2) 1 7) 2 1)])).2 = 0))) || (!(decide ((((goP_F 1 (((startP_F 1 (updI (updI (fun _ => 0) 0 1) 1 4) ([(updI (updI (updI (fun _ => 0) 0 1) 1 4) 2 2), (updI (updI (updI (fun _ => 0) 0 2) 1 7) 2 1)])).1)[0]!) 7 ([(updI (updI (updI (fun _ => 0) 0 1) 1 4) 2 2), (updI (updI (updI (fun _ => 0) 0 2) 1 7) 2 1)])).1).length : Int) = 1)))) || (!(decide (((goP_F 1 (((startP_F 1 (updI (updI (fun _ => 0) 0 1) 1 4) ([(updI (updI (updI (fun _ => 0) 0 1) 1 4) 2 2), (updI (updI (updI (fun _ => 0) 0 2) 1 7) 2 1)])).1)[0]!) 7 ([(updI (updI (updI (fun _ => 0) 0 1) 1 4) 2 2), (updI (updI (updI (fun _ => 0) 0 2) 1 7) 2 1)])).1)[0]! 11 = 2)))) || (!(decide (((goP_F 1 (((startP_F 1 (updI (updI (fun _ => 0) 0 1) 1 4) ([(updI (updI (updI (fun _ => 0) 0 1) 1 4) 2 2), (updI (updI (updI (fun _ => 0) 0 2) 1 7) 2 1)])).1)[0]!) 7 ([(updI (updI (updI (fun _ => 0) 0 1) 1 4) 2 2), (updI (updI (updI (fun _ => 0) 0 2) 1 7) 2 1)])).1)[0]! 9 = 1)))) || (!((back_F (((goP_F 1 (((startP_F 1 (updI (updI (fun _ => 0) 0 1) 1 4) ([(updI (updI (updI (fun _ => 0) 0 1) 1 4) 2 2), (updI (updI (updI (fun _ => 0) 0 2) 1 7) 2 1)])).1)[0]!) 7 ([(updI (updI (updI (fun _ => 0) 0 1) 1 4) 2 2), (updI (updI (updI (fun _ => 0) 0 2) 1 7) 2 1)])).1)[0]!))))) = true) := bne' hq17
          rw [if_neg hp17] at h
          refine xw_cond_f rfl rfl (xw_skip (xq_then (xw_seq (xw_region ?_))))
          refine xq rfl trivial (o_mv rfl) ?_
          obtain ⟨ho18, h⟩ := h
          refine xq rfl trivial (o_ixL el41 rfl rfl (fun w hw => (hJs9.sl hw (Pull.sub (.here _ _)))) rfl ho18) ?_
          refine xq rfl trivial (o_ldLI rfl ts29 rfl (fun w hw => (hJs9.sl hw (Pull.sub (.here _ _)))) (toNat_lt ho18) rfl) ?_
          refine xcallq rfl trivial kf10 rfl (fun w1 hw1 => victim_c _ w1) ?_
          refine xq rfl trivial (o_mv rfl) ?_
          refine xq rfl trivial (o_ext rfl rfl) ?_
          refine xq rfl trivial (o_ext rfl rfl) ?_
          refine xq rfl trivial (o_as rfl) ?_
          refine xq rfl trivial (o_as rfl) ?_
          refine xo_nil (xq_then (xw_seq ?_))
          refine xw_cut [] ln [(0, .bool ((decide ((victim_F (((goP_F 1 (((startP_F 1 (updI (updI (fun _ => 0) 0 1) 1 4) ([(updI (updI (updI (fun _ => 0) 0 1) 1 4) 2 2), (updI (updI (updI (fun _ => 0) 0 2) 1 7) 2 1)])).1)[0]!) 7 ([(updI (updI (updI (fun _ => 0) 0 1) 1 4) 2 2), (updI (updI (updI (fun _ => 0) 0 2) 1 7) 2 1)])).1)[0]!)).1 = 2)) && (decide ((victim_F (((goP_F 1 (((startP_F 1 (updI (updI (fun _ => 0) 0 1) 1 4) ([(updI (updI (updI (fun _ => 0) 0 1) 1 4) 2 2), (updI (updI (updI (fun _ => 0) 0 2) 1 7) 2 1)])).1)[0]!) 7 ([(updI (updI (updI (fun _ => 0) 0 1) 1 4) 2 2), (updI (updI (updI (fun _ => 0) 0 2) 1 7) 2 1)])).1)[0]!)).2 = 0))))] ?_ ?_
          · refine xw_region ?_
            refine xq rfl trivial (o_mv rfl) ?_
            refine xq rfl trivial (o_eql rfl rfl) ?_
            refine xq rfl trivial (o_mv rfl) ?_
            refine xo_bool 76 rfl (fun hg19 => ?_) (fun hg19 => ?_)
            · have hq19 : (decide ((victim_F (((goP_F 1 (((startP_F 1 (updI (updI (fun _ => 0) 0 1) 1 4) ([(updI (updI (updI (fun _ => 0) 0 1) 1 4) 2 2), (updI (updI (updI (fun _ => 0) 0 2) 1 7) 2 1)])).1)[0]!) 7 ([(updI (updI (updI (fun _ => 0) 0 1) 1 4) 2 2), (updI (updI (updI (fun _ => 0) 0 2) 1 7) 2 1)])).1)[0]!)).1 = 2)) = true := hg19
              have hp19 : (victim_F (((goP_F 1 (((startP_F 1 (updI (updI (fun _ => 0) 0 1) 1 4) ([(updI (updI (updI (fun _ => 0) 0 1) 1 4) 2 2), (updI (updI (updI (fun _ => 0) 0 2) 1 7) 2 1)])).1)[0]!) 7 ([(updI (updI (updI (fun _ => 0) 0 1) 1 4) 2 2), (updI (updI (updI (fun _ => 0) 0 2) 1 7) 2 1)])).1)[0]!)).1 = 2 := of_decide_eq_true hq19
              refine xq rfl ⟨_, rfl, rfl⟩ (o_mv rfl) ?_
              refine xq rfl ⟨_, rfl, rfl⟩ (o_eqE Try.underlying34 rfl (fun _ => rfl) rfl rfl) ?_
              refine xq rfl trivial (o_pick_t rfl rfl) ?_
              refine xq rfl trivial (o_as rfl) ?_
              refine xo_nil ?_
              exact xq_cut ((lce rfl (by first | rfl | (simp only [hq6, hq17, hq19, if_neg hp6, if_neg hp17, if_pos hp19, bS]; done) | (simp only [hq6, hq17, hq19, if_neg hp6, if_neg hp17, if_pos hp19, bS, reduceIte, Bool.false_eq_true]; done) | (simp [hp6, hp17, hp19]; done) | (simp_all; done)) ln)) (fun _ h => h)
            · have hq19 : (decide ((victim_F (((goP_F 1 (((startP_F 1 (updI (updI (fun _ => 0) 0 1) 1 4) ([(updI (updI (updI (fun _ => 0) 0 1) 1 4) 2 2), (updI (updI (updI (fun _ => 0) 0 2) 1 7) 2 1)])).1)[0]!) 7 ([(updI (updI (updI (fun _ => 0) 0 1) 1 4) 2 2), (updI (updI (updI (fun _ => 0) 0 2) 1 7) 2 1)])).1)[0]!)).1 = 2)) = false := hg19
              have hp19 : ¬ ((victim_F (((goP_F 1 (((startP_F 1 (updI (updI (fun _ => 0) 0 1) 1 4) ([(updI (updI (updI (fun _ => 0) 0 1) 1 4) 2 2), (updI (updI (updI (fun _ => 0) 0 2) 1 7) 2 1)])).1)[0]!) 7 ([(updI (updI (updI (fun _ => 0) 0 1) 1 4) 2 2), (updI (updI (updI (fun _ => 0) 0 2) 1 7) 2 1)])).1)[0]!)).1 = 2) := of_decide_eq_false hq19
              refine xs rfl ⟨_, _, rfl, rfl, rfl⟩ (xs rfl ⟨_, _, rfl, rfl, rfl⟩ ?_)
              refine xq rfl trivial (o_pick_f rfl rfl) ?_
              refine xq rfl trivial (o_as rfl) ?_
              refine xo_nil ?_
              exact xq_cut ((lce rfl (by first | rfl | (simp only [hq6, hq17, hq19, if_neg hp6, if_neg hp17, if_neg hp19, bS]; done) | (simp only [hq6, hq17, hq19, if_neg hp6, if_neg hp17, if_neg hp19, bS, reduceIte, Bool.false_eq_true]; done) | (simp [hp6, hp17, hp19]; done) | (simp_all; done)) ln)) (fun _ h => h)
          · refine xq_then (xw_ret ?_)
            subst h
            exact con_ret1 (.inl rfl) Try.results8 rfl [] (Kp.st (Kp.segNew (Cov.fresh hcBs9) (Kp.segNew (Cov.fresh hcBs2) (Kp.new hb10 Kp.nil)))) (⟨rfl, rfl⟩)

theorem alive12_c (w : World) (hP : alive12_P) : Con Try.prog 8 #[] w (Is (.bool alive12_F) []) :=
  alive12_con w _ (alive12_ok hP)

end Go.Proofs.Ytjmfnohbeoiddaa
