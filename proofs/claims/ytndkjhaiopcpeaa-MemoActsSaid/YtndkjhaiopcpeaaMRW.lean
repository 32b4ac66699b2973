/- The code answers as the relations say. -/
import Derived.Test.YtndkjhaiopcpeaaTab
import Derived.Test.YtndkjhaiopcpeaaMRS
import Derived.Test.YtndkjhaiopcpeaaMBW
set_option maxHeartbeats 1000000
set_option linter.unusedVariables false
set_option linter.unusedSimpArgs false
set_option maxRecDepth 100000
namespace Go.Proofs.Ytndkjhaiopcpeaa
open Go Go.E

theorem ref02Ok_con (r0 : (Nat → Int)) (w : World) (r : Bool) (h : ref02Ok_S r0 r) : Con Try.prog 31 #[AI 2 r0] w (Is (.bool r) []) := by
  unfold ref02Ok_S at h
  refine con_enter (n := 21) [(0, _)] Try.func31 rfl Try.ntmps31 rfl (lac rfl lan) ?_
  refine xw_seq (xw_region ?_)
  refine xo rfl trivial (o_boxA rfl) ?_
  rintro _ _ ⟨b1, hb1, rfl, rfl⟩
  refine xq rfl trivial (o_as rfl) ?_
  refine xo_nil (xq_then (xw_seq ?_))
  refine xw_cut [] ln [(2, .bool ((((decide (0 < r0 0)) && (decide (r0 0 < 251))) && (decide ((-1) < r0 1))) && (decide (r0 1 < 251))))] ?_ ?_
  · refine xw_region ?_
    first | refine xq rfl trivial (o_fa0 fl30_0 rfl) ?_ | refine xq rfl trivial (o_fa fl30_0 rfl) ?_
    refine xq rfl trivial (o_ldI (v := r0 0) rfl ts3 (List.Mem.head _) (by omega) rfl) ?_
    refine xq rfl trivial (o_gtr rfl rfl) ?_
    refine xq rfl trivial (o_mv rfl) ?_
    refine xo_bool 6 rfl (fun hg1 => ?_) (fun hg1 => ?_)
    · have hq1 : (decide (0 < r0 0)) = true := hg1
      have hp1 : 0 < r0 0 := of_decide_eq_true hq1
      first | refine xq rfl ⟨_, rfl, rfl⟩ (o_fa0 fl30_0 rfl) ?_ | refine xq rfl ⟨_, rfl, rfl⟩ (o_fa fl30_0 rfl) ?_
      refine xq rfl ⟨_, rfl, rfl⟩ (o_ldI (v := r0 0) rfl ts3 (List.Mem.head _) (by omega) rfl) ?_
      refine xq rfl ⟨_, rfl, rfl⟩ (o_lss rfl rfl) ?_
      refine xq rfl trivial (o_pick_t rfl rfl) ?_
      refine xq rfl trivial (o_mv rfl) ?_
      refine xo_bool 11 rfl (fun hg2 => ?_) (fun hg2 => ?_)
      · have hq2 : (decide (r0 0 < 251)) = true := hg2
        have hp2 : r0 0 < 251 := of_decide_eq_true hq2
        first | refine xq rfl ⟨_, rfl, rfl⟩ (o_fa0 fl30_1 rfl) ?_ | refine xq rfl ⟨_, rfl, rfl⟩ (o_fa fl30_1 rfl) ?_
        refine xq rfl ⟨_, rfl, rfl⟩ (o_ldI (v := r0 1) rfl ts3 (List.Mem.head _) (by omega) rfl) ?_
        refine xq rfl ⟨_, rfl, rfl⟩ (o_gtr rfl rfl) ?_
        refine xq rfl trivial (o_pick_t rfl rfl) ?_
        refine xq rfl trivial (o_mv rfl) ?_
        refine xo_bool 16 rfl (fun hg3 => ?_) (fun hg3 => ?_)
        · have hq3 : (decide ((-1) < r0 1)) = true := hg3
          have hp3 : (-1) < r0 1 := of_decide_eq_true hq3
          first | refine xq rfl ⟨_, rfl, rfl⟩ (o_fa0 fl30_1 rfl) ?_ | refine xq rfl ⟨_, rfl, rfl⟩ (o_fa fl30_1 rfl) ?_
          refine xq rfl ⟨_, rfl, rfl⟩ (o_ldI (v := r0 1) rfl ts3 (List.Mem.head _) (by omega) rfl) ?_
          refine xq rfl ⟨_, rfl, rfl⟩ (o_lss rfl rfl) ?_
          refine xq rfl trivial (o_pick_t rfl rfl) ?_
          refine xq rfl trivial (o_as rfl) ?_
          refine xo_nil ?_
          exact xq_cut ((lce rfl (by first | rfl | (simp only [hq1, hq2, hq3, if_pos hp1, if_pos hp2, if_pos hp3, bS]; done) | (simp only [hq1, hq2, hq3, if_pos hp1, if_pos hp2, if_pos hp3, bS, reduceIte, Bool.false_eq_true]; done) | (simp [hp1, hp2, hp3]; done) | (simp_all; done)) ln)) (fun _ h => h)
        · have hq3 : (decide ((-1) < r0 1)) = false := hg3
          have hp3 : ¬ ((-1) < r0 1) := of_decide_eq_false hq3
          refine xs rfl ⟨_, _, rfl, rfl, rfl⟩ (xs rfl ⟨_, _, rfl, rfl, rfl⟩ (xs rfl ⟨_, _, rfl, rfl, rfl⟩ ?_))
          refine xq rfl trivial (o_pick_f rfl rfl) ?_
          refine xq rfl trivial (o_as rfl) ?_
          refine xo_nil ?_
          exact xq_cut ((lce rfl (by first | rfl | (simp only [hq1, hq2, hq3, if_pos hp1, if_pos hp2, if_neg hp3, bS]; done) | (simp only [hq1, hq2, hq3, if_pos hp1, if_pos hp2, if_neg hp3, bS, reduceIte, Bool.false_eq_true]; done) | (simp [hp1, hp2, hp3]; done) | (simp_all; done)) ln)) (fun _ h => h)
      · have hq2 : (decide (r0 0 < 251)) = false := hg2
        have hp2 : ¬ (r0 0 < 251) := of_decide_eq_false hq2
        refine xs rfl ⟨_, _, rfl, rfl, rfl⟩ (xs rfl ⟨_, _, rfl, rfl, rfl⟩ (xs rfl ⟨_, _, rfl, rfl, rfl⟩ ?_))
        refine xq rfl trivial (o_pick_f rfl rfl) ?_
        refine xq rfl trivial (o_mv rfl) ?_
        refine xs rfl ⟨_, _, rfl, rfl, rfl⟩ (xs rfl ⟨_, _, rfl, rfl, rfl⟩ (xs rfl ⟨_, _, rfl, rfl, rfl⟩ ?_))
        refine xq rfl trivial (o_pick_f rfl rfl) ?_
        refine xq rfl trivial (o_as rfl) ?_
        refine xo_nil ?_
        exact xq_cut ((lce rfl (by first | rfl | (simp only [hq1, hq2, if_pos hp1, if_neg hp2, bS]; done) | (simp only [hq1, hq2, if_pos hp1, if_neg hp2, bS, reduceIte, Bool.false_eq_true]; done) | (simp [hp1, hp2]; done) | (simp_all; done)) ln)) (fun _ h => h)
    · have hq1 : (decide (0 < r0 0)) = false := hg1
      have hp1 : ¬ (0 < r0 0) := of_decide_eq_false hq1
      refine xs rfl ⟨_, _, rfl, rfl, rfl⟩ (xs rfl ⟨_, _, rfl, rfl, rfl⟩ (xs rfl ⟨_, _, rfl, rfl, rfl⟩ ?_))
      refine xq rfl trivial (o_pick_f rfl rfl) ?_
      refine xq rfl trivial (o_mv rfl) ?_
      refine xs rfl ⟨_, _, rfl, rfl, rfl⟩ (xs rfl ⟨_, _, rfl, rfl, rfl⟩ (xs rfl ⟨_, _, rfl, rfl, rfl⟩ ?_))
      refine xq rfl trivial (o_pick_f rfl rfl) ?_
      refine xq rfl trivial (o_mv rfl) ?_
      refine xs rfl ⟨_, _, rfl, rfl, rfl⟩ (xs rfl ⟨_, _, rfl, rfl, rfl⟩ (xs rfl ⟨_, _, rfl, rfl, rfl⟩ ?_))
      refine xq rfl trivial (o_pick_f rfl rfl) ?_
      refine xq rfl trivial (o_as rfl) ?_
      refine xo_nil ?_
      exact xq_cut ((lce rfl (by first | rfl | (simp only [hq1, if_neg hp1, bS]; done) | (simp only [hq1, if_neg hp1, bS, reduceIte, Bool.false_eq_true]; done) | (simp [hp1]; done) | (simp_all; done)) ln)) (fun _ h => h)
  · refine xq_then (xw_ret ?_)
    subst h
    exact con_ret1 (.inl rfl) Try.results31 rfl [] (Kp.st (Kp.new hb1 Kp.nil)) (⟨rfl, rfl⟩)

theorem ref02Ok_c (r0 : (Nat → Int)) (w : World) : Con Try.prog 31 #[AI 2 r0] w (Is (.bool (ref02Ok_F r0)) []) :=
  ref02Ok_con r0 w _ (ref02Ok_ok r0)

theorem number_con (n0 : Int) (w : World) (r : Bool) (h : number_S n0 r) : Con Try.prog 30 #[.int .i64 n0] w (Is (.bool r) []) := by
  unfold number_S at h
  refine con_enter (n := 9) [(0, _)] Try.func30 rfl Try.ntmps30 rfl (lac rfl lan) ?_
  refine xw_seq (xw_region ?_)
  refine xq rfl trivial (o_as rfl) ?_
  refine xo_nil (xq_then (xw_seq ?_))
  refine xw_cut [] ln [(2, .bool ((decide (0 < n0)) && (decide (n0 ≤ 1048576))))] ?_ ?_
  · refine xw_region ?_
    refine xq rfl trivial (o_mv rfl) ?_
    refine xq rfl trivial (o_gtr rfl rfl) ?_
    refine xq rfl trivial (o_mv rfl) ?_
    refine xo_bool 5 rfl (fun hg1 => ?_) (fun hg1 => ?_)
    · have hq1 : (decide (0 < n0)) = true := hg1
      have hp1 : 0 < n0 := of_decide_eq_true hq1
      refine xq rfl ⟨_, rfl, rfl⟩ (o_mv rfl) ?_
      refine xq rfl ⟨_, rfl, rfl⟩ (o_leq rfl rfl) ?_
      refine xq rfl trivial (o_pick_t rfl rfl) ?_
      refine xq rfl trivial (o_as rfl) ?_
      refine xo_nil ?_
      exact xq_cut ((lce rfl (by first | rfl | (simp only [hq1, if_pos hp1, bS]; done) | (simp only [hq1, if_pos hp1, bS, reduceIte, Bool.false_eq_true]; done) | (simp [hp1]; done) | (simp_all; done)) ln)) (fun _ h => h)
    · have hq1 : (decide (0 < n0)) = false := hg1
      have hp1 : ¬ (0 < n0) := of_decide_eq_false hq1
      refine xs rfl ⟨_, _, rfl, rfl, rfl⟩ (xs rfl ⟨_, _, rfl, rfl, rfl⟩ ?_)
      refine xq rfl trivial (o_pick_f rfl rfl) ?_
      refine xq rfl trivial (o_as rfl) ?_
      refine xo_nil ?_
      exact xq_cut ((lce rfl (by first | rfl | (simp only [hq1, if_neg hp1, bS]; done) | (simp only [hq1, if_neg hp1, bS, reduceIte, Bool.false_eq_true]; done) | (simp [hp1]; done) | (simp_all; done)) ln)) (fun _ h => h)
  · refine xq_then (xw_ret ?_)
    subst h
    exact con_ret1 (.inl rfl) Try.results30 rfl [] (fun _ h => h) (⟨rfl, rfl⟩)

theorem number_c (n0 : Int) (w : World) : Con Try.prog 30 #[.int .i64 n0] w (Is (.bool (number_F n0)) []) :=
  number_con n0 w _ (number_ok n0)

theorem ref04Ok_con (m0 : (Nat → Int)) (w : World) (r : Bool) (h : ref04Ok_S m0 r) : Con Try.prog 24 #[AI 28 m0] w (Is (.bool r) []) := by
  unfold ref04Ok_S at h
  refine con_enter (n := 267) [(0, _)] Try.func24 rfl Try.ntmps24 rfl (lac rfl lan) ?_
  refine xw_seq (xw_region ?_)
  refine xo rfl trivial (o_boxA rfl) ?_
  rintro _ _ ⟨b1, hb1, rfl, rfl⟩
  refine xq rfl trivial (o_as rfl) ?_
  refine xo_nil (xq_then (xw_seq (xw_seq ?_)))
  refine xw_cut [(1, _)] (lc rfl ln) [(17, .bool ((decide (m0 0 < 1)) || (decide (11 < m0 0))))] ?_ ?_
  · refine xw_region ?_
    first | refine xq rfl trivial (o_fa0 fl34_0 rfl) ?_ | refine xq rfl trivial (o_fa fl34_0 rfl) ?_
    refine xq rfl trivial (o_ldI (v := m0 0) rfl ts3 (List.Mem.head _) (by omega) rfl) ?_
    refine xq rfl trivial (o_lss rfl rfl) ?_
    refine xq rfl trivial (o_mv rfl) ?_
    refine xo_bool 13 rfl (fun hg1 => ?_) (fun hg1 => ?_)
    · have hq1 : (decide (m0 0 < 1)) = true := hg1
      have hp1 : m0 0 < 1 := of_decide_eq_true hq1
      refine xs rfl ⟨_, _, rfl, rfl, rfl⟩ (xs rfl ⟨_, _, rfl, rfl, rfl⟩ (xs rfl ⟨_, _, rfl, rfl, rfl⟩ ?_))
      refine xq rfl trivial (o_pick_t rfl rfl) ?_
      refine xo_nil ?_
      exact xq_cut ((lce rfl (by first | rfl | (simp only [hq1, if_pos hp1, bS]; done) | (simp only [hq1, if_pos hp1, bS, reduceIte, Bool.false_eq_true]; done) | (simp [hp1]; done) | (simp_all; done)) (lc rfl ln))) (fun _ h => h)
    · have hq1 : (decide (m0 0 < 1)) = false := hg1
      have hp1 : ¬ (m0 0 < 1) := of_decide_eq_false hq1
      first | refine xq rfl ⟨_, rfl, rfl⟩ (o_fa0 fl34_0 rfl) ?_ | refine xq rfl ⟨_, rfl, rfl⟩ (o_fa fl34_0 rfl) ?_
      refine xq rfl ⟨_, rfl, rfl⟩ (o_ldI (v := m0 0) rfl ts3 (List.Mem.head _) (by omega) rfl) ?_
      refine xq rfl ⟨_, rfl, rfl⟩ (o_gtr rfl rfl) ?_
      refine xq rfl trivial (o_pick_f rfl rfl) ?_
      refine xo_nil ?_
      exact xq_cut ((lce rfl (by first | rfl | (simp only [hq1, if_neg hp1, bS]; done) | (simp only [hq1, if_neg hp1, bS, reduceIte, Bool.false_eq_true]; done) | (simp [hp1]; done) | (simp_all; done)) (lc rfl ln))) (fun _ h => h)
  · refine xq_then ?_
    refine xw_bool 17 rfl (fun hc2 => ?_) (fun hc2 => ?_)
    · have hq2 : ((decide (m0 0 < 1)) || (decide (11 < m0 0))) = true := hc2
      have hp2 : ((decide (m0 0 < 1)) || (decide (11 < m0 0))) = true := hq2
      rw [if_pos hp2] at h
      refine xw_cond_t rfl rfl (xw_seq (xw_region ?_))
      refine xq rfl trivial (o_as rfl) ?_
      refine xo_nil (xq_then (xw_ret (xq_then_ret ?_)))
      subst h
      exact con_ret1 (.inl rfl) Try.results24 rfl [] (Kp.st (Kp.new hb1 Kp.nil)) (⟨rfl, rfl⟩)
    · have hq2 : ((decide (m0 0 < 1)) || (decide (11 < m0 0))) = false := hc2
      have hp2 : ¬ (((decide (m0 0 < 1)) || (decide (11 < m0 0))) = true) := bne' hq2
      rw [if_neg hp2] at h
      refine xw_cond_f rfl rfl (xw_skip (xq_then (xw_seq ?_)))
      refine xw_cut [(1, _)] (lc rfl ln) [(3, .bool (((decide (m0 1 = 0)) && (decide (1 ≤ m0 2))) && (decide (m0 2 ≤ 64))))] ?_ ?_
      · refine xw_region ?_
        first | refine xq rfl trivial (o_fa0 fl34_1 rfl) ?_ | refine xq rfl trivial (o_fa fl34_1 rfl) ?_
        refine xq rfl trivial (o_ldI (v := m0 1) rfl ts3 (List.Mem.head _) (by omega) rfl) ?_
        refine xq rfl trivial (o_eql rfl rfl) ?_
        refine xq rfl trivial (o_mv rfl) ?_
        refine xo_bool 21 rfl (fun hg3 => ?_) (fun hg3 => ?_)
        · have hq3 : (decide (m0 1 = 0)) = true := hg3
          have hp3 : m0 1 = 0 := of_decide_eq_true hq3
          first | refine xq rfl ⟨_, rfl, rfl⟩ (o_fa0 fl34_2 rfl) ?_ | refine xq rfl ⟨_, rfl, rfl⟩ (o_fa fl34_2 rfl) ?_
          refine xq rfl ⟨_, rfl, rfl⟩ (o_ldI (v := m0 2) rfl ts3 (List.Mem.head _) (by omega) rfl) ?_
          refine xq rfl ⟨_, rfl, rfl⟩ (o_geq rfl rfl) ?_
          refine xq rfl trivial (o_pick_t rfl rfl) ?_
          refine xq rfl trivial (o_mv rfl) ?_
          refine xo_bool 26 rfl (fun hg4 => ?_) (fun hg4 => ?_)
          · have hq4 : (decide (1 ≤ m0 2)) = true := hg4
            have hp4 : 1 ≤ m0 2 := of_decide_eq_true hq4
            first | refine xq rfl ⟨_, rfl, rfl⟩ (o_fa0 fl34_2 rfl) ?_ | refine xq rfl ⟨_, rfl, rfl⟩ (o_fa fl34_2 rfl) ?_
            refine xq rfl ⟨_, rfl, rfl⟩ (o_ldI (v := m0 2) rfl ts3 (List.Mem.head _) (by omega) rfl) ?_
            refine xq rfl ⟨_, rfl, rfl⟩ (o_leq rfl rfl) ?_
            refine xq rfl trivial (o_pick_t rfl rfl) ?_
            refine xq rfl trivial (o_as rfl) ?_
            refine xo_nil ?_
            exact xq_cut ((lce rfl (by first | rfl | (simp only [hq2, hq3, hq4, if_neg hp2, if_pos hp3, if_pos hp4, bS]; done) | (simp only [hq2, hq3, hq4, if_neg hp2, if_pos hp3, if_pos hp4, bS, reduceIte, Bool.false_eq_true]; done) | (simp [hp2, hp3, hp4]; done) | (simp_all; done)) (lc rfl ln))) (fun _ h => h)
          · have hq4 : (decide (1 ≤ m0 2)) = false := hg4
            have hp4 : ¬ (1 ≤ m0 2) := of_decide_eq_false hq4
            refine xs rfl ⟨_, _, rfl, rfl, rfl⟩ (xs rfl ⟨_, _, rfl, rfl, rfl⟩ (xs rfl ⟨_, _, rfl, rfl, rfl⟩ ?_))
            refine xq rfl trivial (o_pick_f rfl rfl) ?_
            refine xq rfl trivial (o_as rfl) ?_
            refine xo_nil ?_
            exact xq_cut ((lce rfl (by first | rfl | (simp only [hq2, hq3, hq4, if_neg hp2, if_pos hp3, if_neg hp4, bS]; done) | (simp only [hq2, hq3, hq4, if_neg hp2, if_pos hp3, if_neg hp4, bS, reduceIte, Bool.false_eq_true]; done) | (simp [hp2, hp3, hp4]; done) | (simp_all; done)) (lc rfl ln))) (fun _ h => h)
        · have hq3 : (decide (m0 1 = 0)) = false := hg3
          have hp3 : ¬ (m0 1 = 0) := of_decide_eq_false hq3
          refine xs rfl ⟨_, _, rfl, rfl, rfl⟩ (xs rfl ⟨_, _, rfl, rfl, rfl⟩ (xs rfl ⟨_, _, rfl, rfl, rfl⟩ ?_))
          refine xq rfl trivial (o_pick_f rfl rfl) ?_
          refine xq rfl trivial (o_mv rfl) ?_
          refine xs rfl ⟨_, _, rfl, rfl, rfl⟩ (xs rfl ⟨_, _, rfl, rfl, rfl⟩ (xs rfl ⟨_, _, rfl, rfl, rfl⟩ ?_))
          refine xq rfl trivial (o_pick_f rfl rfl) ?_
          refine xq rfl trivial (o_as rfl) ?_
          refine xo_nil ?_
          exact xq_cut ((lce rfl (by first | rfl | (simp only [hq2, hq3, if_neg hp2, if_neg hp3, bS]; done) | (simp only [hq2, hq3, if_neg hp2, if_neg hp3, bS, reduceIte, Bool.false_eq_true]; done) | (simp [hp2, hp3]; done) | (simp_all; done)) (lc rfl ln))) (fun _ h => h)
      · refine xq_then (xw_seq ?_)
        refine xw_cut [(1, _), (3, _)] (lc rfl (lc rfl ln)) [(4, .bool (((decide (m0 2 = 0)) && (decide (1 ≤ m0 1))) && (decide (m0 1 ≤ 64))))] ?_ ?_
        · refine xw_region ?_
          first | refine xq rfl trivial (o_fa0 fl34_2 rfl) ?_ | refine xq rfl trivial (o_fa fl34_2 rfl) ?_
          refine xq rfl trivial (o_ldI (v := m0 2) rfl ts3 (List.Mem.head _) (by omega) rfl) ?_
          refine xq rfl trivial (o_eql rfl rfl) ?_
          refine xq rfl trivial (o_mv rfl) ?_
          refine xo_bool 34 rfl (fun hg5 => ?_) (fun hg5 => ?_)
          · have hq5 : (decide (m0 2 = 0)) = true := hg5
            have hp5 : m0 2 = 0 := of_decide_eq_true hq5
            first | refine xq rfl ⟨_, rfl, rfl⟩ (o_fa0 fl34_1 rfl) ?_ | refine xq rfl ⟨_, rfl, rfl⟩ (o_fa fl34_1 rfl) ?_
            refine xq rfl ⟨_, rfl, rfl⟩ (o_ldI (v := m0 1) rfl ts3 (List.Mem.head _) (by omega) rfl) ?_
            refine xq rfl ⟨_, rfl, rfl⟩ (o_geq rfl rfl) ?_
            refine xq rfl trivial (o_pick_t rfl rfl) ?_
            refine xq rfl trivial (o_mv rfl) ?_
            refine xo_bool 39 rfl (fun hg6 => ?_) (fun hg6 => ?_)
            · have hq6 : (decide (1 ≤ m0 1)) = true := hg6
              have hp6 : 1 ≤ m0 1 := of_decide_eq_true hq6
              first | refine xq rfl ⟨_, rfl, rfl⟩ (o_fa0 fl34_1 rfl) ?_ | refine xq rfl ⟨_, rfl, rfl⟩ (o_fa fl34_1 rfl) ?_
              refine xq rfl ⟨_, rfl, rfl⟩ (o_ldI (v := m0 1) rfl ts3 (List.Mem.head _) (by omega) rfl) ?_
              refine xq rfl ⟨_, rfl, rfl⟩ (o_leq rfl rfl) ?_
              refine xq rfl trivial (o_pick_t rfl rfl) ?_
              refine xq rfl trivial (o_as rfl) ?_
              refine xo_nil ?_
              exact xq_cut ((lce rfl (by first | rfl | (simp only [hq2, hq5, hq6, if_neg hp2, if_pos hp5, if_pos hp6, bS]; done) | (simp only [hq2, hq5, hq6, if_neg hp2, if_pos hp5, if_pos hp6, bS, reduceIte, Bool.false_eq_true]; done) | (simp [hp2, hp5, hp6]; done) | (simp_all; done)) (lc rfl (lc rfl ln)))) (fun _ h => h)
            · have hq6 : (decide (1 ≤ m0 1)) = false := hg6
              have hp6 : ¬ (1 ≤ m0 1) := of_decide_eq_false hq6
              refine xs rfl ⟨_, _, rfl, rfl, rfl⟩ (xs rfl ⟨_, _, rfl, rfl, rfl⟩ (xs rfl ⟨_, _, rfl, rfl, rfl⟩ ?_))
              refine xq rfl trivial (o_pick_f rfl rfl) ?_
              refine xq rfl trivial (o_as rfl) ?_
              refine xo_nil ?_
              exact xq_cut ((lce rfl (by first | rfl | (simp only [hq2, hq5, hq6, if_neg hp2, if_pos hp5, if_neg hp6, bS]; done) | (simp only [hq2, hq5, hq6, if_neg hp2, if_pos hp5, if_neg hp6, bS, reduceIte, Bool.false_eq_true]; done) | (simp [hp2, hp5, hp6]; done) | (simp_all; done)) (lc rfl (lc rfl ln)))) (fun _ h => h)
          · have hq5 : (decide (m0 2 = 0)) = false := hg5
            have hp5 : ¬ (m0 2 = 0) := of_decide_eq_false hq5
            refine xs rfl ⟨_, _, rfl, rfl, rfl⟩ (xs rfl ⟨_, _, rfl, rfl, rfl⟩ (xs rfl ⟨_, _, rfl, rfl, rfl⟩ ?_))
            refine xq rfl trivial (o_pick_f rfl rfl) ?_
            refine xq rfl trivial (o_mv rfl) ?_
            refine xs rfl ⟨_, _, rfl, rfl, rfl⟩ (xs rfl ⟨_, _, rfl, rfl, rfl⟩ (xs rfl ⟨_, _, rfl, rfl, rfl⟩ ?_))
            refine xq rfl trivial (o_pick_f rfl rfl) ?_
            refine xq rfl trivial (o_as rfl) ?_
            refine xo_nil ?_
            exact xq_cut ((lce rfl (by first | rfl | (simp only [hq2, hq5, if_neg hp2, if_neg hp5, bS]; done) | (simp only [hq2, hq5, if_neg hp2, if_neg hp5, bS, reduceIte, Bool.false_eq_true]; done) | (simp [hp2, hp5]; done) | (simp_all; done)) (lc rfl (lc rfl ln)))) (fun _ h => h)
        · refine xq_then (xw_seq (xw_region ?_))
          refine xq rfl trivial (o_as rfl) ?_
          refine xo_nil (xq_then (xw_seq (xw_region ?_)))
          refine xq rfl trivial (o_mv rfl) ?_
          first | refine xq rfl trivial (o_fa0 fl34_0 rfl) ?_ | refine xq rfl trivial (o_fa fl34_0 rfl) ?_
          refine xq rfl trivial (o_ldI (v := m0 0) rfl ts3 (List.Mem.head _) (by omega) rfl) ?_
          obtain ⟨ho7, h⟩ := h
          refine xq rfl trivial (o_sub rfl rfl rfl ho7) ?_
          obtain ⟨ho8, h⟩ := h
          refine xq rfl trivial (o_ixStr Try.underlying9 rfl rfl ho8) ?_
          refine xq rfl trivial (o_as rfl) ?_
          refine xo_nil (xq_then (xw_seq (xw_seq ?_)))
          refine xw_cut [(1, _)] (lc rfl ln) [(70, .bool ((((decide (strAt (⟨#[111, 98, 98, 111, 98, 111, 98, 111, 98, 98, 101]⟩ : ByteArray) ((m0 0) - 1) = 111)) && (!(((decide (m0 1 = 0)) && (decide (1 ≤ m0 2))) && (decide (m0 2 ≤ 64))))) || ((decide (strAt (⟨#[111, 98, 98, 111, 98, 111, 98, 111, 98, 98, 101]⟩ : ByteArray) ((m0 0) - 1) = 98)) && (!(((decide (m0 2 = 0)) && (decide (1 ≤ m0 1))) && (decide (m0 1 ≤ 64)))))) || ((!(((decide (m0 1 = 0)) && (decide (1 ≤ m0 2))) && (decide (m0 2 ≤ 64)))) && (!(((decide (m0 2 = 0)) && (decide (1 ≤ m0 1))) && (decide (m0 1 ≤ 64)))))))] ?_ ?_
          · refine xw_region ?_
            refine xq rfl trivial (o_mv rfl) ?_
            refine xq rfl trivial (o_eql rfl rfl) ?_
            refine xq rfl trivial (o_mv rfl) ?_
            refine xo_bool 51 rfl (fun hg9 => ?_) (fun hg9 => ?_)
            · have hq9 : (decide (strAt (⟨#[111, 98, 98, 111, 98, 111, 98, 111, 98, 98, 101]⟩ : ByteArray) ((m0 0) - 1) = 111)) = true := hg9
              have hp9 : strAt (⟨#[111, 98, 98, 111, 98, 111, 98, 111, 98, 98, 101]⟩ : ByteArray) ((m0 0) - 1) = 111 := of_decide_eq_true hq9
              refine xq rfl ⟨_, rfl, rfl⟩ (o_mv rfl) ?_
              refine xq rfl ⟨_, rfl, rfl⟩ (o_not rfl) ?_
              refine xq rfl trivial (o_pick_t rfl rfl) ?_
              refine xq rfl trivial (o_mv rfl) ?_
              refine xo_bool 55 rfl (fun hg10 => ?_) (fun hg10 => ?_)
              · have hq10 : (((decide (m0 1 = 0)) && (decide (1 ≤ m0 2))) && (decide (m0 2 ≤ 64))) = false := (bnT hg10)
                have hp10 : ¬ ((((decide (m0 1 = 0)) && (decide (1 ≤ m0 2))) && (decide (m0 2 ≤ 64))) = true) := bne' hq10
                refine xs rfl ⟨_, _, rfl, rfl, rfl⟩ (xs rfl ⟨_, _, rfl, rfl, rfl⟩ (xs rfl ⟨_, _, rfl, rfl, rfl⟩ (xs rfl ⟨_, _, rfl, rfl, rfl⟩ (xs rfl ⟨_, _, rfl, rfl, rfl⟩ (xs rfl ⟨_, _, rfl, rfl, rfl⟩ ?_)))))
                refine xq rfl trivial (o_pick_t rfl rfl) ?_
                refine xq rfl trivial (o_mv rfl) ?_
                refine xs rfl ⟨_, _, rfl, rfl, rfl⟩ (xs rfl ⟨_, _, rfl, rfl, rfl⟩ (xs rfl ⟨_, _, rfl, rfl, rfl⟩ (xs rfl ⟨_, _, rfl, rfl, rfl⟩ (xs rfl ⟨_, _, rfl, rfl, rfl⟩ (xs rfl ⟨_, _, rfl, rfl, rfl⟩ ?_)))))
                refine xq rfl trivial (o_pick_t rfl rfl) ?_
                refine xo_nil ?_
                exact xq_cut ((lce rfl (by first | rfl | (simp only [hq2, hq9, hq10, if_neg hp2, if_pos hp9, if_neg hp10, bS]; done) | (simp only [hq2, hq9, hq10, if_neg hp2, if_pos hp9, if_neg hp10, bS, reduceIte, Bool.false_eq_true]; done) | (simp [hp2, hp9, hp10]; done) | (simp_all; done)) (lc rfl ln))) (fun _ h => h)
              · have hq10 : (((decide (m0 1 = 0)) && (decide (1 ≤ m0 2))) && (decide (m0 2 ≤ 64))) = true := (bnF hg10)
                have hp10 : (((decide (m0 1 = 0)) && (decide (1 ≤ m0 2))) && (decide (m0 2 ≤ 64))) = true := hq10
                refine xq rfl ⟨_, rfl, rfl⟩ (o_mv rfl) ?_
                refine xq rfl ⟨_, rfl, rfl⟩ (o_eql rfl rfl) ?_
                refine xq rfl ⟨_, rfl, rfl⟩ (o_mv rfl) ?_
                refine xo_val 58 rfl (v' := .bool false) (congrArg Value.bool (by simp; omega)) ?_
                refine xs rfl ⟨_, _, rfl, rfl, rfl⟩ (xs rfl ⟨_, _, rfl, rfl, rfl⟩ ?_)
                refine xq rfl ⟨_, rfl, rfl⟩ (o_pick_f rfl rfl) ?_
                refine xq rfl trivial (o_pick_f rfl rfl) ?_
                refine xq rfl trivial (o_mv rfl) ?_
                refine xq rfl ⟨_, rfl, rfl⟩ (o_mv rfl) ?_
                refine xq rfl ⟨_, rfl, rfl⟩ (o_not rfl) ?_
                refine xq rfl ⟨_, rfl, rfl⟩ (o_mv rfl) ?_
                refine xo_val 66 rfl (v' := .bool false) (congrArg Value.bool (by simpa using hp10)) ?_
                refine xs rfl ⟨_, _, rfl, rfl, rfl⟩ (xs rfl ⟨_, _, rfl, rfl, rfl⟩ ?_)
                refine xq rfl ⟨_, rfl, rfl⟩ (o_pick_f rfl rfl) ?_
                refine xq rfl trivial (o_pick_f rfl rfl) ?_
                refine xo_nil ?_
                exact xq_cut ((lce rfl (by first | rfl | (simp only [hq2, hq9, hq10, if_neg hp2, if_pos hp9, if_pos hp10, bS]; done) | (simp only [hq2, hq9, hq10, if_neg hp2, if_pos hp9, if_pos hp10, bS, reduceIte, Bool.false_eq_true]; done) | (simp [hp2, hp9, hp10]; done) | (simp_all; done)) (lc rfl ln))) (fun _ h => h)
            · have hq9 : (decide (strAt (⟨#[111, 98, 98, 111, 98, 111, 98, 111, 98, 98, 101]⟩ : ByteArray) ((m0 0) - 1) = 111)) = false := hg9
              have hp9 : ¬ (strAt (⟨#[111, 98, 98, 111, 98, 111, 98, 111, 98, 98, 101]⟩ : ByteArray) ((m0 0) - 1) = 111) := of_decide_eq_false hq9
              refine xs rfl ⟨_, _, rfl, rfl, rfl⟩ (xs rfl ⟨_, _, rfl, rfl, rfl⟩ ?_)
              refine xq rfl trivial (o_pick_f rfl rfl) ?_
              refine xq rfl trivial (o_mv rfl) ?_
              refine xq rfl ⟨_, rfl, rfl⟩ (o_mv rfl) ?_
              refine xq rfl ⟨_, rfl, rfl⟩ (o_eql rfl rfl) ?_
              refine xq rfl ⟨_, rfl, rfl⟩ (o_mv rfl) ?_
              refine xo_bool 58 rfl (fun hg13 => ?_) (fun hg13 => ?_)
              · have hq13 : (decide (strAt (⟨#[111, 98, 98, 111, 98, 111, 98, 111, 98, 98, 101]⟩ : ByteArray) ((m0 0) - 1) = 98)) = true := hg13
                have hp13 : strAt (⟨#[111, 98, 98, 111, 98, 111, 98, 111, 98, 98, 101]⟩ : ByteArray) ((m0 0) - 1) = 98 := of_decide_eq_true hq13
                refine xq rfl ⟨_, rfl, rfl⟩ (o_mv rfl) ?_
                refine xq rfl ⟨_, rfl, rfl⟩ (o_not rfl) ?_
                refine xq rfl ⟨_, rfl, rfl⟩ (o_pick_t rfl rfl) ?_
                refine xq rfl trivial (o_pick_f rfl rfl) ?_
                refine xq rfl trivial (o_mv rfl) ?_
                refine xo_bool 63 rfl (fun hg14 => ?_) (fun hg14 => ?_)
                · have hq14 : (((decide (m0 2 = 0)) && (decide (1 ≤ m0 1))) && (decide (m0 1 ≤ 64))) = false := (bnT hg14)
                  have hp14 : ¬ ((((decide (m0 2 = 0)) && (decide (1 ≤ m0 1))) && (decide (m0 1 ≤ 64))) = true) := bne' hq14
                  refine xs rfl ⟨_, _, rfl, rfl, rfl⟩ (xs rfl ⟨_, _, rfl, rfl, rfl⟩ (xs rfl ⟨_, _, rfl, rfl, rfl⟩ (xs rfl ⟨_, _, rfl, rfl, rfl⟩ (xs rfl ⟨_, _, rfl, rfl, rfl⟩ (xs rfl ⟨_, _, rfl, rfl, rfl⟩ ?_)))))
                  refine xq rfl trivial (o_pick_t rfl rfl) ?_
                  refine xo_nil ?_
                  exact xq_cut ((lce rfl (by first | rfl | (simp only [hq2, hq9, hq13, hq14, if_neg hp2, if_neg hp9, if_pos hp13, if_neg hp14, bS]; done) | (simp only [hq2, hq9, hq13, hq14, if_neg hp2, if_neg hp9, if_pos hp13, if_neg hp14, bS, reduceIte, Bool.false_eq_true]; done) | (simp [hp2, hp9, hp13, hp14]; done) | (simp_all; done)) (lc rfl ln))) (fun _ h => h)
                · have hq14 : (((decide (m0 2 = 0)) && (decide (1 ≤ m0 1))) && (decide (m0 1 ≤ 64))) = true := (bnF hg14)
                  have hp14 : (((decide (m0 2 = 0)) && (decide (1 ≤ m0 1))) && (decide (m0 1 ≤ 64))) = true := hq14
                  refine xq rfl ⟨_, rfl, rfl⟩ (o_mv rfl) ?_
                  refine xq rfl ⟨_, rfl, rfl⟩ (o_not rfl) ?_
                  refine xq rfl ⟨_, rfl, rfl⟩ (o_mv rfl) ?_
                  refine xo_bool 66 rfl (fun hg15 => ?_) (fun hg15 => ?_)
                  · have hq15 : (((decide (m0 1 = 0)) && (decide (1 ≤ m0 2))) && (decide (m0 2 ≤ 64))) = false := (bnT hg15)
                    have hp15 : ¬ ((((decide (m0 1 = 0)) && (decide (1 ≤ m0 2))) && (decide (m0 2 ≤ 64))) = true) := bne' hq15
                    refine xq rfl ⟨_, rfl, rfl⟩ (o_mv rfl) ?_
                    refine xq rfl ⟨_, rfl, rfl⟩ (o_not rfl) ?_
                    refine xq rfl ⟨_, rfl, rfl⟩ (o_pick_t rfl rfl) ?_
                    refine xq rfl trivial (o_pick_f rfl rfl) ?_
                    refine xo_nil ?_
                    exact xq_cut ((lce rfl (by first | rfl | (simp only [hq2, hq9, hq13, hq14, hq15, if_neg hp2, if_neg hp9, if_pos hp13, if_pos hp14, if_neg hp15, bS]; done) | (simp only [hq2, hq9, hq13, hq14, hq15, if_neg hp2, if_neg hp9, if_pos hp13, if_pos hp14, if_neg hp15, bS, reduceIte, Bool.false_eq_true]; done) | (simp [hp2, hp9, hp13, hp14, hp15]; done) | (simp_all; done)) (lc rfl ln))) (fun _ h => h)
                  · have hq15 : (((decide (m0 1 = 0)) && (decide (1 ≤ m0 2))) && (decide (m0 2 ≤ 64))) = true := (bnF hg15)
                    have hp15 : (((decide (m0 1 = 0)) && (decide (1 ≤ m0 2))) && (decide (m0 2 ≤ 64))) = true := hq15
                    refine xs rfl ⟨_, _, rfl, rfl, rfl⟩ (xs rfl ⟨_, _, rfl, rfl, rfl⟩ ?_)
                    refine xq rfl ⟨_, rfl, rfl⟩ (o_pick_f rfl rfl) ?_
                    refine xq rfl trivial (o_pick_f rfl rfl) ?_
                    refine xo_nil ?_
                    exact xq_cut ((lce rfl (by first | rfl | (simp only [hq2, hq9, hq13, hq14, hq15, if_neg hp2, if_neg hp9, if_pos hp13, if_pos hp14, if_pos hp15, bS]; done) | (simp only [hq2, hq9, hq13, hq14, hq15, if_neg hp2, if_neg hp9, if_pos hp13, if_pos hp14, if_pos hp15, bS, reduceIte, Bool.false_eq_true]; done) | (simp [hp2, hp9, hp13, hp14, hp15]; done) | (simp_all; done)) (lc rfl ln))) (fun _ h => h)
              · have hq13 : (decide (strAt (⟨#[111, 98, 98, 111, 98, 111, 98, 111, 98, 98, 101]⟩ : ByteArray) ((m0 0) - 1) = 98)) = false := hg13
                have hp13 : ¬ (strAt (⟨#[111, 98, 98, 111, 98, 111, 98, 111, 98, 98, 101]⟩ : ByteArray) ((m0 0) - 1) = 98) := of_decide_eq_false hq13
                refine xs rfl ⟨_, _, rfl, rfl, rfl⟩ (xs rfl ⟨_, _, rfl, rfl, rfl⟩ ?_)
                refine xq rfl ⟨_, rfl, rfl⟩ (o_pick_f rfl rfl) ?_
                refine xq rfl trivial (o_pick_f rfl rfl) ?_
                refine xq rfl trivial (o_mv rfl) ?_
                refine xq rfl ⟨_, rfl, rfl⟩ (o_mv rfl) ?_
                refine xq rfl ⟨_, rfl, rfl⟩ (o_not rfl) ?_
                refine xq rfl ⟨_, rfl, rfl⟩ (o_mv rfl) ?_
                refine xo_bool 66 rfl (fun hg16 => ?_) (fun hg16 => ?_)
                · have hq16 : (((decide (m0 1 = 0)) && (decide (1 ≤ m0 2))) && (decide (m0 2 ≤ 64))) = false := (bnT hg16)
                  have hp16 : ¬ ((((decide (m0 1 = 0)) && (decide (1 ≤ m0 2))) && (decide (m0 2 ≤ 64))) = true) := bne' hq16
                  refine xq rfl ⟨_, rfl, rfl⟩ (o_mv rfl) ?_
                  refine xq rfl ⟨_, rfl, rfl⟩ (o_not rfl) ?_
                  refine xq rfl ⟨_, rfl, rfl⟩ (o_pick_t rfl rfl) ?_
                  refine xq rfl trivial (o_pick_f rfl rfl) ?_
                  refine xo_nil ?_
                  exact xq_cut ((lce rfl (by first | rfl | (simp only [hq2, hq9, hq13, hq16, if_neg hp2, if_neg hp9, if_neg hp13, if_neg hp16, bS]; done) | (simp only [hq2, hq9, hq13, hq16, if_neg hp2, if_neg hp9, if_neg hp13, if_neg hp16, bS, reduceIte, Bool.false_eq_true]; done) | (simp [hp2, hp9, hp13, hp16]; done) | (simp_all; done)) (lc rfl ln))) (fun _ h => h)
                · have hq16 : (((decide (m0 1 = 0)) && (decide (1 ≤ m0 2))) && (decide (m0 2 ≤ 64))) = true := (bnF hg16)
                  have hp16 : (((decide (m0 1 = 0)) && (decide (1 ≤ m0 2))) && (decide (m0 2 ≤ 64))) = true := hq16
                  refine xs rfl ⟨_, _, rfl, rfl, rfl⟩ (xs rfl ⟨_, _, rfl, rfl, rfl⟩ ?_)
                  refine xq rfl ⟨_, rfl, rfl⟩ (o_pick_f rfl rfl) ?_
                  refine xq rfl trivial (o_pick_f rfl rfl) ?_
                  refine xo_nil ?_
                  exact xq_cut ((lce rfl (by first | rfl | (simp only [hq2, hq9, hq13, hq16, if_neg hp2, if_neg hp9, if_neg hp13, if_pos hp16, bS]; done) | (simp only [hq2, hq9, hq13, hq16, if_neg hp2, if_neg hp9, if_neg hp13, if_pos hp16, bS, reduceIte, Bool.false_eq_true]; done) | (simp [hp2, hp9, hp13, hp16]; done) | (simp_all; done)) (lc rfl ln))) (fun _ h => h)
          · refine xq_then ?_
            refine xw_bool 70 rfl (fun hc17 => ?_) (fun hc17 => ?_)
            · have hq17 : ((((decide (strAt (⟨#[111, 98, 98, 111, 98, 111, 98, 111, 98, 98, 101]⟩ : ByteArray) ((m0 0) - 1) = 111)) && (!(((decide (m0 1 = 0)) && (decide (1 ≤ m0 2))) && (decide (m0 2 ≤ 64))))) || ((decide (strAt (⟨#[111, 98, 98, 111, 98, 111, 98, 111, 98, 98, 101]⟩ : ByteArray) ((m0 0) - 1) = 98)) && (!(((decide (m0 2 = 0)) && (decide (1 ≤ m0 1))) && (decide (m0 1 ≤ 64)))))) || ((!(((decide (m0 1 = 0)) && (decide (1 ≤ m0 2))) && (decide (m0 2 ≤ 64)))) && (!(((decide (m0 2 = 0)) && (decide (1 ≤ m0 1))) && (decide (m0 1 ≤ 64)))))) = true := hc17
              have hp17 : ((((decide (strAt (⟨#[111, 98, 98, 111, 98, 111, 98, 111, 98, 98, 101]⟩ : ByteArray) ((m0 0) - 1) = 111)) && (!(((decide (m0 1 = 0)) && (decide (1 ≤ m0 2))) && (decide (m0 2 ≤ 64))))) || ((decide (strAt (⟨#[111, 98, 98, 111, 98, 111, 98, 111, 98, 98, 101]⟩ : ByteArray) ((m0 0) - 1) = 98)) && (!(((decide (m0 2 = 0)) && (decide (1 ≤ m0 1))) && (decide (m0 1 ≤ 64)))))) || ((!(((decide (m0 1 = 0)) && (decide (1 ≤ m0 2))) && (decide (m0 2 ≤ 64)))) && (!(((decide (m0 2 = 0)) && (decide (1 ≤ m0 1))) && (decide (m0 1 ≤ 64)))))) = true := hq17
              rw [if_pos hp17] at h
              refine xw_cond_t rfl rfl (xw_seq (xw_region ?_))
              refine xq rfl trivial (o_as rfl) ?_
              refine xo_nil (xq_then (xw_ret (xq_then_ret ?_)))
              subst h
              exact con_ret1 (.inl rfl) Try.results24 rfl [] (Kp.st (Kp.new hb1 Kp.nil)) (⟨rfl, rfl⟩)
            · have hq17 : ((((decide (strAt (⟨#[111, 98, 98, 111, 98, 111, 98, 111, 98, 98, 101]⟩ : ByteArray) ((m0 0) - 1) = 111)) && (!(((decide (m0 1 = 0)) && (decide (1 ≤ m0 2))) && (decide (m0 2 ≤ 64))))) || ((decide (strAt (⟨#[111, 98, 98, 111, 98, 111, 98, 111, 98, 98, 101]⟩ : ByteArray) ((m0 0) - 1) = 98)) && (!(((decide (m0 2 = 0)) && (decide (1 ≤ m0 1))) && (decide (m0 1 ≤ 64)))))) || ((!(((decide (m0 1 = 0)) && (decide (1 ≤ m0 2))) && (decide (m0 2 ≤ 64)))) && (!(((decide (m0 2 = 0)) && (decide (1 ≤ m0 1))) && (decide (m0 1 ≤ 64)))))) = false := hc17
              have hp17 : ¬ (((((decide (strAt (⟨#[111, 98, 98, 111, 98, 111, 98, 111, 98, 98, 101]⟩ : ByteArray) ((m0 0) - 1) = 111)) && (!(((decide (m0 1 = 0)) && (decide (1 ≤ m0 2))) && (decide (m0 2 ≤ 64))))) || ((decide (strAt (⟨#[111, 98, 98, 111, 98, 111, 98, 111, 98, 98, 101]⟩ : ByteArray) ((m0 0) - 1) = 98)) && (!(((decide (m0 2 = 0)) && (decide (1 ≤ m0 1))) && (decide (m0 1 ≤ 64)))))) || ((!(((decide (m0 1 = 0)) && (decide (1 ≤ m0 2))) && (decide (m0 2 ≤ 64)))) && (!(((decide (m0 2 = 0)) && (decide (1 ≤ m0 1))) && (decide (m0 1 ≤ 64)))))) = true) := bne' hq17
              rw [if_neg hp17] at h
              refine xw_cond_f rfl rfl (xw_skip (xq_then (xw_seq (xw_region ?_))))
              first | refine xq rfl trivial (o_fa0 fl34_0 rfl) ?_ | refine xq rfl trivial (o_fa fl34_0 rfl) ?_
              refine xq rfl trivial (o_ldI (v := m0 0) rfl ts3 (List.Mem.head _) (by omega) rfl) ?_
              first | refine xq rfl trivial (o_fa0 fl34_1 rfl) ?_ | refine xq rfl trivial (o_fa fl34_1 rfl) ?_
              refine xq rfl trivial (o_ldI (v := m0 1) rfl ts3 (List.Mem.head _) (by omega) rfl) ?_
              first | refine xq rfl trivial (o_fa0 fl34_2 rfl) ?_ | refine xq rfl trivial (o_fa fl34_2 rfl) ?_
              refine xq rfl trivial (o_ldI (v := m0 2) rfl ts3 (List.Mem.head _) (by omega) rfl) ?_
              refine xq rfl trivial (o_build fk34 ze34 (.int fl34_0 rfl rfl (.int fl34_1 rfl rfl (.int fl34_2 rfl rfl (.nil _))))) ?_
              refine xo rfl trivial (o_alloc ze34 rfl) ?_
              rintro _ _ ⟨b7, hb7, rfl, rfl⟩
              refine xq0 trivial (o_stWI rfl rfl ts34 (List.Mem.head _) (.here _ _ _ _)) ?_
              refine xo_nil (xq_then (xw_seq (xw_seq (xw_region ?_))))
              first | refine xq rfl trivial (o_fa0 fl34_0 rfl) ?_ | refine xq rfl trivial (o_fa fl34_0 rfl) ?_
              refine xq rfl trivial (o_ldI (v := m0 0) rfl ts3 (List.Mem.tail _ (List.Mem.head _)) (by omega) rfl) ?_
              refine xq rfl trivial (o_eql rfl rfl) ?_
              refine xo_nil (xq_then ?_)
              refine xw_bool 80 rfl (fun hc18 => ?_) (fun hc18 => ?_)
              · have hq18 : (decide (m0 0 = 11)) = true := hc18
                have hp18 : m0 0 = 11 := of_decide_eq_true hq18
                rw [if_pos hp18] at h
                refine xw_cond_t rfl rfl (xw_seq (xw_region ?_))
                first | refine xq rfl trivial (o_fa0 fl34_10 rfl) ?_ | refine xq rfl trivial (o_fa fl34_10 rfl) ?_
                refine xq rfl trivial (o_ldI (v := m0 11) rfl ts3 (List.Mem.tail _ (List.Mem.head _)) (by omega) rfl) ?_
                first | refine xq rfl trivial (o_fa0 fl34_10 rfl) ?_ | refine xq rfl trivial (o_fa fl34_10 rfl) ?_
                refine xq0 trivial (o_stI rfl rfl ts3 (List.Mem.head _) (by omega) (.here _ _ _ _)) ?_
                refine xo_nil (xq_then (xw_seq (xw_region ?_)))
                first | refine xq rfl trivial (o_fa0 fl34_11 rfl) ?_ | refine xq rfl trivial (o_fa fl34_11 rfl) ?_
                refine xq rfl trivial (o_ldSI rfl ts32 (List.Mem.tail _ (List.Mem.head _)) (by omega) (fun _ _ => rfl)) ?_
                first | refine xq rfl trivial (o_fa0 fl34_11 rfl) ?_ | refine xq rfl trivial (o_fa fl34_11 rfl) ?_
                refine xq0 trivial (o_stSI rfl rfl ts32 (List.Mem.head _) (by omega) (.here _ _ _ _)) ?_
                refine xo_nil (xq_then (xw_seq (xw_region ?_)))
                first | refine xq rfl trivial (o_fa0 fl34_8 rfl) ?_ | refine xq rfl trivial (o_fa fl34_8 rfl) ?_
                refine xq rfl trivial (o_ldI (v := m0 9) rfl ts3 (List.Mem.tail _ (List.Mem.head _)) (by omega) rfl) ?_
                first | refine xq rfl trivial (o_fa0 fl34_8 rfl) ?_ | refine xq rfl trivial (o_fa fl34_8 rfl) ?_
                refine xq0 trivial (o_stI rfl rfl ts3 (List.Mem.head _) (by omega) (.here _ _ _ _)) ?_
                refine xo_nil (xq_then (xw_seq (xw_region ?_)))
                first | refine xq rfl trivial (o_fa0 fl34_9 rfl) ?_ | refine xq rfl trivial (o_fa fl34_9 rfl) ?_
                refine xq rfl trivial (o_ldI (v := m0 10) rfl ts3 (List.Mem.tail _ (List.Mem.head _)) (by omega) rfl) ?_
                first | refine xq rfl trivial (o_fa0 fl34_9 rfl) ?_ | refine xq rfl trivial (o_fa fl34_9 rfl) ?_
                refine xq0 trivial (o_stI rfl rfl ts3 (List.Mem.head _) (by omega) (.here _ _ _ _)) ?_
                refine xo_nil (xq_then (xw_seq (xw_seq ?_)))
                refine xw_cut [(1, _), (7, _)] (lc rfl (lc rfl ln)) [(116, .bool (((((decide (m0 11 < 1)) || (decide (8 < m0 11))) || (!((number_F (m0 9))))) || (decide (m0 10 < 0))) || (decide (1048576 < m0 10))))] ?_ ?_
                · refine xw_region ?_
                  first | refine xq rfl trivial (o_fa0 fl34_10 rfl) ?_ | refine xq rfl trivial (o_fa fl34_10 rfl) ?_
                  refine xq rfl trivial (o_ldI (v := m0 11) rfl ts3 (List.Mem.tail _ (List.Mem.head _)) (by omega) rfl) ?_
                  refine xq rfl trivial (o_lss rfl rfl) ?_
                  refine xq rfl trivial (o_mv rfl) ?_
                  refine xo_bool 96 rfl (fun hg19 => ?_) (fun hg19 => ?_)
                  · have hq19 : (decide (m0 11 < 1)) = true := hg19
                    have hp19 : m0 11 < 1 := of_decide_eq_true hq19
                    refine xs rfl ⟨_, _, rfl, rfl, rfl⟩ (xs rfl ⟨_, _, rfl, rfl, rfl⟩ (xs rfl ⟨_, _, rfl, rfl, rfl⟩ ?_))
                    refine xq rfl trivial (o_pick_t rfl rfl) ?_
                    refine xq rfl trivial (o_mv rfl) ?_
                    refine xs rfl ⟨_, _, rfl, rfl, rfl⟩ (xs rfl ⟨_, _, rfl, rfl, rfl⟩ (xs rfl ⟨_, _, rfl, rfl, rfl⟩ (xs rfl ⟨_, _, rfl, rfl, rfl⟩ ?_)))
                    refine xq rfl trivial (o_pick_t rfl rfl) ?_
                    refine xq rfl trivial (o_mv rfl) ?_
                    refine xs rfl ⟨_, _, rfl, rfl, rfl⟩ (xs rfl ⟨_, _, rfl, rfl, rfl⟩ (xs rfl ⟨_, _, rfl, rfl, rfl⟩ ?_))
                    refine xq rfl trivial (o_pick_t rfl rfl) ?_
                    refine xq rfl trivial (o_mv rfl) ?_
                    refine xs rfl ⟨_, _, rfl, rfl, rfl⟩ (xs rfl ⟨_, _, rfl, rfl, rfl⟩ (xs rfl ⟨_, _, rfl, rfl, rfl⟩ ?_))
                    refine xq rfl trivial (o_pick_t rfl rfl) ?_
                    refine xo_nil ?_
                    exact xq_cut ((lce rfl (by first | rfl | (simp only [hq2, hq17, hq18, hq19, if_neg hp2, if_neg hp17, if_pos hp18, if_pos hp19, bS]; done) | (simp only [hq2, hq17, hq18, hq19, if_neg hp2, if_neg hp17, if_pos hp18, if_pos hp19, bS, reduceIte, Bool.false_eq_true]; done) | (simp [hp2, hp17, hp18, hp19]; done) | (simp_all; done)) (lc rfl (lc rfl ln)))) (fun _ h => h)
                  · have hq19 : (decide (m0 11 < 1)) = false := hg19
                    have hp19 : ¬ (m0 11 < 1) := of_decide_eq_false hq19
                    first | refine xq rfl ⟨_, rfl, rfl⟩ (o_fa0 fl34_10 rfl) ?_ | refine xq rfl ⟨_, rfl, rfl⟩ (o_fa fl34_10 rfl) ?_
                    refine xq rfl ⟨_, rfl, rfl⟩ (o_ldI (v := m0 11) rfl ts3 (List.Mem.tail _ (List.Mem.head _)) (by omega) rfl) ?_
                    refine xq rfl ⟨_, rfl, rfl⟩ (o_gtr rfl rfl) ?_
                    refine xq rfl trivial (o_pick_f rfl rfl) ?_
                    refine xq rfl trivial (o_mv rfl) ?_
                    refine xo_bool 101 rfl (fun hg20 => ?_) (fun hg20 => ?_)
                    · have hq20 : (decide (8 < m0 11)) = true := hg20
                      have hp20 : 8 < m0 11 := of_decide_eq_true hq20
                      refine xs rfl ⟨_, _, rfl, rfl, rfl⟩ (xs rfl ⟨_, _, rfl, rfl, rfl⟩ (xs rfl ⟨_, _, rfl, rfl, rfl⟩ (xs rfl ⟨_, _, rfl, rfl, rfl⟩ ?_)))
                      refine xq rfl trivial (o_pick_t rfl rfl) ?_
                      refine xq rfl trivial (o_mv rfl) ?_
                      refine xs rfl ⟨_, _, rfl, rfl, rfl⟩ (xs rfl ⟨_, _, rfl, rfl, rfl⟩ (xs rfl ⟨_, _, rfl, rfl, rfl⟩ ?_))
                      refine xq rfl trivial (o_pick_t rfl rfl) ?_
                      refine xq rfl trivial (o_mv rfl) ?_
                      refine xs rfl ⟨_, _, rfl, rfl, rfl⟩ (xs rfl ⟨_, _, rfl, rfl, rfl⟩ (xs rfl ⟨_, _, rfl, rfl, rfl⟩ ?_))
                      refine xq rfl trivial (o_pick_t rfl rfl) ?_
                      refine xo_nil ?_
                      exact xq_cut ((lce rfl (by first | rfl | (simp only [hq2, hq17, hq18, hq19, hq20, if_neg hp2, if_neg hp17, if_pos hp18, if_neg hp19, if_pos hp20, bS]; done) | (simp only [hq2, hq17, hq18, hq19, hq20, if_neg hp2, if_neg hp17, if_pos hp18, if_neg hp19, if_pos hp20, bS, reduceIte, Bool.false_eq_true]; done) | (simp [hp2, hp17, hp18, hp19, hp20]; done) | (simp_all; done)) (lc rfl (lc rfl ln)))) (fun _ h => h)
                    · have hq20 : (decide (8 < m0 11)) = false := hg20
                      have hp20 : ¬ (8 < m0 11) := of_decide_eq_false hq20
                      first | refine xq rfl ⟨_, rfl, rfl⟩ (o_fa0 fl34_8 rfl) ?_ | refine xq rfl ⟨_, rfl, rfl⟩ (o_fa fl34_8 rfl) ?_
                      refine xq rfl ⟨_, rfl, rfl⟩ (o_ldI (v := m0 9) rfl ts3 (List.Mem.tail _ (List.Mem.head _)) (by omega) rfl) ?_
                      refine xcallq rfl ⟨_, rfl, rfl⟩ kf30 rfl (fun w1 hw1 => number_c _ w1) ?_
                      refine xq rfl ⟨_, rfl, rfl⟩ (o_not rfl) ?_
                      refine xq rfl trivial (o_pick_f rfl rfl) ?_
                      refine xq rfl trivial (o_mv rfl) ?_
                      refine xo_bool 107 rfl (fun hg21 => ?_) (fun hg21 => ?_)
                      · have hq21 : ((number_F (m0 9))) = false := (bnT hg21)
                        have hp21 : ¬ (((number_F (m0 9))) = true) := bne' hq21
                        refine xs rfl ⟨_, _, rfl, rfl, rfl⟩ (xs rfl ⟨_, _, rfl, rfl, rfl⟩ (xs rfl ⟨_, _, rfl, rfl, rfl⟩ ?_))
                        refine xq rfl trivial (o_pick_t rfl rfl) ?_
                        refine xq rfl trivial (o_mv rfl) ?_
                        refine xs rfl ⟨_, _, rfl, rfl, rfl⟩ (xs rfl ⟨_, _, rfl, rfl, rfl⟩ (xs rfl ⟨_, _, rfl, rfl, rfl⟩ ?_))
                        refine xq rfl trivial (o_pick_t rfl rfl) ?_
                        refine xo_nil ?_
                        exact xq_cut ((lce rfl (by first | rfl | (simp only [hq2, hq17, hq18, hq19, hq20, hq21, if_neg hp2, if_neg hp17, if_pos hp18, if_neg hp19, if_neg hp20, if_neg hp21, bS]; done) | (simp only [hq2, hq17, hq18, hq19, hq20, hq21, if_neg hp2, if_neg hp17, if_pos hp18, if_neg hp19, if_neg hp20, if_neg hp21, bS, reduceIte, Bool.false_eq_true]; done) | (simp [hp2, hp17, hp18, hp19, hp20, hp21]; done) | (simp_all; done)) (lc rfl (lc rfl ln)))) (fun _ h => h)
                      · have hq21 : ((number_F (m0 9))) = true := (bnF hg21)
                        have hp21 : ((number_F (m0 9))) = true := hq21
                        first | refine xq rfl ⟨_, rfl, rfl⟩ (o_fa0 fl34_9 rfl) ?_ | refine xq rfl ⟨_, rfl, rfl⟩ (o_fa fl34_9 rfl) ?_
                        refine xq rfl ⟨_, rfl, rfl⟩ (o_ldI (v := m0 10) rfl ts3 (List.Mem.tail _ (List.Mem.head _)) (by omega) rfl) ?_
                        refine xq rfl ⟨_, rfl, rfl⟩ (o_lss rfl rfl) ?_
                        refine xq rfl trivial (o_pick_f rfl rfl) ?_
                        refine xq rfl trivial (o_mv rfl) ?_
                        refine xo_bool 112 rfl (fun hg22 => ?_) (fun hg22 => ?_)
                        · have hq22 : (decide (m0 10 < 0)) = true := hg22
                          have hp22 : m0 10 < 0 := of_decide_eq_true hq22
                          refine xs rfl ⟨_, _, rfl, rfl, rfl⟩ (xs rfl ⟨_, _, rfl, rfl, rfl⟩ (xs rfl ⟨_, _, rfl, rfl, rfl⟩ ?_))
                          refine xq rfl trivial (o_pick_t rfl rfl) ?_
                          refine xo_nil ?_
                          exact xq_cut ((lce rfl (by first | rfl | (simp only [hq2, hq17, hq18, hq19, hq20, hq21, hq22, if_neg hp2, if_neg hp17, if_pos hp18, if_neg hp19, if_neg hp20, if_pos hp21, if_pos hp22, bS]; done) | (simp only [hq2, hq17, hq18, hq19, hq20, hq21, hq22, if_neg hp2, if_neg hp17, if_pos hp18, if_neg hp19, if_neg hp20, if_pos hp21, if_pos hp22, bS, reduceIte, Bool.false_eq_true]; done) | (simp [hp2, hp17, hp18, hp19, hp20, hp21, hp22]; done) | (simp_all; done)) (lc rfl (lc rfl ln)))) (fun _ h => h)
                        · have hq22 : (decide (m0 10 < 0)) = false := hg22
                          have hp22 : ¬ (m0 10 < 0) := of_decide_eq_false hq22
                          first | refine xq rfl ⟨_, rfl, rfl⟩ (o_fa0 fl34_9 rfl) ?_ | refine xq rfl ⟨_, rfl, rfl⟩ (o_fa fl34_9 rfl) ?_
                          refine xq rfl ⟨_, rfl, rfl⟩ (o_ldI (v := m0 10) rfl ts3 (List.Mem.tail _ (List.Mem.head _)) (by omega) rfl) ?_
                          refine xq rfl ⟨_, rfl, rfl⟩ (o_gtr rfl rfl) ?_
                          refine xq rfl trivial (o_pick_f rfl rfl) ?_
                          refine xo_nil ?_
                          exact xq_cut ((lce rfl (by first | rfl | (simp only [hq2, hq17, hq18, hq19, hq20, hq21, hq22, if_neg hp2, if_neg hp17, if_pos hp18, if_neg hp19, if_neg hp20, if_pos hp21, if_neg hp22, bS]; done) | (simp only [hq2, hq17, hq18, hq19, hq20, hq21, hq22, if_neg hp2, if_neg hp17, if_pos hp18, if_neg hp19, if_neg hp20, if_pos hp21, if_neg hp22, bS, reduceIte, Bool.false_eq_true]; done) | (simp [hp2, hp17, hp18, hp19, hp20, hp21, hp22]; done) | (simp_all; done)) (lc rfl (lc rfl ln)))) (fun _ h => h)
                · refine xq_then ?_
                  refine xw_bool 116 rfl (fun hc23 => ?_) (fun hc23 => ?_)
                  · have hq23 : (((((decide (m0 11 < 1)) || (decide (8 < m0 11))) || (!((number_F (m0 9))))) || (decide (m0 10 < 0))) || (decide (1048576 < m0 10))) = true := hc23
                    have hp23 : (((((decide (m0 11 < 1)) || (decide (8 < m0 11))) || (!((number_F (m0 9))))) || (decide (m0 10 < 0))) || (decide (1048576 < m0 10))) = true := hq23
                    rw [if_pos hp23] at h
                    refine xw_cond_t rfl rfl (xw_seq (xw_region ?_))
                    refine xq rfl trivial (o_as rfl) ?_
                    refine xo_nil (xq_then (xw_ret (xq_then_ret (xq_then_ret ?_))))
                    subst h
                    exact con_ret1 (.inl rfl) Try.results24 rfl [] (Kp.st (Kp.new hb7 (Kp.new hb1 Kp.nil))) (⟨rfl, rfl⟩)
                  · have hq23 : (((((decide (m0 11 < 1)) || (decide (8 < m0 11))) || (!((number_F (m0 9))))) || (decide (m0 10 < 0))) || (decide (1048576 < m0 10))) = false := hc23
                    have hp23 : ¬ ((((((decide (m0 11 < 1)) || (decide (8 < m0 11))) || (!((number_F (m0 9))))) || (decide (m0 10 < 0))) || (decide (1048576 < m0 10))) = true) := bne' hq23
                    rw [if_neg hp23] at h
                    refine xw_cond_f rfl rfl (xw_skip (xq_then (xw_seq (xw_seq (xw_region ?_)))))
                    refine xq rfl trivial (o_as rfl) ?_
                    refine xo_nil (xq_then ?_)
                    refine xw_block ?_
                    obtain ⟨x1, hx1, h⟩ := h
                    refine xw_wh (fun (i8 : Int) e H => e = [(1, .pointer (some ⟨b1, 0, none⟩)), (7, .pointer (some ⟨b7, 0, none⟩)), (8, .int .i64 i8)] ∧ H = (b7, BK 28 (iv (updI (updI (updRI (updI (updI (updI (updI (fun _ => 0) 0 (m0 0)) 1 (m0 1)) 2 (m0 2)) 11 (m0 11)) 12 16 (fun i => m0 (12 + i))) 9 (m0 9)) 10 (m0 10))) 34) :: ((b1, BK 28 (iv m0) 34) :: ([]))) (fun x ex e H => match x with | .inl _ => ex = .exit 0 ∧ e = [(1, .pointer (some ⟨b1, 0, none⟩)), (7, .pointer (some ⟨b7, 0, none⟩))] ∧ H = (b7, BK 28 (iv (updI (updI (updRI (updI (updI (updI (updI (fun _ => 0) 0 (m0 0)) 1 (m0 1)) 2 (m0 2)) 11 (m0 11)) 12 16 (fun i => m0 (12 + i))) 9 (m0 9)) 10 (m0 10))) 34) :: ((b1, BK 28 (iv m0) 34) :: ([])) | .inr _ => ex = .ret ∧ e = [(2, .bool false)] ∧ H = (b7, BK 28 (iv (updI (updI (updRI (updI (updI (updI (updI (fun _ => 0) 0 (m0 0)) 1 (m0 1)) 2 (m0 2)) 11 (m0 11)) 12 16 (fun i => m0 (12 + i))) 9 (m0 9)) 10 (m0 10))) 34) :: ((b1, BK 28 (iv m0) 34) :: ([]))) hx1 ⟨[(1, .pointer (some ⟨b1, 0, none⟩)), (7, .pointer (some ⟨b7, 0, none⟩)), (8, .int .i64 0)], (b7, BK 28 (iv (updI (updI (updRI (updI (updI (updI (updI (fun _ => 0) 0 (m0 0)) 1 (m0 1)) 2 (m0 2)) 11 (m0 11)) 12 16 (fun i => m0 (12 + i))) 9 (m0 9)) 10 (m0 10))) 34) :: ((b1, BK 28 (iv m0) 34) :: ([])), (lc rfl (lc rfl (lc rfl ln))), fun _ h => h, ⟨rfl, rfl⟩⟩ ?_ ?_
                    · rintro i8 o _ _ ⟨rfl, rfl⟩ hb
                      have h : ref04Ok_l1 m0 i8 o := hb
                      clear hb
                      unfold ref04Ok_l1 at h
                      refine xw_seq (xw_seq (xw_region ?_))
                      refine xq rfl trivial (o_mv rfl) ?_
                      refine xq rfl trivial (o_lss rfl rfl) ?_
                      refine xo_nil (xq_then ?_)
                      refine xw_bool 118 rfl (fun hc24 => ?_) (fun hc24 => ?_)
                      · have hq24 : (decide (i8 < 8)) = true := hc24
                        have hp24 : i8 < 8 := of_decide_eq_true hq24
                        rw [if_pos hp24] at h
                        refine xw_cond_t rfl rfl (xw_skip (xq_then (xw_seq ?_)))
                        refine xw_block ?_
                        refine xw_seq (xw_seq (xw_region ?_))
                        refine xq rfl trivial (o_mv rfl) ?_
                        first | refine xq rfl trivial (o_fa0 fl34_10 rfl) ?_ | refine xq rfl trivial (o_fa fl34_10 rfl) ?_
                        refine xq rfl trivial (o_ldI (v := m0 11) rfl ts3 (List.Mem.tail _ (List.Mem.head _)) (by omega) rfl) ?_
                        refine xq rfl trivial (o_geq rfl rfl) ?_
                        refine xo_nil (xq_then ?_)
                        refine xw_bool 124 rfl (fun hc25 => ?_) (fun hc25 => ?_)
                        · have hq25 : (decide (m0 11 ≤ i8)) = true := hc25
                          have hp25 : m0 11 ≤ i8 := of_decide_eq_true hq25
                          rw [if_pos hp25] at h
                          refine xw_cond_t rfl rfl (xw_seq (xw_seq ?_))
                          obtain ⟨ho26, ho27, h⟩ := h
                          refine xw_cut [(1, _), (7, _), (8, _)] (lc rfl (lc rfl (lc rfl ln))) [(138, .bool ((!(decide (m0 (12 + (i8.toNat * 2)) = 0))) || (!(decide (m0 ((12 + (i8.toNat * 2)) + 1) = 0)))))] ?_ ?_
                          · refine xw_region ?_
                            refine xq rfl trivial (o_mv rfl) ?_
                            first | refine xq rfl trivial (o_fa0 fl34_11 rfl) ?_ | refine xq rfl trivial (o_fa fl34_11 rfl) ?_
                            refine xq rfl trivial (o_ixa ea32 rfl rfl (ho26) rfl) ?_
                            first | refine xq rfl trivial (o_fa0 fl28_0 rfl) ?_ | refine xq rfl trivial (o_fa fl28_0 rfl) ?_
                            refine xq rfl trivial (o_ldI (v := m0 (12 + (i8.toNat * 2))) rfl ts3 (List.Mem.tail _ (List.Mem.head _)) (by have := (ho26); omega) rfl) ?_
                            refine xq rfl trivial (o_neq rfl rfl) ?_
                            refine xq rfl trivial (o_mv rfl) ?_
                            refine xo_bool 131 rfl (fun hg28 => ?_) (fun hg28 => ?_)
                            · have hq28 : (decide (m0 (12 + (i8.toNat * 2)) = 0)) = false := (bnT hg28)
                              have hp28 : ¬ (m0 (12 + (i8.toNat * 2)) = 0) := of_decide_eq_false hq28
                              refine xs rfl ⟨_, _, rfl, rfl, rfl⟩ (xs rfl ⟨_, _, rfl, rfl, rfl⟩ (xs rfl ⟨_, _, rfl, rfl, rfl⟩ (xs rfl ⟨_, _, rfl, rfl, rfl⟩ (xs rfl ⟨_, _, rfl, rfl, rfl⟩ (xs rfl ⟨_, _, rfl, rfl, rfl⟩ ?_)))))
                              refine xq rfl trivial (o_pick_t rfl rfl) ?_
                              refine xo_nil ?_
                              exact xq_cut ((lce rfl (by first | rfl | (simp only [hq24, hq25, hq28, if_pos hp24, if_pos hp25, if_neg hp28, bS]; done) | (simp only [hq24, hq25, hq28, if_pos hp24, if_pos hp25, if_neg hp28, bS, reduceIte, Bool.false_eq_true]; done) | (simp [hp24, hp25, hp28]; done) | (simp_all; done)) (lc rfl (lc rfl (lc rfl ln))))) (fun _ h => h)
                            · have hq28 : (decide (m0 (12 + (i8.toNat * 2)) = 0)) = true := (bnF hg28)
                              have hp28 : m0 (12 + (i8.toNat * 2)) = 0 := of_decide_eq_true hq28
                              refine xq rfl ⟨_, rfl, rfl⟩ (o_mv rfl) ?_
                              first | refine xq rfl ⟨_, rfl, rfl⟩ (o_fa0 fl34_11 rfl) ?_ | refine xq rfl ⟨_, rfl, rfl⟩ (o_fa fl34_11 rfl) ?_
                              refine xq rfl ⟨_, rfl, rfl⟩ (o_ixa ea32 rfl rfl (ho27 (by first | exact hg28 | (simp only [hq24, hq25, hq28, if_pos hp24, if_pos hp25, if_pos hp28, bS]; done) | (simp only [hq24, hq25, hq28, if_pos hp24, if_pos hp25, if_pos hp28, bS, reduceIte, Bool.false_eq_true]; done) | (simp [hp24, hp25, hp28]; done) | (simp_all; done))) rfl) ?_
                              first | refine xq rfl ⟨_, rfl, rfl⟩ (o_fa0 fl28_1 rfl) ?_ | refine xq rfl ⟨_, rfl, rfl⟩ (o_fa fl28_1 rfl) ?_
                              refine xq rfl ⟨_, rfl, rfl⟩ (o_ldI (v := m0 ((12 + (i8.toNat * 2)) + 1)) rfl ts3 (List.Mem.tail _ (List.Mem.head _)) (by have := (ho27 (by first | exact hg28 | (simp only [hq24, hq25, hq28, if_pos hp24, if_pos hp25, if_pos hp28, bS]; done) | (simp only [hq24, hq25, hq28, if_pos hp24, if_pos hp25, if_pos hp28, bS, reduceIte, Bool.false_eq_true]; done) | (simp [hp24, hp25, hp28]; done) | (simp_all; done))); omega) rfl) ?_
                              refine xq rfl ⟨_, rfl, rfl⟩ (o_neq rfl rfl) ?_
                              refine xq rfl trivial (o_pick_f rfl rfl) ?_
                              refine xo_nil ?_
                              exact xq_cut ((lce rfl (by first | rfl | (simp only [hq24, hq25, hq28, if_pos hp24, if_pos hp25, if_pos hp28, bS]; done) | (simp only [hq24, hq25, hq28, if_pos hp24, if_pos hp25, if_pos hp28, bS, reduceIte, Bool.false_eq_true]; done) | (simp [hp24, hp25, hp28]; done) | (simp_all; done)) (lc rfl (lc rfl (lc rfl ln))))) (fun _ h => h)
                          · refine xq_then ?_
                            refine xw_bool 138 rfl (fun hc29 => ?_) (fun hc29 => ?_)
                            · have hq29 : ((!(decide (m0 (12 + (i8.toNat * 2)) = 0))) || (!(decide (m0 ((12 + (i8.toNat * 2)) + 1) = 0)))) = true := hc29
                              have hp29 : ((!(decide (m0 (12 + (i8.toNat * 2)) = 0))) || (!(decide (m0 ((12 + (i8.toNat * 2)) + 1) = 0)))) = true := hq29
                              rw [if_pos hp29] at h
                              refine xw_cond_t rfl rfl (xw_seq (xw_region ?_))
                              refine xq rfl trivial (o_as rfl) ?_
                              refine xo_nil (xq_then (xw_ret (xq_then_ret (xq_then_ret (xq_blk_ret (xq_then_ret ?_))))))
                              exact xq_out (r := (.inr () : (Unit) ⊕ (Unit))) (e' := [(2, .bool false)]) ((b7, BK 28 (iv (updI (updI (updRI (updI (updI (updI (updI (fun _ => 0) 0 (m0 0)) 1 (m0 1)) 2 (m0 2)) 11 (m0 11)) 12 16 (fun i => m0 (12 + i))) 9 (m0 9)) 10 (m0 10))) 34) :: ((b1, BK 28 (iv m0) 34) :: ([]))) (lc rfl ln) (fun _ h => h) h (by intro hh; cases hh) ⟨rfl, rfl, rfl⟩
                            · have hq29 : ((!(decide (m0 (12 + (i8.toNat * 2)) = 0))) || (!(decide (m0 ((12 + (i8.toNat * 2)) + 1) = 0)))) = false := hc29
                              have hp29 : ¬ (((!(decide (m0 (12 + (i8.toNat * 2)) = 0))) || (!(decide (m0 ((12 + (i8.toNat * 2)) + 1) = 0)))) = true) := bne' hq29
                              rw [if_neg hp29] at h
                              refine xw_cond_f rfl rfl (xw_skip (xq_then (xw_exit (xq_then_exit ?_))))
                              refine xq_blk_eq ?_
                              refine xq_then (xw_region ?_)
                              refine xq rfl trivial (o_mv rfl) ?_
                              obtain ⟨ho30, h⟩ := h
                              refine xq rfl trivial (o_add rfl rfl rfl ho30) ?_
                              refine xq rfl trivial (o_as rfl) ?_
                              refine xo_nil ?_
                              exact xq_next (s' := (i8 + 1 : Int)) (e' := [(1, .pointer (some ⟨b1, 0, none⟩)), (7, .pointer (some ⟨b7, 0, none⟩)), (8, .int .i64 (i8 + 1))]) ((b7, BK 28 (iv (updI (updI (updRI (updI (updI (updI (updI (fun _ => 0) 0 (m0 0)) 1 (m0 1)) 2 (m0 2)) 11 (m0 11)) 12 16 (fun i => m0 (12 + i))) 9 (m0 9)) 10 (m0 10))) 34) :: ((b1, BK 28 (iv m0) 34) :: ([]))) (lc rfl (lc rfl (lc rfl ln))) (fun _ h => h) h ⟨rfl, rfl⟩
                        · have hq25 : (decide (m0 11 ≤ i8)) = false := hc25
                          have hp25 : ¬ (m0 11 ≤ i8) := of_decide_eq_false hq25
                          rw [if_neg hp25] at h
                          refine xw_cond_f rfl rfl (xw_skip (xq_then (xw_seq (xw_seq ?_))))
                          obtain ⟨ho31, ho32, h⟩ := h
                          refine xw_cut [(1, _), (7, _), (8, _)] (lc rfl (lc rfl (lc rfl ln))) [(154, .bool ((!((number_F (m0 (12 + (i8.toNat * 2)))))) || (!((number_F (m0 ((12 + (i8.toNat * 2)) + 1)))))))] ?_ ?_
                          · refine xw_region ?_
                            refine xq rfl trivial (o_mv rfl) ?_
                            first | refine xq rfl trivial (o_fa0 fl34_11 rfl) ?_ | refine xq rfl trivial (o_fa fl34_11 rfl) ?_
                            refine xq rfl trivial (o_ixa ea32 rfl rfl (ho31) rfl) ?_
                            first | refine xq rfl trivial (o_fa0 fl28_0 rfl) ?_ | refine xq rfl trivial (o_fa fl28_0 rfl) ?_
                            refine xq rfl trivial (o_ldI (v := m0 (12 + (i8.toNat * 2))) rfl ts3 (List.Mem.tail _ (List.Mem.head _)) (by have := (ho31); omega) rfl) ?_
                            refine xcallq rfl trivial kf30 rfl (fun w1 hw1 => number_c _ w1) ?_
                            refine xq rfl trivial (o_not rfl) ?_
                            refine xq rfl trivial (o_mv rfl) ?_
                            refine xo_bool 146 rfl (fun hg33 => ?_) (fun hg33 => ?_)
                            · have hq33 : ((number_F (m0 (12 + (i8.toNat * 2))))) = false := (bnT hg33)
                              have hp33 : ¬ (((number_F (m0 (12 + (i8.toNat * 2))))) = true) := bne' hq33
                              refine xs rfl ⟨_, _, rfl, rfl, rfl⟩ (xs rfl ⟨_, _, rfl, rfl, rfl⟩ (xs rfl ⟨_, _, rfl, rfl, rfl⟩ (xs rfl ⟨_, _, rfl, rfl, rfl⟩ (xs rfl ⟨_, _, rfl, rfl, rfl⟩ (xs rfl ⟨_, _, rfl, rfl, rfl⟩ (xs rfl ⟨_, _, rfl, rfl, rfl⟩ ?_))))))
                              refine xq rfl trivial (o_pick_t rfl rfl) ?_
                              refine xo_nil ?_
                              exact xq_cut ((lce rfl (by first | rfl | (simp only [hq24, hq25, hq33, if_pos hp24, if_neg hp25, if_neg hp33, bS]; done) | (simp only [hq24, hq25, hq33, if_pos hp24, if_neg hp25, if_neg hp33, bS, reduceIte, Bool.false_eq_true]; done) | (simp [hp24, hp25, hp33]; done) | (simp_all; done)) (lc rfl (lc rfl (lc rfl ln))))) (fun _ h => h)
                            · have hq33 : ((number_F (m0 (12 + (i8.toNat * 2))))) = true := (bnF hg33)
                              have hp33 : ((number_F (m0 (12 + (i8.toNat * 2))))) = true := hq33
                              refine xq rfl ⟨_, rfl, rfl⟩ (o_mv rfl) ?_
                              first | refine xq rfl ⟨_, rfl, rfl⟩ (o_fa0 fl34_11 rfl) ?_ | refine xq rfl ⟨_, rfl, rfl⟩ (o_fa fl34_11 rfl) ?_
                              refine xq rfl ⟨_, rfl, rfl⟩ (o_ixa ea32 rfl rfl (ho32 (by first | exact hg33 | (simp only [hq24, hq25, hq33, if_pos hp24, if_neg hp25, if_pos hp33, bS]; done) | (simp only [hq24, hq25, hq33, if_pos hp24, if_neg hp25, if_pos hp33, bS, reduceIte, Bool.false_eq_true]; done) | (simp [hp24, hp25, hp33]; done) | (simp_all; done))) rfl) ?_
                              first | refine xq rfl ⟨_, rfl, rfl⟩ (o_fa0 fl28_1 rfl) ?_ | refine xq rfl ⟨_, rfl, rfl⟩ (o_fa fl28_1 rfl) ?_
                              refine xq rfl ⟨_, rfl, rfl⟩ (o_ldI (v := m0 ((12 + (i8.toNat * 2)) + 1)) rfl ts3 (List.Mem.tail _ (List.Mem.head _)) (by have := (ho32 (by first | exact hg33 | (simp only [hq24, hq25, hq33, if_pos hp24, if_neg hp25, if_pos hp33, bS]; done) | (simp only [hq24, hq25, hq33, if_pos hp24, if_neg hp25, if_pos hp33, bS, reduceIte, Bool.false_eq_true]; done) | (simp [hp24, hp25, hp33]; done) | (simp_all; done))); omega) rfl) ?_
                              refine xcallq rfl ⟨_, rfl, rfl⟩ kf30 rfl (fun w1 hw1 => number_c _ w1) ?_
                              refine xq rfl ⟨_, rfl, rfl⟩ (o_not rfl) ?_
                              refine xq rfl trivial (o_pick_f rfl rfl) ?_
                              refine xo_nil ?_
                              exact xq_cut ((lce rfl (by first | rfl | (simp only [hq24, hq25, hq33, if_pos hp24, if_neg hp25, if_pos hp33, bS]; done) | (simp only [hq24, hq25, hq33, if_pos hp24, if_neg hp25, if_pos hp33, bS, reduceIte, Bool.false_eq_true]; done) | (simp [hp24, hp25, hp33]; done) | (simp_all; done)) (lc rfl (lc rfl (lc rfl ln))))) (fun _ h => h)
                          · refine xq_then ?_
                            refine xw_bool 154 rfl (fun hc34 => ?_) (fun hc34 => ?_)
                            · have hq34 : ((!((number_F (m0 (12 + (i8.toNat * 2)))))) || (!((number_F (m0 ((12 + (i8.toNat * 2)) + 1)))))) = true := hc34
                              have hp34 : ((!((number_F (m0 (12 + (i8.toNat * 2)))))) || (!((number_F (m0 ((12 + (i8.toNat * 2)) + 1)))))) = true := hq34
                              rw [if_pos hp34] at h
                              refine xw_cond_t rfl rfl (xw_seq (xw_region ?_))
                              refine xq rfl trivial (o_as rfl) ?_
                              refine xo_nil (xq_then (xw_ret (xq_then_ret (xq_blk_ret (xq_then_ret ?_)))))
                              exact xq_out (r := (.inr () : (Unit) ⊕ (Unit))) (e' := [(2, .bool false)]) ((b7, BK 28 (iv (updI (updI (updRI (updI (updI (updI (updI (fun _ => 0) 0 (m0 0)) 1 (m0 1)) 2 (m0 2)) 11 (m0 11)) 12 16 (fun i => m0 (12 + i))) 9 (m0 9)) 10 (m0 10))) 34) :: ((b1, BK 28 (iv m0) 34) :: ([]))) (lc rfl ln) (fun _ h => h) h (by intro hh; cases hh) ⟨rfl, rfl, rfl⟩
                            · have hq34 : ((!((number_F (m0 (12 + (i8.toNat * 2)))))) || (!((number_F (m0 ((12 + (i8.toNat * 2)) + 1)))))) = false := hc34
                              have hp34 : ¬ (((!((number_F (m0 (12 + (i8.toNat * 2)))))) || (!((number_F (m0 ((12 + (i8.toNat * 2)) + 1)))))) = true) := bne' hq34
                              rw [if_neg hp34] at h
                              refine xw_cond_f rfl rfl (xw_skip (xq_then (xw_seq (xw_region ?_))))
                              refine xq rfl trivial (o_as rfl) ?_
                              refine xo_nil (xq_then ?_)
                              refine xw_block ?_
                              obtain ⟨x2, hx2, h⟩ := h
                              refine xw_wh (fun (k9 : Int) e H => e = [(1, .pointer (some ⟨b1, 0, none⟩)), (7, .pointer (some ⟨b7, 0, none⟩)), (8, .int .i64 i8), (9, .int .i64 k9)] ∧ H = (b7, BK 28 (iv (updI (updI (updRI (updI (updI (updI (updI (fun _ => 0) 0 (m0 0)) 1 (m0 1)) 2 (m0 2)) 11 (m0 11)) 12 16 (fun i => m0 (12 + i))) 9 (m0 9)) 10 (m0 10))) 34) :: ((b1, BK 28 (iv m0) 34) :: ([]))) (fun x ex e H => match x with | .inl _ => ex = .exit 2 ∧ e = [(1, .pointer (some ⟨b1, 0, none⟩)), (7, .pointer (some ⟨b7, 0, none⟩)), (8, .int .i64 i8)] ∧ H = (b7, BK 28 (iv (updI (updI (updRI (updI (updI (updI (updI (fun _ => 0) 0 (m0 0)) 1 (m0 1)) 2 (m0 2)) 11 (m0 11)) 12 16 (fun i => m0 (12 + i))) 9 (m0 9)) 10 (m0 10))) 34) :: ((b1, BK 28 (iv m0) 34) :: ([])) | .inr _ => ex = .ret ∧ e = [(2, .bool false)] ∧ H = (b7, BK 28 (iv (updI (updI (updRI (updI (updI (updI (updI (fun _ => 0) 0 (m0 0)) 1 (m0 1)) 2 (m0 2)) 11 (m0 11)) 12 16 (fun i => m0 (12 + i))) 9 (m0 9)) 10 (m0 10))) 34) :: ((b1, BK 28 (iv m0) 34) :: ([]))) hx2 ⟨[(1, .pointer (some ⟨b1, 0, none⟩)), (7, .pointer (some ⟨b7, 0, none⟩)), (8, .int .i64 i8), (9, .int .i64 0)], (b7, BK 28 (iv (updI (updI (updRI (updI (updI (updI (updI (fun _ => 0) 0 (m0 0)) 1 (m0 1)) 2 (m0 2)) 11 (m0 11)) 12 16 (fun i => m0 (12 + i))) 9 (m0 9)) 10 (m0 10))) 34) :: ((b1, BK 28 (iv m0) 34) :: ([])), (lc rfl (lc rfl (lc rfl (lc rfl ln)))), fun _ h => h, ⟨rfl, rfl⟩⟩ ?_ ?_
                              · rintro k9 o _ _ ⟨rfl, rfl⟩ hb
                                have h : ref04Ok_l2 m0 i8 k9 o := hb
                                clear hb
                                unfold ref04Ok_l2 at h
                                refine xw_seq (xw_seq (xw_region ?_))
                                refine xq rfl trivial (o_mv rfl) ?_
                                refine xq rfl trivial (o_mv rfl) ?_
                                refine xq rfl trivial (o_lss rfl rfl) ?_
                                refine xo_nil (xq_then ?_)
                                refine xw_bool 157 rfl (fun hc35 => ?_) (fun hc35 => ?_)
                                · have hq35 : (decide (k9 < i8)) = true := hc35
                                  have hp35 : k9 < i8 := of_decide_eq_true hq35
                                  rw [if_pos hp35] at h
                                  refine xw_cond_t rfl rfl (xw_skip (xq_then (xw_seq ?_)))
                                  refine xw_block ?_
                                  refine xw_seq ?_
                                  refine xd_start (by kernel_rfl) (by kernel_rfl) (fun hok => ?_)
                                  refine xd_b hok 0 [(9, _)] ([]) rsN rfl rfl rfl (lc rfl ln) (by kernel_rfl) trivial (fun H' hy hK => o_mv rfl) ?_
                                  first | refine xd_b hok 1 [(1, _)] ([]) rsN rfl rfl rfl (lc rfl ln) (by kernel_rfl) trivial (fun H' hy hK => o_fa0 fl34_11 rfl) ?_ | refine xd_b hok 1 [(1, _)] ([]) rsN rfl rfl rfl (lc rfl ln) (by kernel_rfl) trivial (fun H' hy hK => o_fa fl34_11 rfl) ?_
                                  obtain ⟨ho36, h⟩ := h
                                  refine xd_b hok 2 [(161, _), (160, _)] ([]) rsN rfl rfl rfl (lc rfl (lc rfl ln)) (by kernel_rfl) trivial (fun H' hy hK => o_ixa ea32 rfl rfl ho36 rfl) ?_
                                  first | refine xd_b hok 3 [(162, _)] ([]) rsN rfl rfl rfl (lc rfl ln) (by kernel_rfl) trivial (fun H' hy hK => o_fa0 fl28_0 rfl) ?_ | refine xd_b hok 3 [(162, _)] ([]) rsN rfl rfl rfl (lc rfl ln) (by kernel_rfl) trivial (fun H' hy hK => o_fa fl28_0 rfl) ?_
                                  refine xd_b hok 4 [(163, _)] ((b1, BK 28 (iv m0) 34) :: ([])) (rsC (List.Mem.tail _ (List.Mem.head _)) rsN) rfl rfl rfl (lc rfl ln) (by kernel_rfl) trivial (fun H' hy hK => o_ldI (v := m0 (12 + (k9.toNat * 2))) rfl ts3 (hy _ (List.Mem.head _)) (by have := ho36; omega) rfl) ?_
                                  refine xd_b hok 5 [(8, _)] ([]) rsN rfl rfl rfl (lc rfl ln) (by kernel_rfl) trivial (fun H' hy hK => o_mv rfl) ?_
                                  first | refine xd_b hok 6 [(1, _)] ([]) rsN rfl rfl rfl (lc rfl ln) (by kernel_rfl) trivial (fun H' hy hK => o_fa0 fl34_11 rfl) ?_ | refine xd_b hok 6 [(1, _)] ([]) rsN rfl rfl rfl (lc rfl ln) (by kernel_rfl) trivial (fun H' hy hK => o_fa fl34_11 rfl) ?_
                                  obtain ⟨ho37, h⟩ := h
                                  refine xd_b hok 7 [(166, _), (165, _)] ([]) rsN rfl rfl rfl (lc rfl (lc rfl ln)) (by kernel_rfl) trivial (fun H' hy hK => o_ixa ea32 rfl rfl ho37 rfl) ?_
                                  first | refine xd_b hok 8 [(167, _)] ([]) rsN rfl rfl rfl (lc rfl ln) (by kernel_rfl) trivial (fun H' hy hK => o_fa0 fl28_0 rfl) ?_ | refine xd_b hok 8 [(167, _)] ([]) rsN rfl rfl rfl (lc rfl ln) (by kernel_rfl) trivial (fun H' hy hK => o_fa fl28_0 rfl) ?_
                                  refine xd_b hok 9 [(168, _)] ((b1, BK 28 (iv m0) 34) :: ([])) (rsC (List.Mem.tail _ (List.Mem.head _)) rsN) rfl rfl rfl (lc rfl ln) (by kernel_rfl) trivial (fun H' hy hK => o_ldI (v := m0 (12 + (i8.toNat * 2))) rfl ts3 (hy _ (List.Mem.head _)) (by have := ho37; omega) rfl) ?_
                                  refine xd_b hok 10 [(164, _), (169, _)] ([]) rsN rfl rfl rfl (lc rfl (lc rfl ln)) (by kernel_rfl) trivial (fun H' hy hK => o_eql rfl rfl) ?_
                                  refine xd_end hok (by kernel_rfl) ?_
                                  refine xq_then ?_
                                  refine xw_bool 170 rfl (fun hc38 => ?_) (fun hc38 => ?_)
                                  · have hq38 : (decide (m0 (12 + (k9.toNat * 2)) = m0 (12 + (i8.toNat * 2)))) = true := hc38
                                    have hp38 : m0 (12 + (k9.toNat * 2)) = m0 (12 + (i8.toNat * 2)) := of_decide_eq_true hq38
                                    rw [if_pos hp38] at h
                                    refine xw_cond_t rfl rfl (xw_seq (xw_region ?_))
                                    refine xq rfl trivial (o_as rfl) ?_
                                    refine xo_nil (xq_then (xw_ret (xq_blk_ret (xq_then_ret ?_))))
                                    exact xq_out (r := (.inr () : (Unit) ⊕ (Unit))) (e' := [(2, .bool false)]) ((b7, BK 28 (iv (updI (updI (updRI (updI (updI (updI (updI (fun _ => 0) 0 (m0 0)) 1 (m0 1)) 2 (m0 2)) 11 (m0 11)) 12 16 (fun i => m0 (12 + i))) 9 (m0 9)) 10 (m0 10))) 34) :: ((b1, BK 28 (iv m0) 34) :: ([]))) (lc rfl ln) (fun _ h => h) h (by intro hh; cases hh) ⟨rfl, rfl, rfl⟩
                                  · have hq38 : (decide (m0 (12 + (k9.toNat * 2)) = m0 (12 + (i8.toNat * 2)))) = false := hc38
                                    have hp38 : ¬ (m0 (12 + (k9.toNat * 2)) = m0 (12 + (i8.toNat * 2))) := of_decide_eq_false hq38
                                    rw [if_neg hp38] at h
                                    refine xw_cond_f rfl rfl (xw_skip ?_)
                                    refine xq_blk 3 ?_
                                    refine xq_then (xw_region ?_)
                                    refine xq rfl trivial (o_mv rfl) ?_
                                    obtain ⟨ho39, h⟩ := h
                                    refine xq rfl trivial (o_add rfl rfl rfl ho39) ?_
                                    refine xq rfl trivial (o_as rfl) ?_
                                    refine xo_nil ?_
                                    exact xq_next (s' := (k9 + 1 : Int)) (e' := [(1, .pointer (some ⟨b1, 0, none⟩)), (7, .pointer (some ⟨b7, 0, none⟩)), (8, .int .i64 i8), (9, .int .i64 (k9 + 1))]) ((b7, BK 28 (iv (updI (updI (updRI (updI (updI (updI (updI (fun _ => 0) 0 (m0 0)) 1 (m0 1)) 2 (m0 2)) 11 (m0 11)) 12 16 (fun i => m0 (12 + i))) 9 (m0 9)) 10 (m0 10))) 34) :: ((b1, BK 28 (iv m0) 34) :: ([]))) (lc rfl (lc rfl (lc rfl (lc rfl ln)))) (fun _ h => h) h ⟨rfl, rfl⟩
                                · have hq35 : (decide (k9 < i8)) = false := hc35
                                  have hp35 : ¬ (k9 < i8) := of_decide_eq_false hq35
                                  rw [if_neg hp35] at h
                                  refine xw_cond_f rfl rfl (xw_exit (xq_then_exit ?_))
                                  exact xq_out (r := (.inl () : (Unit) ⊕ (Unit))) (e' := [(1, .pointer (some ⟨b1, 0, none⟩)), (7, .pointer (some ⟨b7, 0, none⟩)), (8, .int .i64 i8)]) ((b7, BK 28 (iv (updI (updI (updRI (updI (updI (updI (updI (fun _ => 0) 0 (m0 0)) 1 (m0 1)) 2 (m0 2)) 11 (m0 11)) 12 16 (fun i => m0 (12 + i))) 9 (m0 9)) 10 (m0 10))) 34) :: ((b1, BK 28 (iv m0) 34) :: ([]))) (lc rfl (lc rfl (lc rfl ln))) (fun _ h => h) h (by intro hh; cases hh) ⟨rfl, rfl, rfl⟩
                              · rcases x2 with _ | x2
                                · rintro _ _ _ ⟨rfl, rfl, rfl⟩
                                  replace h : ref04Ok_k2a i8 o := h
                                  unfold ref04Ok_k2a at h
                                  refine xq_blk_eq ?_
                                  refine xq_blk 1 ?_
                                  refine xq_then (xw_region ?_)
                                  refine xq rfl trivial (o_mv rfl) ?_
                                  obtain ⟨ho40, h⟩ := h
                                  refine xq rfl trivial (o_add rfl rfl rfl ho40) ?_
                                  refine xq rfl trivial (o_as rfl) ?_
                                  refine xo_nil ?_
                                  exact xq_next (s' := (i8 + 1 : Int)) (e' := [(1, .pointer (some ⟨b1, 0, none⟩)), (7, .pointer (some ⟨b7, 0, none⟩)), (8, .int .i64 (i8 + 1))]) ((b7, BK 28 (iv (updI (updI (updRI (updI (updI (updI (updI (fun _ => 0) 0 (m0 0)) 1 (m0 1)) 2 (m0 2)) 11 (m0 11)) 12 16 (fun i => m0 (12 + i))) 9 (m0 9)) 10 (m0 10))) 34) :: ((b1, BK 28 (iv m0) 34) :: ([]))) (lc rfl (lc rfl (lc rfl ln))) (fun _ h => h) h ⟨rfl, rfl⟩
                                cases x2
                                rintro _ _ _ ⟨rfl, rfl, rfl⟩
                                replace h : ref04Ok_k2b o := h
                                unfold ref04Ok_k2b at h
                                refine xq_blk_ret (xq_blk_ret (xq_then_ret ?_))
                                exact xq_out (r := (.inr () : (Unit) ⊕ (Unit))) (e' := [(2, .bool false)]) ((b7, BK 28 (iv (updI (updI (updRI (updI (updI (updI (updI (fun _ => 0) 0 (m0 0)) 1 (m0 1)) 2 (m0 2)) 11 (m0 11)) 12 16 (fun i => m0 (12 + i))) 9 (m0 9)) 10 (m0 10))) 34) :: ((b1, BK 28 (iv m0) 34) :: ([]))) (lc rfl ln) (fun _ h => h) h (by intro hh; cases hh) ⟨rfl, rfl, rfl⟩
                      · have hq24 : (decide (i8 < 8)) = false := hc24
                        have hp24 : ¬ (i8 < 8) := of_decide_eq_false hq24
                        rw [if_neg hp24] at h
                        refine xw_cond_f rfl rfl (xw_exit (xq_then_exit ?_))
                        exact xq_out (r := (.inl () : (Unit) ⊕ (Unit))) (e' := [(1, .pointer (some ⟨b1, 0, none⟩)), (7, .pointer (some ⟨b7, 0, none⟩))]) ((b7, BK 28 (iv (updI (updI (updRI (updI (updI (updI (updI (fun _ => 0) 0 (m0 0)) 1 (m0 1)) 2 (m0 2)) 11 (m0 11)) 12 16 (fun i => m0 (12 + i))) 9 (m0 9)) 10 (m0 10))) 34) :: ((b1, BK 28 (iv m0) 34) :: ([]))) (lc rfl (lc rfl ln)) (fun _ h => h) h (by intro hh; cases hh) ⟨rfl, rfl, rfl⟩
                    · rcases x1 with _ | x1
                      · rintro _ _ _ ⟨rfl, rfl, rfl⟩
                        replace h : ref04Ok_k1a m0 r := h
                        unfold ref04Ok_k1a at h
                        refine xq_blk_eq ?_
                        refine xq_then (xw_seq (xw_region ?_))
                        refine xq rfl trivial (o_ldW rfl ts34 (List.Mem.tail _ (List.Mem.head _))) ?_
                        refine xq rfl trivial (o_ldW rfl ts34 (List.Mem.head _)) ?_
                        refine xq rfl trivial (o_eqlA eq34 rfl rfl) ?_
                        refine xq rfl trivial (o_as rfl) ?_
                        refine xo_nil (xq_then (xw_ret (xq_then_ret ?_)))
                        subst h
                        exact con_ret1 (.inl rfl) Try.results24 rfl [] (Kp.st (Kp.new hb7 (Kp.new hb1 Kp.nil))) (⟨rfl, rfl⟩)
                      cases x1
                      rintro _ _ _ ⟨rfl, rfl, rfl⟩
                      replace h : ref04Ok_k1b r := h
                      unfold ref04Ok_k1b at h
                      refine xq_blk_ret (xq_then_ret (xq_then_ret ?_))
                      subst h
                      exact con_ret1 (.inl rfl) Try.results24 rfl [] (Kp.st (Kp.new hb7 (Kp.new hb1 Kp.nil))) (⟨rfl, rfl⟩)
              · have hq18 : (decide (m0 0 = 11)) = false := hc18
                have hp18 : ¬ (m0 0 = 11) := of_decide_eq_false hq18
                rw [if_neg hp18] at h
                refine xw_cond_f rfl rfl (xw_skip (xq_then (xw_seq (xw_region ?_))))
                first | refine xq rfl trivial (o_fa0 fl34_3 rfl) ?_ | refine xq rfl trivial (o_fa fl34_3 rfl) ?_
                refine xq rfl trivial (o_ldI (v := m0 3) rfl ts3 (List.Mem.tail _ (List.Mem.head _)) (by omega) rfl) ?_
                first | refine xq rfl trivial (o_fa0 fl34_3 rfl) ?_ | refine xq rfl trivial (o_fa fl34_3 rfl) ?_
                refine xq0 trivial (o_stI rfl rfl ts3 (List.Mem.head _) (by omega) (.here _ _ _ _)) ?_
                refine xo_nil (xq_then (xw_seq (xw_seq (xw_region ?_))))
                first | refine xq rfl trivial (o_fa0 fl34_3 rfl) ?_ | refine xq rfl trivial (o_fa fl34_3 rfl) ?_
                refine xq rfl trivial (o_ldI (v := m0 3) rfl ts3 (List.Mem.tail _ (List.Mem.head _)) (by omega) rfl) ?_
                refine xcallq rfl trivial kf30 rfl (fun w1 hw1 => number_c _ w1) ?_
                refine xq rfl trivial (o_not rfl) ?_
                refine xo_nil (xq_then ?_)
                refine xw_bool 180 rfl (fun hc41 => ?_) (fun hc41 => ?_)
                · have hq41 : ((number_F (m0 3))) = false := (bnT hc41)
                  have hp41 : ¬ (((number_F (m0 3))) = true) := bne' hq41
                  rw [if_neg hp41] at h
                  refine xw_cond_t rfl rfl (xw_seq (xw_region ?_))
                  refine xq rfl trivial (o_as rfl) ?_
                  refine xo_nil (xq_then (xw_ret (xq_then_ret ?_)))
                  subst h
                  exact con_ret1 (.inl rfl) Try.results24 rfl [] (Kp.st (Kp.new hb7 (Kp.new hb1 Kp.nil))) (⟨rfl, rfl⟩)
                · have hq41 : ((number_F (m0 3))) = true := (bnF hc41)
                  have hp41 : ((number_F (m0 3))) = true := hq41
                  rw [if_pos hp41] at h
                  refine xw_cond_f rfl rfl (xw_skip (xq_then (xw_seq (xw_seq (xw_region ?_)))))
                  first | refine xq rfl trivial (o_fa0 fl34_0 rfl) ?_ | refine xq rfl trivial (o_fa fl34_0 rfl) ?_
                  refine xq rfl trivial (o_ldI (v := m0 0) rfl ts3 (List.Mem.tail _ (List.Mem.head _)) (by omega) rfl) ?_
                  refine xq rfl trivial (o_leq rfl rfl) ?_
                  refine xo_nil (xq_then ?_)
                  refine xw_bool 183 rfl (fun hc42 => ?_) (fun hc42 => ?_)
                  · have hq42 : (decide (m0 0 ≤ 3)) = true := hc42
                    have hp42 : m0 0 ≤ 3 := of_decide_eq_true hq42
                    rw [if_pos hp42] at h
                    refine xw_cond_t rfl rfl (xw_seq (xw_region ?_))
                    first | refine xq rfl trivial (o_fa0 fl34_4 rfl) ?_ | refine xq rfl trivial (o_fa fl34_4 rfl) ?_
                    refine xq rfl trivial (o_ldI (v := m0 4) rfl ts3 (List.Mem.tail _ (List.Mem.head _)) (by omega) rfl) ?_
                    first | refine xq rfl trivial (o_fa0 fl34_4 rfl) ?_ | refine xq rfl trivial (o_fa fl34_4 rfl) ?_
                    refine xq0 trivial (o_stI rfl rfl ts3 (List.Mem.head _) (by omega) (.here _ _ _ _)) ?_
                    refine xo_nil (xq_then (xw_seq (xw_region ?_)))
                    first | refine xq rfl trivial (o_fa0 fl34_4 rfl) ?_ | refine xq rfl trivial (o_fa fl34_4 rfl) ?_
                    refine xq rfl trivial (o_ldI (v := m0 4) rfl ts3 (List.Mem.tail _ (List.Mem.head _)) (by omega) rfl) ?_
                    refine xcallq rfl trivial kf30 rfl (fun w1 hw1 => number_c _ w1) ?_
                    refine xq rfl trivial (o_not rfl) ?_
                    refine xo_nil (xq_then ?_)
                    refine xw_bool 190 rfl (fun hc43 => ?_) (fun hc43 => ?_)
                    · have hq43 : ((number_F (m0 4))) = false := (bnT hc43)
                      have hp43 : ¬ (((number_F (m0 4))) = true) := bne' hq43
                      rw [if_neg hp43] at h
                      refine xw_cond_t rfl rfl (xw_seq (xw_region ?_))
                      refine xq rfl trivial (o_as rfl) ?_
                      refine xo_nil (xq_then (xw_ret (xq_then_ret ?_)))
                      subst h
                      exact con_ret1 (.inl rfl) Try.results24 rfl [] (Kp.st (Kp.new hb7 (Kp.new hb1 Kp.nil))) (⟨rfl, rfl⟩)
                    · have hq43 : ((number_F (m0 4))) = true := (bnF hc43)
                      have hp43 : ((number_F (m0 4))) = true := hq43
                      rw [if_pos hp43] at h
                      refine xw_cond_f rfl rfl (xw_skip (xq_then (xw_seq (xw_seq (xw_region ?_)))))
                      first | refine xq rfl trivial (o_fa0 fl34_0 rfl) ?_ | refine xq rfl trivial (o_fa fl34_0 rfl) ?_
                      refine xq rfl trivial (o_ldI (v := m0 0) rfl ts3 (List.Mem.tail _ (List.Mem.head _)) (by omega) rfl) ?_
                      refine xq rfl trivial (o_leq rfl rfl) ?_
                      refine xo_nil (xq_then ?_)
                      refine xw_bool 193 rfl (fun hc44 => ?_) (fun hc44 => ?_)
                      · have hq44 : (decide (m0 0 ≤ 2)) = true := hc44
                        have hp44 : m0 0 ≤ 2 := of_decide_eq_true hq44
                        rw [if_pos hp44] at h
                        refine xw_cond_t rfl rfl (xw_seq (xw_region ?_))
                        first | refine xq rfl trivial (o_fa0 fl34_5 rfl) ?_ | refine xq rfl trivial (o_fa fl34_5 rfl) ?_
                        refine xq rfl trivial (o_ldSI rfl ts30 (List.Mem.tail _ (List.Mem.head _)) (by omega) (fun _ _ => rfl)) ?_
                        first | refine xq rfl trivial (o_fa0 fl34_5 rfl) ?_ | refine xq rfl trivial (o_fa fl34_5 rfl) ?_
                        refine xq0 trivial (o_stSI rfl rfl ts30 (List.Mem.head _) (by omega) (.here _ _ _ _)) ?_
                        refine xo_nil (xq_then (xw_seq (xw_region ?_)))
                        first | refine xq rfl trivial (o_fa0 fl34_6 rfl) ?_ | refine xq rfl trivial (o_fa fl34_6 rfl) ?_
                        refine xq rfl trivial (o_ldI (v := m0 7) rfl ts31 (List.Mem.tail _ (List.Mem.head _)) (by omega) rfl) ?_
                        first | refine xq rfl trivial (o_fa0 fl34_6 rfl) ?_ | refine xq rfl trivial (o_fa fl34_6 rfl) ?_
                        refine xq0 trivial (o_stI rfl rfl ts31 (List.Mem.head _) (by omega) (.here _ _ _ _)) ?_
                        refine xo_nil (xq_then (xw_seq ?_))
                        refine xw_cut [(1, _), (7, _)] (lc rfl (lc rfl ln)) [(213, .bool (((!((ref02Ok_F (fun i => m0 (5 + i))))) || (decide (m0 7 < 1))) || (decide (4 < m0 7))))] ?_ ?_
                        · refine xw_region ?_
                          first | refine xq rfl trivial (o_fa0 fl34_5 rfl) ?_ | refine xq rfl trivial (o_fa fl34_5 rfl) ?_
                          refine xq rfl trivial (o_ldSI rfl ts30 (List.Mem.tail _ (List.Mem.head _)) (by omega) (fun _ _ => rfl)) ?_
                          refine xcallq rfl trivial kf31 rfl (fun w1 hw1 => ref02Ok_c _ w1) ?_
                          refine xq rfl trivial (o_not rfl) ?_
                          refine xq rfl trivial (o_mv rfl) ?_
                          refine xo_bool 204 rfl (fun hg45 => ?_) (fun hg45 => ?_)
                          · have hq45 : ((ref02Ok_F (fun i => m0 (5 + i)))) = false := (bnT hg45)
                            have hp45 : ¬ (((ref02Ok_F (fun i => m0 (5 + i)))) = true) := bne' hq45
                            refine xs rfl ⟨_, _, rfl, rfl, rfl⟩ (xs rfl ⟨_, _, rfl, rfl, rfl⟩ (xs rfl ⟨_, _, rfl, rfl, rfl⟩ ?_))
                            refine xq rfl trivial (o_pick_t rfl rfl) ?_
                            refine xq rfl trivial (o_mv rfl) ?_
                            refine xs rfl ⟨_, _, rfl, rfl, rfl⟩ (xs rfl ⟨_, _, rfl, rfl, rfl⟩ (xs rfl ⟨_, _, rfl, rfl, rfl⟩ ?_))
                            refine xq rfl trivial (o_pick_t rfl rfl) ?_
                            refine xo_nil ?_
                            exact xq_cut ((lce rfl (by first | rfl | (simp only [hq2, hq17, hq18, hq41, hq42, hq43, hq44, hq45, if_neg hp2, if_neg hp17, if_neg hp18, if_pos hp41, if_pos hp42, if_pos hp43, if_pos hp44, if_neg hp45, bS]; done) | (simp only [hq2, hq17, hq18, hq41, hq42, hq43, hq44, hq45, if_neg hp2, if_neg hp17, if_neg hp18, if_pos hp41, if_pos hp42, if_pos hp43, if_pos hp44, if_neg hp45, bS, reduceIte, Bool.false_eq_true]; done) | (simp [hp2, hp17, hp18, hp41, hp42, hp43, hp44, hp45]; done) | (simp_all; done)) (lc rfl (lc rfl ln)))) (fun _ h => h)
                          · have hq45 : ((ref02Ok_F (fun i => m0 (5 + i)))) = true := (bnF hg45)
                            have hp45 : ((ref02Ok_F (fun i => m0 (5 + i)))) = true := hq45
                            first | refine xq rfl ⟨_, rfl, rfl⟩ (o_fa0 fl34_6 rfl) ?_ | refine xq rfl ⟨_, rfl, rfl⟩ (o_fa fl34_6 rfl) ?_
                            refine xq rfl ⟨_, rfl, rfl⟩ (o_ldI (v := m0 7) rfl ts31 (List.Mem.tail _ (List.Mem.head _)) (by omega) rfl) ?_
                            refine xq rfl ⟨_, rfl, rfl⟩ (o_lss rfl rfl) ?_
                            refine xq rfl trivial (o_pick_f rfl rfl) ?_
                            refine xq rfl trivial (o_mv rfl) ?_
                            refine xo_bool 209 rfl (fun hg46 => ?_) (fun hg46 => ?_)
                            · have hq46 : (decide (m0 7 < 1)) = true := hg46
                              have hp46 : m0 7 < 1 := of_decide_eq_true hq46
                              refine xs rfl ⟨_, _, rfl, rfl, rfl⟩ (xs rfl ⟨_, _, rfl, rfl, rfl⟩ (xs rfl ⟨_, _, rfl, rfl, rfl⟩ ?_))
                              refine xq rfl trivial (o_pick_t rfl rfl) ?_
                              refine xo_nil ?_
                              exact xq_cut ((lce rfl (by first | rfl | (simp only [hq2, hq17, hq18, hq41, hq42, hq43, hq44, hq45, hq46, if_neg hp2, if_neg hp17, if_neg hp18, if_pos hp41, if_pos hp42, if_pos hp43, if_pos hp44, if_pos hp45, if_pos hp46, bS]; done) | (simp only [hq2, hq17, hq18, hq41, hq42, hq43, hq44, hq45, hq46, if_neg hp2, if_neg hp17, if_neg hp18, if_pos hp41, if_pos hp42, if_pos hp43, if_pos hp44, if_pos hp45, if_pos hp46, bS, reduceIte, Bool.false_eq_true]; done) | (simp [hp2, hp17, hp18, hp41, hp42, hp43, hp44, hp45, hp46]; done) | (simp_all; done)) (lc rfl (lc rfl ln)))) (fun _ h => h)
                            · have hq46 : (decide (m0 7 < 1)) = false := hg46
                              have hp46 : ¬ (m0 7 < 1) := of_decide_eq_false hq46
                              first | refine xq rfl ⟨_, rfl, rfl⟩ (o_fa0 fl34_6 rfl) ?_ | refine xq rfl ⟨_, rfl, rfl⟩ (o_fa fl34_6 rfl) ?_
                              refine xq rfl ⟨_, rfl, rfl⟩ (o_ldI (v := m0 7) rfl ts31 (List.Mem.tail _ (List.Mem.head _)) (by omega) rfl) ?_
                              refine xq rfl ⟨_, rfl, rfl⟩ (o_gtr rfl rfl) ?_
                              refine xq rfl trivial (o_pick_f rfl rfl) ?_
                              refine xo_nil ?_
                              exact xq_cut ((lce rfl (by first | rfl | (simp only [hq2, hq17, hq18, hq41, hq42, hq43, hq44, hq45, hq46, if_neg hp2, if_neg hp17, if_neg hp18, if_pos hp41, if_pos hp42, if_pos hp43, if_pos hp44, if_pos hp45, if_neg hp46, bS]; done) | (simp only [hq2, hq17, hq18, hq41, hq42, hq43, hq44, hq45, hq46, if_neg hp2, if_neg hp17, if_neg hp18, if_pos hp41, if_pos hp42, if_pos hp43, if_pos hp44, if_pos hp45, if_neg hp46, bS, reduceIte, Bool.false_eq_true]; done) | (simp [hp2, hp17, hp18, hp41, hp42, hp43, hp44, hp45, hp46]; done) | (simp_all; done)) (lc rfl (lc rfl ln)))) (fun _ h => h)
                        · refine xq_then ?_
                          refine xw_bool 213 rfl (fun hc47 => ?_) (fun hc47 => ?_)
                          · have hq47 : (((!((ref02Ok_F (fun i => m0 (5 + i))))) || (decide (m0 7 < 1))) || (decide (4 < m0 7))) = true := hc47
                            have hp47 : (((!((ref02Ok_F (fun i => m0 (5 + i))))) || (decide (m0 7 < 1))) || (decide (4 < m0 7))) = true := hq47
                            rw [if_pos hp47] at h
                            refine xw_cond_t rfl rfl (xw_seq (xw_region ?_))
                            refine xq rfl trivial (o_as rfl) ?_
                            refine xo_nil (xq_then (xw_ret (xq_then_ret ?_)))
                            subst h
                            exact con_ret1 (.inl rfl) Try.results24 rfl [] (Kp.st (Kp.new hb7 (Kp.new hb1 Kp.nil))) (⟨rfl, rfl⟩)
                          · have hq47 : (((!((ref02Ok_F (fun i => m0 (5 + i))))) || (decide (m0 7 < 1))) || (decide (4 < m0 7))) = false := hc47
                            have hp47 : ¬ ((((!((ref02Ok_F (fun i => m0 (5 + i))))) || (decide (m0 7 < 1))) || (decide (4 < m0 7))) = true) := bne' hq47
                            rw [if_neg hp47] at h
                            refine xw_cond_f rfl rfl (xw_skip (xq_then (xw_seq (xw_seq (xw_region ?_)))))
                            first | refine xq rfl trivial (o_fa0 fl34_0 rfl) ?_ | refine xq rfl trivial (o_fa fl34_0 rfl) ?_
                            refine xq rfl trivial (o_ldI (v := m0 0) rfl ts3 (List.Mem.tail _ (List.Mem.head _)) (by omega) rfl) ?_
                            refine xq rfl trivial (o_eql rfl rfl) ?_
                            refine xo_nil (xq_then ?_)
                            refine xw_bool 216 rfl (fun hc48 => ?_) (fun hc48 => ?_)
                            · have hq48 : (decide (m0 0 = 3)) = true := hc48
                              have hp48 : m0 0 = 3 := of_decide_eq_true hq48
                              rw [if_pos hp48] at h
                              refine xw_cond_t rfl rfl (xw_seq (xw_region ?_))
                              first | refine xq rfl trivial (o_fa0 fl34_7 rfl) ?_ | refine xq rfl trivial (o_fa fl34_7 rfl) ?_
                              refine xq rfl trivial (o_ldI (v := m0 8) rfl ts3 (List.Mem.tail _ (List.Mem.head _)) (by omega) rfl) ?_
                              first | refine xq rfl trivial (o_fa0 fl34_7 rfl) ?_ | refine xq rfl trivial (o_fa fl34_7 rfl) ?_
                              refine xq0 trivial (o_stI rfl rfl ts3 (List.Mem.head _) (by omega) (.here _ _ _ _)) ?_
                              refine xo_nil (xq_then (xw_seq ?_))
                              refine xw_cut [(1, _), (7, _)] (lc rfl (lc rfl ln)) [(227, .bool ((decide (m0 8 < 1)) || (decide (15 < m0 8))))] ?_ ?_
                              · refine xw_region ?_
                                first | refine xq rfl trivial (o_fa0 fl34_7 rfl) ?_ | refine xq rfl trivial (o_fa fl34_7 rfl) ?_
                                refine xq rfl trivial (o_ldI (v := m0 8) rfl ts3 (List.Mem.tail _ (List.Mem.head _)) (by omega) rfl) ?_
                                refine xq rfl trivial (o_lss rfl rfl) ?_
                                refine xq rfl trivial (o_mv rfl) ?_
                                refine xo_bool 223 rfl (fun hg49 => ?_) (fun hg49 => ?_)
                                · have hq49 : (decide (m0 8 < 1)) = true := hg49
                                  have hp49 : m0 8 < 1 := of_decide_eq_true hq49
                                  refine xs rfl ⟨_, _, rfl, rfl, rfl⟩ (xs rfl ⟨_, _, rfl, rfl, rfl⟩ (xs rfl ⟨_, _, rfl, rfl, rfl⟩ ?_))
                                  refine xq rfl trivial (o_pick_t rfl rfl) ?_
                                  refine xo_nil ?_
                                  exact xq_cut ((lce rfl (by first | rfl | (simp only [hq2, hq17, hq18, hq41, hq42, hq43, hq44, hq47, hq48, hq49, if_neg hp2, if_neg hp17, if_neg hp18, if_pos hp41, if_pos hp42, if_pos hp43, if_pos hp44, if_neg hp47, if_pos hp48, if_pos hp49, bS]; done) | (simp only [hq2, hq17, hq18, hq41, hq42, hq43, hq44, hq47, hq48, hq49, if_neg hp2, if_neg hp17, if_neg hp18, if_pos hp41, if_pos hp42, if_pos hp43, if_pos hp44, if_neg hp47, if_pos hp48, if_pos hp49, bS, reduceIte, Bool.false_eq_true]; done) | (simp [hp2, hp17, hp18, hp41, hp42, hp43, hp44, hp47, hp48, hp49]; done) | (simp_all; done)) (lc rfl (lc rfl ln)))) (fun _ h => h)
                                · have hq49 : (decide (m0 8 < 1)) = false := hg49
                                  have hp49 : ¬ (m0 8 < 1) := of_decide_eq_false hq49
                                  first | refine xq rfl ⟨_, rfl, rfl⟩ (o_fa0 fl34_7 rfl) ?_ | refine xq rfl ⟨_, rfl, rfl⟩ (o_fa fl34_7 rfl) ?_
                                  refine xq rfl ⟨_, rfl, rfl⟩ (o_ldI (v := m0 8) rfl ts3 (List.Mem.tail _ (List.Mem.head _)) (by omega) rfl) ?_
                                  refine xq rfl ⟨_, rfl, rfl⟩ (o_gtr rfl rfl) ?_
                                  refine xq rfl trivial (o_pick_f rfl rfl) ?_
                                  refine xo_nil ?_
                                  exact xq_cut ((lce rfl (by first | rfl | (simp only [hq2, hq17, hq18, hq41, hq42, hq43, hq44, hq47, hq48, hq49, if_neg hp2, if_neg hp17, if_neg hp18, if_pos hp41, if_pos hp42, if_pos hp43, if_pos hp44, if_neg hp47, if_pos hp48, if_neg hp49, bS]; done) | (simp only [hq2, hq17, hq18, hq41, hq42, hq43, hq44, hq47, hq48, hq49, if_neg hp2, if_neg hp17, if_neg hp18, if_pos hp41, if_pos hp42, if_pos hp43, if_pos hp44, if_neg hp47, if_pos hp48, if_neg hp49, bS, reduceIte, Bool.false_eq_true]; done) | (simp [hp2, hp17, hp18, hp41, hp42, hp43, hp44, hp47, hp48, hp49]; done) | (simp_all; done)) (lc rfl (lc rfl ln)))) (fun _ h => h)
                              · refine xq_then ?_
                                refine xw_bool 227 rfl (fun hc50 => ?_) (fun hc50 => ?_)
                                · have hq50 : ((decide (m0 8 < 1)) || (decide (15 < m0 8))) = true := hc50
                                  have hp50 : ((decide (m0 8 < 1)) || (decide (15 < m0 8))) = true := hq50
                                  rw [if_pos hp50] at h
                                  refine xw_cond_t rfl rfl (xw_seq (xw_region ?_))
                                  refine xq rfl trivial (o_as rfl) ?_
                                  refine xo_nil (xq_then (xw_ret (xq_then_ret ?_)))
                                  subst h
                                  exact con_ret1 (.inl rfl) Try.results24 rfl [] (Kp.st (Kp.new hb7 (Kp.new hb1 Kp.nil))) (⟨rfl, rfl⟩)
                                · have hq50 : ((decide (m0 8 < 1)) || (decide (15 < m0 8))) = false := hc50
                                  have hp50 : ¬ (((decide (m0 8 < 1)) || (decide (15 < m0 8))) = true) := bne' hq50
                                  rw [if_neg hp50] at h
                                  refine xw_cond_f rfl rfl (xw_skip (xq_then (xw_seq (xw_seq ?_))))
                                  refine xw_cut [(1, _), (7, _)] (lc rfl (lc rfl ln)) [(235, .bool ((decide (m0 0 = 5)) || (decide (m0 0 = 6))))] ?_ ?_
                                  · refine xw_region ?_
                                    first | refine xq rfl trivial (o_fa0 fl34_0 rfl) ?_ | refine xq rfl trivial (o_fa fl34_0 rfl) ?_
                                    refine xq rfl trivial (o_ldI (v := m0 0) rfl ts3 (List.Mem.tail _ (List.Mem.head _)) (by omega) rfl) ?_
                                    refine xq rfl trivial (o_eql rfl rfl) ?_
                                    refine xq rfl trivial (o_mv rfl) ?_
                                    refine xo_val 231 rfl (v' := .bool false) (congrArg Value.bool (by simp; omega)) ?_
                                    first | refine xq rfl ⟨_, rfl, rfl⟩ (o_fa0 fl34_0 rfl) ?_ | refine xq rfl ⟨_, rfl, rfl⟩ (o_fa fl34_0 rfl) ?_
                                    refine xq rfl ⟨_, rfl, rfl⟩ (o_ldI (v := m0 0) rfl ts3 (List.Mem.tail _ (List.Mem.head _)) (by omega) rfl) ?_
                                    refine xq rfl ⟨_, rfl, rfl⟩ (o_eql rfl rfl) ?_
                                    refine xq rfl trivial (o_pick_f rfl rfl) ?_
                                    refine xo_nil ?_
                                    exact xq_cut ((lce rfl (by first | rfl | (simp only [hq2, hq17, hq18, hq41, hq42, hq43, hq44, hq47, hq48, hq50, if_neg hp2, if_neg hp17, if_neg hp18, if_pos hp41, if_pos hp42, if_pos hp43, if_pos hp44, if_neg hp47, if_pos hp48, if_neg hp50, bS]; done) | (simp only [hq2, hq17, hq18, hq41, hq42, hq43, hq44, hq47, hq48, hq50, if_neg hp2, if_neg hp17, if_neg hp18, if_pos hp41, if_pos hp42, if_pos hp43, if_pos hp44, if_neg hp47, if_pos hp48, if_neg hp50, bS, reduceIte, Bool.false_eq_true]; done) | (simp [hp2, hp17, hp18, hp41, hp42, hp43, hp44, hp47, hp48, hp50]; done) | (simp_all; done)) (lc rfl (lc rfl ln)))) (fun _ h => h)
                                  · refine xq_then ?_
                                    refine xw_bool 235 rfl (fun hc52 => ?_) (fun hc52 => ?_)
                                    · have hq52 : ((decide (m0 0 = 5)) || (decide (m0 0 = 6))) = true := hc52
                                      have hp52 : ((decide (m0 0 = 5)) || (decide (m0 0 = 6))) = true := hq52
                                      rw [if_pos hp52] at h
                                      refine xw_cond_t rfl rfl (xw_seq (xw_region ?_))
                                      first | refine xq rfl trivial (o_fa0 fl34_7 rfl) ?_ | refine xq rfl trivial (o_fa fl34_7 rfl) ?_
                                      refine xq rfl trivial (o_ldI (v := m0 8) rfl ts3 (List.Mem.tail _ (List.Mem.head _)) (by omega) rfl) ?_
                                      first | refine xq rfl trivial (o_fa0 fl34_7 rfl) ?_ | refine xq rfl trivial (o_fa fl34_7 rfl) ?_
                                      refine xq0 trivial (o_stI rfl rfl ts3 (List.Mem.head _) (by omega) (.here _ _ _ _)) ?_
                                      refine xo_nil (xq_then (xw_seq ?_))
                                      refine xw_cut [(1, _), (7, _)] (lc rfl (lc rfl ln)) [(246, .bool ((!(decide (m0 8 = 0))) && (!(decide (m0 8 = 1)))))] ?_ ?_
                                      · refine xw_region ?_
                                        first | refine xq rfl trivial (o_fa0 fl34_7 rfl) ?_ | refine xq rfl trivial (o_fa fl34_7 rfl) ?_
                                        refine xq rfl trivial (o_ldI (v := m0 8) rfl ts3 (List.Mem.tail _ (List.Mem.head _)) (by omega) rfl) ?_
                                        refine xq rfl trivial (o_neq rfl rfl) ?_
                                        refine xq rfl trivial (o_mv rfl) ?_
                                        refine xo_bool 242 rfl (fun hg53 => ?_) (fun hg53 => ?_)
                                        · have hq53 : (decide (m0 8 = 0)) = false := (bnT hg53)
                                          have hp53 : ¬ (m0 8 = 0) := of_decide_eq_false hq53
                                          first | refine xq rfl ⟨_, rfl, rfl⟩ (o_fa0 fl34_7 rfl) ?_ | refine xq rfl ⟨_, rfl, rfl⟩ (o_fa fl34_7 rfl) ?_
                                          refine xq rfl ⟨_, rfl, rfl⟩ (o_ldI (v := m0 8) rfl ts3 (List.Mem.tail _ (List.Mem.head _)) (by omega) rfl) ?_
                                          refine xq rfl ⟨_, rfl, rfl⟩ (o_neq rfl rfl) ?_
                                          refine xq rfl trivial (o_pick_t rfl rfl) ?_
                                          refine xo_nil ?_
                                          exact xq_cut ((lce rfl (by first | rfl | (simp only [hq2, hq17, hq18, hq41, hq42, hq43, hq44, hq47, hq48, hq50, hq52, hq53, if_neg hp2, if_neg hp17, if_neg hp18, if_pos hp41, if_pos hp42, if_pos hp43, if_pos hp44, if_neg hp47, if_pos hp48, if_neg hp50, if_pos hp52, if_neg hp53, bS]; done) | (simp only [hq2, hq17, hq18, hq41, hq42, hq43, hq44, hq47, hq48, hq50, hq52, hq53, if_neg hp2, if_neg hp17, if_neg hp18, if_pos hp41, if_pos hp42, if_pos hp43, if_pos hp44, if_neg hp47, if_pos hp48, if_neg hp50, if_pos hp52, if_neg hp53, bS, reduceIte, Bool.false_eq_true]; done) | (simp [hp2, hp17, hp18, hp41, hp42, hp43, hp44, hp47, hp48, hp50, hp52, hp53]; done) | (simp_all; done)) (lc rfl (lc rfl ln)))) (fun _ h => h)
                                        · have hq53 : (decide (m0 8 = 0)) = true := (bnF hg53)
                                          have hp53 : m0 8 = 0 := of_decide_eq_true hq53
                                          refine xs rfl ⟨_, _, rfl, rfl, rfl⟩ (xs rfl ⟨_, _, rfl, rfl, rfl⟩ (xs rfl ⟨_, _, rfl, rfl, rfl⟩ ?_))
                                          refine xq rfl trivial (o_pick_f rfl rfl) ?_
                                          refine xo_nil ?_
                                          exact xq_cut ((lce rfl (by first | rfl | (simp only [hq2, hq17, hq18, hq41, hq42, hq43, hq44, hq47, hq48, hq50, hq52, hq53, if_neg hp2, if_neg hp17, if_neg hp18, if_pos hp41, if_pos hp42, if_pos hp43, if_pos hp44, if_neg hp47, if_pos hp48, if_neg hp50, if_pos hp52, if_pos hp53, bS]; done) | (simp only [hq2, hq17, hq18, hq41, hq42, hq43, hq44, hq47, hq48, hq50, hq52, hq53, if_neg hp2, if_neg hp17, if_neg hp18, if_pos hp41, if_pos hp42, if_pos hp43, if_pos hp44, if_neg hp47, if_pos hp48, if_neg hp50, if_pos hp52, if_pos hp53, bS, reduceIte, Bool.false_eq_true]; done) | (simp [hp2, hp17, hp18, hp41, hp42, hp43, hp44, hp47, hp48, hp50, hp52, hp53]; done) | (simp_all; done)) (lc rfl (lc rfl ln)))) (fun _ h => h)
                                      · refine xq_then ?_
                                        refine xw_bool 246 rfl (fun hc54 => ?_) (fun hc54 => ?_)
                                        · have hq54 : ((!(decide (m0 8 = 0))) && (!(decide (m0 8 = 1)))) = true := hc54
                                          have hp54 : ((!(decide (m0 8 = 0))) && (!(decide (m0 8 = 1)))) = true := hq54
                                          rw [if_pos hp54] at h
                                          refine xw_cond_t rfl rfl (xw_seq (xw_region ?_))
                                          refine xq rfl trivial (o_as rfl) ?_
                                          refine xo_nil (xq_then (xw_ret (xq_then_ret ?_)))
                                          subst h
                                          exact con_ret1 (.inl rfl) Try.results24 rfl [] (Kp.st (Kp.new hb7 (Kp.new hb1 Kp.nil))) (⟨rfl, rfl⟩)
                                        · have hq54 : ((!(decide (m0 8 = 0))) && (!(decide (m0 8 = 1)))) = false := hc54
                                          have hp54 : ¬ (((!(decide (m0 8 = 0))) && (!(decide (m0 8 = 1)))) = true) := bne' hq54
                                          rw [if_neg hp54] at h
                                          refine xw_cond_f rfl rfl (xw_skip (xq_then (xw_seq (xw_seq (xw_region ?_)))))
                                          first | refine xq rfl trivial (o_fa0 fl34_0 rfl) ?_ | refine xq rfl trivial (o_fa fl34_0 rfl) ?_
                                          refine xq rfl trivial (o_ldI (v := m0 0) rfl ts3 (List.Mem.tail _ (List.Mem.head _)) (by omega) rfl) ?_
                                          refine xq rfl trivial (o_eql rfl rfl) ?_
                                          refine xo_nil (xq_then ?_)
                                          refine xw_cond_f rfl (by simp; omega) ?_
                                          refine xw_skip (xq_then (xw_seq (xw_region ?_)))
                                          refine xq rfl trivial (o_ldW rfl ts34 (List.Mem.tail _ (List.Mem.head _))) ?_
                                          refine xq rfl trivial (o_ldW rfl ts34 (List.Mem.head _)) ?_
                                          refine xq rfl trivial (o_eqlA eq34 rfl rfl) ?_
                                          refine xq rfl trivial (o_as rfl) ?_
                                          refine xo_nil (xq_then (xw_ret ?_))
                                          subst h
                                          exact con_ret1 (.inl rfl) Try.results24 rfl [] (Kp.st (Kp.new hb7 (Kp.new hb1 Kp.nil))) (⟨rfl, rfl⟩)
                                    · have hq52 : ((decide (m0 0 = 5)) || (decide (m0 0 = 6))) = false := hc52
                                      have hp52 : ¬ (((decide (m0 0 = 5)) || (decide (m0 0 = 6))) = true) := bne' hq52
                                      rw [if_neg hp52] at h
                                      refine xw_cond_f rfl rfl (xw_skip (xq_then (xw_seq (xw_seq (xw_region ?_)))))
                                      first | refine xq rfl trivial (o_fa0 fl34_0 rfl) ?_ | refine xq rfl trivial (o_fa fl34_0 rfl) ?_
                                      refine xq rfl trivial (o_ldI (v := m0 0) rfl ts3 (List.Mem.tail _ (List.Mem.head _)) (by omega) rfl) ?_
                                      refine xq rfl trivial (o_eql rfl rfl) ?_
                                      refine xo_nil (xq_then ?_)
                                      refine xw_cond_f rfl (by simp; omega) ?_
                                      refine xw_skip (xq_then (xw_seq (xw_region ?_)))
                                      refine xq rfl trivial (o_ldW rfl ts34 (List.Mem.tail _ (List.Mem.head _))) ?_
                                      refine xq rfl trivial (o_ldW rfl ts34 (List.Mem.head _)) ?_
                                      refine xq rfl trivial (o_eqlA eq34 rfl rfl) ?_
                                      refine xq rfl trivial (o_as rfl) ?_
                                      refine xo_nil (xq_then (xw_ret ?_))
                                      subst h
                                      exact con_ret1 (.inl rfl) Try.results24 rfl [] (Kp.st (Kp.new hb7 (Kp.new hb1 Kp.nil))) (⟨rfl, rfl⟩)
                            · have hq48 : (decide (m0 0 = 3)) = false := hc48
                              have hp48 : ¬ (m0 0 = 3) := of_decide_eq_false hq48
                              rw [if_neg hp48] at h
                              refine xw_cond_f rfl rfl (xw_skip (xq_then (xw_seq (xw_seq ?_))))
                              refine xw_cut [(1, _), (7, _)] (lc rfl (lc rfl ln)) [(235, .bool ((decide (m0 0 = 5)) || (decide (m0 0 = 6))))] ?_ ?_
                              · refine xw_region ?_
                                first | refine xq rfl trivial (o_fa0 fl34_0 rfl) ?_ | refine xq rfl trivial (o_fa fl34_0 rfl) ?_
                                refine xq rfl trivial (o_ldI (v := m0 0) rfl ts3 (List.Mem.tail _ (List.Mem.head _)) (by omega) rfl) ?_
                                refine xq rfl trivial (o_eql rfl rfl) ?_
                                refine xq rfl trivial (o_mv rfl) ?_
                                refine xo_bool 231 rfl (fun hg55 => ?_) (fun hg55 => ?_)
                                · have hq55 : (decide (m0 0 = 5)) = true := hg55
                                  have hp55 : m0 0 = 5 := of_decide_eq_true hq55
                                  refine xs rfl ⟨_, _, rfl, rfl, rfl⟩ (xs rfl ⟨_, _, rfl, rfl, rfl⟩ (xs rfl ⟨_, _, rfl, rfl, rfl⟩ ?_))
                                  refine xq rfl trivial (o_pick_t rfl rfl) ?_
                                  refine xo_nil ?_
                                  exact xq_cut ((lce rfl (by first | rfl | (simp only [hq2, hq17, hq18, hq41, hq42, hq43, hq44, hq47, hq48, hq55, if_neg hp2, if_neg hp17, if_neg hp18, if_pos hp41, if_pos hp42, if_pos hp43, if_pos hp44, if_neg hp47, if_neg hp48, if_pos hp55, bS]; done) | (simp only [hq2, hq17, hq18, hq41, hq42, hq43, hq44, hq47, hq48, hq55, if_neg hp2, if_neg hp17, if_neg hp18, if_pos hp41, if_pos hp42, if_pos hp43, if_pos hp44, if_neg hp47, if_neg hp48, if_pos hp55, bS, reduceIte, Bool.false_eq_true]; done) | (simp [hp2, hp17, hp18, hp41, hp42, hp43, hp44, hp47, hp48, hp55]; done) | (simp_all; done)) (lc rfl (lc rfl ln)))) (fun _ h => h)
                                · have hq55 : (decide (m0 0 = 5)) = false := hg55
                                  have hp55 : ¬ (m0 0 = 5) := of_decide_eq_false hq55
                                  first | refine xq rfl ⟨_, rfl, rfl⟩ (o_fa0 fl34_0 rfl) ?_ | refine xq rfl ⟨_, rfl, rfl⟩ (o_fa fl34_0 rfl) ?_
                                  refine xq rfl ⟨_, rfl, rfl⟩ (o_ldI (v := m0 0) rfl ts3 (List.Mem.tail _ (List.Mem.head _)) (by omega) rfl) ?_
                                  refine xq rfl ⟨_, rfl, rfl⟩ (o_eql rfl rfl) ?_
                                  refine xq rfl trivial (o_pick_f rfl rfl) ?_
                                  refine xo_nil ?_
                                  exact xq_cut ((lce rfl (by first | rfl | (simp only [hq2, hq17, hq18, hq41, hq42, hq43, hq44, hq47, hq48, hq55, if_neg hp2, if_neg hp17, if_neg hp18, if_pos hp41, if_pos hp42, if_pos hp43, if_pos hp44, if_neg hp47, if_neg hp48, if_neg hp55, bS]; done) | (simp only [hq2, hq17, hq18, hq41, hq42, hq43, hq44, hq47, hq48, hq55, if_neg hp2, if_neg hp17, if_neg hp18, if_pos hp41, if_pos hp42, if_pos hp43, if_pos hp44, if_neg hp47, if_neg hp48, if_neg hp55, bS, reduceIte, Bool.false_eq_true]; done) | (simp [hp2, hp17, hp18, hp41, hp42, hp43, hp44, hp47, hp48, hp55]; done) | (simp_all; done)) (lc rfl (lc rfl ln)))) (fun _ h => h)
                              · refine xq_then ?_
                                refine xw_bool 235 rfl (fun hc56 => ?_) (fun hc56 => ?_)
                                · have hq56 : ((decide (m0 0 = 5)) || (decide (m0 0 = 6))) = true := hc56
                                  have hp56 : ((decide (m0 0 = 5)) || (decide (m0 0 = 6))) = true := hq56
                                  rw [if_pos hp56] at h
                                  refine xw_cond_t rfl rfl (xw_seq (xw_region ?_))
                                  first | refine xq rfl trivial (o_fa0 fl34_7 rfl) ?_ | refine xq rfl trivial (o_fa fl34_7 rfl) ?_
                                  refine xq rfl trivial (o_ldI (v := m0 8) rfl ts3 (List.Mem.tail _ (List.Mem.head _)) (by omega) rfl) ?_
                                  first | refine xq rfl trivial (o_fa0 fl34_7 rfl) ?_ | refine xq rfl trivial (o_fa fl34_7 rfl) ?_
                                  refine xq0 trivial (o_stI rfl rfl ts3 (List.Mem.head _) (by omega) (.here _ _ _ _)) ?_
                                  refine xo_nil (xq_then (xw_seq ?_))
                                  refine xw_cut [(1, _), (7, _)] (lc rfl (lc rfl ln)) [(246, .bool ((!(decide (m0 8 = 0))) && (!(decide (m0 8 = 1)))))] ?_ ?_
                                  · refine xw_region ?_
                                    first | refine xq rfl trivial (o_fa0 fl34_7 rfl) ?_ | refine xq rfl trivial (o_fa fl34_7 rfl) ?_
                                    refine xq rfl trivial (o_ldI (v := m0 8) rfl ts3 (List.Mem.tail _ (List.Mem.head _)) (by omega) rfl) ?_
                                    refine xq rfl trivial (o_neq rfl rfl) ?_
                                    refine xq rfl trivial (o_mv rfl) ?_
                                    refine xo_bool 242 rfl (fun hg57 => ?_) (fun hg57 => ?_)
                                    · have hq57 : (decide (m0 8 = 0)) = false := (bnT hg57)
                                      have hp57 : ¬ (m0 8 = 0) := of_decide_eq_false hq57
                                      first | refine xq rfl ⟨_, rfl, rfl⟩ (o_fa0 fl34_7 rfl) ?_ | refine xq rfl ⟨_, rfl, rfl⟩ (o_fa fl34_7 rfl) ?_
                                      refine xq rfl ⟨_, rfl, rfl⟩ (o_ldI (v := m0 8) rfl ts3 (List.Mem.tail _ (List.Mem.head _)) (by omega) rfl) ?_
                                      refine xq rfl ⟨_, rfl, rfl⟩ (o_neq rfl rfl) ?_
                                      refine xq rfl trivial (o_pick_t rfl rfl) ?_
                                      refine xo_nil ?_
                                      exact xq_cut ((lce rfl (by first | rfl | (simp only [hq2, hq17, hq18, hq41, hq42, hq43, hq44, hq47, hq48, hq56, hq57, if_neg hp2, if_neg hp17, if_neg hp18, if_pos hp41, if_pos hp42, if_pos hp43, if_pos hp44, if_neg hp47, if_neg hp48, if_pos hp56, if_neg hp57, bS]; done) | (simp only [hq2, hq17, hq18, hq41, hq42, hq43, hq44, hq47, hq48, hq56, hq57, if_neg hp2, if_neg hp17, if_neg hp18, if_pos hp41, if_pos hp42, if_pos hp43, if_pos hp44, if_neg hp47, if_neg hp48, if_pos hp56, if_neg hp57, bS, reduceIte, Bool.false_eq_true]; done) | (simp [hp2, hp17, hp18, hp41, hp42, hp43, hp44, hp47, hp48, hp56, hp57]; done) | (simp_all; done)) (lc rfl (lc rfl ln)))) (fun _ h => h)
                                    · have hq57 : (decide (m0 8 = 0)) = true := (bnF hg57)
                                      have hp57 : m0 8 = 0 := of_decide_eq_true hq57
                                      refine xs rfl ⟨_, _, rfl, rfl, rfl⟩ (xs rfl ⟨_, _, rfl, rfl, rfl⟩ (xs rfl ⟨_, _, rfl, rfl, rfl⟩ ?_))
                                      refine xq rfl trivial (o_pick_f rfl rfl) ?_
                                      refine xo_nil ?_
                                      exact xq_cut ((lce rfl (by first | rfl | (simp only [hq2, hq17, hq18, hq41, hq42, hq43, hq44, hq47, hq48, hq56, hq57, if_neg hp2, if_neg hp17, if_neg hp18, if_pos hp41, if_pos hp42, if_pos hp43, if_pos hp44, if_neg hp47, if_neg hp48, if_pos hp56, if_pos hp57, bS]; done) | (simp only [hq2, hq17, hq18, hq41, hq42, hq43, hq44, hq47, hq48, hq56, hq57, if_neg hp2, if_neg hp17, if_neg hp18, if_pos hp41, if_pos hp42, if_pos hp43, if_pos hp44, if_neg hp47, if_neg hp48, if_pos hp56, if_pos hp57, bS, reduceIte, Bool.false_eq_true]; done) | (simp [hp2, hp17, hp18, hp41, hp42, hp43, hp44, hp47, hp48, hp56, hp57]; done) | (simp_all; done)) (lc rfl (lc rfl ln)))) (fun _ h => h)
                                  · refine xq_then ?_
                                    refine xw_bool 246 rfl (fun hc58 => ?_) (fun hc58 => ?_)
                                    · have hq58 : ((!(decide (m0 8 = 0))) && (!(decide (m0 8 = 1)))) = true := hc58
                                      have hp58 : ((!(decide (m0 8 = 0))) && (!(decide (m0 8 = 1)))) = true := hq58
                                      rw [if_pos hp58] at h
                                      refine xw_cond_t rfl rfl (xw_seq (xw_region ?_))
                                      refine xq rfl trivial (o_as rfl) ?_
                                      refine xo_nil (xq_then (xw_ret (xq_then_ret ?_)))
                                      subst h
                                      exact con_ret1 (.inl rfl) Try.results24 rfl [] (Kp.st (Kp.new hb7 (Kp.new hb1 Kp.nil))) (⟨rfl, rfl⟩)
                                    · have hq58 : ((!(decide (m0 8 = 0))) && (!(decide (m0 8 = 1)))) = false := hc58
                                      have hp58 : ¬ (((!(decide (m0 8 = 0))) && (!(decide (m0 8 = 1)))) = true) := bne' hq58
                                      rw [if_neg hp58] at h
                                      refine xw_cond_f rfl rfl (xw_skip (xq_then (xw_seq (xw_seq (xw_region ?_)))))
                                      first | refine xq rfl trivial (o_fa0 fl34_0 rfl) ?_ | refine xq rfl trivial (o_fa fl34_0 rfl) ?_
                                      refine xq rfl trivial (o_ldI (v := m0 0) rfl ts3 (List.Mem.tail _ (List.Mem.head _)) (by omega) rfl) ?_
                                      refine xq rfl trivial (o_eql rfl rfl) ?_
                                      refine xo_nil (xq_then ?_)
                                      refine xw_bool 249 rfl (fun hc59 => ?_) (fun hc59 => ?_)
                                      · have hq59 : (decide (m0 0 = 10)) = true := hc59
                                        have hp59 : m0 0 = 10 := of_decide_eq_true hq59
                                        rw [if_pos hp59] at h
                                        refine xw_cond_t rfl rfl (xw_seq (xw_region ?_))
                                        first | refine xq rfl trivial (o_fa0 fl34_8 rfl) ?_ | refine xq rfl trivial (o_fa fl34_8 rfl) ?_
                                        refine xq rfl trivial (o_ldI (v := m0 9) rfl ts3 (List.Mem.tail _ (List.Mem.head _)) (by omega) rfl) ?_
                                        first | refine xq rfl trivial (o_fa0 fl34_8 rfl) ?_ | refine xq rfl trivial (o_fa fl34_8 rfl) ?_
                                        refine xq0 trivial (o_stI rfl rfl ts3 (List.Mem.head _) (by omega) (.here _ _ _ _)) ?_
                                        refine xo_nil (xq_then (xw_seq ?_))
                                        refine xw_cut [(1, _), (7, _)] (lc rfl (lc rfl ln)) [(263, .bool ((!((number_F (m0 9)))) || (decide (m0 3 ≤ m0 9))))] ?_ ?_
                                        · refine xw_region ?_
                                          first | refine xq rfl trivial (o_fa0 fl34_8 rfl) ?_ | refine xq rfl trivial (o_fa fl34_8 rfl) ?_
                                          refine xq rfl trivial (o_ldI (v := m0 9) rfl ts3 (List.Mem.tail _ (List.Mem.head _)) (by omega) rfl) ?_
                                          refine xcallq rfl trivial kf30 rfl (fun w1 hw1 => number_c _ w1) ?_
                                          refine xq rfl trivial (o_not rfl) ?_
                                          refine xq rfl trivial (o_mv rfl) ?_
                                          refine xo_bool 257 rfl (fun hg60 => ?_) (fun hg60 => ?_)
                                          · have hq60 : ((number_F (m0 9))) = false := (bnT hg60)
                                            have hp60 : ¬ (((number_F (m0 9))) = true) := bne' hq60
                                            refine xs rfl ⟨_, _, rfl, rfl, rfl⟩ (xs rfl ⟨_, _, rfl, rfl, rfl⟩ (xs rfl ⟨_, _, rfl, rfl, rfl⟩ (xs rfl ⟨_, _, rfl, rfl, rfl⟩ (xs rfl ⟨_, _, rfl, rfl, rfl⟩ ?_))))
                                            refine xq rfl trivial (o_pick_t rfl rfl) ?_
                                            refine xo_nil ?_
                                            exact xq_cut ((lce rfl (by first | rfl | (simp only [hq2, hq17, hq18, hq41, hq42, hq43, hq44, hq47, hq48, hq56, hq58, hq59, hq60, if_neg hp2, if_neg hp17, if_neg hp18, if_pos hp41, if_pos hp42, if_pos hp43, if_pos hp44, if_neg hp47, if_neg hp48, if_pos hp56, if_neg hp58, if_pos hp59, if_neg hp60, bS]; done) | (simp only [hq2, hq17, hq18, hq41, hq42, hq43, hq44, hq47, hq48, hq56, hq58, hq59, hq60, if_neg hp2, if_neg hp17, if_neg hp18, if_pos hp41, if_pos hp42, if_pos hp43, if_pos hp44, if_neg hp47, if_neg hp48, if_pos hp56, if_neg hp58, if_pos hp59, if_neg hp60, bS, reduceIte, Bool.false_eq_true]; done) | (simp [hp2, hp17, hp18, hp41, hp42, hp43, hp44, hp47, hp48, hp56, hp58, hp59, hp60]; done) | (simp_all; done)) (lc rfl (lc rfl ln)))) (fun _ h => h)
                                          · have hq60 : ((number_F (m0 9))) = true := (bnF hg60)
                                            have hp60 : ((number_F (m0 9))) = true := hq60
                                            first | refine xq rfl ⟨_, rfl, rfl⟩ (o_fa0 fl34_8 rfl) ?_ | refine xq rfl ⟨_, rfl, rfl⟩ (o_fa fl34_8 rfl) ?_
                                            refine xq rfl ⟨_, rfl, rfl⟩ (o_ldI (v := m0 9) rfl ts3 (List.Mem.tail _ (List.Mem.head _)) (by omega) rfl) ?_
                                            first | refine xq rfl ⟨_, rfl, rfl⟩ (o_fa0 fl34_3 rfl) ?_ | refine xq rfl ⟨_, rfl, rfl⟩ (o_fa fl34_3 rfl) ?_
                                            refine xq rfl ⟨_, rfl, rfl⟩ (o_ldI (v := m0 3) rfl ts3 (List.Mem.tail _ (List.Mem.head _)) (by omega) rfl) ?_
                                            refine xq rfl ⟨_, rfl, rfl⟩ (o_geq rfl rfl) ?_
                                            refine xq rfl trivial (o_pick_f rfl rfl) ?_
                                            refine xo_nil ?_
                                            exact xq_cut ((lce rfl (by first | rfl | (simp only [hq2, hq17, hq18, hq41, hq42, hq43, hq44, hq47, hq48, hq56, hq58, hq59, hq60, if_neg hp2, if_neg hp17, if_neg hp18, if_pos hp41, if_pos hp42, if_pos hp43, if_pos hp44, if_neg hp47, if_neg hp48, if_pos hp56, if_neg hp58, if_pos hp59, if_pos hp60, bS]; done) | (simp only [hq2, hq17, hq18, hq41, hq42, hq43, hq44, hq47, hq48, hq56, hq58, hq59, hq60, if_neg hp2, if_neg hp17, if_neg hp18, if_pos hp41, if_pos hp42, if_pos hp43, if_pos hp44, if_neg hp47, if_neg hp48, if_pos hp56, if_neg hp58, if_pos hp59, if_pos hp60, bS, reduceIte, Bool.false_eq_true]; done) | (simp [hp2, hp17, hp18, hp41, hp42, hp43, hp44, hp47, hp48, hp56, hp58, hp59, hp60]; done) | (simp_all; done)) (lc rfl (lc rfl ln)))) (fun _ h => h)
                                        · refine xq_then ?_
                                          refine xw_bool 263 rfl (fun hc61 => ?_) (fun hc61 => ?_)
                                          · have hq61 : ((!((number_F (m0 9)))) || (decide (m0 3 ≤ m0 9))) = true := hc61
                                            have hp61 : ((!((number_F (m0 9)))) || (decide (m0 3 ≤ m0 9))) = true := hq61
                                            rw [if_pos hp61] at h
                                            refine xw_cond_t rfl rfl (xw_seq (xw_region ?_))
                                            refine xq rfl trivial (o_as rfl) ?_
                                            refine xo_nil (xq_then (xw_ret (xq_then_ret ?_)))
                                            subst h
                                            exact con_ret1 (.inl rfl) Try.results24 rfl [] (Kp.st (Kp.new hb7 (Kp.new hb1 Kp.nil))) (⟨rfl, rfl⟩)
                                          · have hq61 : ((!((number_F (m0 9)))) || (decide (m0 3 ≤ m0 9))) = false := hc61
                                            have hp61 : ¬ (((!((number_F (m0 9)))) || (decide (m0 3 ≤ m0 9))) = true) := bne' hq61
                                            rw [if_neg hp61] at h
                                            refine xw_cond_f rfl rfl (xw_skip (xq_then (xw_seq (xw_region ?_))))
                                            refine xq rfl trivial (o_ldW rfl ts34 (List.Mem.tail _ (List.Mem.head _))) ?_
                                            refine xq rfl trivial (o_ldW rfl ts34 (List.Mem.head _)) ?_
                                            refine xq rfl trivial (o_eqlA eq34 rfl rfl) ?_
                                            refine xq rfl trivial (o_as rfl) ?_
                                            refine xo_nil (xq_then (xw_ret ?_))
                                            subst h
                                            exact con_ret1 (.inl rfl) Try.results24 rfl [] (Kp.st (Kp.new hb7 (Kp.new hb1 Kp.nil))) (⟨rfl, rfl⟩)
                                      · have hq59 : (decide (m0 0 = 10)) = false := hc59
                                        have hp59 : ¬ (m0 0 = 10) := of_decide_eq_false hq59
                                        rw [if_neg hp59] at h
                                        refine xw_cond_f rfl rfl (xw_skip (xq_then (xw_seq (xw_region ?_))))
                                        refine xq rfl trivial (o_ldW rfl ts34 (List.Mem.tail _ (List.Mem.head _))) ?_
                                        refine xq rfl trivial (o_ldW rfl ts34 (List.Mem.head _)) ?_
                                        refine xq rfl trivial (o_eqlA eq34 rfl rfl) ?_
                                        refine xq rfl trivial (o_as rfl) ?_
                                        refine xo_nil (xq_then (xw_ret ?_))
                                        subst h
                                        exact con_ret1 (.inl rfl) Try.results24 rfl [] (Kp.st (Kp.new hb7 (Kp.new hb1 Kp.nil))) (⟨rfl, rfl⟩)
                                · have hq56 : ((decide (m0 0 = 5)) || (decide (m0 0 = 6))) = false := hc56
                                  have hp56 : ¬ (((decide (m0 0 = 5)) || (decide (m0 0 = 6))) = true) := bne' hq56
                                  rw [if_neg hp56] at h
                                  refine xw_cond_f rfl rfl (xw_skip (xq_then (xw_seq (xw_seq (xw_region ?_)))))
                                  first | refine xq rfl trivial (o_fa0 fl34_0 rfl) ?_ | refine xq rfl trivial (o_fa fl34_0 rfl) ?_
                                  refine xq rfl trivial (o_ldI (v := m0 0) rfl ts3 (List.Mem.tail _ (List.Mem.head _)) (by omega) rfl) ?_
                                  refine xq rfl trivial (o_eql rfl rfl) ?_
                                  refine xo_nil (xq_then ?_)
                                  refine xw_bool 249 rfl (fun hc62 => ?_) (fun hc62 => ?_)
                                  · have hq62 : (decide (m0 0 = 10)) = true := hc62
                                    have hp62 : m0 0 = 10 := of_decide_eq_true hq62
                                    rw [if_pos hp62] at h
                                    refine xw_cond_t rfl rfl (xw_seq (xw_region ?_))
                                    first | refine xq rfl trivial (o_fa0 fl34_8 rfl) ?_ | refine xq rfl trivial (o_fa fl34_8 rfl) ?_
                                    refine xq rfl trivial (o_ldI (v := m0 9) rfl ts3 (List.Mem.tail _ (List.Mem.head _)) (by omega) rfl) ?_
                                    first | refine xq rfl trivial (o_fa0 fl34_8 rfl) ?_ | refine xq rfl trivial (o_fa fl34_8 rfl) ?_
                                    refine xq0 trivial (o_stI rfl rfl ts3 (List.Mem.head _) (by omega) (.here _ _ _ _)) ?_
                                    refine xo_nil (xq_then (xw_seq ?_))
                                    refine xw_cut [(1, _), (7, _)] (lc rfl (lc rfl ln)) [(263, .bool ((!((number_F (m0 9)))) || (decide (m0 3 ≤ m0 9))))] ?_ ?_
                                    · refine xw_region ?_
                                      first | refine xq rfl trivial (o_fa0 fl34_8 rfl) ?_ | refine xq rfl trivial (o_fa fl34_8 rfl) ?_
                                      refine xq rfl trivial (o_ldI (v := m0 9) rfl ts3 (List.Mem.tail _ (List.Mem.head _)) (by omega) rfl) ?_
                                      refine xcallq rfl trivial kf30 rfl (fun w1 hw1 => number_c _ w1) ?_
                                      refine xq rfl trivial (o_not rfl) ?_
                                      refine xq rfl trivial (o_mv rfl) ?_
                                      refine xo_bool 257 rfl (fun hg63 => ?_) (fun hg63 => ?_)
                                      · have hq63 : ((number_F (m0 9))) = false := (bnT hg63)
                                        have hp63 : ¬ (((number_F (m0 9))) = true) := bne' hq63
                                        refine xs rfl ⟨_, _, rfl, rfl, rfl⟩ (xs rfl ⟨_, _, rfl, rfl, rfl⟩ (xs rfl ⟨_, _, rfl, rfl, rfl⟩ (xs rfl ⟨_, _, rfl, rfl, rfl⟩ (xs rfl ⟨_, _, rfl, rfl, rfl⟩ ?_))))
                                        refine xq rfl trivial (o_pick_t rfl rfl) ?_
                                        refine xo_nil ?_
                                        exact xq_cut ((lce rfl (by first | rfl | (simp only [hq2, hq17, hq18, hq41, hq42, hq43, hq44, hq47, hq48, hq56, hq62, hq63, if_neg hp2, if_neg hp17, if_neg hp18, if_pos hp41, if_pos hp42, if_pos hp43, if_pos hp44, if_neg hp47, if_neg hp48, if_neg hp56, if_pos hp62, if_neg hp63, bS]; done) | (simp only [hq2, hq17, hq18, hq41, hq42, hq43, hq44, hq47, hq48, hq56, hq62, hq63, if_neg hp2, if_neg hp17, if_neg hp18, if_pos hp41, if_pos hp42, if_pos hp43, if_pos hp44, if_neg hp47, if_neg hp48, if_neg hp56, if_pos hp62, if_neg hp63, bS, reduceIte, Bool.false_eq_true]; done) | (simp [hp2, hp17, hp18, hp41, hp42, hp43, hp44, hp47, hp48, hp56, hp62, hp63]; done) | (simp_all; done)) (lc rfl (lc rfl ln)))) (fun _ h => h)
                                      · have hq63 : ((number_F (m0 9))) = true := (bnF hg63)
                                        have hp63 : ((number_F (m0 9))) = true := hq63
                                        first | refine xq rfl ⟨_, rfl, rfl⟩ (o_fa0 fl34_8 rfl) ?_ | refine xq rfl ⟨_, rfl, rfl⟩ (o_fa fl34_8 rfl) ?_
                                        refine xq rfl ⟨_, rfl, rfl⟩ (o_ldI (v := m0 9) rfl ts3 (List.Mem.tail _ (List.Mem.head _)) (by omega) rfl) ?_
                                        first | refine xq rfl ⟨_, rfl, rfl⟩ (o_fa0 fl34_3 rfl) ?_ | refine xq rfl ⟨_, rfl, rfl⟩ (o_fa fl34_3 rfl) ?_
                                        refine xq rfl ⟨_, rfl, rfl⟩ (o_ldI (v := m0 3) rfl ts3 (List.Mem.tail _ (List.Mem.head _)) (by omega) rfl) ?_
                                        refine xq rfl ⟨_, rfl, rfl⟩ (o_geq rfl rfl) ?_
                                        refine xq rfl trivial (o_pick_f rfl rfl) ?_
                                        refine xo_nil ?_
                                        exact xq_cut ((lce rfl (by first | rfl | (simp only [hq2, hq17, hq18, hq41, hq42, hq43, hq44, hq47, hq48, hq56, hq62, hq63, if_neg hp2, if_neg hp17, if_neg hp18, if_pos hp41, if_pos hp42, if_pos hp43, if_pos hp44, if_neg hp47, if_neg hp48, if_neg hp56, if_pos hp62, if_pos hp63, bS]; done) | (simp only [hq2, hq17, hq18, hq41, hq42, hq43, hq44, hq47, hq48, hq56, hq62, hq63, if_neg hp2, if_neg hp17, if_neg hp18, if_pos hp41, if_pos hp42, if_pos hp43, if_pos hp44, if_neg hp47, if_neg hp48, if_neg hp56, if_pos hp62, if_pos hp63, bS, reduceIte, Bool.false_eq_true]; done) | (simp [hp2, hp17, hp18, hp41, hp42, hp43, hp44, hp47, hp48, hp56, hp62, hp63]; done) | (simp_all; done)) (lc rfl (lc rfl ln)))) (fun _ h => h)
                                    · refine xq_then ?_
                                      refine xw_bool 263 rfl (fun hc64 => ?_) (fun hc64 => ?_)
                                      · have hq64 : ((!((number_F (m0 9)))) || (decide (m0 3 ≤ m0 9))) = true := hc64
                                        have hp64 : ((!((number_F (m0 9)))) || (decide (m0 3 ≤ m0 9))) = true := hq64
                                        rw [if_pos hp64] at h
                                        refine xw_cond_t rfl rfl (xw_seq (xw_region ?_))
                                        refine xq rfl trivial (o_as rfl) ?_
                                        refine xo_nil (xq_then (xw_ret (xq_then_ret ?_)))
                                        subst h
                                        exact con_ret1 (.inl rfl) Try.results24 rfl [] (Kp.st (Kp.new hb7 (Kp.new hb1 Kp.nil))) (⟨rfl, rfl⟩)
                                      · have hq64 : ((!((number_F (m0 9)))) || (decide (m0 3 ≤ m0 9))) = false := hc64
                                        have hp64 : ¬ (((!((number_F (m0 9)))) || (decide (m0 3 ≤ m0 9))) = true) := bne' hq64
                                        rw [if_neg hp64] at h
                                        refine xw_cond_f rfl rfl (xw_skip (xq_then (xw_seq (xw_region ?_))))
                                        refine xq rfl trivial (o_ldW rfl ts34 (List.Mem.tail _ (List.Mem.head _))) ?_
                                        refine xq rfl trivial (o_ldW rfl ts34 (List.Mem.head _)) ?_
                                        refine xq rfl trivial (o_eqlA eq34 rfl rfl) ?_
                                        refine xq rfl trivial (o_as rfl) ?_
                                        refine xo_nil (xq_then (xw_ret ?_))
                                        subst h
                                        exact con_ret1 (.inl rfl) Try.results24 rfl [] (Kp.st (Kp.new hb7 (Kp.new hb1 Kp.nil))) (⟨rfl, rfl⟩)
                                  · have hq62 : (decide (m0 0 = 10)) = false := hc62
                                    have hp62 : ¬ (m0 0 = 10) := of_decide_eq_false hq62
                                    rw [if_neg hp62] at h
                                    refine xw_cond_f rfl rfl (xw_skip (xq_then (xw_seq (xw_region ?_))))
                                    refine xq rfl trivial (o_ldW rfl ts34 (List.Mem.tail _ (List.Mem.head _))) ?_
                                    refine xq rfl trivial (o_ldW rfl ts34 (List.Mem.head _)) ?_
                                    refine xq rfl trivial (o_eqlA eq34 rfl rfl) ?_
                                    refine xq rfl trivial (o_as rfl) ?_
                                    refine xo_nil (xq_then (xw_ret ?_))
                                    subst h
                                    exact con_ret1 (.inl rfl) Try.results24 rfl [] (Kp.st (Kp.new hb7 (Kp.new hb1 Kp.nil))) (⟨rfl, rfl⟩)
                      · have hq44 : (decide (m0 0 ≤ 2)) = false := hc44
                        have hp44 : ¬ (m0 0 ≤ 2) := of_decide_eq_false hq44
                        rw [if_neg hp44] at h
                        refine xw_cond_f rfl rfl (xw_skip (xq_then (xw_seq (xw_seq (xw_region ?_)))))
                        first | refine xq rfl trivial (o_fa0 fl34_0 rfl) ?_ | refine xq rfl trivial (o_fa fl34_0 rfl) ?_
                        refine xq rfl trivial (o_ldI (v := m0 0) rfl ts3 (List.Mem.tail _ (List.Mem.head _)) (by omega) rfl) ?_
                        refine xq rfl trivial (o_eql rfl rfl) ?_
                        refine xo_nil (xq_then ?_)
                        refine xw_bool 216 rfl (fun hc65 => ?_) (fun hc65 => ?_)
                        · have hq65 : (decide (m0 0 = 3)) = true := hc65
                          have hp65 : m0 0 = 3 := of_decide_eq_true hq65
                          rw [if_pos hp65] at h
                          refine xw_cond_t rfl rfl (xw_seq (xw_region ?_))
                          first | refine xq rfl trivial (o_fa0 fl34_7 rfl) ?_ | refine xq rfl trivial (o_fa fl34_7 rfl) ?_
                          refine xq rfl trivial (o_ldI (v := m0 8) rfl ts3 (List.Mem.tail _ (List.Mem.head _)) (by omega) rfl) ?_
                          first | refine xq rfl trivial (o_fa0 fl34_7 rfl) ?_ | refine xq rfl trivial (o_fa fl34_7 rfl) ?_
                          refine xq0 trivial (o_stI rfl rfl ts3 (List.Mem.head _) (by omega) (.here _ _ _ _)) ?_
                          refine xo_nil (xq_then (xw_seq ?_))
                          refine xw_cut [(1, _), (7, _)] (lc rfl (lc rfl ln)) [(227, .bool ((decide (m0 8 < 1)) || (decide (15 < m0 8))))] ?_ ?_
                          · refine xw_region ?_
                            first | refine xq rfl trivial (o_fa0 fl34_7 rfl) ?_ | refine xq rfl trivial (o_fa fl34_7 rfl) ?_
                            refine xq rfl trivial (o_ldI (v := m0 8) rfl ts3 (List.Mem.tail _ (List.Mem.head _)) (by omega) rfl) ?_
                            refine xq rfl trivial (o_lss rfl rfl) ?_
                            refine xq rfl trivial (o_mv rfl) ?_
                            refine xo_bool 223 rfl (fun hg66 => ?_) (fun hg66 => ?_)
                            · have hq66 : (decide (m0 8 < 1)) = true := hg66
                              have hp66 : m0 8 < 1 := of_decide_eq_true hq66
                              refine xs rfl ⟨_, _, rfl, rfl, rfl⟩ (xs rfl ⟨_, _, rfl, rfl, rfl⟩ (xs rfl ⟨_, _, rfl, rfl, rfl⟩ ?_))
                              refine xq rfl trivial (o_pick_t rfl rfl) ?_
                              refine xo_nil ?_
                              exact xq_cut ((lce rfl (by first | rfl | (simp only [hq2, hq17, hq18, hq41, hq42, hq43, hq44, hq65, hq66, if_neg hp2, if_neg hp17, if_neg hp18, if_pos hp41, if_pos hp42, if_pos hp43, if_neg hp44, if_pos hp65, if_pos hp66, bS]; done) | (simp only [hq2, hq17, hq18, hq41, hq42, hq43, hq44, hq65, hq66, if_neg hp2, if_neg hp17, if_neg hp18, if_pos hp41, if_pos hp42, if_pos hp43, if_neg hp44, if_pos hp65, if_pos hp66, bS, reduceIte, Bool.false_eq_true]; done) | (simp [hp2, hp17, hp18, hp41, hp42, hp43, hp44, hp65, hp66]; done) | (simp_all; done)) (lc rfl (lc rfl ln)))) (fun _ h => h)
                            · have hq66 : (decide (m0 8 < 1)) = false := hg66
                              have hp66 : ¬ (m0 8 < 1) := of_decide_eq_false hq66
                              first | refine xq rfl ⟨_, rfl, rfl⟩ (o_fa0 fl34_7 rfl) ?_ | refine xq rfl ⟨_, rfl, rfl⟩ (o_fa fl34_7 rfl) ?_
                              refine xq rfl ⟨_, rfl, rfl⟩ (o_ldI (v := m0 8) rfl ts3 (List.Mem.tail _ (List.Mem.head _)) (by omega) rfl) ?_
                              refine xq rfl ⟨_, rfl, rfl⟩ (o_gtr rfl rfl) ?_
                              refine xq rfl trivial (o_pick_f rfl rfl) ?_
                              refine xo_nil ?_
                              exact xq_cut ((lce rfl (by first | rfl | (simp only [hq2, hq17, hq18, hq41, hq42, hq43, hq44, hq65, hq66, if_neg hp2, if_neg hp17, if_neg hp18, if_pos hp41, if_pos hp42, if_pos hp43, if_neg hp44, if_pos hp65, if_neg hp66, bS]; done) | (simp only [hq2, hq17, hq18, hq41, hq42, hq43, hq44, hq65, hq66, if_neg hp2, if_neg hp17, if_neg hp18, if_pos hp41, if_pos hp42, if_pos hp43, if_neg hp44, if_pos hp65, if_neg hp66, bS, reduceIte, Bool.false_eq_true]; done) | (simp [hp2, hp17, hp18, hp41, hp42, hp43, hp44, hp65, hp66]; done) | (simp_all; done)) (lc rfl (lc rfl ln)))) (fun _ h => h)
                          · refine xq_then ?_
                            refine xw_bool 227 rfl (fun hc67 => ?_) (fun hc67 => ?_)
                            · have hq67 : ((decide (m0 8 < 1)) || (decide (15 < m0 8))) = true := hc67
                              have hp67 : ((decide (m0 8 < 1)) || (decide (15 < m0 8))) = true := hq67
                              rw [if_pos hp67] at h
                              refine xw_cond_t rfl rfl (xw_seq (xw_region ?_))
                              refine xq rfl trivial (o_as rfl) ?_
                              refine xo_nil (xq_then (xw_ret (xq_then_ret ?_)))
                              subst h
                              exact con_ret1 (.inl rfl) Try.results24 rfl [] (Kp.st (Kp.new hb7 (Kp.new hb1 Kp.nil))) (⟨rfl, rfl⟩)
                            · have hq67 : ((decide (m0 8 < 1)) || (decide (15 < m0 8))) = false := hc67
                              have hp67 : ¬ (((decide (m0 8 < 1)) || (decide (15 < m0 8))) = true) := bne' hq67
                              rw [if_neg hp67] at h
                              refine xw_cond_f rfl rfl (xw_skip (xq_then (xw_seq (xw_seq ?_))))
                              refine xw_cut [(1, _), (7, _)] (lc rfl (lc rfl ln)) [(235, .bool ((decide (m0 0 = 5)) || (decide (m0 0 = 6))))] ?_ ?_
                              · refine xw_region ?_
                                first | refine xq rfl trivial (o_fa0 fl34_0 rfl) ?_ | refine xq rfl trivial (o_fa fl34_0 rfl) ?_
                                refine xq rfl trivial (o_ldI (v := m0 0) rfl ts3 (List.Mem.tail _ (List.Mem.head _)) (by omega) rfl) ?_
                                refine xq rfl trivial (o_eql rfl rfl) ?_
                                refine xq rfl trivial (o_mv rfl) ?_
                                refine xo_val 231 rfl (v' := .bool false) (congrArg Value.bool (by simp; omega)) ?_
                                first | refine xq rfl ⟨_, rfl, rfl⟩ (o_fa0 fl34_0 rfl) ?_ | refine xq rfl ⟨_, rfl, rfl⟩ (o_fa fl34_0 rfl) ?_
                                refine xq rfl ⟨_, rfl, rfl⟩ (o_ldI (v := m0 0) rfl ts3 (List.Mem.tail _ (List.Mem.head _)) (by omega) rfl) ?_
                                refine xq rfl ⟨_, rfl, rfl⟩ (o_eql rfl rfl) ?_
                                refine xq rfl trivial (o_pick_f rfl rfl) ?_
                                refine xo_nil ?_
                                exact xq_cut ((lce rfl (by first | rfl | (simp only [hq2, hq17, hq18, hq41, hq42, hq43, hq44, hq65, hq67, if_neg hp2, if_neg hp17, if_neg hp18, if_pos hp41, if_pos hp42, if_pos hp43, if_neg hp44, if_pos hp65, if_neg hp67, bS]; done) | (simp only [hq2, hq17, hq18, hq41, hq42, hq43, hq44, hq65, hq67, if_neg hp2, if_neg hp17, if_neg hp18, if_pos hp41, if_pos hp42, if_pos hp43, if_neg hp44, if_pos hp65, if_neg hp67, bS, reduceIte, Bool.false_eq_true]; done) | (simp [hp2, hp17, hp18, hp41, hp42, hp43, hp44, hp65, hp67]; done) | (simp_all; done)) (lc rfl (lc rfl ln)))) (fun _ h => h)
                              · refine xq_then ?_
                                refine xw_bool 235 rfl (fun hc69 => ?_) (fun hc69 => ?_)
                                · have hq69 : ((decide (m0 0 = 5)) || (decide (m0 0 = 6))) = true := hc69
                                  have hp69 : ((decide (m0 0 = 5)) || (decide (m0 0 = 6))) = true := hq69
                                  rw [if_pos hp69] at h
                                  refine xw_cond_t rfl rfl (xw_seq (xw_region ?_))
                                  first | refine xq rfl trivial (o_fa0 fl34_7 rfl) ?_ | refine xq rfl trivial (o_fa fl34_7 rfl) ?_
                                  refine xq rfl trivial (o_ldI (v := m0 8) rfl ts3 (List.Mem.tail _ (List.Mem.head _)) (by omega) rfl) ?_
                                  first | refine xq rfl trivial (o_fa0 fl34_7 rfl) ?_ | refine xq rfl trivial (o_fa fl34_7 rfl) ?_
                                  refine xq0 trivial (o_stI rfl rfl ts3 (List.Mem.head _) (by omega) (.here _ _ _ _)) ?_
                                  refine xo_nil (xq_then (xw_seq ?_))
                                  refine xw_cut [(1, _), (7, _)] (lc rfl (lc rfl ln)) [(246, .bool ((!(decide (m0 8 = 0))) && (!(decide (m0 8 = 1)))))] ?_ ?_
                                  · refine xw_region ?_
                                    first | refine xq rfl trivial (o_fa0 fl34_7 rfl) ?_ | refine xq rfl trivial (o_fa fl34_7 rfl) ?_
                                    refine xq rfl trivial (o_ldI (v := m0 8) rfl ts3 (List.Mem.tail _ (List.Mem.head _)) (by omega) rfl) ?_
                                    refine xq rfl trivial (o_neq rfl rfl) ?_
                                    refine xq rfl trivial (o_mv rfl) ?_
                                    refine xo_bool 242 rfl (fun hg70 => ?_) (fun hg70 => ?_)
                                    · have hq70 : (decide (m0 8 = 0)) = false := (bnT hg70)
                                      have hp70 : ¬ (m0 8 = 0) := of_decide_eq_false hq70
                                      first | refine xq rfl ⟨_, rfl, rfl⟩ (o_fa0 fl34_7 rfl) ?_ | refine xq rfl ⟨_, rfl, rfl⟩ (o_fa fl34_7 rfl) ?_
                                      refine xq rfl ⟨_, rfl, rfl⟩ (o_ldI (v := m0 8) rfl ts3 (List.Mem.tail _ (List.Mem.head _)) (by omega) rfl) ?_
                                      refine xq rfl ⟨_, rfl, rfl⟩ (o_neq rfl rfl) ?_
                                      refine xq rfl trivial (o_pick_t rfl rfl) ?_
                                      refine xo_nil ?_
                                      exact xq_cut ((lce rfl (by first | rfl | (simp only [hq2, hq17, hq18, hq41, hq42, hq43, hq44, hq65, hq67, hq69, hq70, if_neg hp2, if_neg hp17, if_neg hp18, if_pos hp41, if_pos hp42, if_pos hp43, if_neg hp44, if_pos hp65, if_neg hp67, if_pos hp69, if_neg hp70, bS]; done) | (simp only [hq2, hq17, hq18, hq41, hq42, hq43, hq44, hq65, hq67, hq69, hq70, if_neg hp2, if_neg hp17, if_neg hp18, if_pos hp41, if_pos hp42, if_pos hp43, if_neg hp44, if_pos hp65, if_neg hp67, if_pos hp69, if_neg hp70, bS, reduceIte, Bool.false_eq_true]; done) | (simp [hp2, hp17, hp18, hp41, hp42, hp43, hp44, hp65, hp67, hp69, hp70]; done) | (simp_all; done)) (lc rfl (lc rfl ln)))) (fun _ h => h)
                                    · have hq70 : (decide (m0 8 = 0)) = true := (bnF hg70)
                                      have hp70 : m0 8 = 0 := of_decide_eq_true hq70
                                      refine xs rfl ⟨_, _, rfl, rfl, rfl⟩ (xs rfl ⟨_, _, rfl, rfl, rfl⟩ (xs rfl ⟨_, _, rfl, rfl, rfl⟩ ?_))
                                      refine xq rfl trivial (o_pick_f rfl rfl) ?_
                                      refine xo_nil ?_
                                      exact xq_cut ((lce rfl (by first | rfl | (simp only [hq2, hq17, hq18, hq41, hq42, hq43, hq44, hq65, hq67, hq69, hq70, if_neg hp2, if_neg hp17, if_neg hp18, if_pos hp41, if_pos hp42, if_pos hp43, if_neg hp44, if_pos hp65, if_neg hp67, if_pos hp69, if_pos hp70, bS]; done) | (simp only [hq2, hq17, hq18, hq41, hq42, hq43, hq44, hq65, hq67, hq69, hq70, if_neg hp2, if_neg hp17, if_neg hp18, if_pos hp41, if_pos hp42, if_pos hp43, if_neg hp44, if_pos hp65, if_neg hp67, if_pos hp69, if_pos hp70, bS, reduceIte, Bool.false_eq_true]; done) | (simp [hp2, hp17, hp18, hp41, hp42, hp43, hp44, hp65, hp67, hp69, hp70]; done) | (simp_all; done)) (lc rfl (lc rfl ln)))) (fun _ h => h)
                                  · refine xq_then ?_
                                    refine xw_bool 246 rfl (fun hc71 => ?_) (fun hc71 => ?_)
                                    · have hq71 : ((!(decide (m0 8 = 0))) && (!(decide (m0 8 = 1)))) = true := hc71
                                      have hp71 : ((!(decide (m0 8 = 0))) && (!(decide (m0 8 = 1)))) = true := hq71
                                      rw [if_pos hp71] at h
                                      refine xw_cond_t rfl rfl (xw_seq (xw_region ?_))
                                      refine xq rfl trivial (o_as rfl) ?_
                                      refine xo_nil (xq_then (xw_ret (xq_then_ret ?_)))
                                      subst h
                                      exact con_ret1 (.inl rfl) Try.results24 rfl [] (Kp.st (Kp.new hb7 (Kp.new hb1 Kp.nil))) (⟨rfl, rfl⟩)
                                    · have hq71 : ((!(decide (m0 8 = 0))) && (!(decide (m0 8 = 1)))) = false := hc71
                                      have hp71 : ¬ (((!(decide (m0 8 = 0))) && (!(decide (m0 8 = 1)))) = true) := bne' hq71
                                      rw [if_neg hp71] at h
                                      refine xw_cond_f rfl rfl (xw_skip (xq_then (xw_seq (xw_seq (xw_region ?_)))))
                                      first | refine xq rfl trivial (o_fa0 fl34_0 rfl) ?_ | refine xq rfl trivial (o_fa fl34_0 rfl) ?_
                                      refine xq rfl trivial (o_ldI (v := m0 0) rfl ts3 (List.Mem.tail _ (List.Mem.head _)) (by omega) rfl) ?_
                                      refine xq rfl trivial (o_eql rfl rfl) ?_
                                      refine xo_nil (xq_then ?_)
                                      refine xw_cond_f rfl (by simp; omega) ?_
                                      refine xw_skip (xq_then (xw_seq (xw_region ?_)))
                                      refine xq rfl trivial (o_ldW rfl ts34 (List.Mem.tail _ (List.Mem.head _))) ?_
                                      refine xq rfl trivial (o_ldW rfl ts34 (List.Mem.head _)) ?_
                                      refine xq rfl trivial (o_eqlA eq34 rfl rfl) ?_
                                      refine xq rfl trivial (o_as rfl) ?_
                                      refine xo_nil (xq_then (xw_ret ?_))
                                      subst h
                                      exact con_ret1 (.inl rfl) Try.results24 rfl [] (Kp.st (Kp.new hb7 (Kp.new hb1 Kp.nil))) (⟨rfl, rfl⟩)
                                · have hq69 : ((decide (m0 0 = 5)) || (decide (m0 0 = 6))) = false := hc69
                                  have hp69 : ¬ (((decide (m0 0 = 5)) || (decide (m0 0 = 6))) = true) := bne' hq69
                                  rw [if_neg hp69] at h
                                  refine xw_cond_f rfl rfl (xw_skip (xq_then (xw_seq (xw_seq (xw_region ?_)))))
                                  first | refine xq rfl trivial (o_fa0 fl34_0 rfl) ?_ | refine xq rfl trivial (o_fa fl34_0 rfl) ?_
                                  refine xq rfl trivial (o_ldI (v := m0 0) rfl ts3 (List.Mem.tail _ (List.Mem.head _)) (by omega) rfl) ?_
                                  refine xq rfl trivial (o_eql rfl rfl) ?_
                                  refine xo_nil (xq_then ?_)
                                  refine xw_cond_f rfl (by simp; omega) ?_
                                  refine xw_skip (xq_then (xw_seq (xw_region ?_)))
                                  refine xq rfl trivial (o_ldW rfl ts34 (List.Mem.tail _ (List.Mem.head _))) ?_
                                  refine xq rfl trivial (o_ldW rfl ts34 (List.Mem.head _)) ?_
                                  refine xq rfl trivial (o_eqlA eq34 rfl rfl) ?_
                                  refine xq rfl trivial (o_as rfl) ?_
                                  refine xo_nil (xq_then (xw_ret ?_))
                                  subst h
                                  exact con_ret1 (.inl rfl) Try.results24 rfl [] (Kp.st (Kp.new hb7 (Kp.new hb1 Kp.nil))) (⟨rfl, rfl⟩)
                        · have hq65 : (decide (m0 0 = 3)) = false := hc65
                          have hp65 : ¬ (m0 0 = 3) := of_decide_eq_false hq65
                          rw [if_neg hp65] at h
                          refine xw_cond_f rfl rfl (xw_skip (xq_then (xw_seq (xw_seq ?_))))
                          refine xw_cut [(1, _), (7, _)] (lc rfl (lc rfl ln)) [(235, .bool ((decide (m0 0 = 5)) || (decide (m0 0 = 6))))] ?_ ?_
                          · refine xw_region ?_
                            first | refine xq rfl trivial (o_fa0 fl34_0 rfl) ?_ | refine xq rfl trivial (o_fa fl34_0 rfl) ?_
                            refine xq rfl trivial (o_ldI (v := m0 0) rfl ts3 (List.Mem.tail _ (List.Mem.head _)) (by omega) rfl) ?_
                            refine xq rfl trivial (o_eql rfl rfl) ?_
                            refine xq rfl trivial (o_mv rfl) ?_
                            refine xo_bool 231 rfl (fun hg72 => ?_) (fun hg72 => ?_)
                            · have hq72 : (decide (m0 0 = 5)) = true := hg72
                              have hp72 : m0 0 = 5 := of_decide_eq_true hq72
                              refine xs rfl ⟨_, _, rfl, rfl, rfl⟩ (xs rfl ⟨_, _, rfl, rfl, rfl⟩ (xs rfl ⟨_, _, rfl, rfl, rfl⟩ ?_))
                              refine xq rfl trivial (o_pick_t rfl rfl) ?_
                              refine xo_nil ?_
                              exact xq_cut ((lce rfl (by first | rfl | (simp only [hq2, hq17, hq18, hq41, hq42, hq43, hq44, hq65, hq72, if_neg hp2, if_neg hp17, if_neg hp18, if_pos hp41, if_pos hp42, if_pos hp43, if_neg hp44, if_neg hp65, if_pos hp72, bS]; done) | (simp only [hq2, hq17, hq18, hq41, hq42, hq43, hq44, hq65, hq72, if_neg hp2, if_neg hp17, if_neg hp18, if_pos hp41, if_pos hp42, if_pos hp43, if_neg hp44, if_neg hp65, if_pos hp72, bS, reduceIte, Bool.false_eq_true]; done) | (simp [hp2, hp17, hp18, hp41, hp42, hp43, hp44, hp65, hp72]; done) | (simp_all; done)) (lc rfl (lc rfl ln)))) (fun _ h => h)
                            · have hq72 : (decide (m0 0 = 5)) = false := hg72
                              have hp72 : ¬ (m0 0 = 5) := of_decide_eq_false hq72
                              first | refine xq rfl ⟨_, rfl, rfl⟩ (o_fa0 fl34_0 rfl) ?_ | refine xq rfl ⟨_, rfl, rfl⟩ (o_fa fl34_0 rfl) ?_
                              refine xq rfl ⟨_, rfl, rfl⟩ (o_ldI (v := m0 0) rfl ts3 (List.Mem.tail _ (List.Mem.head _)) (by omega) rfl) ?_
                              refine xq rfl ⟨_, rfl, rfl⟩ (o_eql rfl rfl) ?_
                              refine xq rfl trivial (o_pick_f rfl rfl) ?_
                              refine xo_nil ?_
                              exact xq_cut ((lce rfl (by first | rfl | (simp only [hq2, hq17, hq18, hq41, hq42, hq43, hq44, hq65, hq72, if_neg hp2, if_neg hp17, if_neg hp18, if_pos hp41, if_pos hp42, if_pos hp43, if_neg hp44, if_neg hp65, if_neg hp72, bS]; done) | (simp only [hq2, hq17, hq18, hq41, hq42, hq43, hq44, hq65, hq72, if_neg hp2, if_neg hp17, if_neg hp18, if_pos hp41, if_pos hp42, if_pos hp43, if_neg hp44, if_neg hp65, if_neg hp72, bS, reduceIte, Bool.false_eq_true]; done) | (simp [hp2, hp17, hp18, hp41, hp42, hp43, hp44, hp65, hp72]; done) | (simp_all; done)) (lc rfl (lc rfl ln)))) (fun _ h => h)
                          · refine xq_then ?_
                            refine xw_bool 235 rfl (fun hc73 => ?_) (fun hc73 => ?_)
                            · have hq73 : ((decide (m0 0 = 5)) || (decide (m0 0 = 6))) = true := hc73
                              have hp73 : ((decide (m0 0 = 5)) || (decide (m0 0 = 6))) = true := hq73
                              rw [if_pos hp73] at h
                              refine xw_cond_t rfl rfl (xw_seq (xw_region ?_))
                              first | refine xq rfl trivial (o_fa0 fl34_7 rfl) ?_ | refine xq rfl trivial (o_fa fl34_7 rfl) ?_
                              refine xq rfl trivial (o_ldI (v := m0 8) rfl ts3 (List.Mem.tail _ (List.Mem.head _)) (by omega) rfl) ?_
                              first | refine xq rfl trivial (o_fa0 fl34_7 rfl) ?_ | refine xq rfl trivial (o_fa fl34_7 rfl) ?_
                              refine xq0 trivial (o_stI rfl rfl ts3 (List.Mem.head _) (by omega) (.here _ _ _ _)) ?_
                              refine xo_nil (xq_then (xw_seq ?_))
                              refine xw_cut [(1, _), (7, _)] (lc rfl (lc rfl ln)) [(246, .bool ((!(decide (m0 8 = 0))) && (!(decide (m0 8 = 1)))))] ?_ ?_
                              · refine xw_region ?_
                                first | refine xq rfl trivial (o_fa0 fl34_7 rfl) ?_ | refine xq rfl trivial (o_fa fl34_7 rfl) ?_
                                refine xq rfl trivial (o_ldI (v := m0 8) rfl ts3 (List.Mem.tail _ (List.Mem.head _)) (by omega) rfl) ?_
                                refine xq rfl trivial (o_neq rfl rfl) ?_
                                refine xq rfl trivial (o_mv rfl) ?_
                                refine xo_bool 242 rfl (fun hg74 => ?_) (fun hg74 => ?_)
                                · have hq74 : (decide (m0 8 = 0)) = false := (bnT hg74)
                                  have hp74 : ¬ (m0 8 = 0) := of_decide_eq_false hq74
                                  first | refine xq rfl ⟨_, rfl, rfl⟩ (o_fa0 fl34_7 rfl) ?_ | refine xq rfl ⟨_, rfl, rfl⟩ (o_fa fl34_7 rfl) ?_
                                  refine xq rfl ⟨_, rfl, rfl⟩ (o_ldI (v := m0 8) rfl ts3 (List.Mem.tail _ (List.Mem.head _)) (by omega) rfl) ?_
                                  refine xq rfl ⟨_, rfl, rfl⟩ (o_neq rfl rfl) ?_
                                  refine xq rfl trivial (o_pick_t rfl rfl) ?_
                                  refine xo_nil ?_
                                  exact xq_cut ((lce rfl (by first | rfl | (simp only [hq2, hq17, hq18, hq41, hq42, hq43, hq44, hq65, hq73, hq74, if_neg hp2, if_neg hp17, if_neg hp18, if_pos hp41, if_pos hp42, if_pos hp43, if_neg hp44, if_neg hp65, if_pos hp73, if_neg hp74, bS]; done) | (simp only [hq2, hq17, hq18, hq41, hq42, hq43, hq44, hq65, hq73, hq74, if_neg hp2, if_neg hp17, if_neg hp18, if_pos hp41, if_pos hp42, if_pos hp43, if_neg hp44, if_neg hp65, if_pos hp73, if_neg hp74, bS, reduceIte, Bool.false_eq_true]; done) | (simp [hp2, hp17, hp18, hp41, hp42, hp43, hp44, hp65, hp73, hp74]; done) | (simp_all; done)) (lc rfl (lc rfl ln)))) (fun _ h => h)
                                · have hq74 : (decide (m0 8 = 0)) = true := (bnF hg74)
                                  have hp74 : m0 8 = 0 := of_decide_eq_true hq74
                                  refine xs rfl ⟨_, _, rfl, rfl, rfl⟩ (xs rfl ⟨_, _, rfl, rfl, rfl⟩ (xs rfl ⟨_, _, rfl, rfl, rfl⟩ ?_))
                                  refine xq rfl trivial (o_pick_f rfl rfl) ?_
                                  refine xo_nil ?_
                                  exact xq_cut ((lce rfl (by first | rfl | (simp only [hq2, hq17, hq18, hq41, hq42, hq43, hq44, hq65, hq73, hq74, if_neg hp2, if_neg hp17, if_neg hp18, if_pos hp41, if_pos hp42, if_pos hp43, if_neg hp44, if_neg hp65, if_pos hp73, if_pos hp74, bS]; done) | (simp only [hq2, hq17, hq18, hq41, hq42, hq43, hq44, hq65, hq73, hq74, if_neg hp2, if_neg hp17, if_neg hp18, if_pos hp41, if_pos hp42, if_pos hp43, if_neg hp44, if_neg hp65, if_pos hp73, if_pos hp74, bS, reduceIte, Bool.false_eq_true]; done) | (simp [hp2, hp17, hp18, hp41, hp42, hp43, hp44, hp65, hp73, hp74]; done) | (simp_all; done)) (lc rfl (lc rfl ln)))) (fun _ h => h)
                              · refine xq_then ?_
                                refine xw_bool 246 rfl (fun hc75 => ?_) (fun hc75 => ?_)
                                · have hq75 : ((!(decide (m0 8 = 0))) && (!(decide (m0 8 = 1)))) = true := hc75
                                  have hp75 : ((!(decide (m0 8 = 0))) && (!(decide (m0 8 = 1)))) = true := hq75
                                  rw [if_pos hp75] at h
                                  refine xw_cond_t rfl rfl (xw_seq (xw_region ?_))
                                  refine xq rfl trivial (o_as rfl) ?_
                                  refine xo_nil (xq_then (xw_ret (xq_then_ret ?_)))
                                  subst h
                                  exact con_ret1 (.inl rfl) Try.results24 rfl [] (Kp.st (Kp.new hb7 (Kp.new hb1 Kp.nil))) (⟨rfl, rfl⟩)
                                · have hq75 : ((!(decide (m0 8 = 0))) && (!(decide (m0 8 = 1)))) = false := hc75
                                  have hp75 : ¬ (((!(decide (m0 8 = 0))) && (!(decide (m0 8 = 1)))) = true) := bne' hq75
                                  rw [if_neg hp75] at h
                                  refine xw_cond_f rfl rfl (xw_skip (xq_then (xw_seq (xw_seq (xw_region ?_)))))
                                  first | refine xq rfl trivial (o_fa0 fl34_0 rfl) ?_ | refine xq rfl trivial (o_fa fl34_0 rfl) ?_
                                  refine xq rfl trivial (o_ldI (v := m0 0) rfl ts3 (List.Mem.tail _ (List.Mem.head _)) (by omega) rfl) ?_
                                  refine xq rfl trivial (o_eql rfl rfl) ?_
                                  refine xo_nil (xq_then ?_)
                                  refine xw_bool 249 rfl (fun hc76 => ?_) (fun hc76 => ?_)
                                  · have hq76 : (decide (m0 0 = 10)) = true := hc76
                                    have hp76 : m0 0 = 10 := of_decide_eq_true hq76
                                    rw [if_pos hp76] at h
                                    refine xw_cond_t rfl rfl (xw_seq (xw_region ?_))
                                    first | refine xq rfl trivial (o_fa0 fl34_8 rfl) ?_ | refine xq rfl trivial (o_fa fl34_8 rfl) ?_
                                    refine xq rfl trivial (o_ldI (v := m0 9) rfl ts3 (List.Mem.tail _ (List.Mem.head _)) (by omega) rfl) ?_
                                    first | refine xq rfl trivial (o_fa0 fl34_8 rfl) ?_ | refine xq rfl trivial (o_fa fl34_8 rfl) ?_
                                    refine xq0 trivial (o_stI rfl rfl ts3 (List.Mem.head _) (by omega) (.here _ _ _ _)) ?_
                                    refine xo_nil (xq_then (xw_seq ?_))
                                    refine xw_cut [(1, _), (7, _)] (lc rfl (lc rfl ln)) [(263, .bool ((!((number_F (m0 9)))) || (decide (m0 3 ≤ m0 9))))] ?_ ?_
                                    · refine xw_region ?_
                                      first | refine xq rfl trivial (o_fa0 fl34_8 rfl) ?_ | refine xq rfl trivial (o_fa fl34_8 rfl) ?_
                                      refine xq rfl trivial (o_ldI (v := m0 9) rfl ts3 (List.Mem.tail _ (List.Mem.head _)) (by omega) rfl) ?_
                                      refine xcallq rfl trivial kf30 rfl (fun w1 hw1 => number_c _ w1) ?_
                                      refine xq rfl trivial (o_not rfl) ?_
                                      refine xq rfl trivial (o_mv rfl) ?_
                                      refine xo_bool 257 rfl (fun hg77 => ?_) (fun hg77 => ?_)
                                      · have hq77 : ((number_F (m0 9))) = false := (bnT hg77)
                                        have hp77 : ¬ (((number_F (m0 9))) = true) := bne' hq77
                                        refine xs rfl ⟨_, _, rfl, rfl, rfl⟩ (xs rfl ⟨_, _, rfl, rfl, rfl⟩ (xs rfl ⟨_, _, rfl, rfl, rfl⟩ (xs rfl ⟨_, _, rfl, rfl, rfl⟩ (xs rfl ⟨_, _, rfl, rfl, rfl⟩ ?_))))
                                        refine xq rfl trivial (o_pick_t rfl rfl) ?_
                                        refine xo_nil ?_
                                        exact xq_cut ((lce rfl (by first | rfl | (simp only [hq2, hq17, hq18, hq41, hq42, hq43, hq44, hq65, hq73, hq75, hq76, hq77, if_neg hp2, if_neg hp17, if_neg hp18, if_pos hp41, if_pos hp42, if_pos hp43, if_neg hp44, if_neg hp65, if_pos hp73, if_neg hp75, if_pos hp76, if_neg hp77, bS]; done) | (simp only [hq2, hq17, hq18, hq41, hq42, hq43, hq44, hq65, hq73, hq75, hq76, hq77, if_neg hp2, if_neg hp17, if_neg hp18, if_pos hp41, if_pos hp42, if_pos hp43, if_neg hp44, if_neg hp65, if_pos hp73, if_neg hp75, if_pos hp76, if_neg hp77, bS, reduceIte, Bool.false_eq_true]; done) | (simp [hp2, hp17, hp18, hp41, hp42, hp43, hp44, hp65, hp73, hp75, hp76, hp77]; done) | (simp_all; done)) (lc rfl (lc rfl ln)))) (fun _ h => h)
                                      · have hq77 : ((number_F (m0 9))) = true := (bnF hg77)
                                        have hp77 : ((number_F (m0 9))) = true := hq77
                                        first | refine xq rfl ⟨_, rfl, rfl⟩ (o_fa0 fl34_8 rfl) ?_ | refine xq rfl ⟨_, rfl, rfl⟩ (o_fa fl34_8 rfl) ?_
                                        refine xq rfl ⟨_, rfl, rfl⟩ (o_ldI (v := m0 9) rfl ts3 (List.Mem.tail _ (List.Mem.head _)) (by omega) rfl) ?_
                                        first | refine xq rfl ⟨_, rfl, rfl⟩ (o_fa0 fl34_3 rfl) ?_ | refine xq rfl ⟨_, rfl, rfl⟩ (o_fa fl34_3 rfl) ?_
                                        refine xq rfl ⟨_, rfl, rfl⟩ (o_ldI (v := m0 3) rfl ts3 (List.Mem.tail _ (List.Mem.head _)) (by omega) rfl) ?_
                                        refine xq rfl ⟨_, rfl, rfl⟩ (o_geq rfl rfl) ?_
                                        refine xq rfl trivial (o_pick_f rfl rfl) ?_
                                        refine xo_nil ?_
                                        exact xq_cut ((lce rfl (by first | rfl | (simp only [hq2, hq17, hq18, hq41, hq42, hq43, hq44, hq65, hq73, hq75, hq76, hq77, if_neg hp2, if_neg hp17, if_neg hp18, if_pos hp41, if_pos hp42, if_pos hp43, if_neg hp44, if_neg hp65, if_pos hp73, if_neg hp75, if_pos hp76, if_pos hp77, bS]; done) | (simp only [hq2, hq17, hq18, hq41, hq42, hq43, hq44, hq65, hq73, hq75, hq76, hq77, if_neg hp2, if_neg hp17, if_neg hp18, if_pos hp41, if_pos hp42, if_pos hp43, if_neg hp44, if_neg hp65, if_pos hp73, if_neg hp75, if_pos hp76, if_pos hp77, bS, reduceIte, Bool.false_eq_true]; done) | (simp [hp2, hp17, hp18, hp41, hp42, hp43, hp44, hp65, hp73, hp75, hp76, hp77]; done) | (simp_all; done)) (lc rfl (lc rfl ln)))) (fun _ h => h)
                                    · refine xq_then ?_
                                      refine xw_bool 263 rfl (fun hc78 => ?_) (fun hc78 => ?_)
                                      · have hq78 : ((!((number_F (m0 9)))) || (decide (m0 3 ≤ m0 9))) = true := hc78
                                        have hp78 : ((!((number_F (m0 9)))) || (decide (m0 3 ≤ m0 9))) = true := hq78
                                        rw [if_pos hp78] at h
                                        refine xw_cond_t rfl rfl (xw_seq (xw_region ?_))
                                        refine xq rfl trivial (o_as rfl) ?_
                                        refine xo_nil (xq_then (xw_ret (xq_then_ret ?_)))
                                        subst h
                                        exact con_ret1 (.inl rfl) Try.results24 rfl [] (Kp.st (Kp.new hb7 (Kp.new hb1 Kp.nil))) (⟨rfl, rfl⟩)
                                      · have hq78 : ((!((number_F (m0 9)))) || (decide (m0 3 ≤ m0 9))) = false := hc78
                                        have hp78 : ¬ (((!((number_F (m0 9)))) || (decide (m0 3 ≤ m0 9))) = true) := bne' hq78
                                        rw [if_neg hp78] at h
                                        refine xw_cond_f rfl rfl (xw_skip (xq_then (xw_seq (xw_region ?_))))
                                        refine xq rfl trivial (o_ldW rfl ts34 (List.Mem.tail _ (List.Mem.head _))) ?_
                                        refine xq rfl trivial (o_ldW rfl ts34 (List.Mem.head _)) ?_
                                        refine xq rfl trivial (o_eqlA eq34 rfl rfl) ?_
                                        refine xq rfl trivial (o_as rfl) ?_
                                        refine xo_nil (xq_then (xw_ret ?_))
                                        subst h
                                        exact con_ret1 (.inl rfl) Try.results24 rfl [] (Kp.st (Kp.new hb7 (Kp.new hb1 Kp.nil))) (⟨rfl, rfl⟩)
                                  · have hq76 : (decide (m0 0 = 10)) = false := hc76
                                    have hp76 : ¬ (m0 0 = 10) := of_decide_eq_false hq76
                                    rw [if_neg hp76] at h
                                    refine xw_cond_f rfl rfl (xw_skip (xq_then (xw_seq (xw_region ?_))))
                                    refine xq rfl trivial (o_ldW rfl ts34 (List.Mem.tail _ (List.Mem.head _))) ?_
                                    refine xq rfl trivial (o_ldW rfl ts34 (List.Mem.head _)) ?_
                                    refine xq rfl trivial (o_eqlA eq34 rfl rfl) ?_
                                    refine xq rfl trivial (o_as rfl) ?_
                                    refine xo_nil (xq_then (xw_ret ?_))
                                    subst h
                                    exact con_ret1 (.inl rfl) Try.results24 rfl [] (Kp.st (Kp.new hb7 (Kp.new hb1 Kp.nil))) (⟨rfl, rfl⟩)
                            · have hq73 : ((decide (m0 0 = 5)) || (decide (m0 0 = 6))) = false := hc73
                              have hp73 : ¬ (((decide (m0 0 = 5)) || (decide (m0 0 = 6))) = true) := bne' hq73
                              rw [if_neg hp73] at h
                              refine xw_cond_f rfl rfl (xw_skip (xq_then (xw_seq (xw_seq (xw_region ?_)))))
                              first | refine xq rfl trivial (o_fa0 fl34_0 rfl) ?_ | refine xq rfl trivial (o_fa fl34_0 rfl) ?_
                              refine xq rfl trivial (o_ldI (v := m0 0) rfl ts3 (List.Mem.tail _ (List.Mem.head _)) (by omega) rfl) ?_
                              refine xq rfl trivial (o_eql rfl rfl) ?_
                              refine xo_nil (xq_then ?_)
                              refine xw_bool 249 rfl (fun hc79 => ?_) (fun hc79 => ?_)
                              · have hq79 : (decide (m0 0 = 10)) = true := hc79
                                have hp79 : m0 0 = 10 := of_decide_eq_true hq79
                                rw [if_pos hp79] at h
                                refine xw_cond_t rfl rfl (xw_seq (xw_region ?_))
                                first | refine xq rfl trivial (o_fa0 fl34_8 rfl) ?_ | refine xq rfl trivial (o_fa fl34_8 rfl) ?_
                                refine xq rfl trivial (o_ldI (v := m0 9) rfl ts3 (List.Mem.tail _ (List.Mem.head _)) (by omega) rfl) ?_
                                first | refine xq rfl trivial (o_fa0 fl34_8 rfl) ?_ | refine xq rfl trivial (o_fa fl34_8 rfl) ?_
                                refine xq0 trivial (o_stI rfl rfl ts3 (List.Mem.head _) (by omega) (.here _ _ _ _)) ?_
                                refine xo_nil (xq_then (xw_seq ?_))
                                refine xw_cut [(1, _), (7, _)] (lc rfl (lc rfl ln)) [(263, .bool ((!((number_F (m0 9)))) || (decide (m0 3 ≤ m0 9))))] ?_ ?_
                                · refine xw_region ?_
                                  first | refine xq rfl trivial (o_fa0 fl34_8 rfl) ?_ | refine xq rfl trivial (o_fa fl34_8 rfl) ?_
                                  refine xq rfl trivial (o_ldI (v := m0 9) rfl ts3 (List.Mem.tail _ (List.Mem.head _)) (by omega) rfl) ?_
                                  refine xcallq rfl trivial kf30 rfl (fun w1 hw1 => number_c _ w1) ?_
                                  refine xq rfl trivial (o_not rfl) ?_
                                  refine xq rfl trivial (o_mv rfl) ?_
                                  refine xo_bool 257 rfl (fun hg80 => ?_) (fun hg80 => ?_)
                                  · have hq80 : ((number_F (m0 9))) = false := (bnT hg80)
                                    have hp80 : ¬ (((number_F (m0 9))) = true) := bne' hq80
                                    refine xs rfl ⟨_, _, rfl, rfl, rfl⟩ (xs rfl ⟨_, _, rfl, rfl, rfl⟩ (xs rfl ⟨_, _, rfl, rfl, rfl⟩ (xs rfl ⟨_, _, rfl, rfl, rfl⟩ (xs rfl ⟨_, _, rfl, rfl, rfl⟩ ?_))))
                                    refine xq rfl trivial (o_pick_t rfl rfl) ?_
                                    refine xo_nil ?_
                                    exact xq_cut ((lce rfl (by first | rfl | (simp only [hq2, hq17, hq18, hq41, hq42, hq43, hq44, hq65, hq73, hq79, hq80, if_neg hp2, if_neg hp17, if_neg hp18, if_pos hp41, if_pos hp42, if_pos hp43, if_neg hp44, if_neg hp65, if_neg hp73, if_pos hp79, if_neg hp80, bS]; done) | (simp only [hq2, hq17, hq18, hq41, hq42, hq43, hq44, hq65, hq73, hq79, hq80, if_neg hp2, if_neg hp17, if_neg hp18, if_pos hp41, if_pos hp42, if_pos hp43, if_neg hp44, if_neg hp65, if_neg hp73, if_pos hp79, if_neg hp80, bS, reduceIte, Bool.false_eq_true]; done) | (simp [hp2, hp17, hp18, hp41, hp42, hp43, hp44, hp65, hp73, hp79, hp80]; done) | (simp_all; done)) (lc rfl (lc rfl ln)))) (fun _ h => h)
                                  · have hq80 : ((number_F (m0 9))) = true := (bnF hg80)
                                    have hp80 : ((number_F (m0 9))) = true := hq80
                                    first | refine xq rfl ⟨_, rfl, rfl⟩ (o_fa0 fl34_8 rfl) ?_ | refine xq rfl ⟨_, rfl, rfl⟩ (o_fa fl34_8 rfl) ?_
                                    refine xq rfl ⟨_, rfl, rfl⟩ (o_ldI (v := m0 9) rfl ts3 (List.Mem.tail _ (List.Mem.head _)) (by omega) rfl) ?_
                                    first | refine xq rfl ⟨_, rfl, rfl⟩ (o_fa0 fl34_3 rfl) ?_ | refine xq rfl ⟨_, rfl, rfl⟩ (o_fa fl34_3 rfl) ?_
                                    refine xq rfl ⟨_, rfl, rfl⟩ (o_ldI (v := m0 3) rfl ts3 (List.Mem.tail _ (List.Mem.head _)) (by omega) rfl) ?_
                                    refine xq rfl ⟨_, rfl, rfl⟩ (o_geq rfl rfl) ?_
                                    refine xq rfl trivial (o_pick_f rfl rfl) ?_
                                    refine xo_nil ?_
                                    exact xq_cut ((lce rfl (by first | rfl | (simp only [hq2, hq17, hq18, hq41, hq42, hq43, hq44, hq65, hq73, hq79, hq80, if_neg hp2, if_neg hp17, if_neg hp18, if_pos hp41, if_pos hp42, if_pos hp43, if_neg hp44, if_neg hp65, if_neg hp73, if_pos hp79, if_pos hp80, bS]; done) | (simp only [hq2, hq17, hq18, hq41, hq42, hq43, hq44, hq65, hq73, hq79, hq80, if_neg hp2, if_neg hp17, if_neg hp18, if_pos hp41, if_pos hp42, if_pos hp43, if_neg hp44, if_neg hp65, if_neg hp73, if_pos hp79, if_pos hp80, bS, reduceIte, Bool.false_eq_true]; done) | (simp [hp2, hp17, hp18, hp41, hp42, hp43, hp44, hp65, hp73, hp79, hp80]; done) | (simp_all; done)) (lc rfl (lc rfl ln)))) (fun _ h => h)
                                · refine xq_then ?_
                                  refine xw_bool 263 rfl (fun hc81 => ?_) (fun hc81 => ?_)
                                  · have hq81 : ((!((number_F (m0 9)))) || (decide (m0 3 ≤ m0 9))) = true := hc81
                                    have hp81 : ((!((number_F (m0 9)))) || (decide (m0 3 ≤ m0 9))) = true := hq81
                                    rw [if_pos hp81] at h
                                    refine xw_cond_t rfl rfl (xw_seq (xw_region ?_))
                                    refine xq rfl trivial (o_as rfl) ?_
                                    refine xo_nil (xq_then (xw_ret (xq_then_ret ?_)))
                                    subst h
                                    exact con_ret1 (.inl rfl) Try.results24 rfl [] (Kp.st (Kp.new hb7 (Kp.new hb1 Kp.nil))) (⟨rfl, rfl⟩)
                                  · have hq81 : ((!((number_F (m0 9)))) || (decide (m0 3 ≤ m0 9))) = false := hc81
                                    have hp81 : ¬ (((!((number_F (m0 9)))) || (decide (m0 3 ≤ m0 9))) = true) := bne' hq81
                                    rw [if_neg hp81] at h
                                    refine xw_cond_f rfl rfl (xw_skip (xq_then (xw_seq (xw_region ?_))))
                                    refine xq rfl trivial (o_ldW rfl ts34 (List.Mem.tail _ (List.Mem.head _))) ?_
                                    refine xq rfl trivial (o_ldW rfl ts34 (List.Mem.head _)) ?_
                                    refine xq rfl trivial (o_eqlA eq34 rfl rfl) ?_
                                    refine xq rfl trivial (o_as rfl) ?_
                                    refine xo_nil (xq_then (xw_ret ?_))
                                    subst h
                                    exact con_ret1 (.inl rfl) Try.results24 rfl [] (Kp.st (Kp.new hb7 (Kp.new hb1 Kp.nil))) (⟨rfl, rfl⟩)
                              · have hq79 : (decide (m0 0 = 10)) = false := hc79
                                have hp79 : ¬ (m0 0 = 10) := of_decide_eq_false hq79
                                rw [if_neg hp79] at h
                                refine xw_cond_f rfl rfl (xw_skip (xq_then (xw_seq (xw_region ?_))))
                                refine xq rfl trivial (o_ldW rfl ts34 (List.Mem.tail _ (List.Mem.head _))) ?_
                                refine xq rfl trivial (o_ldW rfl ts34 (List.Mem.head _)) ?_
                                refine xq rfl trivial (o_eqlA eq34 rfl rfl) ?_
                                refine xq rfl trivial (o_as rfl) ?_
                                refine xo_nil (xq_then (xw_ret ?_))
                                subst h
                                exact con_ret1 (.inl rfl) Try.results24 rfl [] (Kp.st (Kp.new hb7 (Kp.new hb1 Kp.nil))) (⟨rfl, rfl⟩)
                  · have hq42 : (decide (m0 0 ≤ 3)) = false := hc42
                    have hp42 : ¬ (m0 0 ≤ 3) := of_decide_eq_false hq42
                    rw [if_neg hp42] at h
                    refine xw_cond_f rfl rfl (xw_skip (xq_then (xw_seq (xw_seq (xw_region ?_)))))
                    first | refine xq rfl trivial (o_fa0 fl34_0 rfl) ?_ | refine xq rfl trivial (o_fa fl34_0 rfl) ?_
                    refine xq rfl trivial (o_ldI (v := m0 0) rfl ts3 (List.Mem.tail _ (List.Mem.head _)) (by omega) rfl) ?_
                    refine xq rfl trivial (o_leq rfl rfl) ?_
                    refine xo_nil (xq_then ?_)
                    refine xw_bool 193 rfl (fun hc82 => ?_) (fun hc82 => ?_)
                    · have hq82 : (decide (m0 0 ≤ 2)) = true := hc82
                      have hp82 : m0 0 ≤ 2 := of_decide_eq_true hq82
                      rw [if_pos hp82] at h
                      refine xw_cond_t rfl rfl (xw_seq (xw_region ?_))
                      first | refine xq rfl trivial (o_fa0 fl34_5 rfl) ?_ | refine xq rfl trivial (o_fa fl34_5 rfl) ?_
                      refine xq rfl trivial (o_ldSI rfl ts30 (List.Mem.tail _ (List.Mem.head _)) (by omega) (fun _ _ => rfl)) ?_
                      first | refine xq rfl trivial (o_fa0 fl34_5 rfl) ?_ | refine xq rfl trivial (o_fa fl34_5 rfl) ?_
                      refine xq0 trivial (o_stSI rfl rfl ts30 (List.Mem.head _) (by omega) (.here _ _ _ _)) ?_
                      refine xo_nil (xq_then (xw_seq (xw_region ?_)))
                      first | refine xq rfl trivial (o_fa0 fl34_6 rfl) ?_ | refine xq rfl trivial (o_fa fl34_6 rfl) ?_
                      refine xq rfl trivial (o_ldI (v := m0 7) rfl ts31 (List.Mem.tail _ (List.Mem.head _)) (by omega) rfl) ?_
                      first | refine xq rfl trivial (o_fa0 fl34_6 rfl) ?_ | refine xq rfl trivial (o_fa fl34_6 rfl) ?_
                      refine xq0 trivial (o_stI rfl rfl ts31 (List.Mem.head _) (by omega) (.here _ _ _ _)) ?_
                      refine xo_nil (xq_then (xw_seq ?_))
                      refine xw_cut [(1, _), (7, _)] (lc rfl (lc rfl ln)) [(213, .bool (((!((ref02Ok_F (fun i => m0 (5 + i))))) || (decide (m0 7 < 1))) || (decide (4 < m0 7))))] ?_ ?_
                      · refine xw_region ?_
                        first | refine xq rfl trivial (o_fa0 fl34_5 rfl) ?_ | refine xq rfl trivial (o_fa fl34_5 rfl) ?_
                        refine xq rfl trivial (o_ldSI rfl ts30 (List.Mem.tail _ (List.Mem.head _)) (by omega) (fun _ _ => rfl)) ?_
                        refine xcallq rfl trivial kf31 rfl (fun w1 hw1 => ref02Ok_c _ w1) ?_
                        refine xq rfl trivial (o_not rfl) ?_
                        refine xq rfl trivial (o_mv rfl) ?_
                        refine xo_bool 204 rfl (fun hg83 => ?_) (fun hg83 => ?_)
                        · have hq83 : ((ref02Ok_F (fun i => m0 (5 + i)))) = false := (bnT hg83)
                          have hp83 : ¬ (((ref02Ok_F (fun i => m0 (5 + i)))) = true) := bne' hq83
                          refine xs rfl ⟨_, _, rfl, rfl, rfl⟩ (xs rfl ⟨_, _, rfl, rfl, rfl⟩ (xs rfl ⟨_, _, rfl, rfl, rfl⟩ ?_))
                          refine xq rfl trivial (o_pick_t rfl rfl) ?_
                          refine xq rfl trivial (o_mv rfl) ?_
                          refine xs rfl ⟨_, _, rfl, rfl, rfl⟩ (xs rfl ⟨_, _, rfl, rfl, rfl⟩ (xs rfl ⟨_, _, rfl, rfl, rfl⟩ ?_))
                          refine xq rfl trivial (o_pick_t rfl rfl) ?_
                          refine xo_nil ?_
                          exact xq_cut ((lce rfl (by first | rfl | (simp only [hq2, hq17, hq18, hq41, hq42, hq82, hq83, if_neg hp2, if_neg hp17, if_neg hp18, if_pos hp41, if_neg hp42, if_pos hp82, if_neg hp83, bS]; done) | (simp only [hq2, hq17, hq18, hq41, hq42, hq82, hq83, if_neg hp2, if_neg hp17, if_neg hp18, if_pos hp41, if_neg hp42, if_pos hp82, if_neg hp83, bS, reduceIte, Bool.false_eq_true]; done) | (simp [hp2, hp17, hp18, hp41, hp42, hp82, hp83]; done) | (simp_all; done)) (lc rfl (lc rfl ln)))) (fun _ h => h)
                        · have hq83 : ((ref02Ok_F (fun i => m0 (5 + i)))) = true := (bnF hg83)
                          have hp83 : ((ref02Ok_F (fun i => m0 (5 + i)))) = true := hq83
                          first | refine xq rfl ⟨_, rfl, rfl⟩ (o_fa0 fl34_6 rfl) ?_ | refine xq rfl ⟨_, rfl, rfl⟩ (o_fa fl34_6 rfl) ?_
                          refine xq rfl ⟨_, rfl, rfl⟩ (o_ldI (v := m0 7) rfl ts31 (List.Mem.tail _ (List.Mem.head _)) (by omega) rfl) ?_
                          refine xq rfl ⟨_, rfl, rfl⟩ (o_lss rfl rfl) ?_
                          refine xq rfl trivial (o_pick_f rfl rfl) ?_
                          refine xq rfl trivial (o_mv rfl) ?_
                          refine xo_bool 209 rfl (fun hg84 => ?_) (fun hg84 => ?_)
                          · have hq84 : (decide (m0 7 < 1)) = true := hg84
                            have hp84 : m0 7 < 1 := of_decide_eq_true hq84
                            refine xs rfl ⟨_, _, rfl, rfl, rfl⟩ (xs rfl ⟨_, _, rfl, rfl, rfl⟩ (xs rfl ⟨_, _, rfl, rfl, rfl⟩ ?_))
                            refine xq rfl trivial (o_pick_t rfl rfl) ?_
                            refine xo_nil ?_
                            exact xq_cut ((lce rfl (by first | rfl | (simp only [hq2, hq17, hq18, hq41, hq42, hq82, hq83, hq84, if_neg hp2, if_neg hp17, if_neg hp18, if_pos hp41, if_neg hp42, if_pos hp82, if_pos hp83, if_pos hp84, bS]; done) | (simp only [hq2, hq17, hq18, hq41, hq42, hq82, hq83, hq84, if_neg hp2, if_neg hp17, if_neg hp18, if_pos hp41, if_neg hp42, if_pos hp82, if_pos hp83, if_pos hp84, bS, reduceIte, Bool.false_eq_true]; done) | (simp [hp2, hp17, hp18, hp41, hp42, hp82, hp83, hp84]; done) | (simp_all; done)) (lc rfl (lc rfl ln)))) (fun _ h => h)
                          · have hq84 : (decide (m0 7 < 1)) = false := hg84
                            have hp84 : ¬ (m0 7 < 1) := of_decide_eq_false hq84
                            first | refine xq rfl ⟨_, rfl, rfl⟩ (o_fa0 fl34_6 rfl) ?_ | refine xq rfl ⟨_, rfl, rfl⟩ (o_fa fl34_6 rfl) ?_
                            refine xq rfl ⟨_, rfl, rfl⟩ (o_ldI (v := m0 7) rfl ts31 (List.Mem.tail _ (List.Mem.head _)) (by omega) rfl) ?_
                            refine xq rfl ⟨_, rfl, rfl⟩ (o_gtr rfl rfl) ?_
                            refine xq rfl trivial (o_pick_f rfl rfl) ?_
                            refine xo_nil ?_
                            exact xq_cut ((lce rfl (by first | rfl | (simp only [hq2, hq17, hq18, hq41, hq42, hq82, hq83, hq84, if_neg hp2, if_neg hp17, if_neg hp18, if_pos hp41, if_neg hp42, if_pos hp82, if_pos hp83, if_neg hp84, bS]; done) | (simp only [hq2, hq17, hq18, hq41, hq42, hq82, hq83, hq84, if_neg hp2, if_neg hp17, if_neg hp18, if_pos hp41, if_neg hp42, if_pos hp82, if_pos hp83, if_neg hp84, bS, reduceIte, Bool.false_eq_true]; done) | (simp [hp2, hp17, hp18, hp41, hp42, hp82, hp83, hp84]; done) | (simp_all; done)) (lc rfl (lc rfl ln)))) (fun _ h => h)
                      · refine xq_then ?_
                        refine xw_bool 213 rfl (fun hc85 => ?_) (fun hc85 => ?_)
                        · have hq85 : (((!((ref02Ok_F (fun i => m0 (5 + i))))) || (decide (m0 7 < 1))) || (decide (4 < m0 7))) = true := hc85
                          have hp85 : (((!((ref02Ok_F (fun i => m0 (5 + i))))) || (decide (m0 7 < 1))) || (decide (4 < m0 7))) = true := hq85
                          rw [if_pos hp85] at h
                          refine xw_cond_t rfl rfl (xw_seq (xw_region ?_))
                          refine xq rfl trivial (o_as rfl) ?_
                          refine xo_nil (xq_then (xw_ret (xq_then_ret ?_)))
                          subst h
                          exact con_ret1 (.inl rfl) Try.results24 rfl [] (Kp.st (Kp.new hb7 (Kp.new hb1 Kp.nil))) (⟨rfl, rfl⟩)
                        · have hq85 : (((!((ref02Ok_F (fun i => m0 (5 + i))))) || (decide (m0 7 < 1))) || (decide (4 < m0 7))) = false := hc85
                          have hp85 : ¬ ((((!((ref02Ok_F (fun i => m0 (5 + i))))) || (decide (m0 7 < 1))) || (decide (4 < m0 7))) = true) := bne' hq85
                          rw [if_neg hp85] at h
                          refine xw_cond_f rfl rfl (xw_skip (xq_then (xw_seq (xw_seq (xw_region ?_)))))
                          first | refine xq rfl trivial (o_fa0 fl34_0 rfl) ?_ | refine xq rfl trivial (o_fa fl34_0 rfl) ?_
                          refine xq rfl trivial (o_ldI (v := m0 0) rfl ts3 (List.Mem.tail _ (List.Mem.head _)) (by omega) rfl) ?_
                          refine xq rfl trivial (o_eql rfl rfl) ?_
                          refine xo_nil (xq_then ?_)
                          refine xw_bool 216 rfl (fun hc86 => ?_) (fun hc86 => ?_)
                          · have hq86 : (decide (m0 0 = 3)) = true := hc86
                            have hp86 : m0 0 = 3 := of_decide_eq_true hq86
                            rw [if_pos hp86] at h
                            refine xw_cond_t rfl rfl (xw_seq (xw_region ?_))
                            first | refine xq rfl trivial (o_fa0 fl34_7 rfl) ?_ | refine xq rfl trivial (o_fa fl34_7 rfl) ?_
                            refine xq rfl trivial (o_ldI (v := m0 8) rfl ts3 (List.Mem.tail _ (List.Mem.head _)) (by omega) rfl) ?_
                            first | refine xq rfl trivial (o_fa0 fl34_7 rfl) ?_ | refine xq rfl trivial (o_fa fl34_7 rfl) ?_
                            refine xq0 trivial (o_stI rfl rfl ts3 (List.Mem.head _) (by omega) (.here _ _ _ _)) ?_
                            refine xo_nil (xq_then (xw_seq ?_))
                            refine xw_cut [(1, _), (7, _)] (lc rfl (lc rfl ln)) [(227, .bool ((decide (m0 8 < 1)) || (decide (15 < m0 8))))] ?_ ?_
                            · refine xw_region ?_
                              first | refine xq rfl trivial (o_fa0 fl34_7 rfl) ?_ | refine xq rfl trivial (o_fa fl34_7 rfl) ?_
                              refine xq rfl trivial (o_ldI (v := m0 8) rfl ts3 (List.Mem.tail _ (List.Mem.head _)) (by omega) rfl) ?_
                              refine xq rfl trivial (o_lss rfl rfl) ?_
                              refine xq rfl trivial (o_mv rfl) ?_
                              refine xo_bool 223 rfl (fun hg87 => ?_) (fun hg87 => ?_)
                              · have hq87 : (decide (m0 8 < 1)) = true := hg87
                                have hp87 : m0 8 < 1 := of_decide_eq_true hq87
                                refine xs rfl ⟨_, _, rfl, rfl, rfl⟩ (xs rfl ⟨_, _, rfl, rfl, rfl⟩ (xs rfl ⟨_, _, rfl, rfl, rfl⟩ ?_))
                                refine xq rfl trivial (o_pick_t rfl rfl) ?_
                                refine xo_nil ?_
                                exact xq_cut ((lce rfl (by first | rfl | (simp only [hq2, hq17, hq18, hq41, hq42, hq82, hq85, hq86, hq87, if_neg hp2, if_neg hp17, if_neg hp18, if_pos hp41, if_neg hp42, if_pos hp82, if_neg hp85, if_pos hp86, if_pos hp87, bS]; done) | (simp only [hq2, hq17, hq18, hq41, hq42, hq82, hq85, hq86, hq87, if_neg hp2, if_neg hp17, if_neg hp18, if_pos hp41, if_neg hp42, if_pos hp82, if_neg hp85, if_pos hp86, if_pos hp87, bS, reduceIte, Bool.false_eq_true]; done) | (simp [hp2, hp17, hp18, hp41, hp42, hp82, hp85, hp86, hp87]; done) | (simp_all; done)) (lc rfl (lc rfl ln)))) (fun _ h => h)
                              · have hq87 : (decide (m0 8 < 1)) = false := hg87
                                have hp87 : ¬ (m0 8 < 1) := of_decide_eq_false hq87
                                first | refine xq rfl ⟨_, rfl, rfl⟩ (o_fa0 fl34_7 rfl) ?_ | refine xq rfl ⟨_, rfl, rfl⟩ (o_fa fl34_7 rfl) ?_
                                refine xq rfl ⟨_, rfl, rfl⟩ (o_ldI (v := m0 8) rfl ts3 (List.Mem.tail _ (List.Mem.head _)) (by omega) rfl) ?_
                                refine xq rfl ⟨_, rfl, rfl⟩ (o_gtr rfl rfl) ?_
                                refine xq rfl trivial (o_pick_f rfl rfl) ?_
                                refine xo_nil ?_
                                exact xq_cut ((lce rfl (by first | rfl | (simp only [hq2, hq17, hq18, hq41, hq42, hq82, hq85, hq86, hq87, if_neg hp2, if_neg hp17, if_neg hp18, if_pos hp41, if_neg hp42, if_pos hp82, if_neg hp85, if_pos hp86, if_neg hp87, bS]; done) | (simp only [hq2, hq17, hq18, hq41, hq42, hq82, hq85, hq86, hq87, if_neg hp2, if_neg hp17, if_neg hp18, if_pos hp41, if_neg hp42, if_pos hp82, if_neg hp85, if_pos hp86, if_neg hp87, bS, reduceIte, Bool.false_eq_true]; done) | (simp [hp2, hp17, hp18, hp41, hp42, hp82, hp85, hp86, hp87]; done) | (simp_all; done)) (lc rfl (lc rfl ln)))) (fun _ h => h)
                            · refine xq_then ?_
                              refine xw_bool 227 rfl (fun hc88 => ?_) (fun hc88 => ?_)
                              · have hq88 : ((decide (m0 8 < 1)) || (decide (15 < m0 8))) = true := hc88
                                have hp88 : ((decide (m0 8 < 1)) || (decide (15 < m0 8))) = true := hq88
                                rw [if_pos hp88] at h
                                refine xw_cond_t rfl rfl (xw_seq (xw_region ?_))
                                refine xq rfl trivial (o_as rfl) ?_
                                refine xo_nil (xq_then (xw_ret (xq_then_ret ?_)))
                                subst h
                                exact con_ret1 (.inl rfl) Try.results24 rfl [] (Kp.st (Kp.new hb7 (Kp.new hb1 Kp.nil))) (⟨rfl, rfl⟩)
                              · have hq88 : ((decide (m0 8 < 1)) || (decide (15 < m0 8))) = false := hc88
                                have hp88 : ¬ (((decide (m0 8 < 1)) || (decide (15 < m0 8))) = true) := bne' hq88
                                rw [if_neg hp88] at h
                                refine xw_cond_f rfl rfl (xw_skip (xq_then (xw_seq (xw_seq ?_))))
                                refine xw_cut [(1, _), (7, _)] (lc rfl (lc rfl ln)) [(235, .bool ((decide (m0 0 = 5)) || (decide (m0 0 = 6))))] ?_ ?_
                                · refine xw_region ?_
                                  first | refine xq rfl trivial (o_fa0 fl34_0 rfl) ?_ | refine xq rfl trivial (o_fa fl34_0 rfl) ?_
                                  refine xq rfl trivial (o_ldI (v := m0 0) rfl ts3 (List.Mem.tail _ (List.Mem.head _)) (by omega) rfl) ?_
                                  refine xq rfl trivial (o_eql rfl rfl) ?_
                                  refine xq rfl trivial (o_mv rfl) ?_
                                  refine xo_val 231 rfl (v' := .bool false) (congrArg Value.bool (by simp; omega)) ?_
                                  first | refine xq rfl ⟨_, rfl, rfl⟩ (o_fa0 fl34_0 rfl) ?_ | refine xq rfl ⟨_, rfl, rfl⟩ (o_fa fl34_0 rfl) ?_
                                  refine xq rfl ⟨_, rfl, rfl⟩ (o_ldI (v := m0 0) rfl ts3 (List.Mem.tail _ (List.Mem.head _)) (by omega) rfl) ?_
                                  refine xq rfl ⟨_, rfl, rfl⟩ (o_eql rfl rfl) ?_
                                  refine xq rfl trivial (o_pick_f rfl rfl) ?_
                                  refine xo_nil ?_
                                  exact xq_cut ((lce rfl (by first | rfl | (simp only [hq2, hq17, hq18, hq41, hq42, hq82, hq85, hq86, hq88, if_neg hp2, if_neg hp17, if_neg hp18, if_pos hp41, if_neg hp42, if_pos hp82, if_neg hp85, if_pos hp86, if_neg hp88, bS]; done) | (simp only [hq2, hq17, hq18, hq41, hq42, hq82, hq85, hq86, hq88, if_neg hp2, if_neg hp17, if_neg hp18, if_pos hp41, if_neg hp42, if_pos hp82, if_neg hp85, if_pos hp86, if_neg hp88, bS, reduceIte, Bool.false_eq_true]; done) | (simp [hp2, hp17, hp18, hp41, hp42, hp82, hp85, hp86, hp88]; done) | (simp_all; done)) (lc rfl (lc rfl ln)))) (fun _ h => h)
                                · refine xq_then ?_
                                  refine xw_bool 235 rfl (fun hc90 => ?_) (fun hc90 => ?_)
                                  · have hq90 : ((decide (m0 0 = 5)) || (decide (m0 0 = 6))) = true := hc90
                                    have hp90 : ((decide (m0 0 = 5)) || (decide (m0 0 = 6))) = true := hq90
                                    rw [if_pos hp90] at h
                                    refine xw_cond_t rfl rfl (xw_seq (xw_region ?_))
                                    first | refine xq rfl trivial (o_fa0 fl34_7 rfl) ?_ | refine xq rfl trivial (o_fa fl34_7 rfl) ?_
                                    refine xq rfl trivial (o_ldI (v := m0 8) rfl ts3 (List.Mem.tail _ (List.Mem.head _)) (by omega) rfl) ?_
                                    first | refine xq rfl trivial (o_fa0 fl34_7 rfl) ?_ | refine xq rfl trivial (o_fa fl34_7 rfl) ?_
                                    refine xq0 trivial (o_stI rfl rfl ts3 (List.Mem.head _) (by omega) (.here _ _ _ _)) ?_
                                    refine xo_nil (xq_then (xw_seq ?_))
                                    refine xw_cut [(1, _), (7, _)] (lc rfl (lc rfl ln)) [(246, .bool ((!(decide (m0 8 = 0))) && (!(decide (m0 8 = 1)))))] ?_ ?_
                                    · refine xw_region ?_
                                      first | refine xq rfl trivial (o_fa0 fl34_7 rfl) ?_ | refine xq rfl trivial (o_fa fl34_7 rfl) ?_
                                      refine xq rfl trivial (o_ldI (v := m0 8) rfl ts3 (List.Mem.tail _ (List.Mem.head _)) (by omega) rfl) ?_
                                      refine xq rfl trivial (o_neq rfl rfl) ?_
                                      refine xq rfl trivial (o_mv rfl) ?_
                                      refine xo_bool 242 rfl (fun hg91 => ?_) (fun hg91 => ?_)
                                      · have hq91 : (decide (m0 8 = 0)) = false := (bnT hg91)
                                        have hp91 : ¬ (m0 8 = 0) := of_decide_eq_false hq91
                                        first | refine xq rfl ⟨_, rfl, rfl⟩ (o_fa0 fl34_7 rfl) ?_ | refine xq rfl ⟨_, rfl, rfl⟩ (o_fa fl34_7 rfl) ?_
                                        refine xq rfl ⟨_, rfl, rfl⟩ (o_ldI (v := m0 8) rfl ts3 (List.Mem.tail _ (List.Mem.head _)) (by omega) rfl) ?_
                                        refine xq rfl ⟨_, rfl, rfl⟩ (o_neq rfl rfl) ?_
                                        refine xq rfl trivial (o_pick_t rfl rfl) ?_
                                        refine xo_nil ?_
                                        exact xq_cut ((lce rfl (by first | rfl | (simp only [hq2, hq17, hq18, hq41, hq42, hq82, hq85, hq86, hq88, hq90, hq91, if_neg hp2, if_neg hp17, if_neg hp18, if_pos hp41, if_neg hp42, if_pos hp82, if_neg hp85, if_pos hp86, if_neg hp88, if_pos hp90, if_neg hp91, bS]; done) | (simp only [hq2, hq17, hq18, hq41, hq42, hq82, hq85, hq86, hq88, hq90, hq91, if_neg hp2, if_neg hp17, if_neg hp18, if_pos hp41, if_neg hp42, if_pos hp82, if_neg hp85, if_pos hp86, if_neg hp88, if_pos hp90, if_neg hp91, bS, reduceIte, Bool.false_eq_true]; done) | (simp [hp2, hp17, hp18, hp41, hp42, hp82, hp85, hp86, hp88, hp90, hp91]; done) | (simp_all; done)) (lc rfl (lc rfl ln)))) (fun _ h => h)
                                      · have hq91 : (decide (m0 8 = 0)) = true := (bnF hg91)
                                        have hp91 : m0 8 = 0 := of_decide_eq_true hq91
                                        refine xs rfl ⟨_, _, rfl, rfl, rfl⟩ (xs rfl ⟨_, _, rfl, rfl, rfl⟩ (xs rfl ⟨_, _, rfl, rfl, rfl⟩ ?_))
                                        refine xq rfl trivial (o_pick_f rfl rfl) ?_
                                        refine xo_nil ?_
                                        exact xq_cut ((lce rfl (by first | rfl | (simp only [hq2, hq17, hq18, hq41, hq42, hq82, hq85, hq86, hq88, hq90, hq91, if_neg hp2, if_neg hp17, if_neg hp18, if_pos hp41, if_neg hp42, if_pos hp82, if_neg hp85, if_pos hp86, if_neg hp88, if_pos hp90, if_pos hp91, bS]; done) | (simp only [hq2, hq17, hq18, hq41, hq42, hq82, hq85, hq86, hq88, hq90, hq91, if_neg hp2, if_neg hp17, if_neg hp18, if_pos hp41, if_neg hp42, if_pos hp82, if_neg hp85, if_pos hp86, if_neg hp88, if_pos hp90, if_pos hp91, bS, reduceIte, Bool.false_eq_true]; done) | (simp [hp2, hp17, hp18, hp41, hp42, hp82, hp85, hp86, hp88, hp90, hp91]; done) | (simp_all; done)) (lc rfl (lc rfl ln)))) (fun _ h => h)
                                    · refine xq_then ?_
                                      refine xw_bool 246 rfl (fun hc92 => ?_) (fun hc92 => ?_)
                                      · have hq92 : ((!(decide (m0 8 = 0))) && (!(decide (m0 8 = 1)))) = true := hc92
                                        have hp92 : ((!(decide (m0 8 = 0))) && (!(decide (m0 8 = 1)))) = true := hq92
                                        rw [if_pos hp92] at h
                                        refine xw_cond_t rfl rfl (xw_seq (xw_region ?_))
                                        refine xq rfl trivial (o_as rfl) ?_
                                        refine xo_nil (xq_then (xw_ret (xq_then_ret ?_)))
                                        subst h
                                        exact con_ret1 (.inl rfl) Try.results24 rfl [] (Kp.st (Kp.new hb7 (Kp.new hb1 Kp.nil))) (⟨rfl, rfl⟩)
                                      · have hq92 : ((!(decide (m0 8 = 0))) && (!(decide (m0 8 = 1)))) = false := hc92
                                        have hp92 : ¬ (((!(decide (m0 8 = 0))) && (!(decide (m0 8 = 1)))) = true) := bne' hq92
                                        rw [if_neg hp92] at h
                                        refine xw_cond_f rfl rfl (xw_skip (xq_then (xw_seq (xw_seq (xw_region ?_)))))
                                        first | refine xq rfl trivial (o_fa0 fl34_0 rfl) ?_ | refine xq rfl trivial (o_fa fl34_0 rfl) ?_
                                        refine xq rfl trivial (o_ldI (v := m0 0) rfl ts3 (List.Mem.tail _ (List.Mem.head _)) (by omega) rfl) ?_
                                        refine xq rfl trivial (o_eql rfl rfl) ?_
                                        refine xo_nil (xq_then ?_)
                                        refine xw_cond_f rfl (by simp; omega) ?_
                                        refine xw_skip (xq_then (xw_seq (xw_region ?_)))
                                        refine xq rfl trivial (o_ldW rfl ts34 (List.Mem.tail _ (List.Mem.head _))) ?_
                                        refine xq rfl trivial (o_ldW rfl ts34 (List.Mem.head _)) ?_
                                        refine xq rfl trivial (o_eqlA eq34 rfl rfl) ?_
                                        refine xq rfl trivial (o_as rfl) ?_
                                        refine xo_nil (xq_then (xw_ret ?_))
                                        subst h
                                        exact con_ret1 (.inl rfl) Try.results24 rfl [] (Kp.st (Kp.new hb7 (Kp.new hb1 Kp.nil))) (⟨rfl, rfl⟩)
                                  · have hq90 : ((decide (m0 0 = 5)) || (decide (m0 0 = 6))) = false := hc90
                                    have hp90 : ¬ (((decide (m0 0 = 5)) || (decide (m0 0 = 6))) = true) := bne' hq90
                                    rw [if_neg hp90] at h
                                    refine xw_cond_f rfl rfl (xw_skip (xq_then (xw_seq (xw_seq (xw_region ?_)))))
                                    first | refine xq rfl trivial (o_fa0 fl34_0 rfl) ?_ | refine xq rfl trivial (o_fa fl34_0 rfl) ?_
                                    refine xq rfl trivial (o_ldI (v := m0 0) rfl ts3 (List.Mem.tail _ (List.Mem.head _)) (by omega) rfl) ?_
                                    refine xq rfl trivial (o_eql rfl rfl) ?_
                                    refine xo_nil (xq_then ?_)
                                    refine xw_cond_f rfl (by simp; omega) ?_
                                    refine xw_skip (xq_then (xw_seq (xw_region ?_)))
                                    refine xq rfl trivial (o_ldW rfl ts34 (List.Mem.tail _ (List.Mem.head _))) ?_
                                    refine xq rfl trivial (o_ldW rfl ts34 (List.Mem.head _)) ?_
                                    refine xq rfl trivial (o_eqlA eq34 rfl rfl) ?_
                                    refine xq rfl trivial (o_as rfl) ?_
                                    refine xo_nil (xq_then (xw_ret ?_))
                                    subst h
                                    exact con_ret1 (.inl rfl) Try.results24 rfl [] (Kp.st (Kp.new hb7 (Kp.new hb1 Kp.nil))) (⟨rfl, rfl⟩)
                          · have hq86 : (decide (m0 0 = 3)) = false := hc86
                            have hp86 : ¬ (m0 0 = 3) := of_decide_eq_false hq86
                            rw [if_neg hp86] at h
                            refine xw_cond_f rfl rfl (xw_skip (xq_then (xw_seq (xw_seq ?_))))
                            refine xw_cut [(1, _), (7, _)] (lc rfl (lc rfl ln)) [(235, .bool ((decide (m0 0 = 5)) || (decide (m0 0 = 6))))] ?_ ?_
                            · refine xw_region ?_
                              first | refine xq rfl trivial (o_fa0 fl34_0 rfl) ?_ | refine xq rfl trivial (o_fa fl34_0 rfl) ?_
                              refine xq rfl trivial (o_ldI (v := m0 0) rfl ts3 (List.Mem.tail _ (List.Mem.head _)) (by omega) rfl) ?_
                              refine xq rfl trivial (o_eql rfl rfl) ?_
                              refine xq rfl trivial (o_mv rfl) ?_
                              refine xo_bool 231 rfl (fun hg93 => ?_) (fun hg93 => ?_)
                              · have hq93 : (decide (m0 0 = 5)) = true := hg93
                                have hp93 : m0 0 = 5 := of_decide_eq_true hq93
                                refine xs rfl ⟨_, _, rfl, rfl, rfl⟩ (xs rfl ⟨_, _, rfl, rfl, rfl⟩ (xs rfl ⟨_, _, rfl, rfl, rfl⟩ ?_))
                                refine xq rfl trivial (o_pick_t rfl rfl) ?_
                                refine xo_nil ?_
                                exact xq_cut ((lce rfl (by first | rfl | (simp only [hq2, hq17, hq18, hq41, hq42, hq82, hq85, hq86, hq93, if_neg hp2, if_neg hp17, if_neg hp18, if_pos hp41, if_neg hp42, if_pos hp82, if_neg hp85, if_neg hp86, if_pos hp93, bS]; done) | (simp only [hq2, hq17, hq18, hq41, hq42, hq82, hq85, hq86, hq93, if_neg hp2, if_neg hp17, if_neg hp18, if_pos hp41, if_neg hp42, if_pos hp82, if_neg hp85, if_neg hp86, if_pos hp93, bS, reduceIte, Bool.false_eq_true]; done) | (simp [hp2, hp17, hp18, hp41, hp42, hp82, hp85, hp86, hp93]; done) | (simp_all; done)) (lc rfl (lc rfl ln)))) (fun _ h => h)
                              · have hq93 : (decide (m0 0 = 5)) = false := hg93
                                have hp93 : ¬ (m0 0 = 5) := of_decide_eq_false hq93
                                first | refine xq rfl ⟨_, rfl, rfl⟩ (o_fa0 fl34_0 rfl) ?_ | refine xq rfl ⟨_, rfl, rfl⟩ (o_fa fl34_0 rfl) ?_
                                refine xq rfl ⟨_, rfl, rfl⟩ (o_ldI (v := m0 0) rfl ts3 (List.Mem.tail _ (List.Mem.head _)) (by omega) rfl) ?_
                                refine xq rfl ⟨_, rfl, rfl⟩ (o_eql rfl rfl) ?_
                                refine xq rfl trivial (o_pick_f rfl rfl) ?_
                                refine xo_nil ?_
                                exact xq_cut ((lce rfl (by first | rfl | (simp only [hq2, hq17, hq18, hq41, hq42, hq82, hq85, hq86, hq93, if_neg hp2, if_neg hp17, if_neg hp18, if_pos hp41, if_neg hp42, if_pos hp82, if_neg hp85, if_neg hp86, if_neg hp93, bS]; done) | (simp only [hq2, hq17, hq18, hq41, hq42, hq82, hq85, hq86, hq93, if_neg hp2, if_neg hp17, if_neg hp18, if_pos hp41, if_neg hp42, if_pos hp82, if_neg hp85, if_neg hp86, if_neg hp93, bS, reduceIte, Bool.false_eq_true]; done) | (simp [hp2, hp17, hp18, hp41, hp42, hp82, hp85, hp86, hp93]; done) | (simp_all; done)) (lc rfl (lc rfl ln)))) (fun _ h => h)
                            · refine xq_then ?_
                              refine xw_bool 235 rfl (fun hc94 => ?_) (fun hc94 => ?_)
                              · have hq94 : ((decide (m0 0 = 5)) || (decide (m0 0 = 6))) = true := hc94
                                have hp94 : ((decide (m0 0 = 5)) || (decide (m0 0 = 6))) = true := hq94
                                rw [if_pos hp94] at h
                                refine xw_cond_t rfl rfl (xw_seq (xw_region ?_))
                                first | refine xq rfl trivial (o_fa0 fl34_7 rfl) ?_ | refine xq rfl trivial (o_fa fl34_7 rfl) ?_
                                refine xq rfl trivial (o_ldI (v := m0 8) rfl ts3 (List.Mem.tail _ (List.Mem.head _)) (by omega) rfl) ?_
                                first | refine xq rfl trivial (o_fa0 fl34_7 rfl) ?_ | refine xq rfl trivial (o_fa fl34_7 rfl) ?_
                                refine xq0 trivial (o_stI rfl rfl ts3 (List.Mem.head _) (by omega) (.here _ _ _ _)) ?_
                                refine xo_nil (xq_then (xw_seq ?_))
                                refine xw_cut [(1, _), (7, _)] (lc rfl (lc rfl ln)) [(246, .bool ((!(decide (m0 8 = 0))) && (!(decide (m0 8 = 1)))))] ?_ ?_
                                · refine xw_region ?_
                                  first | refine xq rfl trivial (o_fa0 fl34_7 rfl) ?_ | refine xq rfl trivial (o_fa fl34_7 rfl) ?_
                                  refine xq rfl trivial (o_ldI (v := m0 8) rfl ts3 (List.Mem.tail _ (List.Mem.head _)) (by omega) rfl) ?_
                                  refine xq rfl trivial (o_neq rfl rfl) ?_
                                  refine xq rfl trivial (o_mv rfl) ?_
                                  refine xo_bool 242 rfl (fun hg95 => ?_) (fun hg95 => ?_)
                                  · have hq95 : (decide (m0 8 = 0)) = false := (bnT hg95)
                                    have hp95 : ¬ (m0 8 = 0) := of_decide_eq_false hq95
                                    first | refine xq rfl ⟨_, rfl, rfl⟩ (o_fa0 fl34_7 rfl) ?_ | refine xq rfl ⟨_, rfl, rfl⟩ (o_fa fl34_7 rfl) ?_
                                    refine xq rfl ⟨_, rfl, rfl⟩ (o_ldI (v := m0 8) rfl ts3 (List.Mem.tail _ (List.Mem.head _)) (by omega) rfl) ?_
                                    refine xq rfl ⟨_, rfl, rfl⟩ (o_neq rfl rfl) ?_
                                    refine xq rfl trivial (o_pick_t rfl rfl) ?_
                                    refine xo_nil ?_
                                    exact xq_cut ((lce rfl (by first | rfl | (simp only [hq2, hq17, hq18, hq41, hq42, hq82, hq85, hq86, hq94, hq95, if_neg hp2, if_neg hp17, if_neg hp18, if_pos hp41, if_neg hp42, if_pos hp82, if_neg hp85, if_neg hp86, if_pos hp94, if_neg hp95, bS]; done) | (simp only [hq2, hq17, hq18, hq41, hq42, hq82, hq85, hq86, hq94, hq95, if_neg hp2, if_neg hp17, if_neg hp18, if_pos hp41, if_neg hp42, if_pos hp82, if_neg hp85, if_neg hp86, if_pos hp94, if_neg hp95, bS, reduceIte, Bool.false_eq_true]; done) | (simp [hp2, hp17, hp18, hp41, hp42, hp82, hp85, hp86, hp94, hp95]; done) | (simp_all; done)) (lc rfl (lc rfl ln)))) (fun _ h => h)
                                  · have hq95 : (decide (m0 8 = 0)) = true := (bnF hg95)
                                    have hp95 : m0 8 = 0 := of_decide_eq_true hq95
                                    refine xs rfl ⟨_, _, rfl, rfl, rfl⟩ (xs rfl ⟨_, _, rfl, rfl, rfl⟩ (xs rfl ⟨_, _, rfl, rfl, rfl⟩ ?_))
                                    refine xq rfl trivial (o_pick_f rfl rfl) ?_
                                    refine xo_nil ?_
                                    exact xq_cut ((lce rfl (by first | rfl | (simp only [hq2, hq17, hq18, hq41, hq42, hq82, hq85, hq86, hq94, hq95, if_neg hp2, if_neg hp17, if_neg hp18, if_pos hp41, if_neg hp42, if_pos hp82, if_neg hp85, if_neg hp86, if_pos hp94, if_pos hp95, bS]; done) | (simp only [hq2, hq17, hq18, hq41, hq42, hq82, hq85, hq86, hq94, hq95, if_neg hp2, if_neg hp17, if_neg hp18, if_pos hp41, if_neg hp42, if_pos hp82, if_neg hp85, if_neg hp86, if_pos hp94, if_pos hp95, bS, reduceIte, Bool.false_eq_true]; done) | (simp [hp2, hp17, hp18, hp41, hp42, hp82, hp85, hp86, hp94, hp95]; done) | (simp_all; done)) (lc rfl (lc rfl ln)))) (fun _ h => h)
                                · refine xq_then ?_
                                  refine xw_bool 246 rfl (fun hc96 => ?_) (fun hc96 => ?_)
                                  · have hq96 : ((!(decide (m0 8 = 0))) && (!(decide (m0 8 = 1)))) = true := hc96
                                    have hp96 : ((!(decide (m0 8 = 0))) && (!(decide (m0 8 = 1)))) = true := hq96
                                    rw [if_pos hp96] at h
                                    refine xw_cond_t rfl rfl (xw_seq (xw_region ?_))
                                    refine xq rfl trivial (o_as rfl) ?_
                                    refine xo_nil (xq_then (xw_ret (xq_then_ret ?_)))
                                    subst h
                                    exact con_ret1 (.inl rfl) Try.results24 rfl [] (Kp.st (Kp.new hb7 (Kp.new hb1 Kp.nil))) (⟨rfl, rfl⟩)
                                  · have hq96 : ((!(decide (m0 8 = 0))) && (!(decide (m0 8 = 1)))) = false := hc96
                                    have hp96 : ¬ (((!(decide (m0 8 = 0))) && (!(decide (m0 8 = 1)))) = true) := bne' hq96
                                    rw [if_neg hp96] at h
                                    refine xw_cond_f rfl rfl (xw_skip (xq_then (xw_seq (xw_seq (xw_region ?_)))))
                                    first | refine xq rfl trivial (o_fa0 fl34_0 rfl) ?_ | refine xq rfl trivial (o_fa fl34_0 rfl) ?_
                                    refine xq rfl trivial (o_ldI (v := m0 0) rfl ts3 (List.Mem.tail _ (List.Mem.head _)) (by omega) rfl) ?_
                                    refine xq rfl trivial (o_eql rfl rfl) ?_
                                    refine xo_nil (xq_then ?_)
                                    refine xw_bool 249 rfl (fun hc97 => ?_) (fun hc97 => ?_)
                                    · have hq97 : (decide (m0 0 = 10)) = true := hc97
                                      have hp97 : m0 0 = 10 := of_decide_eq_true hq97
                                      rw [if_pos hp97] at h
                                      refine xw_cond_t rfl rfl (xw_seq (xw_region ?_))
                                      first | refine xq rfl trivial (o_fa0 fl34_8 rfl) ?_ | refine xq rfl trivial (o_fa fl34_8 rfl) ?_
                                      refine xq rfl trivial (o_ldI (v := m0 9) rfl ts3 (List.Mem.tail _ (List.Mem.head _)) (by omega) rfl) ?_
                                      first | refine xq rfl trivial (o_fa0 fl34_8 rfl) ?_ | refine xq rfl trivial (o_fa fl34_8 rfl) ?_
                                      refine xq0 trivial (o_stI rfl rfl ts3 (List.Mem.head _) (by omega) (.here _ _ _ _)) ?_
                                      refine xo_nil (xq_then (xw_seq ?_))
                                      refine xw_cut [(1, _), (7, _)] (lc rfl (lc rfl ln)) [(263, .bool ((!((number_F (m0 9)))) || (decide (m0 3 ≤ m0 9))))] ?_ ?_
                                      · refine xw_region ?_
                                        first | refine xq rfl trivial (o_fa0 fl34_8 rfl) ?_ | refine xq rfl trivial (o_fa fl34_8 rfl) ?_
                                        refine xq rfl trivial (o_ldI (v := m0 9) rfl ts3 (List.Mem.tail _ (List.Mem.head _)) (by omega) rfl) ?_
                                        refine xcallq rfl trivial kf30 rfl (fun w1 hw1 => number_c _ w1) ?_
                                        refine xq rfl trivial (o_not rfl) ?_
                                        refine xq rfl trivial (o_mv rfl) ?_
                                        refine xo_bool 257 rfl (fun hg98 => ?_) (fun hg98 => ?_)
                                        · have hq98 : ((number_F (m0 9))) = false := (bnT hg98)
                                          have hp98 : ¬ (((number_F (m0 9))) = true) := bne' hq98
                                          refine xs rfl ⟨_, _, rfl, rfl, rfl⟩ (xs rfl ⟨_, _, rfl, rfl, rfl⟩ (xs rfl ⟨_, _, rfl, rfl, rfl⟩ (xs rfl ⟨_, _, rfl, rfl, rfl⟩ (xs rfl ⟨_, _, rfl, rfl, rfl⟩ ?_))))
                                          refine xq rfl trivial (o_pick_t rfl rfl) ?_
                                          refine xo_nil ?_
                                          exact xq_cut ((lce rfl (by first | rfl | (simp only [hq2, hq17, hq18, hq41, hq42, hq82, hq85, hq86, hq94, hq96, hq97, hq98, if_neg hp2, if_neg hp17, if_neg hp18, if_pos hp41, if_neg hp42, if_pos hp82, if_neg hp85, if_neg hp86, if_pos hp94, if_neg hp96, if_pos hp97, if_neg hp98, bS]; done) | (simp only [hq2, hq17, hq18, hq41, hq42, hq82, hq85, hq86, hq94, hq96, hq97, hq98, if_neg hp2, if_neg hp17, if_neg hp18, if_pos hp41, if_neg hp42, if_pos hp82, if_neg hp85, if_neg hp86, if_pos hp94, if_neg hp96, if_pos hp97, if_neg hp98, bS, reduceIte, Bool.false_eq_true]; done) | (simp [hp2, hp17, hp18, hp41, hp42, hp82, hp85, hp86, hp94, hp96, hp97, hp98]; done) | (simp_all; done)) (lc rfl (lc rfl ln)))) (fun _ h => h)
                                        · have hq98 : ((number_F (m0 9))) = true := (bnF hg98)
                                          have hp98 : ((number_F (m0 9))) = true := hq98
                                          first | refine xq rfl ⟨_, rfl, rfl⟩ (o_fa0 fl34_8 rfl) ?_ | refine xq rfl ⟨_, rfl, rfl⟩ (o_fa fl34_8 rfl) ?_
                                          refine xq rfl ⟨_, rfl, rfl⟩ (o_ldI (v := m0 9) rfl ts3 (List.Mem.tail _ (List.Mem.head _)) (by omega) rfl) ?_
                                          first | refine xq rfl ⟨_, rfl, rfl⟩ (o_fa0 fl34_3 rfl) ?_ | refine xq rfl ⟨_, rfl, rfl⟩ (o_fa fl34_3 rfl) ?_
                                          refine xq rfl ⟨_, rfl, rfl⟩ (o_ldI (v := m0 3) rfl ts3 (List.Mem.tail _ (List.Mem.head _)) (by omega) rfl) ?_
                                          refine xq rfl ⟨_, rfl, rfl⟩ (o_geq rfl rfl) ?_
                                          refine xq rfl trivial (o_pick_f rfl rfl) ?_
                                          refine xo_nil ?_
                                          exact xq_cut ((lce rfl (by first | rfl | (simp only [hq2, hq17, hq18, hq41, hq42, hq82, hq85, hq86, hq94, hq96, hq97, hq98, if_neg hp2, if_neg hp17, if_neg hp18, if_pos hp41, if_neg hp42, if_pos hp82, if_neg hp85, if_neg hp86, if_pos hp94, if_neg hp96, if_pos hp97, if_pos hp98, bS]; done) | (simp only [hq2, hq17, hq18, hq41, hq42, hq82, hq85, hq86, hq94, hq96, hq97, hq98, if_neg hp2, if_neg hp17, if_neg hp18, if_pos hp41, if_neg hp42, if_pos hp82, if_neg hp85, if_neg hp86, if_pos hp94, if_neg hp96, if_pos hp97, if_pos hp98, bS, reduceIte, Bool.false_eq_true]; done) | (simp [hp2, hp17, hp18, hp41, hp42, hp82, hp85, hp86, hp94, hp96, hp97, hp98]; done) | (simp_all; done)) (lc rfl (lc rfl ln)))) (fun _ h => h)
                                      · refine xq_then ?_
                                        refine xw_bool 263 rfl (fun hc99 => ?_) (fun hc99 => ?_)
                                        · have hq99 : ((!((number_F (m0 9)))) || (decide (m0 3 ≤ m0 9))) = true := hc99
                                          have hp99 : ((!((number_F (m0 9)))) || (decide (m0 3 ≤ m0 9))) = true := hq99
                                          rw [if_pos hp99] at h
                                          refine xw_cond_t rfl rfl (xw_seq (xw_region ?_))
                                          refine xq rfl trivial (o_as rfl) ?_
                                          refine xo_nil (xq_then (xw_ret (xq_then_ret ?_)))
                                          subst h
                                          exact con_ret1 (.inl rfl) Try.results24 rfl [] (Kp.st (Kp.new hb7 (Kp.new hb1 Kp.nil))) (⟨rfl, rfl⟩)
                                        · have hq99 : ((!((number_F (m0 9)))) || (decide (m0 3 ≤ m0 9))) = false := hc99
                                          have hp99 : ¬ (((!((number_F (m0 9)))) || (decide (m0 3 ≤ m0 9))) = true) := bne' hq99
                                          rw [if_neg hp99] at h
                                          refine xw_cond_f rfl rfl (xw_skip (xq_then (xw_seq (xw_region ?_))))
                                          refine xq rfl trivial (o_ldW rfl ts34 (List.Mem.tail _ (List.Mem.head _))) ?_
                                          refine xq rfl trivial (o_ldW rfl ts34 (List.Mem.head _)) ?_
                                          refine xq rfl trivial (o_eqlA eq34 rfl rfl) ?_
                                          refine xq rfl trivial (o_as rfl) ?_
                                          refine xo_nil (xq_then (xw_ret ?_))
                                          subst h
                                          exact con_ret1 (.inl rfl) Try.results24 rfl [] (Kp.st (Kp.new hb7 (Kp.new hb1 Kp.nil))) (⟨rfl, rfl⟩)
                                    · have hq97 : (decide (m0 0 = 10)) = false := hc97
                                      have hp97 : ¬ (m0 0 = 10) := of_decide_eq_false hq97
                                      rw [if_neg hp97] at h
                                      refine xw_cond_f rfl rfl (xw_skip (xq_then (xw_seq (xw_region ?_))))
                                      refine xq rfl trivial (o_ldW rfl ts34 (List.Mem.tail _ (List.Mem.head _))) ?_
                                      refine xq rfl trivial (o_ldW rfl ts34 (List.Mem.head _)) ?_
                                      refine xq rfl trivial (o_eqlA eq34 rfl rfl) ?_
                                      refine xq rfl trivial (o_as rfl) ?_
                                      refine xo_nil (xq_then (xw_ret ?_))
                                      subst h
                                      exact con_ret1 (.inl rfl) Try.results24 rfl [] (Kp.st (Kp.new hb7 (Kp.new hb1 Kp.nil))) (⟨rfl, rfl⟩)
                              · have hq94 : ((decide (m0 0 = 5)) || (decide (m0 0 = 6))) = false := hc94
                                have hp94 : ¬ (((decide (m0 0 = 5)) || (decide (m0 0 = 6))) = true) := bne' hq94
                                rw [if_neg hp94] at h
                                refine xw_cond_f rfl rfl (xw_skip (xq_then (xw_seq (xw_seq (xw_region ?_)))))
                                first | refine xq rfl trivial (o_fa0 fl34_0 rfl) ?_ | refine xq rfl trivial (o_fa fl34_0 rfl) ?_
                                refine xq rfl trivial (o_ldI (v := m0 0) rfl ts3 (List.Mem.tail _ (List.Mem.head _)) (by omega) rfl) ?_
                                refine xq rfl trivial (o_eql rfl rfl) ?_
                                refine xo_nil (xq_then ?_)
                                refine xw_bool 249 rfl (fun hc100 => ?_) (fun hc100 => ?_)
                                · have hq100 : (decide (m0 0 = 10)) = true := hc100
                                  have hp100 : m0 0 = 10 := of_decide_eq_true hq100
                                  rw [if_pos hp100] at h
                                  refine xw_cond_t rfl rfl (xw_seq (xw_region ?_))
                                  first | refine xq rfl trivial (o_fa0 fl34_8 rfl) ?_ | refine xq rfl trivial (o_fa fl34_8 rfl) ?_
                                  refine xq rfl trivial (o_ldI (v := m0 9) rfl ts3 (List.Mem.tail _ (List.Mem.head _)) (by omega) rfl) ?_
                                  first | refine xq rfl trivial (o_fa0 fl34_8 rfl) ?_ | refine xq rfl trivial (o_fa fl34_8 rfl) ?_
                                  refine xq0 trivial (o_stI rfl rfl ts3 (List.Mem.head _) (by omega) (.here _ _ _ _)) ?_
                                  refine xo_nil (xq_then (xw_seq ?_))
                                  refine xw_cut [(1, _), (7, _)] (lc rfl (lc rfl ln)) [(263, .bool ((!((number_F (m0 9)))) || (decide (m0 3 ≤ m0 9))))] ?_ ?_
                                  · refine xw_region ?_
                                    first | refine xq rfl trivial (o_fa0 fl34_8 rfl) ?_ | refine xq rfl trivial (o_fa fl34_8 rfl) ?_
                                    refine xq rfl trivial (o_ldI (v := m0 9) rfl ts3 (List.Mem.tail _ (List.Mem.head _)) (by omega) rfl) ?_
                                    refine xcallq rfl trivial kf30 rfl (fun w1 hw1 => number_c _ w1) ?_
                                    refine xq rfl trivial (o_not rfl) ?_
                                    refine xq rfl trivial (o_mv rfl) ?_
                                    refine xo_bool 257 rfl (fun hg101 => ?_) (fun hg101 => ?_)
                                    · have hq101 : ((number_F (m0 9))) = false := (bnT hg101)
                                      have hp101 : ¬ (((number_F (m0 9))) = true) := bne' hq101
                                      refine xs rfl ⟨_, _, rfl, rfl, rfl⟩ (xs rfl ⟨_, _, rfl, rfl, rfl⟩ (xs rfl ⟨_, _, rfl, rfl, rfl⟩ (xs rfl ⟨_, _, rfl, rfl, rfl⟩ (xs rfl ⟨_, _, rfl, rfl, rfl⟩ ?_))))
                                      refine xq rfl trivial (o_pick_t rfl rfl) ?_
                                      refine xo_nil ?_
                                      exact xq_cut ((lce rfl (by first | rfl | (simp only [hq2, hq17, hq18, hq41, hq42, hq82, hq85, hq86, hq94, hq100, hq101, if_neg hp2, if_neg hp17, if_neg hp18, if_pos hp41, if_neg hp42, if_pos hp82, if_neg hp85, if_neg hp86, if_neg hp94, if_pos hp100, if_neg hp101, bS]; done) | (simp only [hq2, hq17, hq18, hq41, hq42, hq82, hq85, hq86, hq94, hq100, hq101, if_neg hp2, if_neg hp17, if_neg hp18, if_pos hp41, if_neg hp42, if_pos hp82, if_neg hp85, if_neg hp86, if_neg hp94, if_pos hp100, if_neg hp101, bS, reduceIte, Bool.false_eq_true]; done) | (simp [hp2, hp17, hp18, hp41, hp42, hp82, hp85, hp86, hp94, hp100, hp101]; done) | (simp_all; done)) (lc rfl (lc rfl ln)))) (fun _ h => h)
                                    · have hq101 : ((number_F (m0 9))) = true := (bnF hg101)
                                      have hp101 : ((number_F (m0 9))) = true := hq101
                                      first | refine xq rfl ⟨_, rfl, rfl⟩ (o_fa0 fl34_8 rfl) ?_ | refine xq rfl ⟨_, rfl, rfl⟩ (o_fa fl34_8 rfl) ?_
                                      refine xq rfl ⟨_, rfl, rfl⟩ (o_ldI (v := m0 9) rfl ts3 (List.Mem.tail _ (List.Mem.head _)) (by omega) rfl) ?_
                                      first | refine xq rfl ⟨_, rfl, rfl⟩ (o_fa0 fl34_3 rfl) ?_ | refine xq rfl ⟨_, rfl, rfl⟩ (o_fa fl34_3 rfl) ?_
                                      refine xq rfl ⟨_, rfl, rfl⟩ (o_ldI (v := m0 3) rfl ts3 (List.Mem.tail _ (List.Mem.head _)) (by omega) rfl) ?_
                                      refine xq rfl ⟨_, rfl, rfl⟩ (o_geq rfl rfl) ?_
                                      refine xq rfl trivial (o_pick_f rfl rfl) ?_
                                      refine xo_nil ?_
                                      exact xq_cut ((lce rfl (by first | rfl | (simp only [hq2, hq17, hq18, hq41, hq42, hq82, hq85, hq86, hq94, hq100, hq101, if_neg hp2, if_neg hp17, if_neg hp18, if_pos hp41, if_neg hp42, if_pos hp82, if_neg hp85, if_neg hp86, if_neg hp94, if_pos hp100, if_pos hp101, bS]; done) | (simp only [hq2, hq17, hq18, hq41, hq42, hq82, hq85, hq86, hq94, hq100, hq101, if_neg hp2, if_neg hp17, if_neg hp18, if_pos hp41, if_neg hp42, if_pos hp82, if_neg hp85, if_neg hp86, if_neg hp94, if_pos hp100, if_pos hp101, bS, reduceIte, Bool.false_eq_true]; done) | (simp [hp2, hp17, hp18, hp41, hp42, hp82, hp85, hp86, hp94, hp100, hp101]; done) | (simp_all; done)) (lc rfl (lc rfl ln)))) (fun _ h => h)
                                  · refine xq_then ?_
                                    refine xw_bool 263 rfl (fun hc102 => ?_) (fun hc102 => ?_)
                                    · have hq102 : ((!((number_F (m0 9)))) || (decide (m0 3 ≤ m0 9))) = true := hc102
                                      have hp102 : ((!((number_F (m0 9)))) || (decide (m0 3 ≤ m0 9))) = true := hq102
                                      rw [if_pos hp102] at h
                                      refine xw_cond_t rfl rfl (xw_seq (xw_region ?_))
                                      refine xq rfl trivial (o_as rfl) ?_
                                      refine xo_nil (xq_then (xw_ret (xq_then_ret ?_)))
                                      subst h
                                      exact con_ret1 (.inl rfl) Try.results24 rfl [] (Kp.st (Kp.new hb7 (Kp.new hb1 Kp.nil))) (⟨rfl, rfl⟩)
                                    · have hq102 : ((!((number_F (m0 9)))) || (decide (m0 3 ≤ m0 9))) = false := hc102
                                      have hp102 : ¬ (((!((number_F (m0 9)))) || (decide (m0 3 ≤ m0 9))) = true) := bne' hq102
                                      rw [if_neg hp102] at h
                                      refine xw_cond_f rfl rfl (xw_skip (xq_then (xw_seq (xw_region ?_))))
                                      refine xq rfl trivial (o_ldW rfl ts34 (List.Mem.tail _ (List.Mem.head _))) ?_
                                      refine xq rfl trivial (o_ldW rfl ts34 (List.Mem.head _)) ?_
                                      refine xq rfl trivial (o_eqlA eq34 rfl rfl) ?_
                                      refine xq rfl trivial (o_as rfl) ?_
                                      refine xo_nil (xq_then (xw_ret ?_))
                                      subst h
                                      exact con_ret1 (.inl rfl) Try.results24 rfl [] (Kp.st (Kp.new hb7 (Kp.new hb1 Kp.nil))) (⟨rfl, rfl⟩)
                                · have hq100 : (decide (m0 0 = 10)) = false := hc100
                                  have hp100 : ¬ (m0 0 = 10) := of_decide_eq_false hq100
                                  rw [if_neg hp100] at h
                                  refine xw_cond_f rfl rfl (xw_skip (xq_then (xw_seq (xw_region ?_))))
                                  refine xq rfl trivial (o_ldW rfl ts34 (List.Mem.tail _ (List.Mem.head _))) ?_
                                  refine xq rfl trivial (o_ldW rfl ts34 (List.Mem.head _)) ?_
                                  refine xq rfl trivial (o_eqlA eq34 rfl rfl) ?_
                                  refine xq rfl trivial (o_as rfl) ?_
                                  refine xo_nil (xq_then (xw_ret ?_))
                                  subst h
                                  exact con_ret1 (.inl rfl) Try.results24 rfl [] (Kp.st (Kp.new hb7 (Kp.new hb1 Kp.nil))) (⟨rfl, rfl⟩)
                    · have hq82 : (decide (m0 0 ≤ 2)) = false := hc82
                      have hp82 : ¬ (m0 0 ≤ 2) := of_decide_eq_false hq82
                      rw [if_neg hp82] at h
                      refine xw_cond_f rfl rfl (xw_skip (xq_then (xw_seq (xw_seq (xw_region ?_)))))
                      first | refine xq rfl trivial (o_fa0 fl34_0 rfl) ?_ | refine xq rfl trivial (o_fa fl34_0 rfl) ?_
                      refine xq rfl trivial (o_ldI (v := m0 0) rfl ts3 (List.Mem.tail _ (List.Mem.head _)) (by omega) rfl) ?_
                      refine xq rfl trivial (o_eql rfl rfl) ?_
                      refine xo_nil (xq_then ?_)
                      refine xw_bool 216 rfl (fun hc103 => ?_) (fun hc103 => ?_)
                      · have hq103 : (decide (m0 0 = 3)) = true := hc103
                        have hp103 : m0 0 = 3 := of_decide_eq_true hq103
                        rw [if_pos hp103] at h
                        refine xw_cond_t rfl rfl (xw_seq (xw_region ?_))
                        first | refine xq rfl trivial (o_fa0 fl34_7 rfl) ?_ | refine xq rfl trivial (o_fa fl34_7 rfl) ?_
                        refine xq rfl trivial (o_ldI (v := m0 8) rfl ts3 (List.Mem.tail _ (List.Mem.head _)) (by omega) rfl) ?_
                        first | refine xq rfl trivial (o_fa0 fl34_7 rfl) ?_ | refine xq rfl trivial (o_fa fl34_7 rfl) ?_
                        refine xq0 trivial (o_stI rfl rfl ts3 (List.Mem.head _) (by omega) (.here _ _ _ _)) ?_
                        refine xo_nil (xq_then (xw_seq ?_))
                        refine xw_cut [(1, _), (7, _)] (lc rfl (lc rfl ln)) [(227, .bool ((decide (m0 8 < 1)) || (decide (15 < m0 8))))] ?_ ?_
                        · refine xw_region ?_
                          first | refine xq rfl trivial (o_fa0 fl34_7 rfl) ?_ | refine xq rfl trivial (o_fa fl34_7 rfl) ?_
                          refine xq rfl trivial (o_ldI (v := m0 8) rfl ts3 (List.Mem.tail _ (List.Mem.head _)) (by omega) rfl) ?_
                          refine xq rfl trivial (o_lss rfl rfl) ?_
                          refine xq rfl trivial (o_mv rfl) ?_
                          refine xo_bool 223 rfl (fun hg104 => ?_) (fun hg104 => ?_)
                          · have hq104 : (decide (m0 8 < 1)) = true := hg104
                            have hp104 : m0 8 < 1 := of_decide_eq_true hq104
                            refine xs rfl ⟨_, _, rfl, rfl, rfl⟩ (xs rfl ⟨_, _, rfl, rfl, rfl⟩ (xs rfl ⟨_, _, rfl, rfl, rfl⟩ ?_))
                            refine xq rfl trivial (o_pick_t rfl rfl) ?_
                            refine xo_nil ?_
                            exact xq_cut ((lce rfl (by first | rfl | (simp only [hq2, hq17, hq18, hq41, hq42, hq82, hq103, hq104, if_neg hp2, if_neg hp17, if_neg hp18, if_pos hp41, if_neg hp42, if_neg hp82, if_pos hp103, if_pos hp104, bS]; done) | (simp only [hq2, hq17, hq18, hq41, hq42, hq82, hq103, hq104, if_neg hp2, if_neg hp17, if_neg hp18, if_pos hp41, if_neg hp42, if_neg hp82, if_pos hp103, if_pos hp104, bS, reduceIte, Bool.false_eq_true]; done) | (simp [hp2, hp17, hp18, hp41, hp42, hp82, hp103, hp104]; done) | (simp_all; done)) (lc rfl (lc rfl ln)))) (fun _ h => h)
                          · have hq104 : (decide (m0 8 < 1)) = false := hg104
                            have hp104 : ¬ (m0 8 < 1) := of_decide_eq_false hq104
                            first | refine xq rfl ⟨_, rfl, rfl⟩ (o_fa0 fl34_7 rfl) ?_ | refine xq rfl ⟨_, rfl, rfl⟩ (o_fa fl34_7 rfl) ?_
                            refine xq rfl ⟨_, rfl, rfl⟩ (o_ldI (v := m0 8) rfl ts3 (List.Mem.tail _ (List.Mem.head _)) (by omega) rfl) ?_
                            refine xq rfl ⟨_, rfl, rfl⟩ (o_gtr rfl rfl) ?_
                            refine xq rfl trivial (o_pick_f rfl rfl) ?_
                            refine xo_nil ?_
                            exact xq_cut ((lce rfl (by first | rfl | (simp only [hq2, hq17, hq18, hq41, hq42, hq82, hq103, hq104, if_neg hp2, if_neg hp17, if_neg hp18, if_pos hp41, if_neg hp42, if_neg hp82, if_pos hp103, if_neg hp104, bS]; done) | (simp only [hq2, hq17, hq18, hq41, hq42, hq82, hq103, hq104, if_neg hp2, if_neg hp17, if_neg hp18, if_pos hp41, if_neg hp42, if_neg hp82, if_pos hp103, if_neg hp104, bS, reduceIte, Bool.false_eq_true]; done) | (simp [hp2, hp17, hp18, hp41, hp42, hp82, hp103, hp104]; done) | (simp_all; done)) (lc rfl (lc rfl ln)))) (fun _ h => h)
                        · refine xq_then ?_
                          refine xw_bool 227 rfl (fun hc105 => ?_) (fun hc105 => ?_)
                          · have hq105 : ((decide (m0 8 < 1)) || (decide (15 < m0 8))) = true := hc105
                            have hp105 : ((decide (m0 8 < 1)) || (decide (15 < m0 8))) = true := hq105
                            rw [if_pos hp105] at h
                            refine xw_cond_t rfl rfl (xw_seq (xw_region ?_))
                            refine xq rfl trivial (o_as rfl) ?_
                            refine xo_nil (xq_then (xw_ret (xq_then_ret ?_)))
                            subst h
                            exact con_ret1 (.inl rfl) Try.results24 rfl [] (Kp.st (Kp.new hb7 (Kp.new hb1 Kp.nil))) (⟨rfl, rfl⟩)
                          · have hq105 : ((decide (m0 8 < 1)) || (decide (15 < m0 8))) = false := hc105
                            have hp105 : ¬ (((decide (m0 8 < 1)) || (decide (15 < m0 8))) = true) := bne' hq105
                            rw [if_neg hp105] at h
                            refine xw_cond_f rfl rfl (xw_skip (xq_then (xw_seq (xw_seq ?_))))
                            refine xw_cut [(1, _), (7, _)] (lc rfl (lc rfl ln)) [(235, .bool ((decide (m0 0 = 5)) || (decide (m0 0 = 6))))] ?_ ?_
                            · refine xw_region ?_
                              first | refine xq rfl trivial (o_fa0 fl34_0 rfl) ?_ | refine xq rfl trivial (o_fa fl34_0 rfl) ?_
                              refine xq rfl trivial (o_ldI (v := m0 0) rfl ts3 (List.Mem.tail _ (List.Mem.head _)) (by omega) rfl) ?_
                              refine xq rfl trivial (o_eql rfl rfl) ?_
                              refine xq rfl trivial (o_mv rfl) ?_
                              refine xo_val 231 rfl (v' := .bool false) (congrArg Value.bool (by simp; omega)) ?_
                              first | refine xq rfl ⟨_, rfl, rfl⟩ (o_fa0 fl34_0 rfl) ?_ | refine xq rfl ⟨_, rfl, rfl⟩ (o_fa fl34_0 rfl) ?_
                              refine xq rfl ⟨_, rfl, rfl⟩ (o_ldI (v := m0 0) rfl ts3 (List.Mem.tail _ (List.Mem.head _)) (by omega) rfl) ?_
                              refine xq rfl ⟨_, rfl, rfl⟩ (o_eql rfl rfl) ?_
                              refine xq rfl trivial (o_pick_f rfl rfl) ?_
                              refine xo_nil ?_
                              exact xq_cut ((lce rfl (by first | rfl | (simp only [hq2, hq17, hq18, hq41, hq42, hq82, hq103, hq105, if_neg hp2, if_neg hp17, if_neg hp18, if_pos hp41, if_neg hp42, if_neg hp82, if_pos hp103, if_neg hp105, bS]; done) | (simp only [hq2, hq17, hq18, hq41, hq42, hq82, hq103, hq105, if_neg hp2, if_neg hp17, if_neg hp18, if_pos hp41, if_neg hp42, if_neg hp82, if_pos hp103, if_neg hp105, bS, reduceIte, Bool.false_eq_true]; done) | (simp [hp2, hp17, hp18, hp41, hp42, hp82, hp103, hp105]; done) | (simp_all; done)) (lc rfl (lc rfl ln)))) (fun _ h => h)
                            · refine xq_then ?_
                              refine xw_bool 235 rfl (fun hc107 => ?_) (fun hc107 => ?_)
                              · have hq107 : ((decide (m0 0 = 5)) || (decide (m0 0 = 6))) = true := hc107
                                have hp107 : ((decide (m0 0 = 5)) || (decide (m0 0 = 6))) = true := hq107
                                rw [if_pos hp107] at h
                                refine xw_cond_t rfl rfl (xw_seq (xw_region ?_))
                                first | refine xq rfl trivial (o_fa0 fl34_7 rfl) ?_ | refine xq rfl trivial (o_fa fl34_7 rfl) ?_
                                refine xq rfl trivial (o_ldI (v := m0 8) rfl ts3 (List.Mem.tail _ (List.Mem.head _)) (by omega) rfl) ?_
                                first | refine xq rfl trivial (o_fa0 fl34_7 rfl) ?_ | refine xq rfl trivial (o_fa fl34_7 rfl) ?_
                                refine xq0 trivial (o_stI rfl rfl ts3 (List.Mem.head _) (by omega) (.here _ _ _ _)) ?_
                                refine xo_nil (xq_then (xw_seq ?_))
                                refine xw_cut [(1, _), (7, _)] (lc rfl (lc rfl ln)) [(246, .bool ((!(decide (m0 8 = 0))) && (!(decide (m0 8 = 1)))))] ?_ ?_
                                · refine xw_region ?_
                                  first | refine xq rfl trivial (o_fa0 fl34_7 rfl) ?_ | refine xq rfl trivial (o_fa fl34_7 rfl) ?_
                                  refine xq rfl trivial (o_ldI (v := m0 8) rfl ts3 (List.Mem.tail _ (List.Mem.head _)) (by omega) rfl) ?_
                                  refine xq rfl trivial (o_neq rfl rfl) ?_
                                  refine xq rfl trivial (o_mv rfl) ?_
                                  refine xo_bool 242 rfl (fun hg108 => ?_) (fun hg108 => ?_)
                                  · have hq108 : (decide (m0 8 = 0)) = false := (bnT hg108)
                                    have hp108 : ¬ (m0 8 = 0) := of_decide_eq_false hq108
                                    first | refine xq rfl ⟨_, rfl, rfl⟩ (o_fa0 fl34_7 rfl) ?_ | refine xq rfl ⟨_, rfl, rfl⟩ (o_fa fl34_7 rfl) ?_
                                    refine xq rfl ⟨_, rfl, rfl⟩ (o_ldI (v := m0 8) rfl ts3 (List.Mem.tail _ (List.Mem.head _)) (by omega) rfl) ?_
                                    refine xq rfl ⟨_, rfl, rfl⟩ (o_neq rfl rfl) ?_
                                    refine xq rfl trivial (o_pick_t rfl rfl) ?_
                                    refine xo_nil ?_
                                    exact xq_cut ((lce rfl (by first | rfl | (simp only [hq2, hq17, hq18, hq41, hq42, hq82, hq103, hq105, hq107, hq108, if_neg hp2, if_neg hp17, if_neg hp18, if_pos hp41, if_neg hp42, if_neg hp82, if_pos hp103, if_neg hp105, if_pos hp107, if_neg hp108, bS]; done) | (simp only [hq2, hq17, hq18, hq41, hq42, hq82, hq103, hq105, hq107, hq108, if_neg hp2, if_neg hp17, if_neg hp18, if_pos hp41, if_neg hp42, if_neg hp82, if_pos hp103, if_neg hp105, if_pos hp107, if_neg hp108, bS, reduceIte, Bool.false_eq_true]; done) | (simp [hp2, hp17, hp18, hp41, hp42, hp82, hp103, hp105, hp107, hp108]; done) | (simp_all; done)) (lc rfl (lc rfl ln)))) (fun _ h => h)
                                  · have hq108 : (decide (m0 8 = 0)) = true := (bnF hg108)
                                    have hp108 : m0 8 = 0 := of_decide_eq_true hq108
                                    refine xs rfl ⟨_, _, rfl, rfl, rfl⟩ (xs rfl ⟨_, _, rfl, rfl, rfl⟩ (xs rfl ⟨_, _, rfl, rfl, rfl⟩ ?_))
                                    refine xq rfl trivial (o_pick_f rfl rfl) ?_
                                    refine xo_nil ?_
                                    exact xq_cut ((lce rfl (by first | rfl | (simp only [hq2, hq17, hq18, hq41, hq42, hq82, hq103, hq105, hq107, hq108, if_neg hp2, if_neg hp17, if_neg hp18, if_pos hp41, if_neg hp42, if_neg hp82, if_pos hp103, if_neg hp105, if_pos hp107, if_pos hp108, bS]; done) | (simp only [hq2, hq17, hq18, hq41, hq42, hq82, hq103, hq105, hq107, hq108, if_neg hp2, if_neg hp17, if_neg hp18, if_pos hp41, if_neg hp42, if_neg hp82, if_pos hp103, if_neg hp105, if_pos hp107, if_pos hp108, bS, reduceIte, Bool.false_eq_true]; done) | (simp [hp2, hp17, hp18, hp41, hp42, hp82, hp103, hp105, hp107, hp108]; done) | (simp_all; done)) (lc rfl (lc rfl ln)))) (fun _ h => h)
                                · refine xq_then ?_
                                  refine xw_bool 246 rfl (fun hc109 => ?_) (fun hc109 => ?_)
                                  · have hq109 : ((!(decide (m0 8 = 0))) && (!(decide (m0 8 = 1)))) = true := hc109
                                    have hp109 : ((!(decide (m0 8 = 0))) && (!(decide (m0 8 = 1)))) = true := hq109
                                    rw [if_pos hp109] at h
                                    refine xw_cond_t rfl rfl (xw_seq (xw_region ?_))
                                    refine xq rfl trivial (o_as rfl) ?_
                                    refine xo_nil (xq_then (xw_ret (xq_then_ret ?_)))
                                    subst h
                                    exact con_ret1 (.inl rfl) Try.results24 rfl [] (Kp.st (Kp.new hb7 (Kp.new hb1 Kp.nil))) (⟨rfl, rfl⟩)
                                  · have hq109 : ((!(decide (m0 8 = 0))) && (!(decide (m0 8 = 1)))) = false := hc109
                                    have hp109 : ¬ (((!(decide (m0 8 = 0))) && (!(decide (m0 8 = 1)))) = true) := bne' hq109
                                    rw [if_neg hp109] at h
                                    refine xw_cond_f rfl rfl (xw_skip (xq_then (xw_seq (xw_seq (xw_region ?_)))))
                                    first | refine xq rfl trivial (o_fa0 fl34_0 rfl) ?_ | refine xq rfl trivial (o_fa fl34_0 rfl) ?_
                                    refine xq rfl trivial (o_ldI (v := m0 0) rfl ts3 (List.Mem.tail _ (List.Mem.head _)) (by omega) rfl) ?_
                                    refine xq rfl trivial (o_eql rfl rfl) ?_
                                    refine xo_nil (xq_then ?_)
                                    refine xw_cond_f rfl (by simp; omega) ?_
                                    refine xw_skip (xq_then (xw_seq (xw_region ?_)))
                                    refine xq rfl trivial (o_ldW rfl ts34 (List.Mem.tail _ (List.Mem.head _))) ?_
                                    refine xq rfl trivial (o_ldW rfl ts34 (List.Mem.head _)) ?_
                                    refine xq rfl trivial (o_eqlA eq34 rfl rfl) ?_
                                    refine xq rfl trivial (o_as rfl) ?_
                                    refine xo_nil (xq_then (xw_ret ?_))
                                    subst h
                                    exact con_ret1 (.inl rfl) Try.results24 rfl [] (Kp.st (Kp.new hb7 (Kp.new hb1 Kp.nil))) (⟨rfl, rfl⟩)
                              · have hq107 : ((decide (m0 0 = 5)) || (decide (m0 0 = 6))) = false := hc107
                                have hp107 : ¬ (((decide (m0 0 = 5)) || (decide (m0 0 = 6))) = true) := bne' hq107
                                rw [if_neg hp107] at h
                                refine xw_cond_f rfl rfl (xw_skip (xq_then (xw_seq (xw_seq (xw_region ?_)))))
                                first | refine xq rfl trivial (o_fa0 fl34_0 rfl) ?_ | refine xq rfl trivial (o_fa fl34_0 rfl) ?_
                                refine xq rfl trivial (o_ldI (v := m0 0) rfl ts3 (List.Mem.tail _ (List.Mem.head _)) (by omega) rfl) ?_
                                refine xq rfl trivial (o_eql rfl rfl) ?_
                                refine xo_nil (xq_then ?_)
                                refine xw_cond_f rfl (by simp; omega) ?_
                                refine xw_skip (xq_then (xw_seq (xw_region ?_)))
                                refine xq rfl trivial (o_ldW rfl ts34 (List.Mem.tail _ (List.Mem.head _))) ?_
                                refine xq rfl trivial (o_ldW rfl ts34 (List.Mem.head _)) ?_
                                refine xq rfl trivial (o_eqlA eq34 rfl rfl) ?_
                                refine xq rfl trivial (o_as rfl) ?_
                                refine xo_nil (xq_then (xw_ret ?_))
                                subst h
                                exact con_ret1 (.inl rfl) Try.results24 rfl [] (Kp.st (Kp.new hb7 (Kp.new hb1 Kp.nil))) (⟨rfl, rfl⟩)
                      · have hq103 : (decide (m0 0 = 3)) = false := hc103
                        have hp103 : ¬ (m0 0 = 3) := of_decide_eq_false hq103
                        rw [if_neg hp103] at h
                        refine xw_cond_f rfl rfl (xw_skip (xq_then (xw_seq (xw_seq ?_))))
                        refine xw_cut [(1, _), (7, _)] (lc rfl (lc rfl ln)) [(235, .bool ((decide (m0 0 = 5)) || (decide (m0 0 = 6))))] ?_ ?_
                        · refine xw_region ?_
                          first | refine xq rfl trivial (o_fa0 fl34_0 rfl) ?_ | refine xq rfl trivial (o_fa fl34_0 rfl) ?_
                          refine xq rfl trivial (o_ldI (v := m0 0) rfl ts3 (List.Mem.tail _ (List.Mem.head _)) (by omega) rfl) ?_
                          refine xq rfl trivial (o_eql rfl rfl) ?_
                          refine xq rfl trivial (o_mv rfl) ?_
                          refine xo_bool 231 rfl (fun hg110 => ?_) (fun hg110 => ?_)
                          · have hq110 : (decide (m0 0 = 5)) = true := hg110
                            have hp110 : m0 0 = 5 := of_decide_eq_true hq110
                            refine xs rfl ⟨_, _, rfl, rfl, rfl⟩ (xs rfl ⟨_, _, rfl, rfl, rfl⟩ (xs rfl ⟨_, _, rfl, rfl, rfl⟩ ?_))
                            refine xq rfl trivial (o_pick_t rfl rfl) ?_
                            refine xo_nil ?_
                            exact xq_cut ((lce rfl (by first | rfl | (simp only [hq2, hq17, hq18, hq41, hq42, hq82, hq103, hq110, if_neg hp2, if_neg hp17, if_neg hp18, if_pos hp41, if_neg hp42, if_neg hp82, if_neg hp103, if_pos hp110, bS]; done) | (simp only [hq2, hq17, hq18, hq41, hq42, hq82, hq103, hq110, if_neg hp2, if_neg hp17, if_neg hp18, if_pos hp41, if_neg hp42, if_neg hp82, if_neg hp103, if_pos hp110, bS, reduceIte, Bool.false_eq_true]; done) | (simp [hp2, hp17, hp18, hp41, hp42, hp82, hp103, hp110]; done) | (simp_all; done)) (lc rfl (lc rfl ln)))) (fun _ h => h)
                          · have hq110 : (decide (m0 0 = 5)) = false := hg110
                            have hp110 : ¬ (m0 0 = 5) := of_decide_eq_false hq110
                            first | refine xq rfl ⟨_, rfl, rfl⟩ (o_fa0 fl34_0 rfl) ?_ | refine xq rfl ⟨_, rfl, rfl⟩ (o_fa fl34_0 rfl) ?_
                            refine xq rfl ⟨_, rfl, rfl⟩ (o_ldI (v := m0 0) rfl ts3 (List.Mem.tail _ (List.Mem.head _)) (by omega) rfl) ?_
                            refine xq rfl ⟨_, rfl, rfl⟩ (o_eql rfl rfl) ?_
                            refine xq rfl trivial (o_pick_f rfl rfl) ?_
                            refine xo_nil ?_
                            exact xq_cut ((lce rfl (by first | rfl | (simp only [hq2, hq17, hq18, hq41, hq42, hq82, hq103, hq110, if_neg hp2, if_neg hp17, if_neg hp18, if_pos hp41, if_neg hp42, if_neg hp82, if_neg hp103, if_neg hp110, bS]; done) | (simp only [hq2, hq17, hq18, hq41, hq42, hq82, hq103, hq110, if_neg hp2, if_neg hp17, if_neg hp18, if_pos hp41, if_neg hp42, if_neg hp82, if_neg hp103, if_neg hp110, bS, reduceIte, Bool.false_eq_true]; done) | (simp [hp2, hp17, hp18, hp41, hp42, hp82, hp103, hp110]; done) | (simp_all; done)) (lc rfl (lc rfl ln)))) (fun _ h => h)
                        · refine xq_then ?_
                          refine xw_bool 235 rfl (fun hc111 => ?_) (fun hc111 => ?_)
                          · have hq111 : ((decide (m0 0 = 5)) || (decide (m0 0 = 6))) = true := hc111
                            have hp111 : ((decide (m0 0 = 5)) || (decide (m0 0 = 6))) = true := hq111
                            rw [if_pos hp111] at h
                            refine xw_cond_t rfl rfl (xw_seq (xw_region ?_))
                            first | refine xq rfl trivial (o_fa0 fl34_7 rfl) ?_ | refine xq rfl trivial (o_fa fl34_7 rfl) ?_
                            refine xq rfl trivial (o_ldI (v := m0 8) rfl ts3 (List.Mem.tail _ (List.Mem.head _)) (by omega) rfl) ?_
                            first | refine xq rfl trivial (o_fa0 fl34_7 rfl) ?_ | refine xq rfl trivial (o_fa fl34_7 rfl) ?_
                            refine xq0 trivial (o_stI rfl rfl ts3 (List.Mem.head _) (by omega) (.here _ _ _ _)) ?_
                            refine xo_nil (xq_then (xw_seq ?_))
                            refine xw_cut [(1, _), (7, _)] (lc rfl (lc rfl ln)) [(246, .bool ((!(decide (m0 8 = 0))) && (!(decide (m0 8 = 1)))))] ?_ ?_
                            · refine xw_region ?_
                              first | refine xq rfl trivial (o_fa0 fl34_7 rfl) ?_ | refine xq rfl trivial (o_fa fl34_7 rfl) ?_
                              refine xq rfl trivial (o_ldI (v := m0 8) rfl ts3 (List.Mem.tail _ (List.Mem.head _)) (by omega) rfl) ?_
                              refine xq rfl trivial (o_neq rfl rfl) ?_
                              refine xq rfl trivial (o_mv rfl) ?_
                              refine xo_bool 242 rfl (fun hg112 => ?_) (fun hg112 => ?_)
                              · have hq112 : (decide (m0 8 = 0)) = false := (bnT hg112)
                                have hp112 : ¬ (m0 8 = 0) := of_decide_eq_false hq112
                                first | refine xq rfl ⟨_, rfl, rfl⟩ (o_fa0 fl34_7 rfl) ?_ | refine xq rfl ⟨_, rfl, rfl⟩ (o_fa fl34_7 rfl) ?_
                                refine xq rfl ⟨_, rfl, rfl⟩ (o_ldI (v := m0 8) rfl ts3 (List.Mem.tail _ (List.Mem.head _)) (by omega) rfl) ?_
                                refine xq rfl ⟨_, rfl, rfl⟩ (o_neq rfl rfl) ?_
                                refine xq rfl trivial (o_pick_t rfl rfl) ?_
                                refine xo_nil ?_
                                exact xq_cut ((lce rfl (by first | rfl | (simp only [hq2, hq17, hq18, hq41, hq42, hq82, hq103, hq111, hq112, if_neg hp2, if_neg hp17, if_neg hp18, if_pos hp41, if_neg hp42, if_neg hp82, if_neg hp103, if_pos hp111, if_neg hp112, bS]; done) | (simp only [hq2, hq17, hq18, hq41, hq42, hq82, hq103, hq111, hq112, if_neg hp2, if_neg hp17, if_neg hp18, if_pos hp41, if_neg hp42, if_neg hp82, if_neg hp103, if_pos hp111, if_neg hp112, bS, reduceIte, Bool.false_eq_true]; done) | (simp [hp2, hp17, hp18, hp41, hp42, hp82, hp103, hp111, hp112]; done) | (simp_all; done)) (lc rfl (lc rfl ln)))) (fun _ h => h)
                              · have hq112 : (decide (m0 8 = 0)) = true := (bnF hg112)
                                have hp112 : m0 8 = 0 := of_decide_eq_true hq112
                                refine xs rfl ⟨_, _, rfl, rfl, rfl⟩ (xs rfl ⟨_, _, rfl, rfl, rfl⟩ (xs rfl ⟨_, _, rfl, rfl, rfl⟩ ?_))
                                refine xq rfl trivial (o_pick_f rfl rfl) ?_
                                refine xo_nil ?_
                                exact xq_cut ((lce rfl (by first | rfl | (simp only [hq2, hq17, hq18, hq41, hq42, hq82, hq103, hq111, hq112, if_neg hp2, if_neg hp17, if_neg hp18, if_pos hp41, if_neg hp42, if_neg hp82, if_neg hp103, if_pos hp111, if_pos hp112, bS]; done) | (simp only [hq2, hq17, hq18, hq41, hq42, hq82, hq103, hq111, hq112, if_neg hp2, if_neg hp17, if_neg hp18, if_pos hp41, if_neg hp42, if_neg hp82, if_neg hp103, if_pos hp111, if_pos hp112, bS, reduceIte, Bool.false_eq_true]; done) | (simp [hp2, hp17, hp18, hp41, hp42, hp82, hp103, hp111, hp112]; done) | (simp_all; done)) (lc rfl (lc rfl ln)))) (fun _ h => h)
                            · refine xq_then ?_
                              refine xw_bool 246 rfl (fun hc113 => ?_) (fun hc113 => ?_)
                              · have hq113 : ((!(decide (m0 8 = 0))) && (!(decide (m0 8 = 1)))) = true := hc113
                                have hp113 : ((!(decide (m0 8 = 0))) && (!(decide (m0 8 = 1)))) = true := hq113
                                rw [if_pos hp113] at h
                                refine xw_cond_t rfl rfl (xw_seq (xw_region ?_))
                                refine xq rfl trivial (o_as rfl) ?_
                                refine xo_nil (xq_then (xw_ret (xq_then_ret ?_)))
                                subst h
                                exact con_ret1 (.inl rfl) Try.results24 rfl [] (Kp.st (Kp.new hb7 (Kp.new hb1 Kp.nil))) (⟨rfl, rfl⟩)
                              · have hq113 : ((!(decide (m0 8 = 0))) && (!(decide (m0 8 = 1)))) = false := hc113
                                have hp113 : ¬ (((!(decide (m0 8 = 0))) && (!(decide (m0 8 = 1)))) = true) := bne' hq113
                                rw [if_neg hp113] at h
                                refine xw_cond_f rfl rfl (xw_skip (xq_then (xw_seq (xw_seq (xw_region ?_)))))
                                first | refine xq rfl trivial (o_fa0 fl34_0 rfl) ?_ | refine xq rfl trivial (o_fa fl34_0 rfl) ?_
                                refine xq rfl trivial (o_ldI (v := m0 0) rfl ts3 (List.Mem.tail _ (List.Mem.head _)) (by omega) rfl) ?_
                                refine xq rfl trivial (o_eql rfl rfl) ?_
                                refine xo_nil (xq_then ?_)
                                refine xw_bool 249 rfl (fun hc114 => ?_) (fun hc114 => ?_)
                                · have hq114 : (decide (m0 0 = 10)) = true := hc114
                                  have hp114 : m0 0 = 10 := of_decide_eq_true hq114
                                  rw [if_pos hp114] at h
                                  refine xw_cond_t rfl rfl (xw_seq (xw_region ?_))
                                  first | refine xq rfl trivial (o_fa0 fl34_8 rfl) ?_ | refine xq rfl trivial (o_fa fl34_8 rfl) ?_
                                  refine xq rfl trivial (o_ldI (v := m0 9) rfl ts3 (List.Mem.tail _ (List.Mem.head _)) (by omega) rfl) ?_
                                  first | refine xq rfl trivial (o_fa0 fl34_8 rfl) ?_ | refine xq rfl trivial (o_fa fl34_8 rfl) ?_
                                  refine xq0 trivial (o_stI rfl rfl ts3 (List.Mem.head _) (by omega) (.here _ _ _ _)) ?_
                                  refine xo_nil (xq_then (xw_seq ?_))
                                  refine xw_cut [(1, _), (7, _)] (lc rfl (lc rfl ln)) [(263, .bool ((!((number_F (m0 9)))) || (decide (m0 3 ≤ m0 9))))] ?_ ?_
                                  · refine xw_region ?_
                                    first | refine xq rfl trivial (o_fa0 fl34_8 rfl) ?_ | refine xq rfl trivial (o_fa fl34_8 rfl) ?_
                                    refine xq rfl trivial (o_ldI (v := m0 9) rfl ts3 (List.Mem.tail _ (List.Mem.head _)) (by omega) rfl) ?_
                                    refine xcallq rfl trivial kf30 rfl (fun w1 hw1 => number_c _ w1) ?_
                                    refine xq rfl trivial (o_not rfl) ?_
                                    refine xq rfl trivial (o_mv rfl) ?_
                                    refine xo_bool 257 rfl (fun hg115 => ?_) (fun hg115 => ?_)
                                    · have hq115 : ((number_F (m0 9))) = false := (bnT hg115)
                                      have hp115 : ¬ (((number_F (m0 9))) = true) := bne' hq115
                                      refine xs rfl ⟨_, _, rfl, rfl, rfl⟩ (xs rfl ⟨_, _, rfl, rfl, rfl⟩ (xs rfl ⟨_, _, rfl, rfl, rfl⟩ (xs rfl ⟨_, _, rfl, rfl, rfl⟩ (xs rfl ⟨_, _, rfl, rfl, rfl⟩ ?_))))
                                      refine xq rfl trivial (o_pick_t rfl rfl) ?_
                                      refine xo_nil ?_
                                      exact xq_cut ((lce rfl (by first | rfl | (simp only [hq2, hq17, hq18, hq41, hq42, hq82, hq103, hq111, hq113, hq114, hq115, if_neg hp2, if_neg hp17, if_neg hp18, if_pos hp41, if_neg hp42, if_neg hp82, if_neg hp103, if_pos hp111, if_neg hp113, if_pos hp114, if_neg hp115, bS]; done) | (simp only [hq2, hq17, hq18, hq41, hq42, hq82, hq103, hq111, hq113, hq114, hq115, if_neg hp2, if_neg hp17, if_neg hp18, if_pos hp41, if_neg hp42, if_neg hp82, if_neg hp103, if_pos hp111, if_neg hp113, if_pos hp114, if_neg hp115, bS, reduceIte, Bool.false_eq_true]; done) | (simp [hp2, hp17, hp18, hp41, hp42, hp82, hp103, hp111, hp113, hp114, hp115]; done) | (simp_all; done)) (lc rfl (lc rfl ln)))) (fun _ h => h)
                                    · have hq115 : ((number_F (m0 9))) = true := (bnF hg115)
                                      have hp115 : ((number_F (m0 9))) = true := hq115
                                      first | refine xq rfl ⟨_, rfl, rfl⟩ (o_fa0 fl34_8 rfl) ?_ | refine xq rfl ⟨_, rfl, rfl⟩ (o_fa fl34_8 rfl) ?_
                                      refine xq rfl ⟨_, rfl, rfl⟩ (o_ldI (v := m0 9) rfl ts3 (List.Mem.tail _ (List.Mem.head _)) (by omega) rfl) ?_
                                      first | refine xq rfl ⟨_, rfl, rfl⟩ (o_fa0 fl34_3 rfl) ?_ | refine xq rfl ⟨_, rfl, rfl⟩ (o_fa fl34_3 rfl) ?_
                                      refine xq rfl ⟨_, rfl, rfl⟩ (o_ldI (v := m0 3) rfl ts3 (List.Mem.tail _ (List.Mem.head _)) (by omega) rfl) ?_
                                      refine xq rfl ⟨_, rfl, rfl⟩ (o_geq rfl rfl) ?_
                                      refine xq rfl trivial (o_pick_f rfl rfl) ?_
                                      refine xo_nil ?_
                                      exact xq_cut ((lce rfl (by first | rfl | (simp only [hq2, hq17, hq18, hq41, hq42, hq82, hq103, hq111, hq113, hq114, hq115, if_neg hp2, if_neg hp17, if_neg hp18, if_pos hp41, if_neg hp42, if_neg hp82, if_neg hp103, if_pos hp111, if_neg hp113, if_pos hp114, if_pos hp115, bS]; done) | (simp only [hq2, hq17, hq18, hq41, hq42, hq82, hq103, hq111, hq113, hq114, hq115, if_neg hp2, if_neg hp17, if_neg hp18, if_pos hp41, if_neg hp42, if_neg hp82, if_neg hp103, if_pos hp111, if_neg hp113, if_pos hp114, if_pos hp115, bS, reduceIte, Bool.false_eq_true]; done) | (simp [hp2, hp17, hp18, hp41, hp42, hp82, hp103, hp111, hp113, hp114, hp115]; done) | (simp_all; done)) (lc rfl (lc rfl ln)))) (fun _ h => h)
                                  · refine xq_then ?_
                                    refine xw_bool 263 rfl (fun hc116 => ?_) (fun hc116 => ?_)
                                    · have hq116 : ((!((number_F (m0 9)))) || (decide (m0 3 ≤ m0 9))) = true := hc116
                                      have hp116 : ((!((number_F (m0 9)))) || (decide (m0 3 ≤ m0 9))) = true := hq116
                                      rw [if_pos hp116] at h
                                      refine xw_cond_t rfl rfl (xw_seq (xw_region ?_))
                                      refine xq rfl trivial (o_as rfl) ?_
                                      refine xo_nil (xq_then (xw_ret (xq_then_ret ?_)))
                                      subst h
                                      exact con_ret1 (.inl rfl) Try.results24 rfl [] (Kp.st (Kp.new hb7 (Kp.new hb1 Kp.nil))) (⟨rfl, rfl⟩)
                                    · have hq116 : ((!((number_F (m0 9)))) || (decide (m0 3 ≤ m0 9))) = false := hc116
                                      have hp116 : ¬ (((!((number_F (m0 9)))) || (decide (m0 3 ≤ m0 9))) = true) := bne' hq116
                                      rw [if_neg hp116] at h
                                      refine xw_cond_f rfl rfl (xw_skip (xq_then (xw_seq (xw_region ?_))))
                                      refine xq rfl trivial (o_ldW rfl ts34 (List.Mem.tail _ (List.Mem.head _))) ?_
                                      refine xq rfl trivial (o_ldW rfl ts34 (List.Mem.head _)) ?_
                                      refine xq rfl trivial (o_eqlA eq34 rfl rfl) ?_
                                      refine xq rfl trivial (o_as rfl) ?_
                                      refine xo_nil (xq_then (xw_ret ?_))
                                      subst h
                                      exact con_ret1 (.inl rfl) Try.results24 rfl [] (Kp.st (Kp.new hb7 (Kp.new hb1 Kp.nil))) (⟨rfl, rfl⟩)
                                · have hq114 : (decide (m0 0 = 10)) = false := hc114
                                  have hp114 : ¬ (m0 0 = 10) := of_decide_eq_false hq114
                                  rw [if_neg hp114] at h
                                  refine xw_cond_f rfl rfl (xw_skip (xq_then (xw_seq (xw_region ?_))))
                                  refine xq rfl trivial (o_ldW rfl ts34 (List.Mem.tail _ (List.Mem.head _))) ?_
                                  refine xq rfl trivial (o_ldW rfl ts34 (List.Mem.head _)) ?_
                                  refine xq rfl trivial (o_eqlA eq34 rfl rfl) ?_
                                  refine xq rfl trivial (o_as rfl) ?_
                                  refine xo_nil (xq_then (xw_ret ?_))
                                  subst h
                                  exact con_ret1 (.inl rfl) Try.results24 rfl [] (Kp.st (Kp.new hb7 (Kp.new hb1 Kp.nil))) (⟨rfl, rfl⟩)
                          · have hq111 : ((decide (m0 0 = 5)) || (decide (m0 0 = 6))) = false := hc111
                            have hp111 : ¬ (((decide (m0 0 = 5)) || (decide (m0 0 = 6))) = true) := bne' hq111
                            rw [if_neg hp111] at h
                            refine xw_cond_f rfl rfl (xw_skip (xq_then (xw_seq (xw_seq (xw_region ?_)))))
                            first | refine xq rfl trivial (o_fa0 fl34_0 rfl) ?_ | refine xq rfl trivial (o_fa fl34_0 rfl) ?_
                            refine xq rfl trivial (o_ldI (v := m0 0) rfl ts3 (List.Mem.tail _ (List.Mem.head _)) (by omega) rfl) ?_
                            refine xq rfl trivial (o_eql rfl rfl) ?_
                            refine xo_nil (xq_then ?_)
                            refine xw_bool 249 rfl (fun hc117 => ?_) (fun hc117 => ?_)
                            · have hq117 : (decide (m0 0 = 10)) = true := hc117
                              have hp117 : m0 0 = 10 := of_decide_eq_true hq117
                              rw [if_pos hp117] at h
                              refine xw_cond_t rfl rfl (xw_seq (xw_region ?_))
                              first | refine xq rfl trivial (o_fa0 fl34_8 rfl) ?_ | refine xq rfl trivial (o_fa fl34_8 rfl) ?_
                              refine xq rfl trivial (o_ldI (v := m0 9) rfl ts3 (List.Mem.tail _ (List.Mem.head _)) (by omega) rfl) ?_
                              first | refine xq rfl trivial (o_fa0 fl34_8 rfl) ?_ | refine xq rfl trivial (o_fa fl34_8 rfl) ?_
                              refine xq0 trivial (o_stI rfl rfl ts3 (List.Mem.head _) (by omega) (.here _ _ _ _)) ?_
                              refine xo_nil (xq_then (xw_seq ?_))
                              refine xw_cut [(1, _), (7, _)] (lc rfl (lc rfl ln)) [(263, .bool ((!((number_F (m0 9)))) || (decide (m0 3 ≤ m0 9))))] ?_ ?_
                              · refine xw_region ?_
                                first | refine xq rfl trivial (o_fa0 fl34_8 rfl) ?_ | refine xq rfl trivial (o_fa fl34_8 rfl) ?_
                                refine xq rfl trivial (o_ldI (v := m0 9) rfl ts3 (List.Mem.tail _ (List.Mem.head _)) (by omega) rfl) ?_
                                refine xcallq rfl trivial kf30 rfl (fun w1 hw1 => number_c _ w1) ?_
                                refine xq rfl trivial (o_not rfl) ?_
                                refine xq rfl trivial (o_mv rfl) ?_
                                refine xo_bool 257 rfl (fun hg118 => ?_) (fun hg118 => ?_)
                                · have hq118 : ((number_F (m0 9))) = false := (bnT hg118)
                                  have hp118 : ¬ (((number_F (m0 9))) = true) := bne' hq118
                                  refine xs rfl ⟨_, _, rfl, rfl, rfl⟩ (xs rfl ⟨_, _, rfl, rfl, rfl⟩ (xs rfl ⟨_, _, rfl, rfl, rfl⟩ (xs rfl ⟨_, _, rfl, rfl, rfl⟩ (xs rfl ⟨_, _, rfl, rfl, rfl⟩ ?_))))
                                  refine xq rfl trivial (o_pick_t rfl rfl) ?_
                                  refine xo_nil ?_
                                  exact xq_cut ((lce rfl (by first | rfl | (simp only [hq2, hq17, hq18, hq41, hq42, hq82, hq103, hq111, hq117, hq118, if_neg hp2, if_neg hp17, if_neg hp18, if_pos hp41, if_neg hp42, if_neg hp82, if_neg hp103, if_neg hp111, if_pos hp117, if_neg hp118, bS]; done) | (simp only [hq2, hq17, hq18, hq41, hq42, hq82, hq103, hq111, hq117, hq118, if_neg hp2, if_neg hp17, if_neg hp18, if_pos hp41, if_neg hp42, if_neg hp82, if_neg hp103, if_neg hp111, if_pos hp117, if_neg hp118, bS, reduceIte, Bool.false_eq_true]; done) | (simp [hp2, hp17, hp18, hp41, hp42, hp82, hp103, hp111, hp117, hp118]; done) | (simp_all; done)) (lc rfl (lc rfl ln)))) (fun _ h => h)
                                · have hq118 : ((number_F (m0 9))) = true := (bnF hg118)
                                  have hp118 : ((number_F (m0 9))) = true := hq118
                                  first | refine xq rfl ⟨_, rfl, rfl⟩ (o_fa0 fl34_8 rfl) ?_ | refine xq rfl ⟨_, rfl, rfl⟩ (o_fa fl34_8 rfl) ?_
                                  refine xq rfl ⟨_, rfl, rfl⟩ (o_ldI (v := m0 9) rfl ts3 (List.Mem.tail _ (List.Mem.head _)) (by omega) rfl) ?_
                                  first | refine xq rfl ⟨_, rfl, rfl⟩ (o_fa0 fl34_3 rfl) ?_ | refine xq rfl ⟨_, rfl, rfl⟩ (o_fa fl34_3 rfl) ?_
                                  refine xq rfl ⟨_, rfl, rfl⟩ (o_ldI (v := m0 3) rfl ts3 (List.Mem.tail _ (List.Mem.head _)) (by omega) rfl) ?_
                                  refine xq rfl ⟨_, rfl, rfl⟩ (o_geq rfl rfl) ?_
                                  refine xq rfl trivial (o_pick_f rfl rfl) ?_
                                  refine xo_nil ?_
                                  exact xq_cut ((lce rfl (by first | rfl | (simp only [hq2, hq17, hq18, hq41, hq42, hq82, hq103, hq111, hq117, hq118, if_neg hp2, if_neg hp17, if_neg hp18, if_pos hp41, if_neg hp42, if_neg hp82, if_neg hp103, if_neg hp111, if_pos hp117, if_pos hp118, bS]; done) | (simp only [hq2, hq17, hq18, hq41, hq42, hq82, hq103, hq111, hq117, hq118, if_neg hp2, if_neg hp17, if_neg hp18, if_pos hp41, if_neg hp42, if_neg hp82, if_neg hp103, if_neg hp111, if_pos hp117, if_pos hp118, bS, reduceIte, Bool.false_eq_true]; done) | (simp [hp2, hp17, hp18, hp41, hp42, hp82, hp103, hp111, hp117, hp118]; done) | (simp_all; done)) (lc rfl (lc rfl ln)))) (fun _ h => h)
                              · refine xq_then ?_
                                refine xw_bool 263 rfl (fun hc119 => ?_) (fun hc119 => ?_)
                                · have hq119 : ((!((number_F (m0 9)))) || (decide (m0 3 ≤ m0 9))) = true := hc119
                                  have hp119 : ((!((number_F (m0 9)))) || (decide (m0 3 ≤ m0 9))) = true := hq119
                                  rw [if_pos hp119] at h
                                  refine xw_cond_t rfl rfl (xw_seq (xw_region ?_))
                                  refine xq rfl trivial (o_as rfl) ?_
                                  refine xo_nil (xq_then (xw_ret (xq_then_ret ?_)))
                                  subst h
                                  exact con_ret1 (.inl rfl) Try.results24 rfl [] (Kp.st (Kp.new hb7 (Kp.new hb1 Kp.nil))) (⟨rfl, rfl⟩)
                                · have hq119 : ((!((number_F (m0 9)))) || (decide (m0 3 ≤ m0 9))) = false := hc119
                                  have hp119 : ¬ (((!((number_F (m0 9)))) || (decide (m0 3 ≤ m0 9))) = true) := bne' hq119
                                  rw [if_neg hp119] at h
                                  refine xw_cond_f rfl rfl (xw_skip (xq_then (xw_seq (xw_region ?_))))
                                  refine xq rfl trivial (o_ldW rfl ts34 (List.Mem.tail _ (List.Mem.head _))) ?_
                                  refine xq rfl trivial (o_ldW rfl ts34 (List.Mem.head _)) ?_
                                  refine xq rfl trivial (o_eqlA eq34 rfl rfl) ?_
                                  refine xq rfl trivial (o_as rfl) ?_
                                  refine xo_nil (xq_then (xw_ret ?_))
                                  subst h
                                  exact con_ret1 (.inl rfl) Try.results24 rfl [] (Kp.st (Kp.new hb7 (Kp.new hb1 Kp.nil))) (⟨rfl, rfl⟩)
                            · have hq117 : (decide (m0 0 = 10)) = false := hc117
                              have hp117 : ¬ (m0 0 = 10) := of_decide_eq_false hq117
                              rw [if_neg hp117] at h
                              refine xw_cond_f rfl rfl (xw_skip (xq_then (xw_seq (xw_region ?_))))
                              refine xq rfl trivial (o_ldW rfl ts34 (List.Mem.tail _ (List.Mem.head _))) ?_
                              refine xq rfl trivial (o_ldW rfl ts34 (List.Mem.head _)) ?_
                              refine xq rfl trivial (o_eqlA eq34 rfl rfl) ?_
                              refine xq rfl trivial (o_as rfl) ?_
                              refine xo_nil (xq_then (xw_ret ?_))
                              subst h
                              exact con_ret1 (.inl rfl) Try.results24 rfl [] (Kp.st (Kp.new hb7 (Kp.new hb1 Kp.nil))) (⟨rfl, rfl⟩)

end Go.Proofs.Ytndkjhaiopcpeaa
