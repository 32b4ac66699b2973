/- The code answers as the relations say. -/
import Derived.Test.YtndkjhaiopcpeaaTab
import Derived.Test.YtndkjhaiopcpeaaA13S
import Derived.Test.YtndkjhaiopcpeaaMBW
import Derived.Test.YtndkjhaiopcpeaaMCW
set_option maxHeartbeats 1000000
set_option linter.unusedVariables false
set_option linter.unusedSimpArgs false
set_option maxRecDepth 100000
namespace Go.Proofs.Ytndkjhaiopcpeaa
open Go Go.E

theorem code_c (e0 : Int) (w : World) : Con Try.prog 10 #[errV 68 e0] w (Is (.int .i64 (code_F e0)) []) :=
  code_con e0 w _ (code_ok e0)

theorem answers_con (m0 : (Nat → Int)) (w : World) (r : Bool) (h : answers_S m0 r) : Con Try.prog 22 #[AI 28 m0] w (Is (.bool r) []) := by
  unfold answers_S at h
  refine con_enter (n := 12) [(0, _)] Try.func22 rfl Try.ntmps22 rfl (lac rfl lan) ?_
  refine xw_seq (xw_region ?_)
  refine xo rfl trivial (o_boxA rfl) ?_
  rintro _ _ ⟨b1, hb1, rfl, rfl⟩
  refine xq rfl trivial (o_as rfl) ?_
  refine xo_nil (xq_then (xw_seq (xw_seq (xw_region ?_))))
  first | refine xq rfl trivial (o_fa0 fl34_0 rfl) ?_ | refine xq rfl trivial (o_fa fl34_0 rfl) ?_
  refine xq rfl trivial (o_ldI (v := m0 0) rfl ts3 (List.Mem.head _) (by omega) rfl) ?_
  refine xo_nil (xq_then ?_)
  refine xw_block ?_
  refine xw_seq ?_
  refine xw_block ?_
  refine xw_block ?_
  refine xw_seq (xw_seq (xw_seq (xw_region ?_)))
  refine xq rfl trivial (o_eql rfl rfl) ?_
  refine xq rfl trivial (o_as rfl) ?_
  refine xo_nil (xq_then ?_)
  refine xw_bool 5 rfl (fun hc1 => ?_) (fun hc1 => ?_)
  · have hq1 : (decide (m0 0 = 2)) = true := hc1
    have hp1 : m0 0 = 2 := of_decide_eq_true hq1
    rw [if_pos hp1] at h
    refine xw_cond_t rfl rfl (xw_exit (xq_then_exit (xq_then_exit ?_)))
    refine xq_blk_eq ?_
    refine xq_blk 2 ?_
    refine xq_then (xw_seq (xw_seq (xw_region ?_)))
    refine xq rfl trivial (o_ldW rfl ts34 (List.Mem.head _)) ?_
    refine xcallq rfl trivial kf29 rfl (fun w1 hw1 => msgOk_c _ w1) ?_
    refine xq rfl trivial (o_eqE Try.underlying36 rfl (fun _ => rfl) rfl rfl) ?_
    refine xq rfl trivial (o_as rfl) ?_
    refine xo_nil (xq_then (xw_ret (xq_then_ret (xq_blk_ret (xq_then_ret ?_)))))
    subst h
    exact con_ret1 (.inl rfl) Try.results22 rfl [] (Kp.st (Kp.new hb1 Kp.nil)) (⟨rfl, rfl⟩)
  · have hq1 : (decide (m0 0 = 2)) = false := hc1
    have hp1 : ¬ (m0 0 = 2) := of_decide_eq_false hq1
    rw [if_neg hp1] at h
    refine xw_cond_f rfl rfl (xw_skip (xq_then (xw_seq (xw_region ?_))))
    refine xq rfl trivial (o_eql rfl rfl) ?_
    refine xq rfl trivial (o_as rfl) ?_
    refine xo_nil (xq_then ?_)
    refine xw_bool 7 rfl (fun hc2 => ?_) (fun hc2 => ?_)
    · have hq2 : (decide (m0 0 = 3)) = true := hc2
      have hp2 : m0 0 = 3 := of_decide_eq_true hq2
      rw [if_pos hp2] at h
      refine xw_cond_t rfl rfl (xw_exit (xq_then_exit (xq_blk_ne rfl ?_)))
      refine xq_blk_eq ?_
      refine xq_then (xw_seq (xw_seq (xw_region ?_)))
      refine xq rfl trivial (o_ldW rfl ts34 (List.Mem.head _)) ?_
      refine xcallq rfl trivial kf29 rfl (fun w1 hw1 => msgOk_c _ w1) ?_
      refine xq rfl trivial (o_eqE Try.underlying36 rfl (fun _ => rfl) rfl rfl) ?_
      refine xq rfl trivial (o_as rfl) ?_
      refine xo_nil (xq_then (xw_ret (xq_then_ret (xq_blk_ret (xq_then_ret ?_)))))
      subst h
      exact con_ret1 (.inl rfl) Try.results22 rfl [] (Kp.st (Kp.new hb1 Kp.nil)) (⟨rfl, rfl⟩)
    · have hq2 : (decide (m0 0 = 3)) = false := hc2
      have hp2 : ¬ (m0 0 = 3) := of_decide_eq_false hq2
      rw [if_neg hp2] at h
      refine xw_cond_f rfl rfl (xw_skip (xq_then (xw_exit (xq_blk_ne rfl (xq_blk_ne rfl (xq_then_exit ?_))))))
      refine xq_blk_eq ?_
      refine xq_then (xw_seq (xw_region ?_))
      refine xq rfl trivial (o_as rfl) ?_
      refine xo_nil (xq_then (xw_ret ?_))
      subst h
      exact con_ret1 (.inl rfl) Try.results22 rfl [] (Kp.st (Kp.new hb1 Kp.nil)) (⟨rfl, rfl⟩)

theorem answers_c (m0 : (Nat → Int)) (w : World) : Con Try.prog 22 #[AI 28 m0] w (Is (.bool (answers_F m0)) []) :=
  answers_con m0 w _ (answers_ok m0)

theorem bopen_con (b0last : (List (Int × (Nat → Int)))) (tx1 : Int) (seq2 : Int) (p0 : Nat) (v0_0 : Value) (S0_0 : GH) (w : World) (hJ0_0 : MJ kI (kA 29) ieq S0_0 v0_0 b0last) (hC : Has w (cat [[(p0, BK 1 (cl [v0_0]) 67)], S0_0])) (r : (Nat → Int) × Int × (List (Int × (Nat → Int)))) (h : bopen_S b0last tx1 seq2 r) : Con Try.prog 9 #[.pointer (some ⟨p0, 0, none⟩), .int .i64 tx1, .int .i64 seq2] w (CatG fun v Ls => Cov w (cat [[(p0, BK 1 (cl [v0_0]) 67)], S0_0]) (cat Ls) ∧ ∃ (v0_0' : Value) (S0_0' : GH), v = .tuple #[AI 28 r.1, errV 68 r.2.1] ∧ Ls = [[(p0, BK 1 (cl [v0_0']) 67)], S0_0'] ∧ MJ kI (kA 29) ieq S0_0' v0_0' r.2.2 ∧ Cov w S0_0 S0_0') := by
  unfold bopen_S at h
  refine con_enter (n := 65) [(0, _), (1, _), (2, _)] Try.func9 rfl Try.ntmps9 rfl (lac rfl (lac rfl (lac rfl lan))) ?_
  refine xw_has hC ?_
  refine xw_st ((p0, BK 1 (cl [v0_0]) 67) :: (S0_0 ++ ([]))) (fun _ h => h) ?_
  refine xw_seq (xw_region ?_)
  refine xo rfl trivial (o_alloc ze34 rfl) ?_
  rintro _ _ ⟨b6, hb6, rfl, rfl⟩
  refine xq rfl trivial (o_as rfl) ?_
  refine xo_nil (xq_then (xw_seq (xw_seq ?_)))
  refine xw_cut [(0, _), (1, _), (2, _), (6, _)] (lc rfl (lc rfl (lc rfl (lc rfl ln)))) [(26, .bool ((((decide (tx1 < 1)) || (decide (1048576 < tx1))) || (decide (seq2 < 1))) || (decide (1048576 < seq2))))] ?_ ?_
  · refine xw_region ?_
    refine xq rfl trivial (o_mv rfl) ?_
    refine xq rfl trivial (o_eqn Try.underlying24 rfl rfl rfl rfl) ?_
    refine xq rfl trivial (o_mv rfl) ?_
    refine xq rfl ⟨_, rfl, rfl⟩ (o_mv rfl) ?_
    refine xq rfl ⟨_, rfl, rfl⟩ (o_lss rfl rfl) ?_
    refine xq rfl trivial (o_pick_f rfl rfl) ?_
    refine xq rfl trivial (o_mv rfl) ?_
    refine xo_bool 15 rfl (fun hg1 => ?_) (fun hg1 => ?_)
    · have hq1 : (decide (tx1 < 1)) = true := hg1
      have hp1 : tx1 < 1 := of_decide_eq_true hq1
      refine xs rfl ⟨_, _, rfl, rfl, rfl⟩ (xs rfl ⟨_, _, rfl, rfl, rfl⟩ ?_)
      refine xq rfl trivial (o_pick_t rfl rfl) ?_
      refine xq rfl trivial (o_mv rfl) ?_
      refine xs rfl ⟨_, _, rfl, rfl, rfl⟩ (xs rfl ⟨_, _, rfl, rfl, rfl⟩ ?_)
      refine xq rfl trivial (o_pick_t rfl rfl) ?_
      refine xq rfl trivial (o_mv rfl) ?_
      refine xs rfl ⟨_, _, rfl, rfl, rfl⟩ (xs rfl ⟨_, _, rfl, rfl, rfl⟩ ?_)
      refine xq rfl trivial (o_pick_t rfl rfl) ?_
      refine xo_nil ?_
      exact xq_cut ((lce rfl (by first | rfl | (simp only [hq1, if_pos hp1, bS]; done) | (simp only [hq1, if_pos hp1, bS, reduceIte, Bool.false_eq_true]; done) | (simp [hp1]; done) | (simp_all; done)) (lc rfl (lc rfl (lc rfl (lc rfl ln)))))) (fun _ h => h)
    · have hq1 : (decide (tx1 < 1)) = false := hg1
      have hp1 : ¬ (tx1 < 1) := of_decide_eq_false hq1
      refine xq rfl ⟨_, rfl, rfl⟩ (o_mv rfl) ?_
      refine xq rfl ⟨_, rfl, rfl⟩ (o_gtr rfl rfl) ?_
      refine xq rfl trivial (o_pick_f rfl rfl) ?_
      refine xq rfl trivial (o_mv rfl) ?_
      refine xo_bool 19 rfl (fun hg2 => ?_) (fun hg2 => ?_)
      · have hq2 : (decide (1048576 < tx1)) = true := hg2
        have hp2 : 1048576 < tx1 := of_decide_eq_true hq2
        refine xs rfl ⟨_, _, rfl, rfl, rfl⟩ (xs rfl ⟨_, _, rfl, rfl, rfl⟩ ?_)
        refine xq rfl trivial (o_pick_t rfl rfl) ?_
        refine xq rfl trivial (o_mv rfl) ?_
        refine xs rfl ⟨_, _, rfl, rfl, rfl⟩ (xs rfl ⟨_, _, rfl, rfl, rfl⟩ ?_)
        refine xq rfl trivial (o_pick_t rfl rfl) ?_
        refine xo_nil ?_
        exact xq_cut ((lce rfl (by first | rfl | (simp only [hq1, hq2, if_neg hp1, if_pos hp2, bS]; done) | (simp only [hq1, hq2, if_neg hp1, if_pos hp2, bS, reduceIte, Bool.false_eq_true]; done) | (simp [hp1, hp2]; done) | (simp_all; done)) (lc rfl (lc rfl (lc rfl (lc rfl ln)))))) (fun _ h => h)
      · have hq2 : (decide (1048576 < tx1)) = false := hg2
        have hp2 : ¬ (1048576 < tx1) := of_decide_eq_false hq2
        refine xq rfl ⟨_, rfl, rfl⟩ (o_mv rfl) ?_
        refine xq rfl ⟨_, rfl, rfl⟩ (o_lss rfl rfl) ?_
        refine xq rfl trivial (o_pick_f rfl rfl) ?_
        refine xq rfl trivial (o_mv rfl) ?_
        refine xo_bool 23 rfl (fun hg3 => ?_) (fun hg3 => ?_)
        · have hq3 : (decide (seq2 < 1)) = true := hg3
          have hp3 : seq2 < 1 := of_decide_eq_true hq3
          refine xs rfl ⟨_, _, rfl, rfl, rfl⟩ (xs rfl ⟨_, _, rfl, rfl, rfl⟩ ?_)
          refine xq rfl trivial (o_pick_t rfl rfl) ?_
          refine xo_nil ?_
          exact xq_cut ((lce rfl (by first | rfl | (simp only [hq1, hq2, hq3, if_neg hp1, if_neg hp2, if_pos hp3, bS]; done) | (simp only [hq1, hq2, hq3, if_neg hp1, if_neg hp2, if_pos hp3, bS, reduceIte, Bool.false_eq_true]; done) | (simp [hp1, hp2, hp3]; done) | (simp_all; done)) (lc rfl (lc rfl (lc rfl (lc rfl ln)))))) (fun _ h => h)
        · have hq3 : (decide (seq2 < 1)) = false := hg3
          have hp3 : ¬ (seq2 < 1) := of_decide_eq_false hq3
          refine xq rfl ⟨_, rfl, rfl⟩ (o_mv rfl) ?_
          refine xq rfl ⟨_, rfl, rfl⟩ (o_gtr rfl rfl) ?_
          refine xq rfl trivial (o_pick_f rfl rfl) ?_
          refine xo_nil ?_
          exact xq_cut ((lce rfl (by first | rfl | (simp only [hq1, hq2, hq3, if_neg hp1, if_neg hp2, if_neg hp3, bS]; done) | (simp only [hq1, hq2, hq3, if_neg hp1, if_neg hp2, if_neg hp3, bS, reduceIte, Bool.false_eq_true]; done) | (simp [hp1, hp2, hp3]; done) | (simp_all; done)) (lc rfl (lc rfl (lc rfl (lc rfl ln)))))) (fun _ h => h)
  · refine xq_then ?_
    refine xw_bool 26 rfl (fun hc4 => ?_) (fun hc4 => ?_)
    · have hq4 : ((((decide (tx1 < 1)) || (decide (1048576 < tx1))) || (decide (seq2 < 1))) || (decide (1048576 < seq2))) = true := hc4
      have hp4 : ((((decide (tx1 < 1)) || (decide (1048576 < tx1))) || (decide (seq2 < 1))) || (decide (1048576 < seq2))) = true := hq4
      rw [if_pos hp4] at h
      refine xw_cond_t rfl rfl (xw_seq (xw_region ?_))
      refine xq rfl trivial (o_build fk34 ze34 (.nil _)) ?_
      refine xq rfl trivial (o_mki rfl Try.underlying68 rfl) ?_
      refine xq0 trivial (o_stWI rfl rfl ts34 (List.Mem.head _) (.here _ _ _ _)) ?_
      refine xq rfl trivial (o_as rfl) ?_
      refine xo_nil (xq_then (xw_ret (xq_then_ret ?_)))
      subst h
      exact con_retN (.inl rfl) (l := [.cell 6 34, .tmp 7]) Try.results9 (.cell rfl ts34 (List.Mem.head _) (.tmp rfl .nil)) rfl (cat [[(p0, BK 1 (cl [v0_0]) 67)], S0_0]) (Kp.st (Kp.new hb6 (Kp.keep (Kp.segKeep Kp.nil)))) (⟨_, rfl, (Cov.cons (Cov.app (A := S0_0) (A' := S0_0) (Cov.refl _) Cov.nil)), v0_0, S0_0, rfl, rfl, hJ0_0, (Cov.refl _)⟩)
    · have hq4 : ((((decide (tx1 < 1)) || (decide (1048576 < tx1))) || (decide (seq2 < 1))) || (decide (1048576 < seq2))) = false := hc4
      have hp4 : ¬ (((((decide (tx1 < 1)) || (decide (1048576 < tx1))) || (decide (seq2 < 1))) || (decide (1048576 < seq2))) = true) := bne' hq4
      rw [if_neg hp4] at h
      refine xw_cond_f rfl rfl (xw_skip (xq_then (xw_seq (xw_region ?_))))
      refine xq rfl trivial (o_mv rfl) ?_
      refine xq rfl trivial (o_nilp rfl) ?_
      first | refine xq rfl trivial (o_fa0 fl67_0 rfl) ?_ | refine xq rfl trivial (o_fa fl67_0 rfl) ?_
      refine xq rfl trivial (o_ld (v := v0_0) rfl ts65 (List.Mem.tail _ (List.Mem.head _)) (by decide) rfl) ?_
      refine xq rfl trivial (o_mv rfl) ?_
      refine xq rfl trivial (o_lk (z := (fun _ => 0)) (k := tx1) kt3 Try.underlying65 ze70 rfl rfl hJ0_0 (Pull.sub (.thereC _ (.thereC _ (.here _ _))))) ?_
      refine xo rfl trivial (o_alloc ze70 rfl) ?_
      rintro _ _ ⟨b8, hb8, rfl, rfl⟩
      refine xq0 trivial (o_stWI rfl rfl ts70 (List.Mem.head _) (.here _ _ _ _)) ?_
      refine xo_nil (xq_then (xw_seq ?_))
      refine xw_block ?_
      refine xw_seq (xw_region ?_)
      refine xq rfl trivial (o_mv rfl) ?_
      first | refine xq rfl trivial (o_fa0 fl70_0 rfl) ?_ | refine xq rfl trivial (o_fa fl70_0 rfl) ?_
      refine xq rfl trivial (o_ldI (v := (mget ieq b0last tx1 (fun _ => 0)) 0) rfl ts3 (List.Mem.head _) (by omega) rfl) ?_
      refine xq rfl trivial (o_lss rfl rfl) ?_
      refine xq rfl trivial (o_as rfl) ?_
      refine xo_nil (xq_then ?_)
      refine xw_bool 35 rfl (fun hc5 => ?_) (fun hc5 => ?_)
      · have hq5 : (decide (seq2 < (mget ieq b0last tx1 (fun _ => 0)) 0)) = true := hc5
        have hp5 : seq2 < (mget ieq b0last tx1 (fun _ => 0)) 0 := of_decide_eq_true hq5
        rw [if_pos hp5] at h
        refine xw_cond_t rfl rfl (xw_seq (xw_region ?_))
        refine xq rfl trivial (o_build fk34 ze34 (.nil _)) ?_
        refine xq rfl trivial (o_mki rfl Try.underlying68 rfl) ?_
        refine xq0 trivial (o_stWI rfl rfl ts34 (List.Mem.tail _ (List.Mem.head _)) (.there _ _ _ _ _ (.here _ _ _ _))) ?_
        refine xq rfl trivial (o_as rfl) ?_
        refine xo_nil (xq_then (xw_ret (xq_blk_ret (xq_then_ret ?_))))
        subst h
        exact con_retN (.inl rfl) (l := [.cell 6 34, .tmp 7]) Try.results9 (.cell rfl ts34 (List.Mem.tail _ (List.Mem.head _)) (.tmp rfl .nil)) rfl (cat [[(p0, BK 1 (cl [v0_0]) 67)], S0_0]) (Kp.st (Kp.new hb8 (Kp.new hb6 (Kp.keep (Kp.segKeep Kp.nil))))) (⟨_, rfl, (Cov.cons (Cov.app (A := S0_0) (A' := S0_0) (Cov.refl _) Cov.nil)), v0_0, S0_0, rfl, rfl, hJ0_0, (Cov.refl _)⟩)
      · have hq5 : (decide (seq2 < (mget ieq b0last tx1 (fun _ => 0)) 0)) = false := hc5
        have hp5 : ¬ (seq2 < (mget ieq b0last tx1 (fun _ => 0)) 0) := of_decide_eq_false hq5
        rw [if_neg hp5] at h
        refine xw_cond_f rfl rfl (xw_seq (xw_region ?_))
        refine xq rfl trivial (o_mv rfl) ?_
        first | refine xq rfl trivial (o_fa0 fl70_0 rfl) ?_ | refine xq rfl trivial (o_fa fl70_0 rfl) ?_
        refine xq rfl trivial (o_ldI (v := (mget ieq b0last tx1 (fun _ => 0)) 0) rfl ts3 (List.Mem.head _) (by omega) rfl) ?_
        refine xq rfl trivial (o_gtr rfl rfl) ?_
        refine xq rfl trivial (o_as rfl) ?_
        refine xo_nil (xq_then ?_)
        refine xw_bool 42 rfl (fun hc6 => ?_) (fun hc6 => ?_)
        · have hq6 : (decide ((mget ieq b0last tx1 (fun _ => 0)) 0 < seq2)) = true := hc6
          have hp6 : (mget ieq b0last tx1 (fun _ => 0)) 0 < seq2 := of_decide_eq_true hq6
          rw [if_pos hp6] at h
          refine xw_cond_t rfl rfl (xw_seq (xw_region ?_))
          refine xq rfl trivial (o_mv rfl) ?_
          refine xq rfl trivial (o_nilp rfl) ?_
          first | refine xq rfl trivial (o_fa0 fl67_0 rfl) ?_ | refine xq rfl trivial (o_fa fl67_0 rfl) ?_
          refine xq rfl trivial (o_ld (v := v0_0) rfl ts65 (List.Mem.tail _ (List.Mem.tail _ (List.Mem.head _))) (by decide) rfl) ?_
          refine xq rfl trivial (o_mv rfl) ?_
          refine xq rfl trivial (o_mv rfl) ?_
          refine xq rfl trivial (o_build fk70 ze70 (.int fl70_0 rfl rfl (.nil _))) ?_
          refine xo0 trivial (OT.st (fun _ h => Pull.st (.thereC _ (.thereC _ (.thereC _ (.here _ _)))) h) (o_mset (k := tx1) (e := (updI (fun _ => 0) 0 seq2)) kt3 Try.underlying65 rfl rfl rfl hJ0_0)) ?_
          rintro _ _ ⟨Bs7, rfl, hns7, hJs7⟩
          have hcBs7 := Cov.trans (Cov.refl _) hns7
          refine xo_st ((b8, BK 29 (iv (mget ieq b0last tx1 (fun _ => 0))) 70) :: ((b6, BK 28 (iv (fun _ => 0)) 34) :: ((p0, BK 1 (cl [v0_0]) 67) :: (Bs7 ++ ([]))))) (fun _ h => Pull.push (.thereC _ (.thereC _ (.thereC _ (.here _ _)))) h) ?_
          refine xo_nil (xq_then (xw_seq (xw_region ?_)))
          refine xq rfl trivial (o_build fk34 ze34 (.nil _)) ?_
          refine xq0 trivial (o_stWI rfl rfl ts34 (List.Mem.tail _ (List.Mem.head _)) (.there _ _ _ _ _ (.here _ _ _ _))) ?_
          refine xq rfl trivial (o_as rfl) ?_
          refine xo_nil (xq_then (xw_ret (xq_blk_ret (xq_then_ret ?_))))
          subst h
          exact con_retN (.inl rfl) (l := [.cell 6 34, .tmp 7]) Try.results9 (.cell rfl ts34 (List.Mem.tail _ (List.Mem.head _)) (.tmp rfl .nil)) rfl (cat [[(p0, BK 1 (cl [v0_0]) 67)], Bs7]) (Kp.st (Kp.new hb8 (Kp.new hb6 (Kp.keep (Kp.segKeep Kp.nil))))) (⟨_, rfl, (Cov.cons (Cov.app (A := S0_0) (A' := Bs7) hcBs7 Cov.nil)), v0_0, Bs7, rfl, rfl, hJs7, hcBs7⟩)
        · have hq6 : (decide ((mget ieq b0last tx1 (fun _ => 0)) 0 < seq2)) = false := hc6
          have hp6 : ¬ ((mget ieq b0last tx1 (fun _ => 0)) 0 < seq2) := of_decide_eq_false hq6
          rw [if_neg hp6] at h
          refine xw_cond_f rfl rfl (xw_seq (xw_region ?_))
          first | refine xq rfl trivial (o_fa0 fl70_1 rfl) ?_ | refine xq rfl trivial (o_fa fl70_1 rfl) ?_
          first | refine xq rfl trivial (o_fa0 fl34_0 rfl) ?_ | refine xq rfl trivial (o_fa fl34_0 rfl) ?_
          refine xq rfl trivial (o_ldI (v := (mget ieq b0last tx1 (fun _ => 0)) 1) rfl ts3 (List.Mem.head _) (by omega) rfl) ?_
          refine xq rfl trivial (o_neq rfl rfl) ?_
          refine xq rfl trivial (o_as rfl) ?_
          refine xo_nil (xq_then ?_)
          refine xw_bool 55 rfl (fun hc8 => ?_) (fun hc8 => ?_)
          · have hq8 : (decide ((mget ieq b0last tx1 (fun _ => 0)) 1 = 0)) = false := (bnT hc8)
            have hp8 : ¬ ((mget ieq b0last tx1 (fun _ => 0)) 1 = 0) := of_decide_eq_false hq8
            rw [if_neg hp8] at h
            refine xw_cond_t rfl rfl (xw_seq (xw_region ?_))
            first | refine xq rfl trivial (o_fa0 fl70_1 rfl) ?_ | refine xq rfl trivial (o_fa fl70_1 rfl) ?_
            refine xq rfl trivial (o_ldSI rfl ts34 (List.Mem.head _) (by omega) (fun _ _ => rfl)) ?_
            refine xq rfl trivial (o_mki rfl Try.underlying68 rfl) ?_
            refine xq0 trivial (o_stWI rfl rfl ts34 (List.Mem.tail _ (List.Mem.head _)) (.there _ _ _ _ _ (.here _ _ _ _))) ?_
            refine xq rfl trivial (o_as rfl) ?_
            refine xo_nil (xq_then (xw_ret (xq_blk_ret (xq_then_ret ?_))))
            subst h
            exact con_retN (.inl rfl) (l := [.cell 6 34, .tmp 7]) Try.results9 (.cell rfl ts34 (List.Mem.tail _ (List.Mem.head _)) (.tmp rfl .nil)) rfl (cat [[(p0, BK 1 (cl [v0_0]) 67)], S0_0]) (Kp.st (Kp.new hb8 (Kp.new hb6 (Kp.keep (Kp.segKeep Kp.nil))))) (⟨_, rfl, (Cov.cons (Cov.app (A := S0_0) (A' := S0_0) (Cov.refl _) Cov.nil)), v0_0, S0_0, rfl, rfl, hJ0_0, (Cov.refl _)⟩)
          · have hq8 : (decide ((mget ieq b0last tx1 (fun _ => 0)) 1 = 0)) = true := (bnF hc8)
            have hp8 : (mget ieq b0last tx1 (fun _ => 0)) 1 = 0 := of_decide_eq_true hq8
            rw [if_pos hp8] at h
            refine xw_cond_f rfl rfl (xw_skip ?_)
            refine xq_blk 0 ?_
            refine xq_then (xw_seq (xw_region ?_))
            refine xq rfl trivial (o_build fk34 ze34 (.nil _)) ?_
            refine xq rfl trivial (o_mki rfl Try.underlying68 rfl) ?_
            refine xq0 trivial (o_stWI rfl rfl ts34 (List.Mem.tail _ (List.Mem.head _)) (.there _ _ _ _ _ (.here _ _ _ _))) ?_
            refine xq rfl trivial (o_as rfl) ?_
            refine xo_nil (xq_then (xw_ret ?_))
            subst h
            exact con_retN (.inl rfl) (l := [.cell 6 34, .tmp 7]) Try.results9 (.cell rfl ts34 (List.Mem.tail _ (List.Mem.head _)) (.tmp rfl .nil)) rfl (cat [[(p0, BK 1 (cl [v0_0]) 67)], S0_0]) (Kp.st (Kp.new hb8 (Kp.new hb6 (Kp.keep (Kp.segKeep Kp.nil))))) (⟨_, rfl, (Cov.cons (Cov.app (A := S0_0) (A' := S0_0) (Cov.refl _) Cov.nil)), v0_0, S0_0, rfl, rfl, hJ0_0, (Cov.refl _)⟩)

theorem bopen_c (b0last : (List (Int × (Nat → Int)))) (tx1 : Int) (seq2 : Int) (p0 : Nat) (v0_0 : Value) (S0_0 : GH) (w : World) (hJ0_0 : MJ kI (kA 29) ieq S0_0 v0_0 b0last) (hC : Has w (cat [[(p0, BK 1 (cl [v0_0]) 67)], S0_0])) : Con Try.prog 9 #[.pointer (some ⟨p0, 0, none⟩), .int .i64 tx1, .int .i64 seq2] w (CatG fun v Ls => Cov w (cat [[(p0, BK 1 (cl [v0_0]) 67)], S0_0]) (cat Ls) ∧ ∃ (v0_0' : Value) (S0_0' : GH), v = .tuple #[AI 28 ((bopen_F b0last tx1 seq2).1), errV 68 ((bopen_F b0last tx1 seq2).2.1)] ∧ Ls = [[(p0, BK 1 (cl [v0_0']) 67)], S0_0'] ∧ MJ kI (kA 29) ieq S0_0' v0_0' ((bopen_F b0last tx1 seq2).2.2) ∧ Cov w S0_0 S0_0') :=
  bopen_con b0last tx1 seq2 p0 v0_0 S0_0 w hJ0_0 hC _ (bopen_ok b0last tx1 seq2)

theorem bclose_con (b0last : (List (Int × (Nat → Int)))) (m1 : (Nat → Int)) (p0 : Nat) (v0_0 : Value) (S0_0 : GH) (w : World) (hJ0_0 : MJ kI (kA 29) ieq S0_0 v0_0 b0last) (hC : Has w (cat [[(p0, BK 1 (cl [v0_0]) 67)], S0_0])) (r : Int × (List (Int × (Nat → Int)))) (h : bclose_S b0last m1 r) : Con Try.prog 11 #[.pointer (some ⟨p0, 0, none⟩), AI 28 m1] w (CatG fun v Ls => Cov w (cat [[(p0, BK 1 (cl [v0_0]) 67)], S0_0]) (cat Ls) ∧ ∃ (v0_0' : Value) (S0_0' : GH), v = errV 68 r.1 ∧ Ls = [[(p0, BK 1 (cl [v0_0']) 67)], S0_0'] ∧ MJ kI (kA 29) ieq S0_0' v0_0' r.2 ∧ Cov w S0_0 S0_0') := by
  unfold bclose_S at h
  refine con_enter (n := 51) [(0, _), (1, _)] Try.func11 rfl Try.ntmps11 rfl (lac rfl (lac rfl lan)) ?_
  refine xw_has hC ?_
  refine xw_st ((p0, BK 1 (cl [v0_0]) 67) :: (S0_0 ++ ([]))) (fun _ h => h) ?_
  refine xw_seq (xw_region ?_)
  refine xo rfl trivial (o_boxA rfl) ?_
  rintro _ _ ⟨b3, hb3, rfl, rfl⟩
  refine xq rfl trivial (o_as rfl) ?_
  refine xo_nil (xq_then (xw_seq (xw_seq (xw_region ?_))))
  refine xq rfl trivial (o_mv rfl) ?_
  refine xq rfl trivial (o_eqn Try.underlying24 rfl rfl rfl rfl) ?_
  refine xo_nil (xq_then (xw_cond_f rfl rfl (xw_skip (xq_then (xw_seq (xw_seq (xw_region ?_)))))))
  refine xq rfl trivial (o_ldW rfl ts34 (List.Mem.head _)) ?_
  refine xcallq rfl trivial kf22 rfl (fun w1 hw1 => answers_c _ w1) ?_
  refine xq rfl trivial (o_not rfl) ?_
  refine xo_nil (xq_then ?_)
  refine xw_bool 12 rfl (fun hc1 => ?_) (fun hc1 => ?_)
  · have hq1 : ((answers_F m1)) = false := (bnT hc1)
    have hp1 : ¬ (((answers_F m1)) = true) := bne' hq1
    rw [if_neg hp1] at h
    refine xw_cond_t rfl rfl (xw_seq (xw_region ?_))
    refine xq rfl trivial (o_mki rfl Try.underlying68 rfl) ?_
    refine xq rfl trivial (o_as rfl) ?_
    refine xo_nil (xq_then (xw_ret (xq_then_ret ?_)))
    subst h
    exact con_ret1 (.inl rfl) Try.results11 rfl (cat [[(p0, BK 1 (cl [v0_0]) 67)], S0_0]) (Kp.st (Kp.new hb3 (Kp.keep (Kp.segKeep Kp.nil)))) (⟨_, rfl, (Cov.cons (Cov.app (A := S0_0) (A' := S0_0) (Cov.refl _) Cov.nil)), v0_0, S0_0, rfl, rfl, hJ0_0, (Cov.refl _)⟩)
  · have hq1 : ((answers_F m1)) = true := (bnF hc1)
    have hp1 : ((answers_F m1)) = true := hq1
    rw [if_pos hp1] at h
    refine xw_cond_f rfl rfl (xw_skip (xq_then (xw_seq ?_)))
    refine xd_start (by kernel_rfl) (by kernel_rfl) (fun hok => ?_)
    refine xd_b hok 0 [(0, _)] ([]) rsN rfl rfl rfl (lc rfl ln) (by kernel_rfl) trivial (fun H' hy hK => o_mv rfl) ?_
    refine xd_b hok 1 [(15, _)] ([]) rsN rfl rfl rfl (lc rfl ln) (by kernel_rfl) trivial (fun H' hy hK => o_nilp rfl) ?_
    first | refine xd_b hok 2 [(16, _)] ([]) rsN rfl rfl rfl (lc rfl ln) (by kernel_rfl) trivial (fun H' hy hK => o_fa0 fl67_0 rfl) ?_ | refine xd_b hok 2 [(16, _)] ([]) rsN rfl rfl rfl (lc rfl ln) (by kernel_rfl) trivial (fun H' hy hK => o_fa fl67_0 rfl) ?_
    refine xd_b hok 3 [(17, _)] ((p0, BK 1 (cl [v0_0]) 67) :: ([])) (rsC (List.Mem.tail _ (List.Mem.head _)) rsN) rfl rfl rfl (lc rfl ln) (by kernel_rfl) trivial (fun H' hy hK => o_ld (v := v0_0) rfl ts65 (hy _ (List.Mem.head _)) (by decide) rfl) ?_
    first | refine xd_b hok 4 [(3, _)] ([]) rsN rfl rfl rfl (lc rfl ln) (by kernel_rfl) trivial (fun H' hy hK => o_fa0 fl34_3 rfl) ?_ | refine xd_b hok 4 [(3, _)] ([]) rsN rfl rfl rfl (lc rfl ln) (by kernel_rfl) trivial (fun H' hy hK => o_fa fl34_3 rfl) ?_
    refine xd_b hok 5 [(19, _)] ((b3, BK 28 (iv m1) 34) :: ([])) (rsC (List.Mem.head _) rsN) rfl rfl rfl (lc rfl ln) (by kernel_rfl) trivial (fun H' hy hK => o_ldI (v := m1 3) rfl ts3 (hy _ (List.Mem.head _)) (by omega) rfl) ?_
    refine xd_b hok 6 [(18, _), (20, _)] (S0_0 ++ ([])) (rsA (Pull.sub (.thereC _ (.thereC _ (.here _ _)))) rsN) rfl rfl rfl (lc rfl (lc rfl ln)) (by kernel_rfl) trivial (fun H' hy hK => o_lkok (z := (fun _ => 0)) (k := m1 3) kt3 Try.underlying65 ze70 rfl rfl hJ0_0 (fun x hx => hy x (Pull.sub (.here _ _) x hx))) ?_
    refine xd_b hok 7 [(21, _)] ([]) rsN rfl rfl rfl (lc rfl ln) (by kernel_rfl) trivial (fun H' hy hK => o_mv rfl) ?_
    refine xd_b hok 8 [(14, _)] ([]) rsN rfl rfl rfl (lc rfl ln) (by kernel_rfl) trivial (fun H' hy hK => o_ext rfl rfl) ?_
    refine xd_b hok 9 [(14, _)] ([]) rsN rfl rfl rfl (lc rfl ln) (by kernel_rfl) trivial (fun H' hy hK => o_ext rfl rfl) ?_
    refine xd_step hok 10 [] rfl rfl (by kernel_rfl) ln (by kernel_rfl) trivial (o_alloc ze70 rfl) ?_
    rintro _ _ ⟨b5, hb5, rfl, rfl⟩
    refine ⟨(rsA rsN (rsA rsN (rsA rsN (rsA (rsA (Pull.sub (.thereC _ (.thereC _ (.thereC _ (.here _ _))))) rsN) (rsA (rsC (List.Mem.tail _ (List.Mem.head _)) rsN) (rsA rsN (rsA (rsC (List.Mem.tail _ (List.Mem.tail _ (List.Mem.head _))) rsN) (rsA rsN (rsA rsN (rsA rsN rsN)))))))))), (Ks.consN hb5 (Ks.consK (by simp) (Ks.consK (by simp) (Ks.segK (fun k hk => by simp [hk]) Ks.nil)))), ?_⟩
    refine xd_step0 hok 11 [(5, _), (22, _)] rfl rfl (by kernel_rfl) (lc rfl (lc rfl ln)) (by kernel_rfl) trivial (o_stWI rfl rfl ts70 (List.Mem.head _) (.here _ _ _ _)) ?_
    rintro _ _ ⟨rfl, rfl⟩
    refine ⟨(rsA rsN (rsA rsN (rsA rsN (rsA (rsA (Pull.sub (.thereC _ (.thereC _ (.thereC _ (.here _ _))))) rsN) (rsA (rsC (List.Mem.tail _ (List.Mem.head _)) rsN) (rsA rsN (rsA (rsC (List.Mem.tail _ (List.Mem.tail _ (List.Mem.head _))) rsN) (rsA rsN (rsA rsN (rsA rsN rsN)))))))))), (Ks.consN hb5 (Ks.consK (by simp) (Ks.consK (by simp) (Ks.segK (fun k hk => by simp [hk]) Ks.nil)))), ?_⟩
    refine xd_b hok 12 [(23, _)] ([]) rsN rfl rfl rfl (lc rfl ln) (by kernel_rfl) trivial (fun H' hy hK => o_as rfl) ?_
    refine xd_end hok (by kernel_rfl) ?_
    refine xq_then (xw_seq ?_)
    refine xw_block ?_
    refine xw_seq (xw_region ?_)
    refine xq rfl trivial (o_mv rfl) ?_
    refine xq rfl trivial (o_not rfl) ?_
    refine xq rfl trivial (o_as rfl) ?_
    refine xo_nil (xq_then ?_)
    refine xw_bool 24 rfl (fun hc2 => ?_) (fun hc2 => ?_)
    · have hq2 : ((mhas ieq b0last (m1 3))) = false := (bnT hc2)
      have hp2 : ¬ (((mhas ieq b0last (m1 3))) = true) := bne' hq2
      rw [if_neg hp2] at h
      refine xw_cond_t rfl rfl (xw_seq (xw_region ?_))
      refine xq rfl trivial (o_mki rfl Try.underlying68 rfl) ?_
      refine xq rfl trivial (o_as rfl) ?_
      refine xo_nil (xq_then (xw_ret (xq_blk_ret (xq_then_ret ?_))))
      subst h
      exact con_ret1 (.inl rfl) Try.results11 rfl (cat [[(p0, BK 1 (cl [v0_0]) 67)], S0_0]) (Kp.st (Kp.new hb5 (Kp.new hb3 (Kp.keep (Kp.segKeep Kp.nil))))) (⟨_, rfl, (Cov.cons (Cov.app (A := S0_0) (A' := S0_0) (Cov.refl _) Cov.nil)), v0_0, S0_0, rfl, rfl, hJ0_0, (Cov.refl _)⟩)
    · have hq2 : ((mhas ieq b0last (m1 3))) = true := (bnF hc2)
      have hp2 : ((mhas ieq b0last (m1 3))) = true := hq2
      rw [if_pos hp2] at h
      refine xw_cond_f rfl rfl (xw_seq (xw_region ?_))
      first | refine xq rfl trivial (o_fa0 fl70_0 rfl) ?_ | refine xq rfl trivial (o_fa fl70_0 rfl) ?_
      refine xq rfl trivial (o_ldI (v := (mget ieq b0last (m1 3) (fun _ => 0)) 0) rfl ts3 (List.Mem.head _) (by omega) rfl) ?_
      first | refine xq rfl trivial (o_fa0 fl34_4 rfl) ?_ | refine xq rfl trivial (o_fa fl34_4 rfl) ?_
      refine xq rfl trivial (o_ldI (v := m1 4) rfl ts3 (List.Mem.tail _ (List.Mem.head _)) (by omega) rfl) ?_
      refine xq rfl trivial (o_neq rfl rfl) ?_
      refine xq rfl trivial (o_as rfl) ?_
      refine xo_nil (xq_then ?_)
      refine xw_bool 28 rfl (fun hc3 => ?_) (fun hc3 => ?_)
      · have hq3 : (decide ((mget ieq b0last (m1 3) (fun _ => 0)) 0 = m1 4)) = false := (bnT hc3)
        have hp3 : ¬ ((mget ieq b0last (m1 3) (fun _ => 0)) 0 = m1 4) := of_decide_eq_false hq3
        rw [if_neg hp3] at h
        refine xw_cond_t rfl rfl (xw_seq (xw_region ?_))
        refine xq rfl trivial (o_mki rfl Try.underlying68 rfl) ?_
        refine xq rfl trivial (o_as rfl) ?_
        refine xo_nil (xq_then (xw_ret (xq_blk_ret (xq_then_ret ?_))))
        subst h
        exact con_ret1 (.inl rfl) Try.results11 rfl (cat [[(p0, BK 1 (cl [v0_0]) 67)], S0_0]) (Kp.st (Kp.new hb5 (Kp.new hb3 (Kp.keep (Kp.segKeep Kp.nil))))) (⟨_, rfl, (Cov.cons (Cov.app (A := S0_0) (A' := S0_0) (Cov.refl _) Cov.nil)), v0_0, S0_0, rfl, rfl, hJ0_0, (Cov.refl _)⟩)
      · have hq3 : (decide ((mget ieq b0last (m1 3) (fun _ => 0)) 0 = m1 4)) = true := (bnF hc3)
        have hp3 : (mget ieq b0last (m1 3) (fun _ => 0)) 0 = m1 4 := of_decide_eq_true hq3
        rw [if_pos hp3] at h
        refine xw_cond_f rfl rfl (xw_seq (xw_region ?_))
        first | refine xq rfl trivial (o_fa0 fl70_1 rfl) ?_ | refine xq rfl trivial (o_fa fl70_1 rfl) ?_
        first | refine xq rfl trivial (o_fa0 fl34_0 rfl) ?_ | refine xq rfl trivial (o_fa fl34_0 rfl) ?_
        refine xq rfl trivial (o_ldI (v := (mget ieq b0last (m1 3) (fun _ => 0)) 1) rfl ts3 (List.Mem.head _) (by omega) rfl) ?_
        refine xq rfl trivial (o_neq rfl rfl) ?_
        refine xq rfl trivial (o_as rfl) ?_
        refine xo_nil (xq_then ?_)
        refine xw_bool 35 rfl (fun hc4 => ?_) (fun hc4 => ?_)
        · have hq4 : (decide ((mget ieq b0last (m1 3) (fun _ => 0)) 1 = 0)) = false := (bnT hc4)
          have hp4 : ¬ ((mget ieq b0last (m1 3) (fun _ => 0)) 1 = 0) := of_decide_eq_false hq4
          rw [if_neg hp4] at h
          refine xw_cond_t rfl rfl (xw_seq (xw_region ?_))
          refine xq rfl trivial (o_mki rfl Try.underlying68 rfl) ?_
          refine xq rfl trivial (o_as rfl) ?_
          refine xo_nil (xq_then (xw_ret (xq_blk_ret (xq_then_ret ?_))))
          subst h
          exact con_ret1 (.inl rfl) Try.results11 rfl (cat [[(p0, BK 1 (cl [v0_0]) 67)], S0_0]) (Kp.st (Kp.new hb5 (Kp.new hb3 (Kp.keep (Kp.segKeep Kp.nil))))) (⟨_, rfl, (Cov.cons (Cov.app (A := S0_0) (A' := S0_0) (Cov.refl _) Cov.nil)), v0_0, S0_0, rfl, rfl, hJ0_0, (Cov.refl _)⟩)
        · have hq4 : (decide ((mget ieq b0last (m1 3) (fun _ => 0)) 1 = 0)) = true := (bnF hc4)
          have hp4 : (mget ieq b0last (m1 3) (fun _ => 0)) 1 = 0 := of_decide_eq_true hq4
          rw [if_pos hp4] at h
          refine xw_cond_f rfl rfl (xw_skip ?_)
          refine xq_blk 0 ?_
          refine xq_then (xw_seq ?_)
          refine xd_start (by kernel_rfl) (by kernel_rfl) (fun hok => ?_)
          refine xd_b hok 0 [(0, _)] ([]) rsN rfl rfl rfl (lc rfl ln) (by kernel_rfl) trivial (fun H' hy hK => o_mv rfl) ?_
          refine xd_b hok 1 [(41, _)] ([]) rsN rfl rfl rfl (lc rfl ln) (by kernel_rfl) trivial (fun H' hy hK => o_nilp rfl) ?_
          first | refine xd_b hok 2 [(42, _)] ([]) rsN rfl rfl rfl (lc rfl ln) (by kernel_rfl) trivial (fun H' hy hK => o_fa0 fl67_0 rfl) ?_ | refine xd_b hok 2 [(42, _)] ([]) rsN rfl rfl rfl (lc rfl ln) (by kernel_rfl) trivial (fun H' hy hK => o_fa fl67_0 rfl) ?_
          refine xd_b hok 3 [(43, _)] ((p0, BK 1 (cl [v0_0]) 67) :: ([])) (rsC (List.Mem.tail _ (List.Mem.tail _ (List.Mem.head _))) rsN) rfl rfl rfl (lc rfl ln) (by kernel_rfl) trivial (fun H' hy hK => o_ld (v := v0_0) rfl ts65 (hy _ (List.Mem.head _)) (by decide) rfl) ?_
          first | refine xd_b hok 4 [(3, _)] ([]) rsN rfl rfl rfl (lc rfl ln) (by kernel_rfl) trivial (fun H' hy hK => o_fa0 fl34_3 rfl) ?_ | refine xd_b hok 4 [(3, _)] ([]) rsN rfl rfl rfl (lc rfl ln) (by kernel_rfl) trivial (fun H' hy hK => o_fa fl34_3 rfl) ?_
          refine xd_b hok 5 [(45, _)] ((b3, BK 28 (iv m1) 34) :: ([])) (rsC (List.Mem.tail _ (List.Mem.head _)) rsN) rfl rfl rfl (lc rfl ln) (by kernel_rfl) trivial (fun H' hy hK => o_ldI (v := m1 3) rfl ts3 (hy _ (List.Mem.head _)) (by omega) rfl) ?_
          first | refine xd_b hok 6 [(3, _)] ([]) rsN rfl rfl rfl (lc rfl ln) (by kernel_rfl) trivial (fun H' hy hK => o_fa0 fl34_4 rfl) ?_ | refine xd_b hok 6 [(3, _)] ([]) rsN rfl rfl rfl (lc rfl ln) (by kernel_rfl) trivial (fun H' hy hK => o_fa fl34_4 rfl) ?_
          refine xd_b hok 7 [(47, _)] ((b3, BK 28 (iv m1) 34) :: ([])) (rsC (List.Mem.tail _ (List.Mem.head _)) rsN) rfl rfl rfl (lc rfl ln) (by kernel_rfl) trivial (fun H' hy hK => o_ldI (v := m1 4) rfl ts3 (hy _ (List.Mem.head _)) (by omega) rfl) ?_
          refine xd_b hok 8 [(3, _)] ((b3, BK 28 (iv m1) 34) :: ([])) (rsC (List.Mem.tail _ (List.Mem.head _)) rsN) rfl rfl rfl (lc rfl ln) (by kernel_rfl) trivial (fun H' hy hK => o_ldW rfl ts34 (hy _ (List.Mem.head _))) ?_
          refine xd_b hok 9 [(48, _), (49, _)] ([]) rsN rfl rfl rfl (lc rfl (lc rfl ln)) (by kernel_rfl) trivial (fun H' hy hK => o_build fk70 ze70 (.int fl70_0 rfl rfl (.ints fl70_1 rfl rfl (.nil _)))) ?_
          refine xd_fl0 hok 0 10 [(44, _), (46, _), (50, _)] rfl rfl (by kernel_rfl) (by kernel_rfl) (lc rfl (lc rfl (lc rfl ln))) (by kernel_rfl) trivial (OT.push (fun q_ => (b5, BK 29 (iv (mget ieq b0last (m1 3) (fun _ => 0))) 70) :: ((b3, BK 28 (iv m1) 34) :: ((p0, BK 1 (cl [v0_0]) 67) :: (q_ ++ ([]))))) (fun _ => (.thereC _ (.thereC _ (.thereC _ (.here _ _))))) (OT.st (fun _ h => Pull.st (.thereC _ (.thereC _ (.thereC _ (.here _ _)))) h) (o_mset (k := m1 3) (e := (updRI (updI (fun _ => 0) 0 (m1 4)) 1 28 m1)) kt3 Try.underlying65 rfl rfl rfl hJ0_0))) ?_
          rintro _ _ ⟨Bs5, rfl, hns5, hJs5⟩
          have hcBs5 := Cov.trans (Cov.refl _) hns5
          refine ⟨(Ks.consK (by simp) (Ks.consK (by simp) (Ks.consK (by simp) (Ks.segC hcBs5 (fun k hk => by simp [hk]) Ks.nil)))), ?_⟩
          refine xd_show (H' := (b5, BK 29 (iv (mget ieq b0last (m1 3) (fun _ => 0))) 70) :: ((b3, BK 28 (iv m1) 34) :: ((p0, BK 1 (cl [v0_0]) 67) :: (Bs5 ++ ([]))))) rfl ?_
          refine xd_end hok (by kernel_rfl) ?_
          refine xq_then (xw_seq (xw_region ?_))
          refine xq rfl trivial (o_as rfl) ?_
          refine xo_nil (xq_then (xw_ret ?_))
          subst h
          exact con_ret1 (.inl rfl) Try.results11 rfl (cat [[(p0, BK 1 (cl [v0_0]) 67)], Bs5]) (Kp.st (Kp.new hb5 (Kp.new hb3 (Kp.keep (Kp.segKeep Kp.nil))))) (⟨_, rfl, (Cov.cons (Cov.app (A := S0_0) (A' := Bs5) hcBs5 Cov.nil)), v0_0, Bs5, rfl, rfl, hJs5, hcBs5⟩)

theorem bclose_c (b0last : (List (Int × (Nat → Int)))) (m1 : (Nat → Int)) (p0 : Nat) (v0_0 : Value) (S0_0 : GH) (w : World) (hJ0_0 : MJ kI (kA 29) ieq S0_0 v0_0 b0last) (hC : Has w (cat [[(p0, BK 1 (cl [v0_0]) 67)], S0_0])) : Con Try.prog 11 #[.pointer (some ⟨p0, 0, none⟩), AI 28 m1] w (CatG fun v Ls => Cov w (cat [[(p0, BK 1 (cl [v0_0]) 67)], S0_0]) (cat Ls) ∧ ∃ (v0_0' : Value) (S0_0' : GH), v = errV 68 ((bclose_F b0last m1).1) ∧ Ls = [[(p0, BK 1 (cl [v0_0']) 67)], S0_0'] ∧ MJ kI (kA 29) ieq S0_0' v0_0' ((bclose_F b0last m1).2) ∧ Cov w S0_0 S0_0') :=
  bclose_con b0last m1 p0 v0_0 S0_0 w hJ0_0 hC _ (bclose_ok b0last m1)

theorem blast_con (b0last : (List (Int × (Nat → Int)))) (tx1 : Int) (p0 : Nat) (v0_0 : Value) (S0_0 : GH) (w : World) (hJ0_0 : MJ kI (kA 29) ieq S0_0 v0_0 b0last) (hC : Has w (cat [[(p0, BK 1 (cl [v0_0]) 67)], S0_0])) (r : Int × Int) (h : blast_S b0last tx1 r) : Con Try.prog 14 #[.pointer (some ⟨p0, 0, none⟩), .int .i64 tx1] w (CatG fun v Ls => Cov w (cat [[(p0, BK 1 (cl [v0_0]) 67)], S0_0]) (cat Ls) ∧ v = .tuple #[.int .i64 r.1, errV 68 r.2] ∧ Ls = [[(p0, BK 1 (cl [v0_0]) 67)], S0_0]) := by
  unfold blast_S at h
  refine con_enter (n := 25) [(0, _), (1, _)] Try.func14 rfl Try.ntmps14 rfl (lac rfl (lac rfl lan)) ?_
  refine xw_has hC ?_
  refine xw_st ((p0, BK 1 (cl [v0_0]) 67) :: (S0_0 ++ ([]))) (fun _ h => h) ?_
  refine xw_seq (xw_region ?_)
  refine xq rfl trivial (o_as rfl) ?_
  refine xq rfl trivial (o_as rfl) ?_
  refine xo_nil (xq_then (xw_seq (xw_seq (xw_region ?_))))
  refine xq rfl trivial (o_mv rfl) ?_
  refine xq rfl trivial (o_eqn Try.underlying24 rfl rfl rfl rfl) ?_
  refine xo_nil (xq_then (xw_cond_f rfl rfl (xw_skip (xq_then (xw_seq (xw_region ?_))))))
  refine xq rfl trivial (o_mv rfl) ?_
  refine xq rfl trivial (o_nilp rfl) ?_
  first | refine xq rfl trivial (o_fa0 fl67_0 rfl) ?_ | refine xq rfl trivial (o_fa fl67_0 rfl) ?_
  refine xq rfl trivial (o_ld (v := v0_0) rfl ts65 (List.Mem.head _) (by decide) rfl) ?_
  refine xq rfl trivial (o_mv rfl) ?_
  refine xq rfl trivial (o_lkok (z := (fun _ => 0)) (k := tx1) kt3 Try.underlying65 ze70 rfl rfl hJ0_0 (Pull.sub (.thereC _ (.here _ _)))) ?_
  refine xq rfl trivial (o_mv rfl) ?_
  refine xq rfl trivial (o_ext rfl rfl) ?_
  refine xq rfl trivial (o_ext rfl rfl) ?_
  refine xo rfl trivial (o_alloc ze70 rfl) ?_
  rintro _ _ ⟨b6, hb6, rfl, rfl⟩
  refine xq0 trivial (o_stWI rfl rfl ts70 (List.Mem.head _) (.here _ _ _ _)) ?_
  refine xq rfl trivial (o_as rfl) ?_
  refine xo_nil (xq_then (xw_seq (xw_seq (xw_region ?_))))
  refine xq rfl trivial (o_mv rfl) ?_
  refine xq rfl trivial (o_not rfl) ?_
  refine xo_nil (xq_then ?_)
  refine xw_bool 21 rfl (fun hc1 => ?_) (fun hc1 => ?_)
  · have hq1 : ((mhas ieq b0last tx1)) = false := (bnT hc1)
    have hp1 : ¬ (((mhas ieq b0last tx1)) = true) := bne' hq1
    rw [if_neg hp1] at h
    refine xw_cond_t rfl rfl (xw_seq (xw_region ?_))
    refine xq rfl trivial (o_mki rfl Try.underlying68 rfl) ?_
    refine xq rfl trivial (o_as rfl) ?_
    refine xq rfl trivial (o_as rfl) ?_
    refine xo_nil (xq_then (xw_ret (xq_then_ret ?_)))
    subst h
    exact con_ret2 (.inl rfl) Try.results14 rfl rfl (cat [[(p0, BK 1 (cl [v0_0]) 67)], S0_0]) (Kp.st (Kp.new hb6 (Kp.keep (Kp.segKeep Kp.nil)))) (⟨_, rfl, (Cov.cons (Cov.app (A := S0_0) (A' := S0_0) (Cov.refl _) Cov.nil)), rfl, rfl⟩)
  · have hq1 : ((mhas ieq b0last tx1)) = true := (bnF hc1)
    have hp1 : ((mhas ieq b0last tx1)) = true := hq1
    rw [if_pos hp1] at h
    refine xw_cond_f rfl rfl (xw_skip (xq_then (xw_seq (xw_region ?_))))
    first | refine xq rfl trivial (o_fa0 fl70_0 rfl) ?_ | refine xq rfl trivial (o_fa fl70_0 rfl) ?_
    refine xq rfl trivial (o_ldI (v := (mget ieq b0last tx1 (fun _ => 0)) 0) rfl ts3 (List.Mem.head _) (by omega) rfl) ?_
    refine xq rfl trivial (o_as rfl) ?_
    refine xq rfl trivial (o_as rfl) ?_
    refine xo_nil (xq_then (xw_ret ?_))
    subst h
    exact con_ret2 (.inl rfl) Try.results14 rfl rfl (cat [[(p0, BK 1 (cl [v0_0]) 67)], S0_0]) (Kp.st (Kp.new hb6 (Kp.keep (Kp.segKeep Kp.nil)))) (⟨_, rfl, (Cov.cons (Cov.app (A := S0_0) (A' := S0_0) (Cov.refl _) Cov.nil)), rfl, rfl⟩)

theorem blast_c (b0last : (List (Int × (Nat → Int)))) (tx1 : Int) (p0 : Nat) (v0_0 : Value) (S0_0 : GH) (w : World) (hJ0_0 : MJ kI (kA 29) ieq S0_0 v0_0 b0last) (hC : Has w (cat [[(p0, BK 1 (cl [v0_0]) 67)], S0_0])) : Con Try.prog 14 #[.pointer (some ⟨p0, 0, none⟩), .int .i64 tx1] w (CatG fun v Ls => Cov w (cat [[(p0, BK 1 (cl [v0_0]) 67)], S0_0]) (cat Ls) ∧ v = .tuple #[.int .i64 ((blast_F b0last tx1).1), errV 68 ((blast_F b0last tx1).2)] ∧ Ls = [[(p0, BK 1 (cl [v0_0]) 67)], S0_0]) :=
  blast_con b0last tx1 p0 v0_0 S0_0 w hJ0_0 hC _ (blast_ok b0last tx1)

theorem bforget_con (b0last : (List (Int × (Nat → Int)))) (tx1 : Int) (p0 : Nat) (v0_0 : Value) (S0_0 : GH) (w : World) (hJ0_0 : MJ kI (kA 29) ieq S0_0 v0_0 b0last) (hC : Has w (cat [[(p0, BK 1 (cl [v0_0]) 67)], S0_0])) (r : Int × (List (Int × (Nat → Int)))) (h : bforget_S b0last tx1 r) : Con Try.prog 13 #[.pointer (some ⟨p0, 0, none⟩), .int .i64 tx1] w (CatG fun v Ls => Cov w (cat [[(p0, BK 1 (cl [v0_0]) 67)], S0_0]) (cat Ls) ∧ ∃ (v0_0' : Value) (S0_0' : GH), v = errV 68 r.1 ∧ Ls = [[(p0, BK 1 (cl [v0_0']) 67)], S0_0'] ∧ MJ kI (kA 29) ieq S0_0' v0_0' r.2 ∧ Cov w S0_0 S0_0') := by
  unfold bforget_S at h
  refine con_enter (n := 21) [(0, _), (1, _)] Try.func13 rfl Try.ntmps13 rfl (lac rfl (lac rfl lan)) ?_
  refine xw_has hC ?_
  refine xw_st ((p0, BK 1 (cl [v0_0]) 67) :: (S0_0 ++ ([]))) (fun _ h => h) ?_
  refine xw_seq (xw_region ?_)
  refine xq rfl trivial (o_as rfl) ?_
  refine xo_nil (xq_then (xw_seq (xw_seq (xw_region ?_))))
  refine xq rfl trivial (o_mv rfl) ?_
  refine xq rfl trivial (o_mv rfl) ?_
  refine xo rfl trivial (OT.st (fun _ h => h) (ot_callF (Cs := [[(p0, _)], S0_0]) (Rs := []) kf14 rfl (fun w1 hw1 => blast_c _ _ _ _ _ w1 hJ0_0 (St.hasC hw1)) (fun _ _ _ h => h.1))) ?_
  rintro _ _ ⟨w1, _, rfl, hle, -, rfl, rfl⟩
  refine xo_st ((p0, BK 1 (cl [v0_0]) 67) :: (S0_0 ++ ([]))) (fun _ h => h) ?_
  refine xq rfl trivial (o_mv rfl) ?_
  refine xq rfl trivial (o_ext rfl rfl) ?_
  refine xq rfl trivial (o_ext rfl rfl) ?_
  refine xq rfl trivial (o_as rfl) ?_
  refine xq rfl trivial (o_as rfl) ?_
  refine xo_nil (xq_then (xw_seq (xw_region ?_)))
  refine xq rfl trivial (o_mv rfl) ?_
  refine xq rfl trivial (o_neE Try.underlying36 rfl (fun _ => rfl) rfl rfl) ?_
  refine xo_nil (xq_then ?_)
  refine xw_bool 14 rfl (fun hc3 => ?_) (fun hc3 => ?_)
  · have hq3 : (decide ((blast_F b0last tx1).2 = 0)) = false := (bnT hc3)
    have hp3 : ¬ ((blast_F b0last tx1).2 = 0) := of_decide_eq_false hq3
    rw [if_neg hp3] at h
    refine xw_cond_t rfl rfl (xw_seq (xw_region ?_))
    refine xq rfl trivial (o_mv rfl) ?_
    refine xq rfl trivial (o_as rfl) ?_
    refine xo_nil (xq_then (xw_ret (xq_then_ret ?_)))
    subst h
    exact con_ret1 (.inl rfl) Try.results13 rfl (cat [[(p0, BK 1 (cl [v0_0]) 67)], S0_0]) (fun _ h => h) (⟨_, rfl, (Cov.cons (Cov.app (A := S0_0) (A' := S0_0) (Cov.refl _) Cov.nil)), v0_0, S0_0, rfl, rfl, hJ0_0, (Cov.refl _)⟩)
  · have hq3 : (decide ((blast_F b0last tx1).2 = 0)) = true := (bnF hc3)
    have hp3 : (blast_F b0last tx1).2 = 0 := of_decide_eq_true hq3
    rw [if_pos hp3] at h
    refine xw_cond_f rfl rfl (xw_skip (xq_then (xw_seq (xw_region ?_))))
    refine xq rfl trivial (o_mv rfl) ?_
    refine xq rfl trivial (o_nilp rfl) ?_
    first | refine xq rfl trivial (o_fa0 fl67_0 rfl) ?_ | refine xq rfl trivial (o_fa fl67_0 rfl) ?_
    refine xq rfl trivial (o_ld (v := v0_0) rfl ts65 (List.Mem.head _) (by decide) rfl) ?_
    refine xq rfl trivial (o_mv rfl) ?_
    refine xo0 trivial (OT.st (fun _ h => Pull.st (.thereC _ (.here _ _)) h) (o_mdel (k := tx1) kt3 Try.underlying65 rfl rfl hJ0_0)) ?_
    rintro _ _ ⟨Bs4, rfl, hns4, hJs4, -⟩
    have hcBs4 := Cov.trans (Cov.refl _) hns4
    refine xo_st ((p0, BK 1 (cl [v0_0]) 67) :: (Bs4 ++ ([]))) (fun _ h => Pull.push (.thereC _ (.here _ _)) h) ?_
    refine xo_nil (xq_then (xw_seq (xw_region ?_)))
    refine xq rfl trivial (o_as rfl) ?_
    refine xo_nil (xq_then (xw_ret ?_))
    subst h
    exact con_ret1 (.inl rfl) Try.results13 rfl (cat [[(p0, BK 1 (cl [v0_0]) 67)], Bs4]) (fun _ h => h) (⟨_, rfl, (Cov.cons (Cov.app (A := S0_0) (A' := Bs4) hcBs4 Cov.nil)), v0_0, Bs4, rfl, rfl, hJs4, hcBs4⟩)

theorem bforget_c (b0last : (List (Int × (Nat → Int)))) (tx1 : Int) (p0 : Nat) (v0_0 : Value) (S0_0 : GH) (w : World) (hJ0_0 : MJ kI (kA 29) ieq S0_0 v0_0 b0last) (hC : Has w (cat [[(p0, BK 1 (cl [v0_0]) 67)], S0_0])) : Con Try.prog 13 #[.pointer (some ⟨p0, 0, none⟩), .int .i64 tx1] w (CatG fun v Ls => Cov w (cat [[(p0, BK 1 (cl [v0_0]) 67)], S0_0]) (cat Ls) ∧ ∃ (v0_0' : Value) (S0_0' : GH), v = errV 68 ((bforget_F b0last tx1).1) ∧ Ls = [[(p0, BK 1 (cl [v0_0']) 67)], S0_0'] ∧ MJ kI (kA 29) ieq S0_0' v0_0' ((bforget_F b0last tx1).2) ∧ Cov w S0_0 S0_0') :=
  bforget_con b0last tx1 p0 v0_0 S0_0 w hJ0_0 hC _ (bforget_ok b0last tx1)

theorem answer_con (tx0 : Int) (seq1 : Int) (w : World) (r : (Nat → Int)) (h : answer_S tx0 seq1 r) : Con Try.prog 12 #[.int .i64 tx0, .int .i64 seq1] w (Is (AI 28 r) []) := by
  unfold answer_S at h
  refine con_enter (n := 8) [(0, _), (1, _)] Try.func12 rfl Try.ntmps12 rfl (lac rfl (lac rfl lan)) ?_
  refine xw_seq (xw_region ?_)
  refine xo rfl trivial (o_alloc ze34 rfl) ?_
  rintro _ _ ⟨b4, hb4, rfl, rfl⟩
  refine xo_nil (xq_then (xw_seq (xw_region ?_)))
  refine xq rfl trivial (o_mv rfl) ?_
  refine xq rfl trivial (o_mv rfl) ?_
  refine xq rfl trivial (o_build fk34 ze34 (.int fl34_0 rfl rfl (.int fl34_1 rfl rfl (.int fl34_3 rfl rfl (.int fl34_4 rfl rfl (.int fl34_7 rfl rfl (.nil _))))))) ?_
  refine xq0 trivial (o_stWI rfl rfl ts34 (List.Mem.head _) (.here _ _ _ _)) ?_
  refine xo_nil (xq_then (xw_ret ?_))
  subst h
  exact con_retN (.inl rfl) (l := [.cell 4 34]) Try.results12 (.cell rfl ts34 (List.Mem.head _) .nil) rfl [] (Kp.st (Kp.new hb4 Kp.nil)) (⟨rfl, rfl⟩)

theorem answer_c (tx0 : Int) (seq1 : Int) (w : World) : Con Try.prog 12 #[.int .i64 tx0, .int .i64 seq1] w (Is (AI 28 (answer_F tx0 seq1)) []) :=
  answer_con tx0 seq1 w _ (answer_ok tx0 seq1)

end Go.Proofs.Ytndkjhaiopcpeaa
