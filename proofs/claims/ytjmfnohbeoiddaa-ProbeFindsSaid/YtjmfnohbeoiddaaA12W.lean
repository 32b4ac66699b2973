/- The code answers as the relations say. -/
import Derived.Test.YtjmfnohbeoiddaaTab
import Derived.Test.YtjmfnohbeoiddaaA12S
import Derived.Test.YtjmfnohbeoiddaaMBW
import Derived.Test.YtjmfnohbeoiddaaMCW
set_option maxHeartbeats 1000000
set_option linter.unusedVariables false
set_option linter.unusedSimpArgs false
set_option maxRecDepth 100000
namespace Go.Proofs.Ytjmfnohbeoiddaa
open Go Go.E

theorem code_c (e0 : Int) (w : World) : Con Try.prog 17 #[errV 63 e0] w (Is (.int .i64 (code_F e0)) []) :=
  code_con e0 w _ (code_ok e0)

theorem isP_con (m0 : (Nat → Int)) (w : World) (r : Bool) (h : isP_S m0 r) : Con Try.prog 25 #[AI 28 m0] w (Is (.bool r) []) := by
  unfold isP_S at h
  refine con_enter (n := 11) [(0, _)] Try.func25 rfl Try.ntmps25 rfl (lac rfl lan) ?_
  refine xw_seq (xw_region ?_)
  refine xo rfl trivial (o_boxA rfl) ?_
  rintro _ _ ⟨b1, hb1, rfl, rfl⟩
  refine xq rfl trivial (o_as rfl) ?_
  refine xo_nil (xq_then (xw_seq ?_))
  refine xw_cut [] ln [(2, .bool ((decide (m0 0 = 11)) && (decide ((msgOk_F m0) = 0))))] ?_ ?_
  · refine xw_region ?_
    first | refine xq rfl trivial (o_fa0 fl29_0 rfl) ?_ | refine xq rfl trivial (o_fa fl29_0 rfl) ?_
    refine xq rfl trivial (o_ldI (v := m0 0) rfl ts3 (List.Mem.head _) (by omega) rfl) ?_
    refine xq rfl trivial (o_eql rfl rfl) ?_
    refine xq rfl trivial (o_mv rfl) ?_
    refine xo_bool 6 rfl (fun hg1 => ?_) (fun hg1 => ?_)
    · have hq1 : (decide (m0 0 = 11)) = true := hg1
      have hp1 : m0 0 = 11 := of_decide_eq_true hq1
      refine xq rfl ⟨_, rfl, rfl⟩ (o_ldW rfl ts29 (List.Mem.head _)) ?_
      refine xcallq rfl ⟨_, rfl, rfl⟩ kf38 rfl (fun w1 hw1 => msgOk_c _ w1) ?_
      refine xq rfl ⟨_, rfl, rfl⟩ (o_eqE Try.underlying34 rfl (fun _ => rfl) rfl rfl) ?_
      refine xq rfl trivial (o_pick_t rfl rfl) ?_
      refine xq rfl trivial (o_as rfl) ?_
      refine xo_nil ?_
      exact xq_cut ((lce rfl (by first | rfl | (simp only [hq1, if_pos hp1, bS]; done) | (simp only [hq1, if_pos hp1, bS, reduceIte, Bool.false_eq_true]; done) | (simp [hp1]; done) | (simp_all; done)) ln)) (fun _ h => h)
    · have hq1 : (decide (m0 0 = 11)) = false := hg1
      have hp1 : ¬ (m0 0 = 11) := of_decide_eq_false hq1
      refine xs rfl ⟨_, _, rfl, rfl, rfl⟩ (xs rfl ⟨_, _, rfl, rfl, rfl⟩ (xs rfl ⟨_, _, rfl, rfl, rfl⟩ ?_))
      refine xq rfl trivial (o_pick_f rfl rfl) ?_
      refine xq rfl trivial (o_as rfl) ?_
      refine xo_nil ?_
      exact xq_cut ((lce rfl (by first | rfl | (simp only [hq1, if_neg hp1, bS]; done) | (simp only [hq1, if_neg hp1, bS, reduceIte, Bool.false_eq_true]; done) | (simp [hp1]; done) | (simp_all; done)) ln)) (fun _ h => h)
  · refine xq_then (xw_ret ?_)
    subst h
    exact con_ret1 (.inl rfl) Try.results25 rfl [] (Kp.st (Kp.new hb1 Kp.nil)) (⟨rfl, rfl⟩)

theorem isP_c (m0 : (Nat → Int)) (w : World) : Con Try.prog 25 #[AI 28 m0] w (Is (.bool (isP_F m0)) []) :=
  isP_con m0 w _ (isP_ok m0)

theorem onward_con (shard0 : Int) (m1 : (Nat → Int)) (w : World) (r : (Nat → Int) × Int) (h : onward_S shard0 m1 r) : Con Try.prog 9 #[.int .i64 shard0, AI 28 m1] w (Is (.tuple #[AI 28 r.1, errV 63 r.2]) []) := by
  unfold onward_S at h
  refine con_enter (n := 20) [(0, _), (1, _)] Try.func9 rfl Try.ntmps9 rfl (lac rfl (lac rfl lan)) ?_
  refine xw_seq (xw_region ?_)
  refine xo rfl trivial (o_boxA rfl) ?_
  rintro _ _ ⟨b3, hb3, rfl, rfl⟩
  refine xo rfl trivial (o_alloc ze29 rfl) ?_
  rintro _ _ ⟨b4, hb4, rfl, rfl⟩
  refine xq rfl trivial (o_as rfl) ?_
  refine xo_nil (xq_then (xw_seq (xw_seq (xw_region ?_))))
  refine xq rfl trivial (o_ldW rfl ts29 (List.Mem.tail _ (List.Mem.head _))) ?_
  refine xcallq rfl trivial kf25 rfl (fun w1 hw1 => isP_c _ w1) ?_
  refine xq rfl trivial (o_not rfl) ?_
  refine xo_nil (xq_then ?_)
  refine xw_bool 8 rfl (fun hc1 => ?_) (fun hc1 => ?_)
  · have hq1 : ((isP_F m1)) = false := (bnT hc1)
    have hp1 : ¬ (((isP_F m1)) = true) := bne' hq1
    rw [if_neg hp1] at h
    refine xw_cond_t rfl rfl (xw_seq (xw_region ?_))
    refine xq rfl trivial (o_build fk29 ze29 (.nil _)) ?_
    refine xq rfl trivial (o_mki rfl Try.underlying63 rfl) ?_
    refine xq0 trivial (o_stWI rfl rfl ts29 (List.Mem.head _) (.here _ _ _ _)) ?_
    refine xq rfl trivial (o_as rfl) ?_
    refine xo_nil (xq_then (xw_ret (xq_then_ret ?_)))
    subst h
    exact con_retN (.inl rfl) (l := [.cell 4 29, .tmp 5]) Try.results9 (.cell rfl ts29 (List.Mem.head _) (.tmp rfl .nil)) rfl [] (Kp.st (Kp.new hb4 (Kp.new hb3 Kp.nil))) (⟨rfl, rfl⟩)
  · have hq1 : ((isP_F m1)) = true := (bnF hc1)
    have hp1 : ((isP_F m1)) = true := hq1
    rw [if_pos hp1] at h
    refine xw_cond_f rfl rfl (xw_skip (xq_then (xw_seq (xw_region ?_))))
    refine xq rfl trivial (o_mv rfl) ?_
    first | refine xq rfl trivial (o_fa0 fl29_1 rfl) ?_ | refine xq rfl trivial (o_fa fl29_1 rfl) ?_
    refine xq0 trivial (o_stI rfl rfl ts3 (List.Mem.tail _ (List.Mem.head _)) (by omega) (.there _ _ _ _ _ (.here _ _ _ _))) ?_
    first | refine xq rfl trivial (o_fa0 fl29_2 rfl) ?_ | refine xq rfl trivial (o_fa fl29_2 rfl) ?_
    refine xq0 trivial (o_stI rfl rfl ts3 (List.Mem.tail _ (List.Mem.head _)) (by omega) (.there _ _ _ _ _ (.here _ _ _ _))) ?_
    refine xo_nil (xq_then (xw_seq (xw_seq (xw_region ?_))))
    refine xq rfl trivial (o_ldW rfl ts29 (List.Mem.tail _ (List.Mem.head _))) ?_
    refine xcallq rfl trivial kf25 rfl (fun w1 hw1 => isP_c _ w1) ?_
    refine xq rfl trivial (o_not rfl) ?_
    refine xo_nil (xq_then ?_)
    refine xw_bool 16 rfl (fun hc2 => ?_) (fun hc2 => ?_)
    · have hq2 : ((isP_F (updI (updI m1 1 0) 2 shard0))) = false := (bnT hc2)
      have hp2 : ¬ (((isP_F (updI (updI m1 1 0) 2 shard0))) = true) := bne' hq2
      rw [if_neg hp2] at h
      refine xw_cond_t rfl rfl (xw_seq (xw_region ?_))
      refine xq rfl trivial (o_build fk29 ze29 (.nil _)) ?_
      refine xq rfl trivial (o_mki rfl Try.underlying63 rfl) ?_
      refine xq0 trivial (o_stWI rfl rfl ts29 (List.Mem.head _) (.here _ _ _ _)) ?_
      refine xq rfl trivial (o_as rfl) ?_
      refine xo_nil (xq_then (xw_ret (xq_then_ret ?_)))
      subst h
      exact con_retN (.inl rfl) (l := [.cell 4 29, .tmp 5]) Try.results9 (.cell rfl ts29 (List.Mem.head _) (.tmp rfl .nil)) rfl [] (Kp.st (Kp.new hb4 (Kp.new hb3 Kp.nil))) (⟨rfl, rfl⟩)
    · have hq2 : ((isP_F (updI (updI m1 1 0) 2 shard0))) = true := (bnF hc2)
      have hp2 : ((isP_F (updI (updI m1 1 0) 2 shard0))) = true := hq2
      rw [if_pos hp2] at h
      refine xw_cond_f rfl rfl (xw_skip (xq_then (xw_seq (xw_region ?_))))
      refine xq rfl trivial (o_ldW rfl ts29 (List.Mem.tail _ (List.Mem.head _))) ?_
      refine xq0 trivial (o_stWI rfl rfl ts29 (List.Mem.head _) (.here _ _ _ _)) ?_
      refine xq rfl trivial (o_as rfl) ?_
      refine xo_nil (xq_then (xw_ret ?_))
      subst h
      exact con_retN (.inl rfl) (l := [.cell 4 29, .tmp 5]) Try.results9 (.cell rfl ts29 (List.Mem.head _) (.tmp rfl .nil)) rfl [] (Kp.st (Kp.new hb4 (Kp.new hb3 Kp.nil))) (⟨rfl, rfl⟩)

theorem onward_c (shard0 : Int) (m1 : (Nat → Int)) (w : World) : Con Try.prog 9 #[.int .i64 shard0, AI 28 m1] w (Is (.tuple #[AI 28 ((onward_F shard0 m1).1), errV 63 ((onward_F shard0 m1).2)]) []) :=
  onward_con shard0 m1 w _ (onward_ok shard0 m1)

theorem victim_con (m0 : (Nat → Int)) (w : World) (r : Int × Int) (h : victim_S m0 r) : Con Try.prog 10 #[AI 28 m0] w (Is (.tuple #[.int .i64 r.1, errV 63 r.2]) []) := by
  unfold victim_S at h
  refine con_enter (n := 24) [(0, _)] Try.func10 rfl Try.ntmps10 rfl (lac rfl lan) ?_
  refine xw_seq (xw_region ?_)
  refine xo rfl trivial (o_boxA rfl) ?_
  rintro _ _ ⟨b1, hb1, rfl, rfl⟩
  refine xq rfl trivial (o_as rfl) ?_
  refine xq rfl trivial (o_as rfl) ?_
  refine xo_nil (xq_then (xw_seq (xw_seq (xw_region ?_))))
  refine xq rfl trivial (o_ldW rfl ts29 (List.Mem.head _)) ?_
  refine xcallq rfl trivial kf25 rfl (fun w1 hw1 => isP_c _ w1) ?_
  refine xq rfl trivial (o_not rfl) ?_
  refine xo_nil (xq_then ?_)
  refine xw_bool 9 rfl (fun hc1 => ?_) (fun hc1 => ?_)
  · have hq1 : ((isP_F m0)) = false := (bnT hc1)
    have hp1 : ¬ (((isP_F m0)) = true) := bne' hq1
    rw [if_neg hp1] at h
    refine xw_cond_t rfl rfl (xw_seq (xw_region ?_))
    refine xq rfl trivial (o_mki rfl Try.underlying63 rfl) ?_
    refine xq rfl trivial (o_as rfl) ?_
    refine xq rfl trivial (o_as rfl) ?_
    refine xo_nil (xq_then (xw_ret (xq_then_ret ?_)))
    subst h
    exact con_ret2 (.inl rfl) Try.results10 rfl rfl [] (Kp.st (Kp.new hb1 Kp.nil)) (⟨rfl, rfl⟩)
  · have hq1 : ((isP_F m0)) = true := (bnF hc1)
    have hp1 : ((isP_F m0)) = true := hq1
    rw [if_pos hp1] at h
    refine xw_cond_f rfl rfl (xw_skip (xq_then (xw_seq (xw_region ?_))))
    refine xq rfl trivial (o_as rfl) ?_
    refine xo_nil (xq_then (xw_seq (xw_seq (xw_region ?_))))
    refine xq rfl trivial (o_ldW rfl ts29 (List.Mem.head _)) ?_
    refine xoR rfl trivial (ot_in (l := [(0, _)]) kf26 rfl Try.func26 rfl Try.ntmps26 rfl (lac rfl lan) ?_)
    refine xw_seq (xw_region ?_)
    refine xo rfl trivial (o_boxA rfl) ?_
    rintro _ _ ⟨b1a, hb1a, rfl, rfl⟩
    refine xq rfl trivial (o_as rfl) ?_
    refine xo_nil (xq_then (xw_seq (xw_region ?_)))
    first | refine xq rfl trivial (o_fa0 fl29_11 rfl) ?_ | refine xq rfl trivial (o_fa fl29_11 rfl) ?_
    first | refine xq rfl trivial (o_fa0 fl29_10 rfl) ?_ | refine xq rfl trivial (o_fa fl29_10 rfl) ?_
    refine xq rfl trivial (o_ldI (v := m0 11) rfl ts3 (List.Mem.head _) (by omega) rfl) ?_
    obtain ⟨ho2, h⟩ := h
    refine xq rfl trivial (o_slA (h := (m0 11).toNat) ea27 rfl rfl (Int.toNat_of_nonneg ho2.1).symm (by omega)) ?_
    refine xq rfl trivial (o_as rfl) ?_
    refine xo_nil (xq_then (xw_ret ?_))
    refine con_ret1 (.inl rfl) Try.results26 rfl _ (fun _ h => h) (?_)
    refine xq rfl trivial (o_len rfl Try.underlying31 rfl) ?_
    refine xq rfl trivial (o_mv rfl) ?_
    refine xo_nil (xq_then ?_)
    refine xw_block ?_
    obtain ⟨n4, hx1, h⟩ := h
    refine xw_wh (fun s e H => match s with | (n4, x14) => e = [(4, .int .i64 n4), (12, .slice (some ⟨b1a, 12, none⟩) ((m0 11).toNat) 8), (13, .int .i64 ((m0 11).toNat : Int)), (14, .int .i64 x14)] ∧ H = (b1a, BK 28 (iv m0) 29) :: ([])) (fun (n4 : Int) ex e H => ex = .exit 0 ∧ e = [(4, .int .i64 n4)] ∧ H = (b1a, BK 28 (iv m0) 29) :: ([])) hx1 ⟨[(4, .int .i64 0), (12, .slice (some ⟨b1a, 12, none⟩) ((m0 11).toNat) 8), (13, .int .i64 ((m0 11).toNat : Int)), (14, .int .i64 0)], (b1a, BK 28 (iv m0) 29) :: ([]), (lc rfl (lc rfl (lc rfl (lc rfl ln)))), Kp.st (Kp.keep (Kp.new hb1 Kp.nil)), ⟨rfl, rfl⟩⟩ ?_ ?_
    · rintro ⟨n4, x14⟩ o _ _ ⟨rfl, rfl⟩ hb
      have h : victim_l1 m0 n4 x14 o := hb
      clear hb
      unfold victim_l1 at h
      refine xw_seq (xw_region ?_)
      refine xq rfl trivial (o_lss rfl rfl) ?_
      refine xo_nil (xq_then (xw_seq ?_))
      refine xw_bool 15 rfl (fun hc3 => ?_) (fun hc3 => ?_)
      · have hq3 : (decide (x14 < ((m0 11).toNat : Int))) = true := hc3
        have hp3 : x14 < ((m0 11).toNat : Int) := of_decide_eq_true hq3
        rw [if_pos hp3] at h
        refine xw_cond_t rfl rfl (xw_skip (xq_then (xw_seq ?_)))
        refine xw_block ?_
        refine xw_seq (xw_region ?_)
        obtain ⟨ho4, h⟩ := h
        refine xq rfl trivial (o_ixs el31 rfl rfl ho4 rfl) ?_
        refine xq rfl trivial (o_ldSI rfl ts26 (List.Mem.head _) (by have := ho2; have := ho4; omega) (fun _ _ => rfl)) ?_
        refine xo rfl trivial (o_alloc ze26 rfl) ?_
        rintro _ _ ⟨b6, hb6, rfl, rfl⟩
        refine xq0 trivial (o_stWI rfl rfl ts26 (List.Mem.head _) (.here _ _ _ _)) ?_
        refine xo_nil (xq_then (xw_region ?_))
        refine xq rfl trivial (o_mv rfl) ?_
        first | refine xq rfl trivial (o_fa0 fl26_0 rfl) ?_ | refine xq rfl trivial (o_fa fl26_0 rfl) ?_
        refine xq rfl trivial (o_ldI (v := m0 (12 + (x14.toNat * 2))) rfl ts3 (List.Mem.head _) (by omega) rfl) ?_
        refine xq rfl trivial (o_max2 rfl) ?_
        refine xq rfl trivial (o_as rfl) ?_
        refine xo_nil ?_
        refine xq_blk 1 ?_
        refine xq_then (xw_region ?_)
        obtain ⟨ho5, h⟩ := h
        refine xq rfl trivial (o_add rfl rfl rfl ho5) ?_
        refine xq rfl trivial (o_mv rfl) ?_
        refine xo_nil ?_
        exact xq_next (s' := (((if n4 < (m0 (12 + (x14.toNat * 2))) then (m0 (12 + (x14.toNat * 2))) else n4), x14 + 1) : Int × Int)) (e' := [(4, .int .i64 (if n4 < (m0 (12 + (x14.toNat * 2))) then (m0 (12 + (x14.toNat * 2))) else n4)), (12, .slice (some ⟨b1a, 12, none⟩) ((m0 11).toNat) 8), (13, .int .i64 ((m0 11).toNat : Int)), (14, .int .i64 (x14 + 1))]) ((b1a, BK 28 (iv m0) 29) :: ([])) (lc rfl (lc rfl (lc rfl (lc rfl ln)))) (Kp.st (Kp.new hb6 (Kp.keep Kp.nil))) h ⟨rfl, rfl⟩
      · have hq3 : (decide (x14 < ((m0 11).toNat : Int))) = false := hc3
        have hp3 : ¬ (x14 < ((m0 11).toNat : Int)) := of_decide_eq_false hq3
        rw [if_neg hp3] at h
        refine xw_cond_f rfl rfl (xw_exit (xq_then_exit ?_))
        exact xq_out (r := (n4 : Int)) (e' := [(4, .int .i64 n4)]) ((b1a, BK 28 (iv m0) 29) :: ([])) (lc rfl ln) (fun _ h => h) h (by intro hh; cases hh) ⟨rfl, rfl, rfl⟩
    · rintro _ _ _ ⟨rfl, rfl, rfl⟩
      replace h : victim_k1a n4 r := h
      unfold victim_k1a at h
      refine xq_blk_eq ?_
      refine xq_then (xw_seq (xw_region ?_))
      refine xq rfl trivial (o_mv rfl) ?_
      refine xq rfl trivial (o_as rfl) ?_
      refine xq rfl trivial (o_as rfl) ?_
      refine xo_nil (xq_then (xw_ret ?_))
      subst h
      exact con_ret2 (.inl rfl) Try.results10 rfl rfl [] (Kp.st (Kp.new hb1a Kp.nil)) (⟨rfl, rfl⟩)

theorem back_con (m0 : (Nat → Int)) (w : World) (r : Bool) (h : back_S m0 r) : Con Try.prog 11 #[AI 28 m0] w (Is (.bool r) []) := by
  unfold back_S at h
  refine con_enter (n := 25) [(0, _)] Try.func11 rfl Try.ntmps11 rfl (lac rfl lan) ?_
  refine xw_seq (xw_region ?_)
  refine xo rfl trivial (o_boxA rfl) ?_
  rintro _ _ ⟨b1, hb1, rfl, rfl⟩
  refine xq rfl trivial (o_as rfl) ?_
  refine xo_nil (xq_then (xw_seq (xw_seq ?_)))
  refine xw_cut [(1, _)] (lc rfl ln) [(14, .bool ((!((isP_F m0))) || (!(decide (m0 9 = m0 12)))))] ?_ ?_
  · refine xw_region ?_
    refine xq rfl trivial (o_ldW rfl ts29 (List.Mem.head _)) ?_
    refine xcallq rfl trivial kf25 rfl (fun w1 hw1 => isP_c _ w1) ?_
    refine xq rfl trivial (o_not rfl) ?_
    refine xq rfl trivial (o_mv rfl) ?_
    refine xo_bool 6 rfl (fun hg1 => ?_) (fun hg1 => ?_)
    · have hq1 : ((isP_F m0)) = false := (bnT hg1)
      have hp1 : ¬ (((isP_F m0)) = true) := bne' hq1
      refine xs rfl ⟨_, _, rfl, rfl, rfl⟩ (xs rfl ⟨_, _, rfl, rfl, rfl⟩ (xs rfl ⟨_, _, rfl, rfl, rfl⟩ (xs rfl ⟨_, _, rfl, rfl, rfl⟩ (xs rfl ⟨_, _, rfl, rfl, rfl⟩ (xs rfl ⟨_, _, rfl, rfl, rfl⟩ (xs rfl ⟨_, _, rfl, rfl, rfl⟩ ?_))))))
      refine xq rfl trivial (o_pick_t rfl rfl) ?_
      refine xo_nil ?_
      exact xq_cut ((lce rfl (by first | rfl | (simp only [hq1, if_neg hp1, bS]; done) | (simp only [hq1, if_neg hp1, bS, reduceIte, Bool.false_eq_true]; done) | (simp [hp1]; done) | (simp_all; done)) (lc rfl ln))) (fun _ h => h)
    · have hq1 : ((isP_F m0)) = true := (bnF hg1)
      have hp1 : ((isP_F m0)) = true := hq1
      first | refine xq rfl ⟨_, rfl, rfl⟩ (o_fa0 fl29_8 rfl) ?_ | refine xq rfl ⟨_, rfl, rfl⟩ (o_fa fl29_8 rfl) ?_
      refine xq rfl ⟨_, rfl, rfl⟩ (o_ldI (v := m0 9) rfl ts3 (List.Mem.head _) (by omega) rfl) ?_
      first | refine xq rfl ⟨_, rfl, rfl⟩ (o_fa0 fl29_11 rfl) ?_ | refine xq rfl ⟨_, rfl, rfl⟩ (o_fa fl29_11 rfl) ?_
      refine xq rfl ⟨_, rfl, rfl⟩ (o_ixa (j := 0) ea27 rfl rfl ⟨by omega, by omega⟩ rfl) ?_
      first | refine xq rfl ⟨_, rfl, rfl⟩ (o_fa0 fl26_0 rfl) ?_ | refine xq rfl ⟨_, rfl, rfl⟩ (o_fa fl26_0 rfl) ?_
      refine xq rfl ⟨_, rfl, rfl⟩ (o_ldI (v := m0 12) rfl ts3 (List.Mem.head _) (by omega) rfl) ?_
      refine xq rfl ⟨_, rfl, rfl⟩ (o_neq rfl rfl) ?_
      refine xq rfl trivial (o_pick_f rfl rfl) ?_
      refine xo_nil ?_
      exact xq_cut ((lce rfl (by first | rfl | (simp only [hq1, if_pos hp1, bS]; done) | (simp only [hq1, if_pos hp1, bS, reduceIte, Bool.false_eq_true]; done) | (simp [hp1]; done) | (simp_all; done)) (lc rfl ln))) (fun _ h => h)
  · refine xq_then ?_
    refine xw_bool 14 rfl (fun hc2 => ?_) (fun hc2 => ?_)
    · have hq2 : ((!((isP_F m0))) || (!(decide (m0 9 = m0 12)))) = true := hc2
      have hp2 : ((!((isP_F m0))) || (!(decide (m0 9 = m0 12)))) = true := hq2
      rw [if_pos hp2] at h
      refine xw_cond_t rfl rfl (xw_seq (xw_region ?_))
      refine xq rfl trivial (o_as rfl) ?_
      refine xo_nil (xq_then (xw_ret (xq_then_ret ?_)))
      subst h
      exact con_ret1 (.inl rfl) Try.results11 rfl [] (Kp.st (Kp.new hb1 Kp.nil)) (⟨rfl, rfl⟩)
    · have hq2 : ((!((isP_F m0))) || (!(decide (m0 9 = m0 12)))) = false := hc2
      have hp2 : ¬ (((!((isP_F m0))) || (!(decide (m0 9 = m0 12)))) = true) := bne' hq2
      rw [if_neg hp2] at h
      refine xw_cond_f rfl rfl (xw_skip (xq_then (xw_seq (xw_seq (xw_region ?_)))))
      first | refine xq rfl trivial (o_fa0 fl29_9 rfl) ?_ | refine xq rfl trivial (o_fa fl29_9 rfl) ?_
      refine xq rfl trivial (o_ldI (v := m0 10) rfl ts3 (List.Mem.head _) (by omega) rfl) ?_
      refine xo_nil (xq_then ?_)
      refine xw_block ?_
      refine xw_seq ?_
      refine xw_block ?_
      refine xw_block ?_
      refine xw_seq (xw_seq (xw_seq (xw_region ?_)))
      refine xq rfl trivial (o_eql rfl rfl) ?_
      refine xq rfl trivial (o_as rfl) ?_
      refine xo_nil (xq_then ?_)
      refine xw_bool 17 rfl (fun hc3 => ?_) (fun hc3 => ?_)
      · have hq3 : (decide (m0 10 = 0)) = true := hc3
        have hp3 : m0 10 = 0 := of_decide_eq_true hq3
        rw [if_pos hp3] at h
        refine xw_cond_t rfl rfl (xw_exit (xq_then_exit (xq_then_exit ?_)))
        refine xq_blk_eq ?_
        refine xq_blk 2 ?_
        refine xq_then (xw_seq (xw_seq (xw_region ?_)))
        refine xq rfl trivial (o_as rfl) ?_
        refine xo_nil (xq_then (xw_ret (xq_then_ret (xq_blk_ret (xq_then_ret ?_)))))
        subst h
        exact con_ret1 (.inl rfl) Try.results11 rfl [] (Kp.st (Kp.new hb1 Kp.nil)) (⟨rfl, rfl⟩)
      · have hq3 : (decide (m0 10 = 0)) = false := hc3
        have hp3 : ¬ (m0 10 = 0) := of_decide_eq_false hq3
        rw [if_neg hp3] at h
        refine xw_cond_f rfl rfl (xw_skip (xq_then (xw_seq (xw_region ?_))))
        first | refine xq rfl trivial (o_fa0 fl29_11 rfl) ?_ | refine xq rfl trivial (o_fa fl29_11 rfl) ?_
        refine xq rfl trivial (o_ixa (j := 0) ea27 rfl rfl ⟨by omega, by omega⟩ rfl) ?_
        first | refine xq rfl trivial (o_fa0 fl26_1 rfl) ?_ | refine xq rfl trivial (o_fa fl26_1 rfl) ?_
        refine xq rfl trivial (o_ldI (v := m0 13) rfl ts3 (List.Mem.head _) (by omega) rfl) ?_
        refine xq rfl trivial (o_eql rfl rfl) ?_
        refine xq rfl trivial (o_as rfl) ?_
        refine xo_nil (xq_then ?_)
        refine xw_bool 19 rfl (fun hc4 => ?_) (fun hc4 => ?_)
        · have hq4 : (decide (m0 10 = m0 13)) = true := hc4
          have hp4 : m0 10 = m0 13 := of_decide_eq_true hq4
          rw [if_pos hp4] at h
          refine xw_cond_t rfl rfl (xw_exit (xq_then_exit (xq_blk_ne rfl ?_)))
          refine xq_blk_eq ?_
          refine xq_then (xw_seq (xw_seq (xw_region ?_)))
          refine xq rfl trivial (o_as rfl) ?_
          refine xo_nil (xq_then (xw_ret (xq_then_ret (xq_blk_ret (xq_then_ret ?_)))))
          subst h
          exact con_ret1 (.inl rfl) Try.results11 rfl [] (Kp.st (Kp.new hb1 Kp.nil)) (⟨rfl, rfl⟩)
        · have hq4 : (decide (m0 10 = m0 13)) = false := hc4
          have hp4 : ¬ (m0 10 = m0 13) := of_decide_eq_false hq4
          rw [if_neg hp4] at h
          refine xw_cond_f rfl rfl (xw_skip (xq_then (xw_exit (xq_blk_ne rfl (xq_blk_ne rfl (xq_then_exit ?_))))))
          refine xq_blk_eq ?_
          refine xq_then (xw_seq (xw_region ?_))
          refine xq rfl trivial (o_as rfl) ?_
          refine xo_nil (xq_then (xw_ret ?_))
          subst h
          exact con_ret1 (.inl rfl) Try.results11 rfl [] (Kp.st (Kp.new hb1 Kp.nil)) (⟨rfl, rfl⟩)

theorem back_c (m0 : (Nat → Int)) (w : World) : Con Try.prog 11 #[AI 28 m0] w (Is (.bool (back_F m0)) []) :=
  back_con m0 w _ (back_ok m0)

theorem live_con (m0 : (Nat → Int)) (open1 : (List (Nat → Int))) (v1 : Value) (w : World) (hs1 : SL w 2 iv v1 open1) (r : Bool) (h : live_S m0 open1 r) : Con Try.prog 12 #[AI 28 m0, v1] w (Is (.bool r) []) := by
  unfold live_S at h
  refine con_enter (n := 14) [(0, _), (1, _)] Try.func12 rfl Try.ntmps12 rfl (lac rfl (lac rfl lan)) ?_
  refine xw_seq (xw_region ?_)
  refine xo rfl trivial (o_boxA rfl) ?_
  rintro _ _ ⟨b2, hb2, rfl, rfl⟩
  refine xo rfl trivial (o_box1 rfl (oneOf (SL.val hs1))) ?_
  rintro _ _ ⟨b3, hb3, rfl, rfl⟩
  refine xq rfl trivial (o_as rfl) ?_
  refine xo_nil (xq_then (xw_seq (xw_region ?_)))
  refine xq rfl trivial (o_ldW rfl ts29 (List.Mem.tail _ (List.Mem.head _))) ?_
  refine xcallq rfl trivial kf25 rfl (fun w1 hw1 => isP_c _ w1) ?_
  refine xq rfl trivial (o_mv rfl) ?_
  refine xo_bool 7 rfl (fun hg1 => ?_) (fun hg1 => ?_)
  · have hq1 : ((isP_F m0)) = true := hg1
    have hp1 : ((isP_F m0)) = true := hq1
    rw [if_pos hp1] at h
    refine xq rfl ⟨_, rfl, rfl⟩ (o_ldW rfl ts29 (List.Mem.tail _ (List.Mem.head _))) ?_
    refine xoR rfl ⟨_, rfl, rfl⟩ (ot_in (l := [(0, _)]) kf26 rfl Try.func26 rfl Try.ntmps26 rfl (lac rfl lan) ?_)
    refine xw_seq (xw_region ?_)
    refine xo rfl trivial (o_boxA rfl) ?_
    rintro _ _ ⟨b1, hb1, rfl, rfl⟩
    refine xq rfl trivial (o_as rfl) ?_
    refine xo_nil (xq_then (xw_seq (xw_region ?_)))
    first | refine xq rfl trivial (o_fa0 fl29_11 rfl) ?_ | refine xq rfl trivial (o_fa fl29_11 rfl) ?_
    first | refine xq rfl trivial (o_fa0 fl29_10 rfl) ?_ | refine xq rfl trivial (o_fa fl29_10 rfl) ?_
    refine xq rfl trivial (o_ldI (v := m0 11) rfl ts3 (List.Mem.head _) (by omega) rfl) ?_
    obtain ⟨ho2, h⟩ := h
    refine xq rfl trivial (o_slA (h := (m0 11).toNat) ea27 rfl rfl (Int.toNat_of_nonneg ho2.1).symm (by omega)) ?_
    refine xq rfl trivial (o_as rfl) ?_
    refine xo_nil (xq_then (xw_ret ?_))
    refine con_ret1 (.inl rfl) Try.results26 rfl _ (fun _ h => h) (?_)
    refine xq rfl ⟨_, rfl, rfl⟩ (o_mkf rfl rfl) ?_
    refine xoR rfl ⟨_, rfl, rfl⟩ (ot_in (l := [(0, _), (1, _)]) kf27 rfl Try.func27 rfl Try.ntmps27 rfl (lac rfl (lac rfl lan)) ?_)
    refine xw_seq (xw_region ?_)
    refine xq rfl trivial (o_as rfl) ?_
    refine xo_nil (xq_then (xw_seq (xw_region ?_)))
    refine xq rfl trivial (o_mv rfl) ?_
    refine xq rfl trivial (o_mv rfl) ?_
    refine xoR rfl trivial (ot_in (l := [(0, _), (1, _)]) kf39 rfl Try.func39 rfl Try.ntmps39 rfl (lac rfl (lac rfl lan)) ?_)
    refine xw_seq (xw_region ?_)
    refine xq rfl trivial (o_as rfl) ?_
    refine xo_nil (xq_then (xw_seq (xw_seq (xw_region ?_))))
    refine xq rfl trivial (o_mv rfl) ?_
    refine xq rfl trivial (o_len rfl Try.underlying31 rfl) ?_
    refine xq rfl trivial (o_mv rfl) ?_
    refine xo_nil (xq_then ?_)
    refine xw_block ?_
    obtain ⟨x1, hx1, h⟩ := h
    refine xw_wh (fun (x8 : Int) e H => e = [(0, .slice (some ⟨b1, 12, none⟩) ((m0 11).toNat) 8), (1, .func (.func 28) [].toArray [.pointer (some ⟨b3, 0, none⟩)].toArray), (7, .int .i64 ((m0 11).toNat : Int)), (8, .int .i64 x8)] ∧ H = (b1, BK 28 (iv m0) 29) :: ((b3, BK 1 (fun _ => v1) 31) :: ((b2, BK 28 (iv m0) 29) :: ([])))) (fun x ex e H => match x with | .inl _ => ex = .exit 0 ∧ e = [] ∧ H = (b1, BK 28 (iv m0) 29) :: ((b3, BK 1 (fun _ => v1) 31) :: ((b2, BK 28 (iv m0) 29) :: ([]))) | .inr x4 => ex = .ret ∧ e = [(4, .int .i64 x4)] ∧ H = (b1, BK 28 (iv m0) 29) :: ((b3, BK 1 (fun _ => v1) 31) :: ((b2, BK 28 (iv m0) 29) :: ([])))) hx1 ⟨[(0, .slice (some ⟨b1, 12, none⟩) ((m0 11).toNat) 8), (1, .func (.func 28) [].toArray [.pointer (some ⟨b3, 0, none⟩)].toArray), (7, .int .i64 ((m0 11).toNat : Int)), (8, .int .i64 0)], (b1, BK 28 (iv m0) 29) :: ((b3, BK 1 (fun _ => v1) 31) :: ((b2, BK 28 (iv m0) 29) :: ([]))), (lc rfl (lc rfl (lc rfl (lc rfl ln)))), fun _ h => h, ⟨rfl, rfl⟩⟩ ?_ ?_
    · rintro x8 o _ _ ⟨rfl, rfl⟩ hb
      have h : live_l1 m0 open1 x8 o := hb
      clear hb
      unfold live_l1 at h
      refine xw_seq (xw_region ?_)
      refine xq rfl trivial (o_lss rfl rfl) ?_
      refine xo_nil (xq_then (xw_seq ?_))
      refine xw_bool 9 rfl (fun hc3 => ?_) (fun hc3 => ?_)
      · have hq3 : (decide (x8 < ((m0 11).toNat : Int))) = true := hc3
        have hp3 : x8 < ((m0 11).toNat : Int) := of_decide_eq_true hq3
        rw [if_pos hp3] at h
        refine xw_cond_t rfl rfl (xw_skip (xq_then (xw_seq ?_)))
        refine xw_block ?_
        refine xw_seq (xw_region ?_)
        refine xq rfl trivial (o_mv rfl) ?_
        refine xq rfl trivial (o_as rfl) ?_
        refine xo_nil (xq_then (xw_seq (xw_region ?_)))
        refine xq rfl trivial (o_mv rfl) ?_
        refine xq rfl trivial (o_mv rfl) ?_
        refine xq rfl trivial (o_mv rfl) ?_
        obtain ⟨ho4, h⟩ := h
        refine xq rfl trivial (o_ixs el31 rfl rfl ho4 rfl) ?_
        refine xq rfl trivial (o_ldSI rfl ts26 (List.Mem.head _) (by have := ho2; have := ho4; omega) (fun _ _ => rfl)) ?_
        refine xoR rfl trivial (ot_inv (l := [(0, _), (1, _)]) rfl kf28 rfl Try.func28 rfl Try.ntmps28 rfl (lac rfl (lac rfl lan)) ?_)
        refine xw_seq (xw_region ?_)
        refine xo rfl trivial (o_boxA rfl) ?_
        rintro _ _ ⟨b2a, hb2a, rfl, rfl⟩
        refine xq rfl trivial (o_as rfl) ?_
        refine xo_nil (xq_then (xw_seq (xw_region ?_)))
        refine xq rfl trivial (o_ldV rfl ts31 (List.Mem.tail _ (List.Mem.tail _ (List.Mem.head _)))) ?_
        refine xq rfl trivial (o_ldW rfl ts26 (List.Mem.head _)) ?_
        refine xoR rfl trivial (ot_in (l := [(0, _), (1, _)]) kf29 rfl Try.func29 rfl Try.ntmps29 rfl (lac rfl (lac rfl lan)) ?_)
        refine xw_seq (xw_region ?_)
        refine xo rfl trivial (o_boxA rfl) ?_
        rintro _ _ ⟨b3a, hb3a, rfl, rfl⟩
        refine xq rfl trivial (o_as rfl) ?_
        refine xo_nil (xq_then (xw_seq (xw_region ?_)))
        refine xq rfl trivial (o_mv rfl) ?_
        refine xq rfl trivial (o_ldW rfl ts26 (List.Mem.head _)) ?_
        refine xoR rfl trivial (ot_in (l := [(0, _), (1, _)]) kf40 rfl Try.func40 rfl Try.ntmps40 rfl (lac rfl (lac rfl lan)) ?_)
        refine xw_seq (xw_region ?_)
        refine xo rfl trivial (o_boxA rfl) ?_
        rintro _ _ ⟨b3aa, hb3aa, rfl, rfl⟩
        refine xq rfl trivial (o_as rfl) ?_
        refine xo_nil (xq_then (xw_seq (xw_seq (xw_region ?_))))
        refine xq rfl trivial (o_mv rfl) ?_
        refine xq rfl trivial (o_lenL rfl Try.underlying31 rfl (SL.val hs1)) ?_
        refine xq rfl trivial (o_mv rfl) ?_
        refine xo_nil (xq_then ?_)
        refine xw_block ?_
        obtain ⟨x2, hx2, h⟩ := h
        refine xw_wh (fun (x8a : Int) e H => e = [(0, v1), (3, .pointer (some ⟨b3aa, 0, none⟩)), (7, .int .i64 (open1.length : Int)), (8, .int .i64 x8a)] ∧ H = (b3aa, BK 2 (iv (fun i => m0 ((12 + (x8.toNat * 2)) + i))) 26) :: ((b3a, BK 2 (iv (fun i => m0 ((12 + (x8.toNat * 2)) + i))) 26) :: ((b2a, BK 2 (iv (fun i => m0 ((12 + (x8.toNat * 2)) + i))) 26) :: ((b1, BK 28 (iv m0) 29) :: ((b3, BK 1 (fun _ => v1) 31) :: ((b2, BK 28 (iv m0) 29) :: ([]))))))) (fun x ex e H => match x with | .inl _ => ex = .exit 0 ∧ e = [] ∧ H = (b3aa, BK 2 (iv (fun i => m0 ((12 + (x8.toNat * 2)) + i))) 26) :: ((b3a, BK 2 (iv (fun i => m0 ((12 + (x8.toNat * 2)) + i))) 26) :: ((b2a, BK 2 (iv (fun i => m0 ((12 + (x8.toNat * 2)) + i))) 26) :: ((b1, BK 28 (iv m0) 29) :: ((b3, BK 1 (fun _ => v1) 31) :: ((b2, BK 28 (iv m0) 29) :: ([])))))) | .inr x4 => ex = .ret ∧ e = [(4, .int .i64 x4)] ∧ H = (b3aa, BK 2 (iv (fun i => m0 ((12 + (x8.toNat * 2)) + i))) 26) :: ((b3a, BK 2 (iv (fun i => m0 ((12 + (x8.toNat * 2)) + i))) 26) :: ((b2a, BK 2 (iv (fun i => m0 ((12 + (x8.toNat * 2)) + i))) 26) :: ((b1, BK 28 (iv m0) 29) :: ((b3, BK 1 (fun _ => v1) 31) :: ((b2, BK 28 (iv m0) 29) :: ([]))))))) hx2 ⟨[(0, v1), (3, .pointer (some ⟨b3aa, 0, none⟩)), (7, .int .i64 (open1.length : Int)), (8, .int .i64 0)], (b3aa, BK 2 (iv (fun i => m0 ((12 + (x8.toNat * 2)) + i))) 26) :: ((b3a, BK 2 (iv (fun i => m0 ((12 + (x8.toNat * 2)) + i))) 26) :: ((b2a, BK 2 (iv (fun i => m0 ((12 + (x8.toNat * 2)) + i))) 26) :: ((b1, BK 28 (iv m0) 29) :: ((b3, BK 1 (fun _ => v1) 31) :: ((b2, BK 28 (iv m0) 29) :: ([])))))), (lc rfl (lc rfl (lc rfl (lc rfl ln)))), fun _ h => h, ⟨rfl, rfl⟩⟩ ?_ ?_
        · rintro x8a o _ _ ⟨rfl, rfl⟩ hb
          have h : live_l2 m0 open1 x8 x8a o := hb
          clear hb
          unfold live_l2 at h
          refine xw_seq (xw_region ?_)
          refine xq rfl trivial (o_lss rfl rfl) ?_
          refine xo_nil (xq_then (xw_seq ?_))
          refine xw_bool 9 rfl (fun hc5 => ?_) (fun hc5 => ?_)
          · have hq5 : (decide (x8a < (open1.length : Int))) = true := hc5
            have hp5 : x8a < (open1.length : Int) := of_decide_eq_true hq5
            rw [if_pos hp5] at h
            refine xw_cond_t rfl rfl (xw_skip (xq_then (xw_seq ?_)))
            refine xw_block ?_
            refine xw_seq (xw_region ?_)
            refine xq rfl trivial (o_mv rfl) ?_
            refine xq rfl trivial (o_as rfl) ?_
            refine xo_nil (xq_then (xw_seq ?_))
            refine xd_start (by kernel_rfl) (by kernel_rfl) (fun hok => ?_)
            refine xd_b hok 0 [(3, _)] ((b3aa, BK 2 (iv (fun i => m0 ((12 + (x8.toNat * 2)) + i))) 26) :: ([])) (rsC (List.Mem.head _) rsN) rfl rfl rfl (lc rfl ln) (by kernel_rfl) trivial (fun H' hy hK => o_ldW rfl ts26 (hy _ (List.Mem.head _))) ?_
            refine xd_b hok 1 [(0, _)] ([]) rsN rfl rfl rfl (lc rfl ln) (by kernel_rfl) trivial (fun H' hy hK => o_mv rfl) ?_
            refine xd_b hok 2 [(5, _)] ([]) rsN rfl rfl rfl (lc rfl ln) (by kernel_rfl) trivial (fun H' hy hK => o_mv rfl) ?_
            obtain ⟨ho6, h⟩ := h
            refine xd_b hok 3 [(12, _), (13, _)] ([]) rsN rfl rfl rfl (lc rfl (lc rfl ln)) (by kernel_rfl) trivial (fun H' hy hK => o_ixL el31 rfl rfl (fun w hw => (hs1.keep hw (fun k hk => (hK k hk).elim (fun h => (Fr.cons hb3aa (Fr.cons hb3a (Fr.cons hb2a (Fr.cons hb1 (Fr.cons hb3 (Fr.cons hb2 Fr.nil)))))) k h) id))) rfl ho6) ?_
            refine xd_b hok 4 [(14, _)] ([]) rsN rfl rfl rfl (lc rfl ln) (by kernel_rfl) trivial (fun H' hy hK => o_ldLI rfl ts26 rfl (fun w hw => (hs1.keep hw (fun k hk => (hK k hk).elim (fun h => (Fr.cons hb3aa (Fr.cons hb3a (Fr.cons hb2a (Fr.cons hb1 (Fr.cons hb3 (Fr.cons hb2 Fr.nil)))))) k h) id))) (toNat_lt ho6) rfl) ?_
            refine xd_b hok 5 [(11, _), (15, _)] ([]) rsN rfl rfl rfl (lc rfl (lc rfl ln)) (by kernel_rfl) trivial (fun H' hy hK => o_eqlA eq26 rfl rfl) ?_
            refine xd_end hok (by kernel_rfl) ?_
            refine xq_then ?_
            refine xw_bool 16 rfl (fun hc7 => ?_) (fun hc7 => ?_)
            · have hq7 : ((eqN 2 (fun i => m0 ((12 + (x8.toNat * 2)) + i)) (open1[x8a.toNat]!))) = true := hc7
              have hp7 : ((eqN 2 (fun i => m0 ((12 + (x8.toNat * 2)) + i)) (open1[x8a.toNat]!))) = true := hq7
              rw [if_pos hp7] at h
              refine xw_cond_t rfl rfl (xw_seq (xw_region ?_))
              refine xq rfl trivial (o_mv rfl) ?_
              refine xq rfl trivial (o_as rfl) ?_
              refine xo_nil (xq_then (xw_ret (xq_blk_ret (xq_then_ret ?_))))
              exact xq_out (r := (.inr x8a : (Unit) ⊕ (Int))) (e' := [(4, .int .i64 x8a)]) ((b3aa, BK 2 (iv (fun i => m0 ((12 + (x8.toNat * 2)) + i))) 26) :: ((b3a, BK 2 (iv (fun i => m0 ((12 + (x8.toNat * 2)) + i))) 26) :: ((b2a, BK 2 (iv (fun i => m0 ((12 + (x8.toNat * 2)) + i))) 26) :: ((b1, BK 28 (iv m0) 29) :: ((b3, BK 1 (fun _ => v1) 31) :: ((b2, BK 28 (iv m0) 29) :: ([]))))))) (lc rfl ln) (fun _ h => h) h (by intro hh; cases hh) ⟨rfl, rfl, rfl⟩
            · have hq7 : ((eqN 2 (fun i => m0 ((12 + (x8.toNat * 2)) + i)) (open1[x8a.toNat]!))) = false := hc7
              have hp7 : ¬ (((eqN 2 (fun i => m0 ((12 + (x8.toNat * 2)) + i)) (open1[x8a.toNat]!))) = true) := bne' hq7
              rw [if_neg hp7] at h
              refine xw_cond_f rfl rfl (xw_skip ?_)
              refine xq_blk 1 ?_
              refine xq_then (xw_region ?_)
              obtain ⟨ho8, h⟩ := h
              refine xq rfl trivial (o_add rfl rfl rfl ho8) ?_
              refine xq rfl trivial (o_mv rfl) ?_
              refine xo_nil ?_
              exact xq_next (s' := (x8a + 1 : Int)) (e' := [(0, v1), (3, .pointer (some ⟨b3aa, 0, none⟩)), (7, .int .i64 (open1.length : Int)), (8, .int .i64 (x8a + 1))]) ((b3aa, BK 2 (iv (fun i => m0 ((12 + (x8.toNat * 2)) + i))) 26) :: ((b3a, BK 2 (iv (fun i => m0 ((12 + (x8.toNat * 2)) + i))) 26) :: ((b2a, BK 2 (iv (fun i => m0 ((12 + (x8.toNat * 2)) + i))) 26) :: ((b1, BK 28 (iv m0) 29) :: ((b3, BK 1 (fun _ => v1) 31) :: ((b2, BK 28 (iv m0) 29) :: ([]))))))) (lc rfl (lc rfl (lc rfl (lc rfl ln)))) (fun _ h => h) h ⟨rfl, rfl⟩
          · have hq5 : (decide (x8a < (open1.length : Int))) = false := hc5
            have hp5 : ¬ (x8a < (open1.length : Int)) := of_decide_eq_false hq5
            rw [if_neg hp5] at h
            refine xw_cond_f rfl rfl (xw_exit (xq_then_exit ?_))
            exact xq_out (r := (.inl () : (Unit) ⊕ (Int))) (e' := []) ((b3aa, BK 2 (iv (fun i => m0 ((12 + (x8.toNat * 2)) + i))) 26) :: ((b3a, BK 2 (iv (fun i => m0 ((12 + (x8.toNat * 2)) + i))) 26) :: ((b2a, BK 2 (iv (fun i => m0 ((12 + (x8.toNat * 2)) + i))) 26) :: ((b1, BK 28 (iv m0) 29) :: ((b3, BK 1 (fun _ => v1) 31) :: ((b2, BK 28 (iv m0) 29) :: ([]))))))) ln (fun _ h => h) h (by intro hh; cases hh) ⟨rfl, rfl, rfl⟩
        · rcases x2 with _ | x4
          · rintro _ _ _ ⟨rfl, rfl, rfl⟩
            replace h : live_k2a x8 o := h
            unfold live_k2a at h
            refine xq_blk_eq ?_
            refine xq_then (xw_seq (xw_region ?_))
            refine xq rfl trivial (o_as rfl) ?_
            refine xo_nil (xq_then (xw_ret ?_))
            refine con_ret1 (.inl rfl) Try.results40 rfl _ (fun _ h => h) (?_)
            refine xq rfl trivial (o_geq rfl rfl) ?_
            refine xq rfl trivial (o_as rfl) ?_
            refine xo_nil (xq_then (xw_ret ?_))
            refine con_ret1 (.inl rfl) Try.results29 rfl _ (fun _ h => h) (?_)
            refine xq rfl trivial (o_not rfl) ?_
            refine xq rfl trivial (o_as rfl) ?_
            refine xo_nil (xq_then (xw_ret ?_))
            refine con_ret1 (.inl rfl) Try.results28 rfl _ (fun _ h => h) (?_)
            refine xo_nil (xq_then (xw_cond_t rfl rfl (xw_seq (xw_region ?_))))
            refine xq rfl trivial (o_mv rfl) ?_
            refine xq rfl trivial (o_as rfl) ?_
            refine xo_nil (xq_then (xw_ret (xq_blk_ret (xq_then_ret ?_))))
            exact xq_out (r := (.inr x8 : (Unit) ⊕ (Int))) (e' := [(4, .int .i64 x8)]) ((b1, BK 28 (iv m0) 29) :: ((b3, BK 1 (fun _ => v1) 31) :: ((b2, BK 28 (iv m0) 29) :: ([])))) (lc rfl ln) (Kp.st (Kp.new hb3aa (Kp.new hb3a (Kp.new hb2a (Kp.keep (Kp.keep (Kp.keep Kp.nil))))))) h (by intro hh; cases hh) ⟨rfl, rfl, rfl⟩
          rintro _ _ _ ⟨rfl, rfl, rfl⟩
          replace h : live_k2b x8 x4 o := h
          unfold live_k2b at h
          refine xq_blk_ret (xq_then_ret ?_)
          refine con_ret1 (.inl rfl) Try.results40 rfl _ (fun _ h => h) (?_)
          refine xq rfl trivial (o_geq rfl rfl) ?_
          refine xq rfl trivial (o_as rfl) ?_
          refine xo_nil (xq_then (xw_ret ?_))
          refine con_ret1 (.inl rfl) Try.results29 rfl _ (fun _ h => h) (?_)
          refine xq rfl trivial (o_not rfl) ?_
          refine xq rfl trivial (o_as rfl) ?_
          refine xo_nil (xq_then (xw_ret ?_))
          refine con_ret1 (.inl rfl) Try.results28 rfl _ (fun _ h => h) (?_)
          refine xo_nil (xq_then ?_)
          refine xw_bool 16 rfl (fun hc9 => ?_) (fun hc9 => ?_)
          · have hq9 : (decide (0 ≤ x4)) = false := (bnT hc9)
            have hp9 : ¬ (0 ≤ x4) := of_decide_eq_false hq9
            rw [if_neg hp9] at h
            refine xw_cond_t rfl rfl (xw_seq (xw_region ?_))
            refine xq rfl trivial (o_mv rfl) ?_
            refine xq rfl trivial (o_as rfl) ?_
            refine xo_nil (xq_then (xw_ret (xq_blk_ret (xq_then_ret ?_))))
            exact xq_out (r := (.inr x8 : (Unit) ⊕ (Int))) (e' := [(4, .int .i64 x8)]) ((b1, BK 28 (iv m0) 29) :: ((b3, BK 1 (fun _ => v1) 31) :: ((b2, BK 28 (iv m0) 29) :: ([])))) (lc rfl ln) (Kp.st (Kp.new hb3aa (Kp.new hb3a (Kp.new hb2a (Kp.keep (Kp.keep (Kp.keep Kp.nil))))))) h (by intro hh; cases hh) ⟨rfl, rfl, rfl⟩
          · have hq9 : (decide (0 ≤ x4)) = true := (bnF hc9)
            have hp9 : 0 ≤ x4 := of_decide_eq_true hq9
            rw [if_pos hp9] at h
            refine xw_cond_f rfl rfl (xw_skip ?_)
            refine xq_blk 1 ?_
            refine xq_then (xw_region ?_)
            obtain ⟨ho10, h⟩ := h
            refine xq rfl trivial (o_add rfl rfl rfl ho10) ?_
            refine xq rfl trivial (o_mv rfl) ?_
            refine xo_nil ?_
            exact xq_next (s' := (x8 + 1 : Int)) (e' := [(0, .slice (some ⟨b1, 12, none⟩) ((m0 11).toNat) 8), (1, .func (.func 28) [].toArray [.pointer (some ⟨b3, 0, none⟩)].toArray), (7, .int .i64 ((m0 11).toNat : Int)), (8, .int .i64 (x8 + 1))]) ((b1, BK 28 (iv m0) 29) :: ((b3, BK 1 (fun _ => v1) 31) :: ((b2, BK 28 (iv m0) 29) :: ([])))) (lc rfl (lc rfl (lc rfl (lc rfl ln)))) (Kp.st (Kp.new hb3aa (Kp.new hb3a (Kp.new hb2a (Kp.keep (Kp.keep (Kp.keep Kp.nil))))))) h ⟨rfl, rfl⟩
      · have hq3 : (decide (x8 < ((m0 11).toNat : Int))) = false := hc3
        have hp3 : ¬ (x8 < ((m0 11).toNat : Int)) := of_decide_eq_false hq3
        rw [if_neg hp3] at h
        refine xw_cond_f rfl rfl (xw_exit (xq_then_exit ?_))
        exact xq_out (r := (.inl () : (Unit) ⊕ (Int))) (e' := []) ((b1, BK 28 (iv m0) 29) :: ((b3, BK 1 (fun _ => v1) 31) :: ((b2, BK 28 (iv m0) 29) :: ([])))) ln (fun _ h => h) h (by intro hh; cases hh) ⟨rfl, rfl, rfl⟩
    · rcases x1 with _ | x4
      · rintro _ _ _ ⟨rfl, rfl, rfl⟩
        replace h : live_k1a r := h
        unfold live_k1a at h
        refine xq_blk_eq ?_
        refine xq_then (xw_seq (xw_region ?_))
        refine xq rfl trivial (o_as rfl) ?_
        refine xo_nil (xq_then (xw_ret ?_))
        refine con_ret1 (.inl rfl) Try.results39 rfl _ (fun _ h => h) (?_)
        refine xq rfl trivial (o_geq rfl rfl) ?_
        refine xq rfl trivial (o_as rfl) ?_
        refine xo_nil (xq_then (xw_ret ?_))
        refine con_ret1 (.inl rfl) Try.results27 rfl _ (fun _ h => h) (?_)
        refine xq rfl ⟨_, rfl, rfl⟩ (o_not rfl) ?_
        refine xq rfl trivial (o_pick_t rfl rfl) ?_
        refine xq rfl trivial (o_as rfl) ?_
        refine xo_nil (xq_then (xw_ret ?_))
        subst h
        exact con_ret1 (.inl rfl) Try.results12 rfl [] (Kp.st (Kp.new hb1 (Kp.new hb3 (Kp.new hb2 Kp.nil)))) (⟨rfl, rfl⟩)
      rintro _ _ _ ⟨rfl, rfl, rfl⟩
      replace h : live_k1b x4 r := h
      unfold live_k1b at h
      refine xq_blk_ret (xq_then_ret ?_)
      refine con_ret1 (.inl rfl) Try.results39 rfl _ (fun _ h => h) (?_)
      refine xq rfl trivial (o_geq rfl rfl) ?_
      refine xq rfl trivial (o_as rfl) ?_
      refine xo_nil (xq_then (xw_ret ?_))
      refine con_ret1 (.inl rfl) Try.results27 rfl _ (fun _ h => h) (?_)
      refine xq rfl ⟨_, rfl, rfl⟩ (o_not rfl) ?_
      refine xq rfl trivial (o_pick_t rfl rfl) ?_
      refine xq rfl trivial (o_as rfl) ?_
      refine xo_nil (xq_then (xw_ret ?_))
      subst h
      exact con_ret1 (.inl rfl) Try.results12 rfl [] (Kp.st (Kp.new hb1 (Kp.new hb3 (Kp.new hb2 Kp.nil)))) (⟨rfl, rfl⟩)
  · have hq1 : ((isP_F m0)) = false := hg1
    have hp1 : ¬ (((isP_F m0)) = true) := bne' hq1
    rw [if_neg hp1] at h
    refine xs rfl ⟨_, _, rfl, rfl, rfl⟩ (xs rfl ⟨_, _, rfl, rfl, rfl⟩ (xs rfl ⟨_, _, rfl, rfl, rfl⟩ (xs rfl ⟨_, _, rfl, rfl, rfl⟩ (xs rfl ⟨_, _, rfl, rfl, rfl⟩ ?_))))
    refine xq rfl trivial (o_pick_f rfl rfl) ?_
    refine xq rfl trivial (o_as rfl) ?_
    refine xo_nil (xq_then (xw_ret ?_))
    subst h
    exact con_ret1 (.inl rfl) Try.results12 rfl [] (Kp.st (Kp.new hb3 (Kp.new hb2 Kp.nil))) (⟨rfl, rfl⟩)

theorem stops_con (m0 : (Nat → Int)) (seq1 : Int) (w : World) (r : Int) (h : stops_S m0 seq1 r) : Con Try.prog 30 #[AI 28 m0, .int .i64 seq1] w (Is (errV 63 r) []) := by
  unfold stops_S at h
  refine con_enter (n := 32) [(0, _), (1, _)] Try.func30 rfl Try.ntmps30 rfl (lac rfl (lac rfl lan)) ?_
  refine xw_seq (xw_region ?_)
  refine xo rfl trivial (o_boxA rfl) ?_
  rintro _ _ ⟨b2, hb2, rfl, rfl⟩
  refine xq rfl trivial (o_as rfl) ?_
  refine xo_nil (xq_then (xw_seq ?_))
  refine xw_block ?_
  refine xw_seq (xw_region ?_)
  refine xq rfl trivial (o_ldW rfl ts29 (List.Mem.head _)) ?_
  refine xcallq rfl trivial kf25 rfl (fun w1 hw1 => isP_c _ w1) ?_
  refine xq rfl trivial (o_not rfl) ?_
  refine xq rfl trivial (o_as rfl) ?_
  refine xo_nil (xq_then ?_)
  refine xw_bool 5 rfl (fun hc1 => ?_) (fun hc1 => ?_)
  · have hq1 : ((isP_F m0)) = false := (bnT hc1)
    have hp1 : ¬ (((isP_F m0)) = true) := bne' hq1
    rw [if_neg hp1] at h
    refine xw_cond_t rfl rfl (xw_seq (xw_region ?_))
    refine xq rfl trivial (o_mki rfl Try.underlying63 rfl) ?_
    refine xq rfl trivial (o_as rfl) ?_
    refine xo_nil (xq_then (xw_ret (xq_blk_ret (xq_then_ret ?_))))
    subst h
    exact con_ret1 (.inl rfl) Try.results30 rfl [] (Kp.st (Kp.new hb2 Kp.nil)) (⟨rfl, rfl⟩)
  · have hq1 : ((isP_F m0)) = true := (bnF hc1)
    have hp1 : ((isP_F m0)) = true := hq1
    rw [if_pos hp1] at h
    refine xw_cond_f rfl rfl (xw_seq ?_)
    refine xw_cut [(2, _)] (lc rfl ln) [(10, .bool ((!(decide (m0 10 = 0))) && (!(decide (m0 10 = seq1)))))] ?_ ?_
    · refine xw_region ?_
      first | refine xq rfl trivial (o_fa0 fl29_9 rfl) ?_ | refine xq rfl trivial (o_fa fl29_9 rfl) ?_
      refine xq rfl trivial (o_ldI (v := m0 10) rfl ts3 (List.Mem.head _) (by omega) rfl) ?_
      refine xq rfl trivial (o_neq rfl rfl) ?_
      refine xq rfl trivial (o_mv rfl) ?_
      refine xo_bool 14 rfl (fun hg2 => ?_) (fun hg2 => ?_)
      · have hq2 : (decide (m0 10 = 0)) = false := (bnT hg2)
        have hp2 : ¬ (m0 10 = 0) := of_decide_eq_false hq2
        first | refine xq rfl ⟨_, rfl, rfl⟩ (o_fa0 fl29_9 rfl) ?_ | refine xq rfl ⟨_, rfl, rfl⟩ (o_fa fl29_9 rfl) ?_
        refine xq rfl ⟨_, rfl, rfl⟩ (o_ldI (v := m0 10) rfl ts3 (List.Mem.head _) (by omega) rfl) ?_
        refine xq rfl ⟨_, rfl, rfl⟩ (o_mv rfl) ?_
        refine xq rfl ⟨_, rfl, rfl⟩ (o_neq rfl rfl) ?_
        refine xq rfl trivial (o_pick_t rfl rfl) ?_
        refine xq rfl trivial (o_as rfl) ?_
        refine xo_nil ?_
        exact xq_cut ((lce rfl (by first | rfl | (simp only [hq1, hq2, if_pos hp1, if_neg hp2, bS]; done) | (simp only [hq1, hq2, if_pos hp1, if_neg hp2, bS, reduceIte, Bool.false_eq_true]; done) | (simp [hp1, hp2]; done) | (simp_all; done)) (lc rfl ln))) (fun _ h => h)
      · have hq2 : (decide (m0 10 = 0)) = true := (bnF hg2)
        have hp2 : m0 10 = 0 := of_decide_eq_true hq2
        refine xs rfl ⟨_, _, rfl, rfl, rfl⟩ (xs rfl ⟨_, _, rfl, rfl, rfl⟩ (xs rfl ⟨_, _, rfl, rfl, rfl⟩ (xs rfl ⟨_, _, rfl, rfl, rfl⟩ ?_)))
        refine xq rfl trivial (o_pick_f rfl rfl) ?_
        refine xq rfl trivial (o_as rfl) ?_
        refine xo_nil ?_
        exact xq_cut ((lce rfl (by first | rfl | (simp only [hq1, hq2, if_pos hp1, if_pos hp2, bS]; done) | (simp only [hq1, hq2, if_pos hp1, if_pos hp2, bS, reduceIte, Bool.false_eq_true]; done) | (simp [hp1, hp2]; done) | (simp_all; done)) (lc rfl ln))) (fun _ h => h)
    · refine xq_then ?_
      refine xw_bool 10 rfl (fun hc3 => ?_) (fun hc3 => ?_)
      · have hq3 : ((!(decide (m0 10 = 0))) && (!(decide (m0 10 = seq1)))) = true := hc3
        have hp3 : ((!(decide (m0 10 = 0))) && (!(decide (m0 10 = seq1)))) = true := hq3
        rw [if_pos hp3] at h
        refine xw_cond_t rfl rfl (xw_seq (xw_region ?_))
        refine xq rfl trivial (o_mki rfl Try.underlying63 rfl) ?_
        refine xq rfl trivial (o_as rfl) ?_
        refine xo_nil (xq_then (xw_ret (xq_blk_ret (xq_then_ret ?_))))
        subst h
        exact con_ret1 (.inl rfl) Try.results30 rfl [] (Kp.st (Kp.new hb2 Kp.nil)) (⟨rfl, rfl⟩)
      · have hq3 : ((!(decide (m0 10 = 0))) && (!(decide (m0 10 = seq1)))) = false := hc3
        have hp3 : ¬ (((!(decide (m0 10 = 0))) && (!(decide (m0 10 = seq1)))) = true) := bne' hq3
        rw [if_neg hp3] at h
        refine xw_cond_f rfl rfl (xw_seq (xw_region ?_))
        refine xq rfl trivial (o_ldW rfl ts29 (List.Mem.head _)) ?_
        refine xoR rfl trivial (ot_in (l := [(0, _)]) kf26 rfl Try.func26 rfl Try.ntmps26 rfl (lac rfl lan) ?_)
        refine xw_seq (xw_region ?_)
        refine xo rfl trivial (o_boxA rfl) ?_
        rintro _ _ ⟨b1, hb1, rfl, rfl⟩
        refine xq rfl trivial (o_as rfl) ?_
        refine xo_nil (xq_then (xw_seq (xw_region ?_)))
        first | refine xq rfl trivial (o_fa0 fl29_11 rfl) ?_ | refine xq rfl trivial (o_fa fl29_11 rfl) ?_
        first | refine xq rfl trivial (o_fa0 fl29_10 rfl) ?_ | refine xq rfl trivial (o_fa fl29_10 rfl) ?_
        refine xq rfl trivial (o_ldI (v := m0 11) rfl ts3 (List.Mem.head _) (by omega) rfl) ?_
        obtain ⟨ho4, h⟩ := h
        refine xq rfl trivial (o_slA (h := (m0 11).toNat) ea27 rfl rfl (Int.toNat_of_nonneg ho4.1).symm (by omega)) ?_
        refine xq rfl trivial (o_as rfl) ?_
        refine xo_nil (xq_then (xw_ret ?_))
        refine con_ret1 (.inl rfl) Try.results26 rfl _ (fun _ h => h) (?_)
        refine xq rfl trivial (o_mkf rfl rfl) ?_
        refine xoR rfl trivial (ot_in (l := [(0, _), (1, _)]) kf27 rfl Try.func27 rfl Try.ntmps27 rfl (lac rfl (lac rfl lan)) ?_)
        refine xw_seq (xw_region ?_)
        refine xq rfl trivial (o_as rfl) ?_
        refine xo_nil (xq_then (xw_seq (xw_region ?_)))
        refine xq rfl trivial (o_mv rfl) ?_
        refine xq rfl trivial (o_mv rfl) ?_
        refine xoR rfl trivial (ot_in (l := [(0, _), (1, _)]) kf39 rfl Try.func39 rfl Try.ntmps39 rfl (lac rfl (lac rfl lan)) ?_)
        refine xw_seq (xw_region ?_)
        refine xq rfl trivial (o_as rfl) ?_
        refine xo_nil (xq_then (xw_seq (xw_seq (xw_region ?_))))
        refine xq rfl trivial (o_mv rfl) ?_
        refine xq rfl trivial (o_len rfl Try.underlying31 rfl) ?_
        refine xq rfl trivial (o_mv rfl) ?_
        refine xo_nil (xq_then ?_)
        refine xw_block ?_
        obtain ⟨x1, hx1, h⟩ := h
        refine xw_wh (fun (x8 : Int) e H => e = [(0, .slice (some ⟨b1, 12, none⟩) ((m0 11).toNat) 8), (1, .func (.func 41) [].toArray [.pointer (some ⟨b2, 0, none⟩)].toArray), (7, .int .i64 ((m0 11).toNat : Int)), (8, .int .i64 x8)] ∧ H = (b1, BK 28 (iv m0) 29) :: ((b2, BK 28 (iv m0) 29) :: ([]))) (fun x ex e H => match x with | .inl _ => ex = .exit 0 ∧ e = [] ∧ H = (b1, BK 28 (iv m0) 29) :: ((b2, BK 28 (iv m0) 29) :: ([])) | .inr x4 => ex = .ret ∧ e = [(4, .int .i64 x4)] ∧ H = (b1, BK 28 (iv m0) 29) :: ((b2, BK 28 (iv m0) 29) :: ([]))) hx1 ⟨[(0, .slice (some ⟨b1, 12, none⟩) ((m0 11).toNat) 8), (1, .func (.func 41) [].toArray [.pointer (some ⟨b2, 0, none⟩)].toArray), (7, .int .i64 ((m0 11).toNat : Int)), (8, .int .i64 0)], (b1, BK 28 (iv m0) 29) :: ((b2, BK 28 (iv m0) 29) :: ([])), (lc rfl (lc rfl (lc rfl (lc rfl ln)))), fun _ h => h, ⟨rfl, rfl⟩⟩ ?_ ?_
        · rintro x8 o _ _ ⟨rfl, rfl⟩ hb
          have h : stops_l1 m0 x8 o := hb
          clear hb
          unfold stops_l1 at h
          refine xw_seq (xw_region ?_)
          refine xq rfl trivial (o_lss rfl rfl) ?_
          refine xo_nil (xq_then (xw_seq ?_))
          refine xw_bool 9 rfl (fun hc5 => ?_) (fun hc5 => ?_)
          · have hq5 : (decide (x8 < ((m0 11).toNat : Int))) = true := hc5
            have hp5 : x8 < ((m0 11).toNat : Int) := of_decide_eq_true hq5
            rw [if_pos hp5] at h
            refine xw_cond_t rfl rfl (xw_skip (xq_then (xw_seq ?_)))
            refine xw_block ?_
            refine xw_seq (xw_region ?_)
            refine xq rfl trivial (o_mv rfl) ?_
            refine xq rfl trivial (o_as rfl) ?_
            refine xo_nil (xq_then (xw_seq (xw_region ?_)))
            refine xq rfl trivial (o_mv rfl) ?_
            refine xq rfl trivial (o_mv rfl) ?_
            refine xq rfl trivial (o_mv rfl) ?_
            obtain ⟨ho6, h⟩ := h
            refine xq rfl trivial (o_ixs el31 rfl rfl ho6 rfl) ?_
            refine xq rfl trivial (o_ldSI rfl ts26 (List.Mem.head _) (by have := ho4; have := ho6; omega) (fun _ _ => rfl)) ?_
            refine xoR rfl trivial (ot_inv (l := [(0, _), (1, _)]) rfl kf41 rfl Try.func41 rfl Try.ntmps41 rfl (lac rfl (lac rfl lan)) ?_)
            refine xw_seq (xw_region ?_)
            refine xo rfl trivial (o_boxA rfl) ?_
            rintro _ _ ⟨b2a, hb2a, rfl, rfl⟩
            refine xq rfl trivial (o_as rfl) ?_
            refine xo_nil (xq_then (xw_seq (xw_region ?_)))
            first | refine xq rfl trivial (o_fa0 fl26_0 rfl) ?_ | refine xq rfl trivial (o_fa fl26_0 rfl) ?_
            refine xq rfl trivial (o_ldI (v := m0 (12 + (x8.toNat * 2))) rfl ts3 (List.Mem.head _) (by omega) rfl) ?_
            first | refine xq rfl trivial (o_fa0 fl29_8 rfl) ?_ | refine xq rfl trivial (o_fa fl29_8 rfl) ?_
            refine xq rfl trivial (o_ldI (v := m0 9) rfl ts3 (List.Mem.tail _ (List.Mem.tail _ (List.Mem.head _))) (by omega) rfl) ?_
            refine xq rfl trivial (o_eql rfl rfl) ?_
            refine xq rfl trivial (o_as rfl) ?_
            refine xo_nil (xq_then (xw_ret ?_))
            refine con_ret1 (.inl rfl) Try.results41 rfl _ (fun _ h => h) (?_)
            refine xo_nil (xq_then ?_)
            refine xw_bool 16 rfl (fun hc7 => ?_) (fun hc7 => ?_)
            · have hq7 : (decide (m0 (12 + (x8.toNat * 2)) = m0 9)) = true := hc7
              have hp7 : m0 (12 + (x8.toNat * 2)) = m0 9 := of_decide_eq_true hq7
              rw [if_pos hp7] at h
              refine xw_cond_t rfl rfl (xw_seq (xw_region ?_))
              refine xq rfl trivial (o_mv rfl) ?_
              refine xq rfl trivial (o_as rfl) ?_
              refine xo_nil (xq_then (xw_ret (xq_blk_ret (xq_then_ret ?_))))
              exact xq_out (r := (.inr x8 : (Unit) ⊕ (Int))) (e' := [(4, .int .i64 x8)]) ((b1, BK 28 (iv m0) 29) :: ((b2, BK 28 (iv m0) 29) :: ([]))) (lc rfl ln) (Kp.st (Kp.new hb2a (Kp.keep (Kp.keep Kp.nil)))) h (by intro hh; cases hh) ⟨rfl, rfl, rfl⟩
            · have hq7 : (decide (m0 (12 + (x8.toNat * 2)) = m0 9)) = false := hc7
              have hp7 : ¬ (m0 (12 + (x8.toNat * 2)) = m0 9) := of_decide_eq_false hq7
              rw [if_neg hp7] at h
              refine xw_cond_f rfl rfl (xw_skip ?_)
              refine xq_blk 1 ?_
              refine xq_then (xw_region ?_)
              obtain ⟨ho8, h⟩ := h
              refine xq rfl trivial (o_add rfl rfl rfl ho8) ?_
              refine xq rfl trivial (o_mv rfl) ?_
              refine xo_nil ?_
              exact xq_next (s' := (x8 + 1 : Int)) (e' := [(0, .slice (some ⟨b1, 12, none⟩) ((m0 11).toNat) 8), (1, .func (.func 41) [].toArray [.pointer (some ⟨b2, 0, none⟩)].toArray), (7, .int .i64 ((m0 11).toNat : Int)), (8, .int .i64 (x8 + 1))]) ((b1, BK 28 (iv m0) 29) :: ((b2, BK 28 (iv m0) 29) :: ([]))) (lc rfl (lc rfl (lc rfl (lc rfl ln)))) (Kp.st (Kp.new hb2a (Kp.keep (Kp.keep Kp.nil)))) h ⟨rfl, rfl⟩
          · have hq5 : (decide (x8 < ((m0 11).toNat : Int))) = false := hc5
            have hp5 : ¬ (x8 < ((m0 11).toNat : Int)) := of_decide_eq_false hq5
            rw [if_neg hp5] at h
            refine xw_cond_f rfl rfl (xw_exit (xq_then_exit ?_))
            exact xq_out (r := (.inl () : (Unit) ⊕ (Int))) (e' := []) ((b1, BK 28 (iv m0) 29) :: ((b2, BK 28 (iv m0) 29) :: ([]))) ln (fun _ h => h) h (by intro hh; cases hh) ⟨rfl, rfl, rfl⟩
        · rcases x1 with _ | x4
          · rintro _ _ _ ⟨rfl, rfl, rfl⟩
            replace h : stops_k1a m0 r := h
            unfold stops_k1a at h
            refine xq_blk_eq ?_
            refine xq_then (xw_seq (xw_region ?_))
            refine xq rfl trivial (o_as rfl) ?_
            refine xo_nil (xq_then (xw_ret ?_))
            refine con_ret1 (.inl rfl) Try.results39 rfl _ (fun _ h => h) (?_)
            refine xq rfl trivial (o_geq rfl rfl) ?_
            refine xq rfl trivial (o_as rfl) ?_
            refine xo_nil (xq_then (xw_ret ?_))
            refine con_ret1 (.inl rfl) Try.results27 rfl _ (fun _ h => h) (?_)
            refine xq rfl trivial (o_as rfl) ?_
            refine xo_nil (xq_then (xw_cond_f rfl rfl (xw_seq (xw_region ?_))))
            first | refine xq rfl trivial (o_fa0 fl29_10 rfl) ?_ | refine xq rfl trivial (o_fa fl29_10 rfl) ?_
            refine xq rfl trivial (o_ldI (v := m0 11) rfl ts3 (List.Mem.tail _ (List.Mem.head _)) (by omega) rfl) ?_
            refine xq rfl trivial (o_eql rfl rfl) ?_
            refine xq rfl trivial (o_as rfl) ?_
            refine xo_nil (xq_then ?_)
            refine xw_bool 27 rfl (fun hc9 => ?_) (fun hc9 => ?_)
            · have hq9 : (decide (m0 11 = 8)) = true := hc9
              have hp9 : m0 11 = 8 := of_decide_eq_true hq9
              rw [if_pos hp9] at h
              refine xw_cond_t rfl rfl (xw_seq (xw_region ?_))
              refine xq rfl trivial (o_mki rfl Try.underlying63 rfl) ?_
              refine xq rfl trivial (o_as rfl) ?_
              refine xo_nil (xq_then (xw_ret (xq_blk_ret (xq_then_ret ?_))))
              subst h
              exact con_ret1 (.inl rfl) Try.results30 rfl [] (Kp.st (Kp.new hb1 (Kp.new hb2 Kp.nil))) (⟨rfl, rfl⟩)
            · have hq9 : (decide (m0 11 = 8)) = false := hc9
              have hp9 : ¬ (m0 11 = 8) := of_decide_eq_false hq9
              rw [if_neg hp9] at h
              refine xw_cond_f rfl rfl (xw_skip ?_)
              refine xq_blk 0 ?_
              refine xq_then (xw_seq (xw_region ?_))
              refine xq rfl trivial (o_as rfl) ?_
              refine xo_nil (xq_then (xw_ret ?_))
              subst h
              exact con_ret1 (.inl rfl) Try.results30 rfl [] (Kp.st (Kp.new hb1 (Kp.new hb2 Kp.nil))) (⟨rfl, rfl⟩)
          rintro _ _ _ ⟨rfl, rfl, rfl⟩
          replace h : stops_k1b m0 x4 r := h
          unfold stops_k1b at h
          refine xq_blk_ret (xq_then_ret ?_)
          refine con_ret1 (.inl rfl) Try.results39 rfl _ (fun _ h => h) (?_)
          refine xq rfl trivial (o_geq rfl rfl) ?_
          refine xq rfl trivial (o_as rfl) ?_
          refine xo_nil (xq_then (xw_ret ?_))
          refine con_ret1 (.inl rfl) Try.results27 rfl _ (fun _ h => h) (?_)
          refine xq rfl trivial (o_as rfl) ?_
          refine xo_nil (xq_then ?_)
          refine xw_bool 21 rfl (fun hc10 => ?_) (fun hc10 => ?_)
          · have hq10 : (decide (0 ≤ x4)) = true := hc10
            have hp10 : 0 ≤ x4 := of_decide_eq_true hq10
            rw [if_pos hp10] at h
            refine xw_cond_t rfl rfl (xw_seq (xw_region ?_))
            refine xq rfl trivial (o_mki rfl Try.underlying63 rfl) ?_
            refine xq rfl trivial (o_as rfl) ?_
            refine xo_nil (xq_then (xw_ret (xq_blk_ret (xq_then_ret ?_))))
            subst h
            exact con_ret1 (.inl rfl) Try.results30 rfl [] (Kp.st (Kp.new hb1 (Kp.new hb2 Kp.nil))) (⟨rfl, rfl⟩)
          · have hq10 : (decide (0 ≤ x4)) = false := hc10
            have hp10 : ¬ (0 ≤ x4) := of_decide_eq_false hq10
            rw [if_neg hp10] at h
            refine xw_cond_f rfl rfl (xw_seq (xw_region ?_))
            first | refine xq rfl trivial (o_fa0 fl29_10 rfl) ?_ | refine xq rfl trivial (o_fa fl29_10 rfl) ?_
            refine xq rfl trivial (o_ldI (v := m0 11) rfl ts3 (List.Mem.tail _ (List.Mem.head _)) (by omega) rfl) ?_
            refine xq rfl trivial (o_eql rfl rfl) ?_
            refine xq rfl trivial (o_as rfl) ?_
            refine xo_nil (xq_then ?_)
            refine xw_bool 27 rfl (fun hc11 => ?_) (fun hc11 => ?_)
            · have hq11 : (decide (m0 11 = 8)) = true := hc11
              have hp11 : m0 11 = 8 := of_decide_eq_true hq11
              rw [if_pos hp11] at h
              refine xw_cond_t rfl rfl (xw_seq (xw_region ?_))
              refine xq rfl trivial (o_mki rfl Try.underlying63 rfl) ?_
              refine xq rfl trivial (o_as rfl) ?_
              refine xo_nil (xq_then (xw_ret (xq_blk_ret (xq_then_ret ?_))))
              subst h
              exact con_ret1 (.inl rfl) Try.results30 rfl [] (Kp.st (Kp.new hb1 (Kp.new hb2 Kp.nil))) (⟨rfl, rfl⟩)
            · have hq11 : (decide (m0 11 = 8)) = false := hc11
              have hp11 : ¬ (m0 11 = 8) := of_decide_eq_false hq11
              rw [if_neg hp11] at h
              refine xw_cond_f rfl rfl (xw_skip ?_)
              refine xq_blk 0 ?_
              refine xq_then (xw_seq (xw_region ?_))
              refine xq rfl trivial (o_as rfl) ?_
              refine xo_nil (xq_then (xw_ret ?_))
              subst h
              exact con_ret1 (.inl rfl) Try.results30 rfl [] (Kp.st (Kp.new hb1 (Kp.new hb2 Kp.nil))) (⟨rfl, rfl⟩)

theorem longer_con (shard0 : Int) (m1 : (Nat → Int)) (ww2 : (Nat → Int)) (l3 : (List (Nat → Int))) (v3 : Value) (w : World) (hs3 : SL w 4 iv v3 l3) (r : (List (Nat → Int)) × Int) (h : longer_S shard0 m1 ww2 l3 r) : Con Try.prog 31 #[.int .i64 shard0, AI 28 m1, AI 2 ww2, v3] w (fun v F => ∃ (u0 : Value) (C0 : GH), v = .tuple #[u0, errV 63 r.2] ∧ F = (C0 ++ []) ∧ OJ 29 28 iv C0 u0 r.1 ∧ Cov w [] C0) := by
  unfold longer_S at h
  refine con_enter (n := 29) [(0, _), (1, _), (2, _), (3, _)] Try.func31 rfl Try.ntmps31 rfl (lac rfl (lac rfl (lac rfl (lac rfl lan)))) ?_
  refine xw_seq (xw_region ?_)
  refine xo rfl trivial (o_boxA rfl) ?_
  rintro _ _ ⟨b5, hb5, rfl, rfl⟩
  refine xo rfl trivial (o_boxA rfl) ?_
  rintro _ _ ⟨b6, hb6, rfl, rfl⟩
  refine xq rfl trivial (o_as rfl) ?_
  refine xq rfl trivial (o_as rfl) ?_
  refine xo_nil (xq_then (xw_seq (xw_region ?_)))
  refine xq rfl trivial (o_mv rfl) ?_
  first | refine xq rfl trivial (o_fa0 fl29_0 rfl) ?_ | refine xq rfl trivial (o_fa fl29_0 rfl) ?_
  refine xq0 trivial (o_stI rfl rfl ts3 (List.Mem.tail _ (List.Mem.head _)) (by omega) (.there _ _ _ _ _ (.here _ _ _ _))) ?_
  first | refine xq rfl trivial (o_fa0 fl29_1 rfl) ?_ | refine xq rfl trivial (o_fa fl29_1 rfl) ?_
  refine xq0 trivial (o_stI rfl rfl ts3 (List.Mem.tail _ (List.Mem.head _)) (by omega) (.there _ _ _ _ _ (.here _ _ _ _))) ?_
  first | refine xq rfl trivial (o_fa0 fl29_2 rfl) ?_ | refine xq rfl trivial (o_fa fl29_2 rfl) ?_
  refine xq0 trivial (o_stI rfl rfl ts3 (List.Mem.tail _ (List.Mem.head _)) (by omega) (.there _ _ _ _ _ (.here _ _ _ _))) ?_
  refine xo_nil (xq_then (xw_seq (xw_region ?_)))
  first | refine xq rfl trivial (o_fa0 fl29_10 rfl) ?_ | refine xq rfl trivial (o_fa fl29_10 rfl) ?_
  refine xq rfl trivial (o_ldI (v := m1 11) rfl ts3 (List.Mem.tail _ (List.Mem.head _)) (by omega) rfl) ?_
  refine xq rfl trivial (o_ldW rfl ts26 (List.Mem.head _)) ?_
  first | refine xq rfl trivial (o_fa0 fl29_11 rfl) ?_ | refine xq rfl trivial (o_fa fl29_11 rfl) ?_
  obtain ⟨ho1, h⟩ := h
  refine xq rfl trivial (o_ixa ea27 rfl rfl ho1 rfl) ?_
  refine xq0 trivial (o_stSI rfl rfl ts26 (List.Mem.tail _ (List.Mem.head _)) (by have := ho1; omega) (.there _ _ _ _ _ (.here _ _ _ _))) ?_
  refine xo_nil (xq_then (xw_seq (xw_region ?_)))
  first | refine xq rfl trivial (o_fa0 fl29_10 rfl) ?_ | refine xq rfl trivial (o_fa fl29_10 rfl) ?_
  refine xq rfl trivial (o_ldI (v := (updRI (updI (updI (updI m1 0 11) 1 shard0) 2 0) (12 + ((m1 11).toNat * 2)) 2 ww2) 11) rfl ts3 (List.Mem.tail _ (List.Mem.head _)) (by omega) rfl) ?_
  obtain ⟨ho2, h⟩ := h
  refine xq rfl trivial (o_add rfl rfl rfl ho2) ?_
  first | refine xq rfl trivial (o_fa0 fl29_10 rfl) ?_ | refine xq rfl trivial (o_fa fl29_10 rfl) ?_
  refine xq0 trivial (o_stI rfl rfl ts3 (List.Mem.tail _ (List.Mem.head _)) (by omega) (.there _ _ _ _ _ (.here _ _ _ _))) ?_
  refine xo_nil (xq_then (xw_seq (xw_region ?_)))
  refine xq rfl trivial (o_ldW rfl ts26 (List.Mem.head _)) ?_
  refine xq rfl trivial (o_mv rfl) ?_
  refine xq rfl trivial (o_mkf rfl rfl) ?_
  refine xoR rfl trivial (ot_in (l := [(0, _), (1, _), (2, _)]) kf42 rfl Try.func42 rfl Try.ntmps42 rfl (lac rfl (lac rfl (lac rfl lan))) ?_)
  refine xw_seq (xw_region ?_)
  refine xo rfl trivial (o_boxA rfl) ?_
  rintro _ _ ⟨b3, hb3, rfl, rfl⟩
  refine xq rfl trivial (o_as rfl) ?_
  refine xq rfl trivial (o_as rfl) ?_
  refine xo_nil (xq_then (xw_seq (xw_region ?_)))
  refine xq rfl trivial (o_as rfl) ?_
  refine xo_nil (xq_then (xw_seq (xw_seq (xw_region ?_))))
  refine xq rfl trivial (o_mv rfl) ?_
  refine xq rfl trivial (o_lenL rfl Try.underlying30 rfl (SL.val hs3)) ?_
  refine xq rfl trivial (o_mv rfl) ?_
  refine xo_nil (xq_then ?_)
  refine xw_block ?_
  obtain ⟨x1, hx1, h⟩ := h
  refine xw_wh (fun s e H => match s with | (out8, x15) => ∃ (v8_1 : Value) (B8_1 : GH), e = [(2, .func (.func 43) [].toArray [.pointer (some ⟨b5, 0, none⟩)].toArray), (3, .pointer (some ⟨b3, 0, none⟩)), (8, v8_1), (13, v3), (14, .int .i64 (l3.length : Int)), (15, .int .i64 x15)] ∧ H = B8_1 ++ ((b3, BK 2 (iv ww2) 26) :: ((b6, BK 2 (iv ww2) 26) :: ((b5, BK 28 (iv (updI (updRI (updI (updI (updI m1 0 11) 1 shard0) 2 0) (12 + ((m1 11).toNat * 2)) 2 ww2) 11 (((updRI (updI (updI (updI m1 0 11) 1 shard0) 2 0) (12 + ((m1 11).toNat * 2)) 2 ww2) 11) + 1))) 29) :: ([])))) ∧ OJ 29 28 iv B8_1 v8_1 out8 ∧ Cov w [] B8_1) (fun x ex e H => match x with | .inl out8 => ∃ (v8_1o : Value) (B8_1o : GH), ex = .exit 0 ∧ e = [(8, v8_1o)] ∧ H = B8_1o ++ ((b3, BK 2 (iv ww2) 26) :: ((b6, BK 2 (iv ww2) 26) :: ((b5, BK 28 (iv (updI (updRI (updI (updI (updI m1 0 11) 1 shard0) 2 0) (12 + ((m1 11).toNat * 2)) 2 ww2) 11 (((updRI (updI (updI (updI m1 0 11) 1 shard0) 2 0) (12 + ((m1 11).toNat * 2)) 2 ww2) 11) + 1))) 29) :: ([])))) ∧ OJ 29 28 iv B8_1o v8_1o out8 ∧ Cov w [] B8_1o | .inr _ => ∃ (B8_1o : GH), ex = .ret ∧ e = [(6, .slice none 0 0), (7, .iface 63 (.int .i64 1))] ∧ H = B8_1o ++ ((b3, BK 2 (iv ww2) 26) :: ((b6, BK 2 (iv ww2) 26) :: ((b5, BK 28 (iv (updI (updRI (updI (updI (updI m1 0 11) 1 shard0) 2 0) (12 + ((m1 11).toNat * 2)) 2 ww2) 11 (((updRI (updI (updI (updI m1 0 11) 1 shard0) 2 0) (12 + ((m1 11).toNat * 2)) 2 ww2) 11) + 1))) 29) :: ([])))) ∧ Cov w [] B8_1o) hx1 ⟨[(2, .func (.func 43) [].toArray [.pointer (some ⟨b5, 0, none⟩)].toArray), (3, .pointer (some ⟨b3, 0, none⟩)), (8, .slice none 0 0), (13, v3), (14, .int .i64 (l3.length : Int)), (15, .int .i64 0)], [] ++ ((b3, BK 2 (iv ww2) 26) :: ((b6, BK 2 (iv ww2) 26) :: ((b5, BK 28 (iv (updI (updRI (updI (updI (updI m1 0 11) 1 shard0) 2 0) (12 + ((m1 11).toNat * 2)) 2 ww2) 11 (((updRI (updI (updI (updI m1 0 11) 1 shard0) 2 0) (12 + ((m1 11).toNat * 2)) 2 ww2) 11) + 1))) 29) :: ([])))), (lc rfl (lc rfl (lc rfl (lc rfl (lc rfl (lc rfl ln)))))), fun _ h => h, ⟨_, [], rfl, rfl, OJ.nil, (Cov.refl _)⟩⟩ ?_ ?_
  · rintro ⟨out8, x15⟩ o _ _ ⟨v8_1, B8_1, rfl, rfl, hJ8_1, hcB8_1⟩ hb
    have h : longer_l1 shard0 m1 ww2 l3 out8 x15 o := hb
    clear hb
    unfold longer_l1 at h
    refine xw_seq (xw_region ?_)
    refine xq rfl trivial (o_lss rfl rfl) ?_
    refine xo_nil (xq_then (xw_seq ?_))
    refine xw_bool 16 rfl (fun hc3 => ?_) (fun hc3 => ?_)
    · have hq3 : (decide (x15 < (l3.length : Int))) = true := hc3
      have hp3 : x15 < (l3.length : Int) := of_decide_eq_true hq3
      rw [if_pos hp3] at h
      refine xw_cond_t rfl rfl (xw_skip (xq_then (xw_seq ?_)))
      refine xw_block ?_
      refine xw_seq (xw_region ?_)
      obtain ⟨ho4, h⟩ := h
      refine xq rfl trivial (o_ixL el30 rfl rfl (fun w hw => (hs3.keep hw (Fr.seg hcB8_1 (Fr.cons hb3 (Fr.cons hb6 (Fr.cons hb5 Fr.nil)))))) rfl ho4) ?_
      refine xq rfl trivial (o_ldLI rfl ts54 rfl (fun w hw => (hs3.keep hw (Fr.seg hcB8_1 (Fr.cons hb3 (Fr.cons hb6 (Fr.cons hb5 Fr.nil)))))) (toNat_lt ho4) rfl) ?_
      refine xo rfl trivial (o_alloc ze54 rfl) ?_
      rintro _ _ ⟨b10, hb10, rfl, rfl⟩
      refine xq0 trivial (o_stWI rfl rfl ts54 (List.Mem.head _) (.here _ _ _ _)) ?_
      refine xo_nil (xq_then (xw_seq (xw_seq ?_)))
      refine xw_cut [(2, _), (3, _), (8, _), (10, _), (13, _), (14, _), (15, _)] (lc rfl (lc rfl (lc rfl (lc rfl (lc rfl (lc rfl (lc rfl ln))))))) [(30, .bool ((!(decide ((l3[x15.toNat]!) 0 = ww2 0))) || (!(decide ((l3[x15.toNat]!) 1 = ww2 1)))))] ?_ ?_
      · refine xw_region ?_
        first | refine xq rfl trivial (o_fa0 fl54_0 rfl) ?_ | refine xq rfl trivial (o_fa fl54_0 rfl) ?_
        refine xq rfl trivial (o_ldI (v := (l3[x15.toNat]!) 0) rfl ts3 (List.Mem.head _) (by omega) rfl) ?_
        first | refine xq rfl trivial (o_fa0 fl26_0 rfl) ?_ | refine xq rfl trivial (o_fa fl26_0 rfl) ?_
        refine xq rfl trivial (o_ldI (v := ww2 0) rfl ts3 (List.Mem.tail _ (List.mem_append_right _ (List.Mem.head _))) (by omega) rfl) ?_
        refine xq rfl trivial (o_neq rfl rfl) ?_
        refine xq rfl trivial (o_mv rfl) ?_
        refine xo_bool 24 rfl (fun hg5 => ?_) (fun hg5 => ?_)
        · have hq5 : (decide ((l3[x15.toNat]!) 0 = ww2 0)) = false := (bnT hg5)
          have hp5 : ¬ ((l3[x15.toNat]!) 0 = ww2 0) := of_decide_eq_false hq5
          refine xs rfl ⟨_, _, rfl, rfl, rfl⟩ (xs rfl ⟨_, _, rfl, rfl, rfl⟩ (xs rfl ⟨_, _, rfl, rfl, rfl⟩ (xs rfl ⟨_, _, rfl, rfl, rfl⟩ (xs rfl ⟨_, _, rfl, rfl, rfl⟩ ?_))))
          refine xq rfl trivial (o_pick_t rfl rfl) ?_
          refine xo_nil ?_
          exact xq_cut ((lce rfl (by first | rfl | (simp only [hq3, hq5, if_pos hp3, if_neg hp5, bS]; done) | (simp only [hq3, hq5, if_pos hp3, if_neg hp5, bS, reduceIte, Bool.false_eq_true]; done) | (simp [hp3, hp5]; done) | (simp_all; done)) (lc rfl (lc rfl (lc rfl (lc rfl (lc rfl (lc rfl (lc rfl ln))))))))) (fun _ h => h)
        · have hq5 : (decide ((l3[x15.toNat]!) 0 = ww2 0)) = true := (bnF hg5)
          have hp5 : (l3[x15.toNat]!) 0 = ww2 0 := of_decide_eq_true hq5
          first | refine xq rfl ⟨_, rfl, rfl⟩ (o_fa0 fl54_1 rfl) ?_ | refine xq rfl ⟨_, rfl, rfl⟩ (o_fa fl54_1 rfl) ?_
          refine xq rfl ⟨_, rfl, rfl⟩ (o_ldI (v := (l3[x15.toNat]!) 1) rfl ts3 (List.Mem.head _) (by omega) rfl) ?_
          first | refine xq rfl ⟨_, rfl, rfl⟩ (o_fa0 fl26_1 rfl) ?_ | refine xq rfl ⟨_, rfl, rfl⟩ (o_fa fl26_1 rfl) ?_
          refine xq rfl ⟨_, rfl, rfl⟩ (o_ldI (v := ww2 1) rfl ts3 (List.Mem.tail _ (List.mem_append_right _ (List.Mem.head _))) (by omega) rfl) ?_
          refine xq rfl ⟨_, rfl, rfl⟩ (o_neq rfl rfl) ?_
          refine xq rfl trivial (o_pick_f rfl rfl) ?_
          refine xo_nil ?_
          exact xq_cut ((lce rfl (by first | rfl | (simp only [hq3, hq5, if_pos hp3, if_pos hp5, bS]; done) | (simp only [hq3, hq5, if_pos hp3, if_pos hp5, bS, reduceIte, Bool.false_eq_true]; done) | (simp [hp3, hp5]; done) | (simp_all; done)) (lc rfl (lc rfl (lc rfl (lc rfl (lc rfl (lc rfl (lc rfl ln))))))))) (fun _ h => h)
      · refine xq_then ?_
        refine xw_bool 30 rfl (fun hc6 => ?_) (fun hc6 => ?_)
        · have hq6 : ((!(decide ((l3[x15.toNat]!) 0 = ww2 0))) || (!(decide ((l3[x15.toNat]!) 1 = ww2 1)))) = true := hc6
          have hp6 : ((!(decide ((l3[x15.toNat]!) 0 = ww2 0))) || (!(decide ((l3[x15.toNat]!) 1 = ww2 1)))) = true := hq6
          rw [if_pos hp6] at h
          refine xw_cond_t rfl rfl (xw_exit (xq_then_exit ?_))
          refine xq_blk_eq ?_
          refine xq_then (xw_region ?_)
          obtain ⟨ho7, h⟩ := h
          refine xq rfl trivial (o_add rfl rfl rfl ho7) ?_
          refine xq rfl trivial (o_mv rfl) ?_
          refine xo_nil ?_
          exact xq_next (s' := ((out8, x15 + 1) : (List (Nat → Int)) × Int)) (e' := [(2, .func (.func 43) [].toArray [.pointer (some ⟨b5, 0, none⟩)].toArray), (3, .pointer (some ⟨b3, 0, none⟩)), (8, v8_1), (13, v3), (14, .int .i64 (l3.length : Int)), (15, .int .i64 (x15 + 1))]) (B8_1 ++ ((b3, BK 2 (iv ww2) 26) :: ((b6, BK 2 (iv ww2) 26) :: ((b5, BK 28 (iv (updI (updRI (updI (updI (updI m1 0 11) 1 shard0) 2 0) (12 + ((m1 11).toNat * 2)) 2 ww2) 11 (((updRI (updI (updI (updI m1 0 11) 1 shard0) 2 0) (12 + ((m1 11).toNat * 2)) 2 ww2) 11) + 1))) 29) :: ([]))))) (lc rfl (lc rfl (lc rfl (lc rfl (lc rfl (lc rfl ln)))))) (Kp.st (Kp.new hb10 (Kp.segKeep (Kp.keep (Kp.keep (Kp.keep Kp.nil)))))) h ⟨v8_1, B8_1, rfl, rfl, hJ8_1, hcB8_1⟩
        · have hq6 : ((!(decide ((l3[x15.toNat]!) 0 = ww2 0))) || (!(decide ((l3[x15.toNat]!) 1 = ww2 1)))) = false := hc6
          have hp6 : ¬ (((!(decide ((l3[x15.toNat]!) 0 = ww2 0))) || (!(decide ((l3[x15.toNat]!) 1 = ww2 1)))) = true) := bne' hq6
          rw [if_neg hp6] at h
          refine xw_cond_f rfl rfl (xw_skip (xq_then (xw_seq (xw_region ?_))))
          refine xq rfl trivial (o_mv rfl) ?_
          refine xq rfl trivial (o_ldW rfl ts54 (List.Mem.head _)) ?_
          refine xoR rfl trivial (ot_inv (l := [(0, _), (1, _)]) rfl kf43 rfl Try.func43 rfl Try.ntmps43 rfl (lac rfl (lac rfl lan)) ?_)
          refine xw_seq (xw_region ?_)
          refine xo rfl trivial (o_boxA rfl) ?_
          rintro _ _ ⟨b2, hb2, rfl, rfl⟩
          refine xo rfl trivial (o_alloc ze29 rfl) ?_
          rintro _ _ ⟨b3a, hb3a, rfl, rfl⟩
          refine xq rfl trivial (o_as rfl) ?_
          refine xo_nil (xq_then (xw_seq (xw_region ?_)))
          refine xq rfl trivial (o_ldW rfl ts29 (List.Mem.tail _ (List.Mem.tail _ (List.Mem.tail _ (List.mem_append_right _ (List.Mem.tail _ (List.Mem.tail _ (List.Mem.head _)))))))) ?_
          refine xo rfl trivial (o_alloc ze29 rfl) ?_
          rintro _ _ ⟨b5a, hb5a, rfl, rfl⟩
          refine xq0 trivial (o_stWI rfl rfl ts29 (List.Mem.head _) (.here _ _ _ _)) ?_
          refine xo_nil (xq_then (xw_seq ?_))
          refine xd_start (by kernel_rfl) (by kernel_rfl) (fun hok => ?_)
          first | refine xd_b hok 0 [(2, _)] ([]) rsN rfl rfl rfl (lc rfl ln) (by kernel_rfl) trivial (fun H' hy hK => o_fa0 fl54_2 rfl) ?_ | refine xd_b hok 0 [(2, _)] ([]) rsN rfl rfl rfl (lc rfl ln) (by kernel_rfl) trivial (fun H' hy hK => o_fa fl54_2 rfl) ?_
          refine xd_b hok 1 [(7, _)] ((b2, BK 4 (iv (l3[x15.toNat]!)) 54) :: ([])) (rsC (List.Mem.tail _ (List.Mem.tail _ (List.Mem.head _))) rsN) rfl rfl rfl (lc rfl ln) (by kernel_rfl) trivial (fun H' hy hK => o_ldI (v := (l3[x15.toNat]!) 2) rfl ts3 (hy _ (List.Mem.head _)) (by omega) rfl) ?_
          first | refine xd_b hok 2 [(2, _)] ([]) rsN rfl rfl rfl (lc rfl ln) (by kernel_rfl) trivial (fun H' hy hK => o_fa0 fl54_3 rfl) ?_ | refine xd_b hok 2 [(2, _)] ([]) rsN rfl rfl rfl (lc rfl ln) (by kernel_rfl) trivial (fun H' hy hK => o_fa fl54_3 rfl) ?_
          refine xd_b hok 3 [(9, _)] ((b2, BK 4 (iv (l3[x15.toNat]!)) 54) :: ([])) (rsC (List.Mem.tail _ (List.Mem.tail _ (List.Mem.head _))) rsN) rfl rfl rfl (lc rfl ln) (by kernel_rfl) trivial (fun H' hy hK => o_ldI (v := (l3[x15.toNat]!) 3) rfl ts3 (hy _ (List.Mem.head _)) (by omega) rfl) ?_
          first | refine xd_b hok 4 [(5, _)] ([]) rsN rfl rfl rfl (lc rfl ln) (by kernel_rfl) trivial (fun H' hy hK => o_fa0 fl29_8 rfl) ?_ | refine xd_b hok 4 [(5, _)] ([]) rsN rfl rfl rfl (lc rfl ln) (by kernel_rfl) trivial (fun H' hy hK => o_fa fl29_8 rfl) ?_
          refine xd_step0 hok 5 [(11, _), (8, _)] rfl rfl (by kernel_rfl) (lc rfl (lc rfl ln)) (by kernel_rfl) trivial (o_stI rfl rfl ts3 (List.Mem.head _) (by omega) (.here _ _ _ _)) ?_
          rintro _ _ ⟨rfl, rfl⟩
          refine ⟨(rsA rsN (rsA (rsC (List.Mem.tail _ (List.Mem.tail _ (List.Mem.head _))) rsN) (rsA rsN (rsA (rsC (List.Mem.tail _ (List.Mem.tail _ (List.Mem.head _))) rsN) (rsA rsN rsN))))), (Ks.consK (by simp) (Ks.consK (by simp) (Ks.consK (by simp) (Ks.consK (by simp) (Ks.segK (fun k hk => by simp [hk]) (Ks.consK (by simp) (Ks.consK (by simp) (Ks.consK (by simp) Ks.nil)))))))), ?_⟩
          first | refine xd_b hok 6 [(5, _)] ([]) rsN rfl rfl rfl (lc rfl ln) (by kernel_rfl) trivial (fun H' hy hK => o_fa0 fl29_9 rfl) ?_ | refine xd_b hok 6 [(5, _)] ([]) rsN rfl rfl rfl (lc rfl ln) (by kernel_rfl) trivial (fun H' hy hK => o_fa fl29_9 rfl) ?_
          refine xd_fl0 hok 0 7 [(12, _), (10, _)] rfl rfl (by kernel_rfl) (by kernel_rfl) (lc rfl (lc rfl ln)) (by kernel_rfl) trivial (o_stI rfl rfl ts3 (List.Mem.head _) (by omega) (.here _ _ _ _)) ?_
          rintro _ _ ⟨rfl, rfl⟩
          refine ⟨(Ks.consK (by simp) (Ks.consK (by simp) (Ks.consK (by simp) (Ks.consK (by simp) (Ks.segK (fun k hk => by simp [hk]) (Ks.consK (by simp) (Ks.consK (by simp) (Ks.consK (by simp) Ks.nil)))))))), ?_⟩
          refine xd_end hok (by kernel_rfl) ?_
          refine xq_then (xw_seq (xw_seq (xw_region ?_)))
          refine xq rfl trivial (o_ldW rfl ts29 (List.Mem.head _)) ?_
          refine xcallq rfl trivial kf25 rfl (fun w1 hw1 => isP_c _ w1) ?_
          refine xq rfl trivial (o_not rfl) ?_
          refine xo_nil (xq_then ?_)
          refine xw_bool 15 rfl (fun hc8 => ?_) (fun hc8 => ?_)
          · have hq8 : ((isP_F (updI (updI (updI (updRI (updI (updI (updI m1 0 11) 1 shard0) 2 0) (12 + ((m1 11).toNat * 2)) 2 ww2) 11 (((updRI (updI (updI (updI m1 0 11) 1 shard0) 2 0) (12 + ((m1 11).toNat * 2)) 2 ww2) 11) + 1)) 9 ((l3[x15.toNat]!) 2)) 10 ((l3[x15.toNat]!) 3)))) = false := (bnT hc8)
            have hp8 : ¬ (((isP_F (updI (updI (updI (updRI (updI (updI (updI m1 0 11) 1 shard0) 2 0) (12 + ((m1 11).toNat * 2)) 2 ww2) 11 (((updRI (updI (updI (updI m1 0 11) 1 shard0) 2 0) (12 + ((m1 11).toNat * 2)) 2 ww2) 11) + 1)) 9 ((l3[x15.toNat]!) 2)) 10 ((l3[x15.toNat]!) 3)))) = true) := bne' hq8
            rw [if_neg hp8] at h
            refine xw_cond_t rfl rfl (xw_seq (xw_region ?_))
            refine xq rfl trivial (o_build fk29 ze29 (.nil _)) ?_
            refine xq rfl trivial (o_mki rfl Try.underlying63 rfl) ?_
            refine xq0 trivial (o_stWI rfl rfl ts29 (List.Mem.tail _ (List.Mem.head _)) (.there _ _ _ _ _ (.here _ _ _ _))) ?_
            refine xq rfl trivial (o_as rfl) ?_
            refine xo_nil (xq_then (xw_ret (xq_then_ret ?_)))
            refine con_retN (.inl rfl) (l := [.cell 3 29, .tmp 4]) Try.results43 (.cell rfl ts29 (List.Mem.tail _ (List.Mem.head _)) (.tmp rfl .nil)) rfl _ (fun _ h => h) (?_)
            refine xq rfl trivial (o_mv rfl) ?_
            refine xq rfl trivial (o_ext rfl rfl) ?_
            refine xq rfl trivial (o_ext rfl rfl) ?_
            refine xo rfl trivial (o_alloc ze29 rfl) ?_
            rintro _ _ ⟨b11, hb11, rfl, rfl⟩
            refine xq0 trivial (o_stWI rfl rfl ts29 (List.Mem.head _) (.here _ _ _ _)) ?_
            refine xq rfl trivial (o_as rfl) ?_
            refine xo_nil (xq_then (xw_seq (xw_seq (xw_region ?_))))
            refine xq rfl trivial (o_mv rfl) ?_
            refine xq rfl trivial (o_nen Try.underlying34 rfl rfl rfl rfl) ?_
            refine xo_nil (xq_then (xw_cond_t rfl rfl (xw_seq (xw_region ?_))))
            refine xq rfl trivial (o_mv rfl) ?_
            refine xq rfl trivial (o_as rfl) ?_
            refine xq rfl trivial (o_as rfl) ?_
            refine xo_nil (xq_then (xw_ret (xq_then_ret (xq_blk_ret (xq_then_ret ?_)))))
            exact xq_out (r := (.inr () : ((List (Nat → Int))) ⊕ (Unit))) (e' := [(6, .slice none 0 0), (7, .iface 63 (.int .i64 1))]) (B8_1 ++ ((b3, BK 2 (iv ww2) 26) :: ((b6, BK 2 (iv ww2) 26) :: ((b5, BK 28 (iv (updI (updRI (updI (updI (updI m1 0 11) 1 shard0) 2 0) (12 + ((m1 11).toNat * 2)) 2 ww2) 11 (((updRI (updI (updI (updI m1 0 11) 1 shard0) 2 0) (12 + ((m1 11).toNat * 2)) 2 ww2) 11) + 1))) 29) :: ([]))))) (lc rfl (lc rfl ln)) (Kp.st (Kp.new hb11 (Kp.new hb5a (Kp.new hb3a (Kp.new hb2 (Kp.new hb10 (Kp.segKeep (Kp.keep (Kp.keep (Kp.keep Kp.nil)))))))))) h (by intro hh; cases hh) ⟨B8_1, rfl, rfl, rfl, hcB8_1⟩
          · have hq8 : ((isP_F (updI (updI (updI (updRI (updI (updI (updI m1 0 11) 1 shard0) 2 0) (12 + ((m1 11).toNat * 2)) 2 ww2) 11 (((updRI (updI (updI (updI m1 0 11) 1 shard0) 2 0) (12 + ((m1 11).toNat * 2)) 2 ww2) 11) + 1)) 9 ((l3[x15.toNat]!) 2)) 10 ((l3[x15.toNat]!) 3)))) = true := (bnF hc8)
            have hp8 : ((isP_F (updI (updI (updI (updRI (updI (updI (updI m1 0 11) 1 shard0) 2 0) (12 + ((m1 11).toNat * 2)) 2 ww2) 11 (((updRI (updI (updI (updI m1 0 11) 1 shard0) 2 0) (12 + ((m1 11).toNat * 2)) 2 ww2) 11) + 1)) 9 ((l3[x15.toNat]!) 2)) 10 ((l3[x15.toNat]!) 3)))) = true := hq8
            rw [if_pos hp8] at h
            refine xw_cond_f rfl rfl (xw_skip (xq_then (xw_seq (xw_region ?_))))
            refine xq rfl trivial (o_ldW rfl ts29 (List.Mem.head _)) ?_
            refine xq0 trivial (o_stWI rfl rfl ts29 (List.Mem.tail _ (List.Mem.head _)) (.there _ _ _ _ _ (.here _ _ _ _))) ?_
            refine xq rfl trivial (o_as rfl) ?_
            refine xo_nil (xq_then (xw_ret ?_))
            refine con_retN (.inl rfl) (l := [.cell 3 29, .tmp 4]) Try.results43 (.cell rfl ts29 (List.Mem.tail _ (List.Mem.head _)) (.tmp rfl .nil)) rfl _ (fun _ h => h) (?_)
            refine xq rfl trivial (o_mv rfl) ?_
            refine xq rfl trivial (o_ext rfl rfl) ?_
            refine xq rfl trivial (o_ext rfl rfl) ?_
            refine xo rfl trivial (o_alloc ze29 rfl) ?_
            rintro _ _ ⟨b11, hb11, rfl, rfl⟩
            refine xq0 trivial (o_stWI rfl rfl ts29 (List.Mem.head _) (.here _ _ _ _)) ?_
            refine xq rfl trivial (o_as rfl) ?_
            refine xo_nil (xq_then (xw_seq (xw_seq (xw_region ?_))))
            refine xq rfl trivial (o_mv rfl) ?_
            refine xq rfl trivial (o_nen Try.underlying34 rfl rfl rfl rfl) ?_
            refine xo_nil (xq_then (xw_cond_f rfl rfl (xw_skip (xq_then (xw_region ?_)))))
            refine xq rfl trivial (o_mv rfl) ?_
            refine xq rfl trivial (o_ldW rfl ts29 (List.Mem.head _)) ?_
            refine xo rfl trivial (o_bsl el41 ze29 rfl rfl rfl (.ints rfl rfl (.nil _))) ?_
            rintro _ _ ⟨b42, hb42, rfl, rfl⟩
            obtain ⟨ho10, h⟩ := h
            refine xo rfl trivial (OT.st (fun _ h => Pull.st (.thereC _ (.thereC _ (.thereC _ (.thereC _ (.thereC _ (.thereC _ (.here _ _))))))) h) (o_appJ (l := out8) (l' := [(updI (updI (updI (updRI (updI (updI (updI m1 0 11) 1 shard0) 2 0) (12 + ((m1 11).toNat * 2)) 2 ww2) 11 (((updRI (updI (updI (updI m1 0 11) 1 shard0) 2 0) (12 + ((m1 11).toNat * 2)) 2 ww2) 11) + 1)) 9 ((l3[x15.toNat]!) 2)) 10 ((l3[x15.toNat]!) 3))]) (B := B8_1) ap41 rfl rfl hJ8_1 (fun w2 hw2 => (SL.lit (l := [(updI (updI (updI (updRI (updI (updI (updI m1 0 11) 1 shard0) 2 0) (12 + ((m1 11).toNat * 2)) 2 ww2) 11 (((updRI (updI (updI (updI m1 0 11) 1 shard0) 2 0) (12 + ((m1 11).toNat * 2)) 2 ww2) 11) + 1)) 9 ((l3[x15.toNat]!) 2)) 10 ((l3[x15.toNat]!) 3))]) hw2 (List.mem_append_right _ (List.Mem.head _)) rfl (by omega) (by simp [maxLen]) (by exact (fun i hi => match i, hi with | 0, _ => rfl | 1, _ => rfl | 2, _ => rfl | 3, _ => rfl | 4, _ => rfl | 5, _ => rfl | 6, _ => rfl | 7, _ => rfl | 8, _ => rfl | 9, _ => rfl | 10, _ => rfl | 11, _ => rfl | 12, _ => rfl | 13, _ => rfl | 14, _ => rfl | 15, _ => rfl | 16, _ => rfl | 17, _ => rfl | 18, _ => rfl | 19, _ => rfl | 20, _ => rfl | 21, _ => rfl | 22, _ => rfl | 23, _ => rfl | 24, _ => rfl | 25, _ => rfl | 26, _ => rfl | 27, _ => rfl | q + 28, h => absurd h (by omega))))) (fun _ _ => rfl) ho10 (len_max ho10 (by decide)))) ?_
            rintro vs9 _ ⟨Bs9, rfl, hns9, hJs9⟩
            have hcBs9 := Cov.trans hcB8_1 hns9
            refine xo_st ((b42, BK 28 _ 29) :: ((b11, BK 28 (iv (updI (updI (updI (updRI (updI (updI (updI m1 0 11) 1 shard0) 2 0) (12 + ((m1 11).toNat * 2)) 2 ww2) 11 (((updRI (updI (updI (updI m1 0 11) 1 shard0) 2 0) (12 + ((m1 11).toNat * 2)) 2 ww2) 11) + 1)) 9 ((l3[x15.toNat]!) 2)) 10 ((l3[x15.toNat]!) 3))) 29) :: ((b5a, BK 28 (iv (updI (updI (updI (updRI (updI (updI (updI m1 0 11) 1 shard0) 2 0) (12 + ((m1 11).toNat * 2)) 2 ww2) 11 (((updRI (updI (updI (updI m1 0 11) 1 shard0) 2 0) (12 + ((m1 11).toNat * 2)) 2 ww2) 11) + 1)) 9 ((l3[x15.toNat]!) 2)) 10 ((l3[x15.toNat]!) 3))) 29) :: ((b3a, BK 28 (iv (updI (updI (updI (updRI (updI (updI (updI m1 0 11) 1 shard0) 2 0) (12 + ((m1 11).toNat * 2)) 2 ww2) 11 (((updRI (updI (updI (updI m1 0 11) 1 shard0) 2 0) (12 + ((m1 11).toNat * 2)) 2 ww2) 11) + 1)) 9 ((l3[x15.toNat]!) 2)) 10 ((l3[x15.toNat]!) 3))) 29) :: ((b2, BK 4 (iv (l3[x15.toNat]!)) 54) :: ((b10, BK 4 (iv (l3[x15.toNat]!)) 54) :: (Bs9 ++ ((b3, BK 2 (iv ww2) 26) :: ((b6, BK 2 (iv ww2) 26) :: ((b5, BK 28 (iv (updI (updRI (updI (updI (updI m1 0 11) 1 shard0) 2 0) (12 + ((m1 11).toNat * 2)) 2 ww2) 11 (((updRI (updI (updI (updI m1 0 11) 1 shard0) 2 0) (12 + ((m1 11).toNat * 2)) 2 ww2) 11) + 1))) 29) :: ([]))))))))))) (fun _ h => Pull.push (.thereC _ (.thereC _ (.thereC _ (.thereC _ (.thereC _ (.thereC _ (.here _ _))))))) h) ?_
            refine xq rfl trivial (o_as rfl) ?_
            refine xo_nil ?_
            refine xq_blk 1 ?_
            refine xq_then (xw_region ?_)
            obtain ⟨ho11, h⟩ := h
            refine xq rfl trivial (o_add rfl rfl rfl ho11) ?_
            refine xq rfl trivial (o_mv rfl) ?_
            refine xo_nil ?_
            exact xq_next (s' := (((out8 ++ [(updI (updI (updI (updRI (updI (updI (updI m1 0 11) 1 shard0) 2 0) (12 + ((m1 11).toNat * 2)) 2 ww2) 11 (((updRI (updI (updI (updI m1 0 11) 1 shard0) 2 0) (12 + ((m1 11).toNat * 2)) 2 ww2) 11) + 1)) 9 ((l3[x15.toNat]!) 2)) 10 ((l3[x15.toNat]!) 3))]), x15 + 1) : (List (Nat → Int)) × Int)) (e' := [(2, .func (.func 43) [].toArray [.pointer (some ⟨b5, 0, none⟩)].toArray), (3, .pointer (some ⟨b3, 0, none⟩)), (8, vs9), (13, v3), (14, .int .i64 (l3.length : Int)), (15, .int .i64 (x15 + 1))]) (Bs9 ++ ((b3, BK 2 (iv ww2) 26) :: ((b6, BK 2 (iv ww2) 26) :: ((b5, BK 28 (iv (updI (updRI (updI (updI (updI m1 0 11) 1 shard0) 2 0) (12 + ((m1 11).toNat * 2)) 2 ww2) 11 (((updRI (updI (updI (updI m1 0 11) 1 shard0) 2 0) (12 + ((m1 11).toNat * 2)) 2 ww2) 11) + 1))) 29) :: ([]))))) (lc rfl (lc rfl (lc rfl (lc rfl (lc rfl (lc rfl ln)))))) (Kp.st (Kp.new hb42 (Kp.new hb11 (Kp.new hb5a (Kp.new hb3a (Kp.new hb2 (Kp.new hb10 (Kp.segKeep (Kp.keep (Kp.keep (Kp.keep Kp.nil))))))))))) h ⟨vs9, Bs9, rfl, rfl, hJs9, hcBs9⟩
    · have hq3 : (decide (x15 < (l3.length : Int))) = false := hc3
      have hp3 : ¬ (x15 < (l3.length : Int)) := of_decide_eq_false hq3
      rw [if_neg hp3] at h
      refine xw_cond_f rfl rfl (xw_exit (xq_then_exit ?_))
      exact xq_out (r := (.inl out8 : ((List (Nat → Int))) ⊕ (Unit))) (e' := [(8, v8_1)]) (B8_1 ++ ((b3, BK 2 (iv ww2) 26) :: ((b6, BK 2 (iv ww2) 26) :: ((b5, BK 28 (iv (updI (updRI (updI (updI (updI m1 0 11) 1 shard0) 2 0) (12 + ((m1 11).toNat * 2)) 2 ww2) 11 (((updRI (updI (updI (updI m1 0 11) 1 shard0) 2 0) (12 + ((m1 11).toNat * 2)) 2 ww2) 11) + 1))) 29) :: ([]))))) (lc rfl ln) (fun _ h => h) h (by intro hh; cases hh) ⟨v8_1, B8_1, rfl, rfl, rfl, hJ8_1, hcB8_1⟩
  · rcases x1 with out8 | x1
    · rintro _ _ _ ⟨v8_1o, B8_1o, rfl, rfl, rfl, hJ8_1o, hcB8_1o⟩
      replace h : longer_k1a out8 r := h
      unfold longer_k1a at h
      refine xq_blk_eq ?_
      refine xq_then (xw_seq (xw_region ?_))
      refine xq rfl trivial (o_mv rfl) ?_
      refine xq rfl trivial (o_as rfl) ?_
      refine xq rfl trivial (o_as rfl) ?_
      refine xo_nil (xq_then (xw_ret ?_))
      refine con_ret2 (.inl rfl) Try.results42 rfl rfl _ (fun _ h => h) (?_)
      refine xq rfl trivial (o_ext rfl rfl) ?_
      refine xq rfl trivial (o_ext rfl rfl) ?_
      refine xq rfl trivial (o_as rfl) ?_
      refine xq rfl trivial (o_as rfl) ?_
      refine xo_nil (xq_then (xw_ret ?_))
      subst h
      exact con_ret2 (.inl rfl) Try.results31 rfl rfl (B8_1o ++ []) (Kp.st (Kp.segKeep (Kp.new hb3 (Kp.new hb6 (Kp.new hb5 Kp.nil))))) (⟨_, B8_1o, rfl, rfl, hJ8_1o, hcB8_1o⟩)
    cases x1
    rintro _ _ _ ⟨B8_1o, rfl, rfl, rfl, hcB8_1o⟩
    replace h : longer_k1b r := h
    unfold longer_k1b at h
    refine xq_blk_ret (xq_then_ret ?_)
    refine con_ret2 (.inl rfl) Try.results42 rfl rfl _ (fun _ h => h) (?_)
    refine xq rfl trivial (o_ext rfl rfl) ?_
    refine xq rfl trivial (o_ext rfl rfl) ?_
    refine xq rfl trivial (o_as rfl) ?_
    refine xq rfl trivial (o_as rfl) ?_
    refine xo_nil (xq_then (xw_ret ?_))
    subst h
    exact con_ret2 (.inl rfl) Try.results31 rfl rfl [] (Kp.st (Kp.segNew (Cov.fresh hcB8_1o) (Kp.new hb3 (Kp.new hb6 (Kp.new hb5 Kp.nil))))) (⟨_, [], rfl, rfl, OJ.nil, Cov.refl _⟩)

end Go.Proofs.Ytjmfnohbeoiddaa
