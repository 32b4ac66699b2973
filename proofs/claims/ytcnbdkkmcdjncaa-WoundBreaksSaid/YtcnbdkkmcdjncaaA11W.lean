/- The code answers as the relations say. -/
import Derived.Test.YtcnbdkkmcdjncaaTab
import Derived.Test.YtcnbdkkmcdjncaaA11S
import Derived.Test.YtcnbdkkmcdjncaaSK
set_option maxHeartbeats 1000000
set_option linter.unusedVariables false
set_option linter.unusedSimpArgs false
set_option maxRecDepth 100000
namespace Go.Proofs.Ytcnbdkkmcdjncaa
open Go Go.E

theorem wby_con (l0 : (List (Nat → Int))) (v0 : Value) (w : World) (hs0 : SL w 4 iv v0 l0) (r : (List (Int × Int))) (h : wby_S l0 r) : Con Try.prog 17 #[v0] w (fun v F => ∃ (u0 : Value) (C0 : GH), v = u0 ∧ F = (C0 ++ []) ∧ MJ kI kI ieq C0 u0 r ∧ Cov w [] C0) := by
  unfold wby_S at h
  refine con_enter (n := 42) [(0, _)] Try.func17 rfl Try.ntmps17 rfl (lac rfl lan) ?_
  refine xw_seq (xw_region ?_)
  refine xq rfl trivial (o_as rfl) ?_
  refine xo_nil (xq_then (xw_seq (xw_region ?_)))
  refine xo rfl trivial (o_mkmap (α := Int) (cv := kI) kt3 Try.underlying45) ?_
  rintro vs1 _ ⟨Bs1, rfl, hns1, hJs1⟩
  have hcBs1 := hns1
  refine xq rfl trivial (o_as rfl) ?_
  refine xo_nil (xq_then (xw_seq (xw_seq (xw_region ?_))))
  refine xq rfl trivial (o_mv rfl) ?_
  refine xq rfl trivial (o_lenL rfl Try.underlying22 rfl (SL.val hs0)) ?_
  refine xq rfl trivial (o_mv rfl) ?_
  refine xo_nil (xq_then ?_)
  refine xw_block ?_
  obtain ⟨out3, hx1, h⟩ := h
  refine xw_wh (fun s e H => match s with | (out3, x11) => ∃ (v3_1 : Value) (B3_1 : GH), e = [(3, v3_1), (9, v0), (10, .int .i64 (l0.length : Int)), (11, .int .i64 x11)] ∧ H = B3_1 ++ ([]) ∧ MJ kI kI ieq B3_1 v3_1 out3 ∧ Cov w [] B3_1) (fun (out3 : (List (Int × Int))) ex e H => ∃ (v3_1o : Value) (B3_1o : GH), ex = .exit 0 ∧ e = [(3, v3_1o)] ∧ H = B3_1o ++ ([]) ∧ MJ kI kI ieq B3_1o v3_1o out3 ∧ Cov w [] B3_1o) hx1 ⟨[(3, vs1), (9, v0), (10, .int .i64 (l0.length : Int)), (11, .int .i64 0)], Bs1 ++ ([]), (lc rfl (lc rfl (lc rfl (lc rfl ln)))), fun _ h => h, ⟨vs1, Bs1, rfl, rfl, hJs1, hcBs1⟩⟩ ?_ ?_
  · rintro ⟨out3, x11⟩ o _ _ ⟨v3_1, B3_1, rfl, rfl, hJ3_1, hcB3_1⟩ hb
    have h : wby_l1 l0 out3 x11 o := hb
    clear hb
    unfold wby_l1 at h
    refine xw_seq (xw_region ?_)
    refine xq rfl trivial (o_lss rfl rfl) ?_
    refine xo_nil (xq_then (xw_seq ?_))
    refine xw_bool 12 rfl (fun hc2 => ?_) (fun hc2 => ?_)
    · have hq2 : (decide (x11 < (l0.length : Int))) = true := hc2
      have hp2 : x11 < (l0.length : Int) := of_decide_eq_true hq2
      rw [if_pos hp2] at h
      refine xw_cond_t rfl rfl (xw_skip (xq_then (xw_seq ?_)))
      refine xw_block ?_
      refine xw_seq (xw_region ?_)
      obtain ⟨ho3, h⟩ := h
      refine xq rfl trivial (o_ixL el22 rfl rfl (fun w hw => (hs0.keep hw (Fr.seg hcB3_1 Fr.nil))) rfl ho3) ?_
      refine xq rfl trivial (o_ldLI rfl ts37 rfl (fun w hw => (hs0.keep hw (Fr.seg hcB3_1 Fr.nil))) (toNat_lt ho3) rfl) ?_
      refine xo rfl trivial (o_alloc ze37 rfl) ?_
      rintro _ _ ⟨b5, hb5, rfl, rfl⟩
      refine xq0 trivial (o_stWI rfl rfl ts37 (List.Mem.head _) (.here _ _ _ _)) ?_
      refine xo_nil (xq_then (xw_seq (xw_seq (xw_region ?_))))
      first | refine xq rfl trivial (o_fa0 fl37_0 rfl) ?_ | refine xq rfl trivial (o_fa fl37_0 rfl) ?_
      refine xq rfl trivial (o_ldI (v := (l0[x11.toNat]!) 0) rfl ts3 (List.Mem.head _) (by omega) rfl) ?_
      first | refine xq rfl trivial (o_fa0 fl37_2 rfl) ?_ | refine xq rfl trivial (o_fa fl37_2 rfl) ?_
      refine xq rfl trivial (o_ldI (v := (l0[x11.toNat]!) 2) rfl ts3 (List.Mem.head _) (by omega) rfl) ?_
      refine xq rfl trivial (o_geq rfl rfl) ?_
      refine xo_nil (xq_then ?_)
      refine xw_bool 19 rfl (fun hc4 => ?_) (fun hc4 => ?_)
      · have hq4 : (decide ((l0[x11.toNat]!) 2 ≤ (l0[x11.toNat]!) 0)) = true := hc4
        have hp4 : (l0[x11.toNat]!) 2 ≤ (l0[x11.toNat]!) 0 := of_decide_eq_true hq4
        rw [if_pos hp4] at h
        refine xw_cond_t rfl rfl (xw_exit (xq_then_exit ?_))
        refine xq_blk_eq ?_
        refine xq_then (xw_region ?_)
        obtain ⟨ho5, h⟩ := h
        refine xq rfl trivial (o_add rfl rfl rfl ho5) ?_
        refine xq rfl trivial (o_mv rfl) ?_
        refine xo_nil ?_
        exact xq_next (s' := ((out3, x11 + 1) : (List (Int × Int)) × Int)) (e' := [(3, v3_1), (9, v0), (10, .int .i64 (l0.length : Int)), (11, .int .i64 (x11 + 1))]) (B3_1 ++ ([])) (lc rfl (lc rfl (lc rfl (lc rfl ln)))) (Kp.st (Kp.new hb5 (Kp.segKeep Kp.nil))) h ⟨v3_1, B3_1, rfl, rfl, hJ3_1, hcB3_1⟩
      · have hq4 : (decide ((l0[x11.toNat]!) 2 ≤ (l0[x11.toNat]!) 0)) = false := hc4
        have hp4 : ¬ ((l0[x11.toNat]!) 2 ≤ (l0[x11.toNat]!) 0) := of_decide_eq_false hq4
        rw [if_neg hp4] at h
        refine xw_cond_f rfl rfl (xw_skip (xq_then (xw_seq (xw_region ?_))))
        refine xq rfl trivial (o_mv rfl) ?_
        first | refine xq rfl trivial (o_fa0 fl37_2 rfl) ?_ | refine xq rfl trivial (o_fa fl37_2 rfl) ?_
        refine xq rfl trivial (o_ldI (v := (l0[x11.toNat]!) 2) rfl ts3 (List.Mem.head _) (by omega) rfl) ?_
        refine xq rfl trivial (o_lkok (z := 0) (k := (l0[x11.toNat]!) 2) kt3 Try.underlying45 ze3 rfl rfl hJ3_1 (Pull.sub (.thereC _ (.here _ _)))) ?_
        refine xq rfl trivial (o_mv rfl) ?_
        refine xq rfl trivial (o_ext rfl rfl) ?_
        refine xq rfl trivial (o_ext rfl rfl) ?_
        refine xq rfl trivial (o_as rfl) ?_
        refine xq rfl trivial (o_as rfl) ?_
        refine xo_nil (xq_then (xw_seq ?_))
        refine xw_cut [(3, _), (5, _), (9, _), (10, _), (11, _)] (lc rfl (lc rfl (lc rfl (lc rfl (lc rfl ln))))) [(34, .bool ((!((mhas ieq out3 ((l0[x11.toNat]!) 2)))) || (decide ((l0[x11.toNat]!) 0 < mget ieq out3 ((l0[x11.toNat]!) 2) 0))))] ?_ ?_
        · refine xw_region ?_
          refine xq rfl trivial (o_mv rfl) ?_
          refine xq rfl trivial (o_not rfl) ?_
          refine xq rfl trivial (o_mv rfl) ?_
          refine xo_bool 29 rfl (fun hg6 => ?_) (fun hg6 => ?_)
          · have hq6 : ((mhas ieq out3 ((l0[x11.toNat]!) 2))) = false := (bnT hg6)
            have hp6 : ¬ (((mhas ieq out3 ((l0[x11.toNat]!) 2))) = true) := bne' hq6
            refine xs rfl ⟨_, _, rfl, rfl, rfl⟩ (xs rfl ⟨_, _, rfl, rfl, rfl⟩ (xs rfl ⟨_, _, rfl, rfl, rfl⟩ (xs rfl ⟨_, _, rfl, rfl, rfl⟩ ?_)))
            refine xq rfl trivial (o_pick_t rfl rfl) ?_
            refine xo_nil ?_
            exact xq_cut ((lce rfl (by first | rfl | (simp only [hq2, hq4, hq6, if_pos hp2, if_neg hp4, if_neg hp6, bS]; done) | (simp only [hq2, hq4, hq6, if_pos hp2, if_neg hp4, if_neg hp6, bS, reduceIte, Bool.false_eq_true]; done) | (simp [hp2, hp4, hp6]; done) | (simp_all; done)) (lc rfl (lc rfl (lc rfl (lc rfl (lc rfl ln))))))) (fun _ h => h)
          · have hq6 : ((mhas ieq out3 ((l0[x11.toNat]!) 2))) = true := (bnF hg6)
            have hp6 : ((mhas ieq out3 ((l0[x11.toNat]!) 2))) = true := hq6
            first | refine xq rfl ⟨_, rfl, rfl⟩ (o_fa0 fl37_0 rfl) ?_ | refine xq rfl ⟨_, rfl, rfl⟩ (o_fa fl37_0 rfl) ?_
            refine xq rfl ⟨_, rfl, rfl⟩ (o_ldI (v := (l0[x11.toNat]!) 0) rfl ts3 (List.Mem.head _) (by omega) rfl) ?_
            refine xq rfl ⟨_, rfl, rfl⟩ (o_mv rfl) ?_
            refine xq rfl ⟨_, rfl, rfl⟩ (o_lss rfl rfl) ?_
            refine xq rfl trivial (o_pick_f rfl rfl) ?_
            refine xo_nil ?_
            exact xq_cut ((lce rfl (by first | rfl | (simp only [hq2, hq4, hq6, if_pos hp2, if_neg hp4, if_pos hp6, bS]; done) | (simp only [hq2, hq4, hq6, if_pos hp2, if_neg hp4, if_pos hp6, bS, reduceIte, Bool.false_eq_true]; done) | (simp [hp2, hp4, hp6]; done) | (simp_all; done)) (lc rfl (lc rfl (lc rfl (lc rfl (lc rfl ln))))))) (fun _ h => h)
        · refine xq_then ?_
          refine xw_bool 34 rfl (fun hc7 => ?_) (fun hc7 => ?_)
          · have hq7 : ((!((mhas ieq out3 ((l0[x11.toNat]!) 2)))) || (decide ((l0[x11.toNat]!) 0 < mget ieq out3 ((l0[x11.toNat]!) 2) 0))) = true := hc7
            have hp7 : ((!((mhas ieq out3 ((l0[x11.toNat]!) 2)))) || (decide ((l0[x11.toNat]!) 0 < mget ieq out3 ((l0[x11.toNat]!) 2) 0))) = true := hq7
            rw [if_pos hp7] at h
            refine xw_cond_t rfl rfl (xw_region ?_)
            refine xq rfl trivial (o_mv rfl) ?_
            first | refine xq rfl trivial (o_fa0 fl37_2 rfl) ?_ | refine xq rfl trivial (o_fa fl37_2 rfl) ?_
            refine xq rfl trivial (o_ldI (v := (l0[x11.toNat]!) 2) rfl ts3 (List.Mem.head _) (by omega) rfl) ?_
            first | refine xq rfl trivial (o_fa0 fl37_0 rfl) ?_ | refine xq rfl trivial (o_fa fl37_0 rfl) ?_
            refine xq rfl trivial (o_ldI (v := (l0[x11.toNat]!) 0) rfl ts3 (List.Mem.head _) (by omega) rfl) ?_
            refine xo0 trivial (OT.st (fun _ h => Pull.st (.thereC _ (.here _ _)) h) (o_mset (k := (l0[x11.toNat]!) 2) (e := (l0[x11.toNat]!) 0) kt3 Try.underlying45 rfl rfl rfl hJ3_1)) ?_
            rintro _ _ ⟨Bs8, rfl, hns8, hJs8⟩
            have hcBs8 := Cov.trans hcB3_1 hns8
            refine xo_st ((b5, BK 4 (iv (l0[x11.toNat]!)) 37) :: (Bs8 ++ ([]))) (fun _ h => Pull.push (.thereC _ (.here _ _)) h) ?_
            refine xo_nil ?_
            refine xq_blk 1 ?_
            refine xq_then (xw_region ?_)
            obtain ⟨ho9, h⟩ := h
            refine xq rfl trivial (o_add rfl rfl rfl ho9) ?_
            refine xq rfl trivial (o_mv rfl) ?_
            refine xo_nil ?_
            exact xq_next (s' := ((mset ieq out3 ((l0[x11.toNat]!) 2) ((l0[x11.toNat]!) 0), x11 + 1) : (List (Int × Int)) × Int)) (e' := [(3, v3_1), (9, v0), (10, .int .i64 (l0.length : Int)), (11, .int .i64 (x11 + 1))]) (Bs8 ++ ([])) (lc rfl (lc rfl (lc rfl (lc rfl ln)))) (Kp.st (Kp.new hb5 (Kp.segKeep Kp.nil))) h ⟨v3_1, Bs8, rfl, rfl, hJs8, hcBs8⟩
          · have hq7 : ((!((mhas ieq out3 ((l0[x11.toNat]!) 2)))) || (decide ((l0[x11.toNat]!) 0 < mget ieq out3 ((l0[x11.toNat]!) 2) 0))) = false := hc7
            have hp7 : ¬ (((!((mhas ieq out3 ((l0[x11.toNat]!) 2)))) || (decide ((l0[x11.toNat]!) 0 < mget ieq out3 ((l0[x11.toNat]!) 2) 0))) = true) := bne' hq7
            rw [if_neg hp7] at h
            refine xw_cond_f rfl rfl (xw_skip ?_)
            refine xq_blk 1 ?_
            refine xq_then (xw_region ?_)
            obtain ⟨ho10, h⟩ := h
            refine xq rfl trivial (o_add rfl rfl rfl ho10) ?_
            refine xq rfl trivial (o_mv rfl) ?_
            refine xo_nil ?_
            exact xq_next (s' := ((out3, x11 + 1) : (List (Int × Int)) × Int)) (e' := [(3, v3_1), (9, v0), (10, .int .i64 (l0.length : Int)), (11, .int .i64 (x11 + 1))]) (B3_1 ++ ([])) (lc rfl (lc rfl (lc rfl (lc rfl ln)))) (Kp.st (Kp.new hb5 (Kp.segKeep Kp.nil))) h ⟨v3_1, B3_1, rfl, rfl, hJ3_1, hcB3_1⟩
    · have hq2 : (decide (x11 < (l0.length : Int))) = false := hc2
      have hp2 : ¬ (x11 < (l0.length : Int)) := of_decide_eq_false hq2
      rw [if_neg hp2] at h
      refine xw_cond_f rfl rfl (xw_exit (xq_then_exit ?_))
      exact xq_out (r := (out3 : (List (Int × Int)))) (e' := [(3, v3_1)]) (B3_1 ++ ([])) (lc rfl ln) (fun _ h => h) h (by intro hh; cases hh) ⟨v3_1, B3_1, rfl, rfl, rfl, hJ3_1, hcB3_1⟩
  · rintro _ _ _ ⟨v3_1o, B3_1o, rfl, rfl, rfl, hJ3_1o, hcB3_1o⟩
    replace h : wby_k1a out3 r := h
    unfold wby_k1a at h
    refine xq_blk_eq ?_
    refine xq_then (xw_seq (xw_region ?_))
    refine xq rfl trivial (o_mv rfl) ?_
    refine xq rfl trivial (o_as rfl) ?_
    refine xo_nil (xq_then (xw_ret ?_))
    subst h
    exact con_ret1 (.inl rfl) Try.results17 rfl (B3_1o ++ []) (fun _ h => h) (⟨_, B3_1o, rfl, rfl, hJ3_1o, hcB3_1o⟩)

theorem hasW_con (s0 : (List (Nat → Int))) (v1 : (Nat → Int)) (v0 : Value) (w : World) (hs0 : SL w 2 iv v0 s0) (r : Bool) (h : hasW_S s0 v1 r) : Con Try.prog 22 #[v0, AI 2 v1] w (Is (.bool r) []) := by
  unfold hasW_S at h
  refine con_enter (n := 9) [(0, _), (1, _)] Try.func22 rfl Try.ntmps22 rfl (lac rfl (lac rfl lan)) ?_
  refine xw_seq (xw_region ?_)
  refine xo rfl trivial (o_boxA rfl) ?_
  rintro _ _ ⟨b3, hb3, rfl, rfl⟩
  refine xq rfl trivial (o_as rfl) ?_
  refine xo_nil (xq_then (xw_seq (xw_region ?_)))
  refine xq rfl trivial (o_mv rfl) ?_
  refine xq rfl trivial (o_ldW rfl ts29 (List.Mem.head _)) ?_
  refine xoR rfl trivial (ot_in (l := [(0, _), (1, _)]) kf35 rfl Try.func35 rfl Try.ntmps35 rfl (lac rfl (lac rfl lan)) ?_)
  refine xw_seq (xw_region ?_)
  refine xo rfl trivial (o_boxA rfl) ?_
  rintro _ _ ⟨b3a, hb3a, rfl, rfl⟩
  refine xq rfl trivial (o_as rfl) ?_
  refine xo_nil (xq_then (xw_seq (xw_seq (xw_region ?_))))
  refine xq rfl trivial (o_mv rfl) ?_
  refine xq rfl trivial (o_lenL rfl Try.underlying24 rfl (SL.val hs0)) ?_
  refine xq rfl trivial (o_mv rfl) ?_
  refine xo_nil (xq_then ?_)
  refine xw_block ?_
  obtain ⟨x1, hx1, h⟩ := h
  refine xw_wh (fun (x8 : Int) e H => e = [(0, v0), (3, .pointer (some ⟨b3a, 0, none⟩)), (7, .int .i64 (s0.length : Int)), (8, .int .i64 x8)] ∧ H = (b3a, BK 2 (iv v1) 29) :: ((b3, BK 2 (iv v1) 29) :: ([]))) (fun x ex e H => match x with | .inl _ => ex = .exit 0 ∧ e = [] ∧ H = (b3a, BK 2 (iv v1) 29) :: ((b3, BK 2 (iv v1) 29) :: ([])) | .inr x4 => ex = .ret ∧ e = [(4, .int .i64 x4)] ∧ H = (b3a, BK 2 (iv v1) 29) :: ((b3, BK 2 (iv v1) 29) :: ([]))) hx1 ⟨[(0, v0), (3, .pointer (some ⟨b3a, 0, none⟩)), (7, .int .i64 (s0.length : Int)), (8, .int .i64 0)], (b3a, BK 2 (iv v1) 29) :: ((b3, BK 2 (iv v1) 29) :: ([])), (lc rfl (lc rfl (lc rfl (lc rfl ln)))), fun _ h => h, ⟨rfl, rfl⟩⟩ ?_ ?_
  · rintro x8 o _ _ ⟨rfl, rfl⟩ hb
    have h : hasW_l1 s0 v1 x8 o := hb
    clear hb
    unfold hasW_l1 at h
    refine xw_seq (xw_region ?_)
    refine xq rfl trivial (o_lss rfl rfl) ?_
    refine xo_nil (xq_then (xw_seq ?_))
    refine xw_bool 9 rfl (fun hc1 => ?_) (fun hc1 => ?_)
    · have hq1 : (decide (x8 < (s0.length : Int))) = true := hc1
      have hp1 : x8 < (s0.length : Int) := of_decide_eq_true hq1
      rw [if_pos hp1] at h
      refine xw_cond_t rfl rfl (xw_skip (xq_then (xw_seq ?_)))
      refine xw_block ?_
      refine xw_seq (xw_region ?_)
      refine xq rfl trivial (o_mv rfl) ?_
      refine xq rfl trivial (o_as rfl) ?_
      refine xo_nil (xq_then (xw_seq ?_))
      refine xd_start (by kernel_rfl) (by kernel_rfl) (fun hok => ?_)
      refine xd_b hok 0 [(3, _)] ((b3a, BK 2 (iv v1) 29) :: ([])) (rsC (List.Mem.head _) rsN) rfl rfl rfl (lc rfl ln) (by kernel_rfl) trivial (fun H' hy hK => o_ldW rfl ts29 (hy _ (List.Mem.head _))) ?_
      refine xd_b hok 1 [(0, _)] ([]) rsN rfl rfl rfl (lc rfl ln) (by kernel_rfl) trivial (fun H' hy hK => o_mv rfl) ?_
      refine xd_b hok 2 [(5, _)] ([]) rsN rfl rfl rfl (lc rfl ln) (by kernel_rfl) trivial (fun H' hy hK => o_mv rfl) ?_
      obtain ⟨ho2, h⟩ := h
      refine xd_b hok 3 [(12, _), (13, _)] ([]) rsN rfl rfl rfl (lc rfl (lc rfl ln)) (by kernel_rfl) trivial (fun H' hy hK => o_ixL el24 rfl rfl (fun w hw => (hs0.keep hw (fun k hk => (hK k hk).elim (fun h => (Fr.cons hb3a (Fr.cons hb3 Fr.nil)) k h) id))) rfl ho2) ?_
      refine xd_b hok 4 [(14, _)] ([]) rsN rfl rfl rfl (lc rfl ln) (by kernel_rfl) trivial (fun H' hy hK => o_ldLI rfl ts29 rfl (fun w hw => (hs0.keep hw (fun k hk => (hK k hk).elim (fun h => (Fr.cons hb3a (Fr.cons hb3 Fr.nil)) k h) id))) (toNat_lt ho2) rfl) ?_
      refine xd_b hok 5 [(11, _), (15, _)] ([]) rsN rfl rfl rfl (lc rfl (lc rfl ln)) (by kernel_rfl) trivial (fun H' hy hK => o_eqlA eq29 rfl rfl) ?_
      refine xd_end hok (by kernel_rfl) ?_
      refine xq_then ?_
      refine xw_bool 16 rfl (fun hc3 => ?_) (fun hc3 => ?_)
      · have hq3 : ((eqN 2 v1 (s0[x8.toNat]!))) = true := hc3
        have hp3 : ((eqN 2 v1 (s0[x8.toNat]!))) = true := hq3
        rw [if_pos hp3] at h
        refine xw_cond_t rfl rfl (xw_seq (xw_region ?_))
        refine xq rfl trivial (o_mv rfl) ?_
        refine xq rfl trivial (o_as rfl) ?_
        refine xo_nil (xq_then (xw_ret (xq_blk_ret (xq_then_ret ?_))))
        exact xq_out (r := (.inr x8 : (Unit) ⊕ (Int))) (e' := [(4, .int .i64 x8)]) ((b3a, BK 2 (iv v1) 29) :: ((b3, BK 2 (iv v1) 29) :: ([]))) (lc rfl ln) (fun _ h => h) h (by intro hh; cases hh) ⟨rfl, rfl, rfl⟩
      · have hq3 : ((eqN 2 v1 (s0[x8.toNat]!))) = false := hc3
        have hp3 : ¬ (((eqN 2 v1 (s0[x8.toNat]!))) = true) := bne' hq3
        rw [if_neg hp3] at h
        refine xw_cond_f rfl rfl (xw_skip ?_)
        refine xq_blk 1 ?_
        refine xq_then (xw_region ?_)
        obtain ⟨ho4, h⟩ := h
        refine xq rfl trivial (o_add rfl rfl rfl ho4) ?_
        refine xq rfl trivial (o_mv rfl) ?_
        refine xo_nil ?_
        exact xq_next (s' := (x8 + 1 : Int)) (e' := [(0, v0), (3, .pointer (some ⟨b3a, 0, none⟩)), (7, .int .i64 (s0.length : Int)), (8, .int .i64 (x8 + 1))]) ((b3a, BK 2 (iv v1) 29) :: ((b3, BK 2 (iv v1) 29) :: ([]))) (lc rfl (lc rfl (lc rfl (lc rfl ln)))) (fun _ h => h) h ⟨rfl, rfl⟩
    · have hq1 : (decide (x8 < (s0.length : Int))) = false := hc1
      have hp1 : ¬ (x8 < (s0.length : Int)) := of_decide_eq_false hq1
      rw [if_neg hp1] at h
      refine xw_cond_f rfl rfl (xw_exit (xq_then_exit ?_))
      exact xq_out (r := (.inl () : (Unit) ⊕ (Int))) (e' := []) ((b3a, BK 2 (iv v1) 29) :: ((b3, BK 2 (iv v1) 29) :: ([]))) ln (fun _ h => h) h (by intro hh; cases hh) ⟨rfl, rfl, rfl⟩
  · rcases x1 with _ | x4
    · rintro _ _ _ ⟨rfl, rfl, rfl⟩
      replace h : hasW_k1a r := h
      unfold hasW_k1a at h
      refine xq_blk_eq ?_
      refine xq_then (xw_seq (xw_region ?_))
      refine xq rfl trivial (o_as rfl) ?_
      refine xo_nil (xq_then (xw_ret ?_))
      refine con_ret1 (.inl rfl) Try.results35 rfl _ (fun _ h => h) (?_)
      refine xq rfl trivial (o_geq rfl rfl) ?_
      refine xq rfl trivial (o_as rfl) ?_
      refine xo_nil (xq_then (xw_ret ?_))
      subst h
      exact con_ret1 (.inl rfl) Try.results22 rfl [] (Kp.st (Kp.new hb3a (Kp.new hb3 Kp.nil))) (⟨rfl, rfl⟩)
    rintro _ _ _ ⟨rfl, rfl, rfl⟩
    replace h : hasW_k1b x4 r := h
    unfold hasW_k1b at h
    refine xq_blk_ret (xq_then_ret ?_)
    refine con_ret1 (.inl rfl) Try.results35 rfl _ (fun _ h => h) (?_)
    refine xq rfl trivial (o_geq rfl rfl) ?_
    refine xq rfl trivial (o_as rfl) ?_
    refine xo_nil (xq_then (xw_ret ?_))
    subst h
    exact con_ret1 (.inl rfl) Try.results22 rfl [] (Kp.st (Kp.new hb3a (Kp.new hb3 Kp.nil))) (⟨rfl, rfl⟩)

theorem oldest_con (l0 : (List (Nat → Int))) (v0 : Value) (w : World) (hs0 : SL w 4 iv v0 l0) (r : Int × Bool) (h : oldest_S l0 r) : Con Try.prog 13 #[v0] w (Is (.tuple #[.int .i64 r.1, .bool r.2]) []) := by
  unfold oldest_S at h
  refine con_enter (n := 28) [(0, _)] Try.func13 rfl Try.ntmps13 rfl (lac rfl lan) ?_
  refine xw_seq (xw_region ?_)
  refine xq rfl trivial (o_as rfl) ?_
  refine xq rfl trivial (o_as rfl) ?_
  refine xo_nil (xq_then (xw_seq (xw_seq (xw_region ?_))))
  refine xq rfl trivial (o_mv rfl) ?_
  refine xq rfl trivial (o_lenL rfl Try.underlying22 rfl (SL.val hs0)) ?_
  refine xq rfl trivial (o_eql rfl rfl) ?_
  refine xo_nil (xq_then ?_)
  refine xw_bool 9 rfl (fun hc1 => ?_) (fun hc1 => ?_)
  · have hq1 : (decide ((l0.length : Int) = 0)) = true := hc1
    have hp1 : (l0.length : Int) = 0 := of_decide_eq_true hq1
    rw [if_pos hp1] at h
    refine xw_cond_t rfl rfl (xw_seq (xw_region ?_))
    refine xq rfl trivial (o_as rfl) ?_
    refine xq rfl trivial (o_as rfl) ?_
    refine xo_nil (xq_then (xw_ret (xq_then_ret ?_)))
    subst h
    exact con_ret2 (.inl rfl) Try.results13 rfl rfl [] (fun _ h => h) (⟨rfl, rfl⟩)
  · have hq1 : (decide ((l0.length : Int) = 0)) = false := hc1
    have hp1 : ¬ ((l0.length : Int) = 0) := of_decide_eq_false hq1
    rw [if_neg hp1] at h
    refine xw_cond_f rfl rfl (xw_skip (xq_then (xw_seq (xw_region ?_))))
    refine xq rfl trivial (o_mv rfl) ?_
    obtain ⟨ho2, h⟩ := h
    refine xq rfl trivial (o_ixL el22 rfl rfl (fun w hw => (hs0.keep hw Fr.nil)) rfl ho2) ?_
    refine xq rfl trivial (o_faL fl37_0 rfl rfl (fun w hw => (hs0.keep hw Fr.nil)) (toNat_lt ho2)) ?_
    refine xq rfl trivial (o_ldL1 (off := 0) (u := .int .i64 (l0[0]! 0)) rfl ts3 rfl (fun w hw => (hs0.keep hw Fr.nil)) (toNat_lt ho2) rfl rfl) ?_
    refine xq rfl trivial (o_as rfl) ?_
    refine xo_nil (xq_then (xw_seq (xw_seq (xw_region ?_))))
    refine xq rfl trivial (o_mv rfl) ?_
    refine xq rfl trivial (o_lenL rfl Try.underlying22 rfl (SL.val hs0)) ?_
    refine xq rfl trivial (o_mv rfl) ?_
    refine xo_nil (xq_then ?_)
    refine xw_block ?_
    obtain ⟨n4, hx1, h⟩ := h
    refine xw_wh (fun s e H => match s with | (n4, x16) => e = [(4, .int .i64 n4), (14, v0), (15, .int .i64 (l0.length : Int)), (16, .int .i64 x16)] ∧ H = []) (fun (n4 : Int) ex e H => ex = .exit 0 ∧ e = [(4, .int .i64 n4)] ∧ H = []) hx1 ⟨[(4, .int .i64 (l0[0]! 0)), (14, v0), (15, .int .i64 (l0.length : Int)), (16, .int .i64 0)], [], (lc rfl (lc rfl (lc rfl (lc rfl ln)))), fun _ h => h, ⟨rfl, rfl⟩⟩ ?_ ?_
    · rintro ⟨n4, x16⟩ o _ _ ⟨rfl, rfl⟩ hb
      have h : oldest_l1 l0 n4 x16 o := hb
      clear hb
      unfold oldest_l1 at h
      refine xw_seq (xw_region ?_)
      refine xq rfl trivial (o_lss rfl rfl) ?_
      refine xo_nil (xq_then (xw_seq ?_))
      refine xw_bool 17 rfl (fun hc3 => ?_) (fun hc3 => ?_)
      · have hq3 : (decide (x16 < (l0.length : Int))) = true := hc3
        have hp3 : x16 < (l0.length : Int) := of_decide_eq_true hq3
        rw [if_pos hp3] at h
        refine xw_cond_t rfl rfl (xw_skip (xq_then (xw_seq ?_)))
        refine xw_block ?_
        refine xw_seq (xw_region ?_)
        obtain ⟨ho4, h⟩ := h
        refine xq rfl trivial (o_ixL el22 rfl rfl (fun w hw => (hs0.keep hw Fr.nil)) rfl ho4) ?_
        refine xq rfl trivial (o_ldLI rfl ts37 rfl (fun w hw => (hs0.keep hw Fr.nil)) (toNat_lt ho4) rfl) ?_
        refine xo rfl trivial (o_alloc ze37 rfl) ?_
        rintro _ _ ⟨b6, hb6, rfl, rfl⟩
        refine xq0 trivial (o_stWI rfl rfl ts37 (List.Mem.head _) (.here _ _ _ _)) ?_
        refine xo_nil (xq_then (xw_region ?_))
        refine xq rfl trivial (o_mv rfl) ?_
        first | refine xq rfl trivial (o_fa0 fl37_0 rfl) ?_ | refine xq rfl trivial (o_fa fl37_0 rfl) ?_
        refine xq rfl trivial (o_ldI (v := (l0[x16.toNat]!) 0) rfl ts3 (List.Mem.head _) (by omega) rfl) ?_
        first | refine xq rfl trivial (o_fa0 fl37_2 rfl) ?_ | refine xq rfl trivial (o_fa fl37_2 rfl) ?_
        refine xq rfl trivial (o_ldI (v := (l0[x16.toNat]!) 2) rfl ts3 (List.Mem.head _) (by omega) rfl) ?_
        refine xq rfl trivial (o_min3 rfl) ?_
        refine xq rfl trivial (o_as rfl) ?_
        refine xo_nil ?_
        refine xq_blk 1 ?_
        refine xq_then (xw_region ?_)
        obtain ⟨ho5, h⟩ := h
        refine xq rfl trivial (o_add rfl rfl rfl ho5) ?_
        refine xq rfl trivial (o_mv rfl) ?_
        refine xo_nil ?_
        exact xq_next (s' := (((if ((l0[x16.toNat]!) 2) < (if ((l0[x16.toNat]!) 0) < n4 then ((l0[x16.toNat]!) 0) else n4) then ((l0[x16.toNat]!) 2) else (if ((l0[x16.toNat]!) 0) < n4 then ((l0[x16.toNat]!) 0) else n4)), x16 + 1) : Int × Int)) (e' := [(4, .int .i64 (if ((l0[x16.toNat]!) 2) < (if ((l0[x16.toNat]!) 0) < n4 then ((l0[x16.toNat]!) 0) else n4) then ((l0[x16.toNat]!) 2) else (if ((l0[x16.toNat]!) 0) < n4 then ((l0[x16.toNat]!) 0) else n4))), (14, v0), (15, .int .i64 (l0.length : Int)), (16, .int .i64 (x16 + 1))]) ([]) (lc rfl (lc rfl (lc rfl (lc rfl ln)))) (Kp.st (Kp.new hb6 Kp.nil)) h ⟨rfl, rfl⟩
      · have hq3 : (decide (x16 < (l0.length : Int))) = false := hc3
        have hp3 : ¬ (x16 < (l0.length : Int)) := of_decide_eq_false hq3
        rw [if_neg hp3] at h
        refine xw_cond_f rfl rfl (xw_exit (xq_then_exit ?_))
        exact xq_out (r := (n4 : Int)) (e' := [(4, .int .i64 n4)]) ([]) (lc rfl ln) (fun _ h => h) h (by intro hh; cases hh) ⟨rfl, rfl, rfl⟩
    · rintro _ _ _ ⟨rfl, rfl, rfl⟩
      replace h : oldest_k1a n4 r := h
      unfold oldest_k1a at h
      refine xq_blk_eq ?_
      refine xq_then (xw_seq (xw_region ?_))
      refine xq rfl trivial (o_mv rfl) ?_
      refine xq rfl trivial (o_as rfl) ?_
      refine xq rfl trivial (o_as rfl) ?_
      refine xo_nil (xq_then (xw_ret ?_))
      subst h
      exact con_ret2 (.inl rfl) Try.results13 rfl rfl [] (fun _ h => h) (⟨rfl, rfl⟩)

theorem esame_con (a0 : (List (Nat → Int))) (b1 : (List (Nat → Int))) (v0 : Value) (v1 : Value) (w : World) (hs0 : SL w 4 iv v0 a0) (hs1 : SL w 4 iv v1 b1) (r : Bool) (h : esame_S a0 b1 r) : Con Try.prog 10 #[v0, v1] w (Is (.bool r) []) := by
  unfold esame_S at h
  refine con_enter (n := 26) [(0, _), (1, _)] Try.func10 rfl Try.ntmps10 rfl (lac rfl (lac rfl lan)) ?_
  refine xw_seq (xw_region ?_)
  refine xq rfl trivial (o_as rfl) ?_
  refine xo_nil (xq_then (xw_seq (xw_seq (xw_region ?_))))
  refine xq rfl trivial (o_mv rfl) ?_
  refine xq rfl trivial (o_lenL rfl Try.underlying22 rfl (SL.val hs0)) ?_
  refine xq rfl trivial (o_mv rfl) ?_
  refine xq rfl trivial (o_lenL rfl Try.underlying22 rfl (SL.val hs1)) ?_
  refine xq rfl trivial (o_neq rfl rfl) ?_
  refine xo_nil (xq_then ?_)
  refine xw_bool 10 rfl (fun hc1 => ?_) (fun hc1 => ?_)
  · have hq1 : (decide ((a0.length : Int) = (b1.length : Int))) = false := (bnT hc1)
    have hp1 : ¬ ((a0.length : Int) = (b1.length : Int)) := of_decide_eq_false hq1
    rw [if_neg hp1] at h
    refine xw_cond_t rfl rfl (xw_seq (xw_region ?_))
    refine xq rfl trivial (o_as rfl) ?_
    refine xo_nil (xq_then (xw_ret (xq_then_ret ?_)))
    subst h
    exact con_ret1 (.inl rfl) Try.results10 rfl [] (fun _ h => h) (⟨rfl, rfl⟩)
  · have hq1 : (decide ((a0.length : Int) = (b1.length : Int))) = true := (bnF hc1)
    have hp1 : (a0.length : Int) = (b1.length : Int) := of_decide_eq_true hq1
    rw [if_pos hp1] at h
    refine xw_cond_f rfl rfl (xw_skip (xq_then (xw_seq (xw_seq (xw_region ?_)))))
    refine xq rfl trivial (o_as rfl) ?_
    refine xo_nil (xq_then ?_)
    refine xw_block ?_
    obtain ⟨x1, hx1, h⟩ := h
    refine xw_wh (fun (i5 : Int) e H => e = [(0, v0), (1, v1), (5, .int .i64 i5)] ∧ H = []) (fun x ex e H => match x with | .inl _ => ex = .exit 0 ∧ e = [] ∧ H = [] | .inr _ => ex = .ret ∧ e = [(4, .bool false)] ∧ H = []) hx1 ⟨[(0, v0), (1, v1), (5, .int .i64 0)], [], (lc rfl (lc rfl (lc rfl ln))), fun _ h => h, ⟨rfl, rfl⟩⟩ ?_ ?_
    · rintro i5 o _ _ ⟨rfl, rfl⟩ hb
      have h : esame_l1 a0 b1 i5 o := hb
      clear hb
      unfold esame_l1 at h
      refine xw_seq (xw_seq (xw_region ?_))
      refine xq rfl trivial (o_mv rfl) ?_
      refine xq rfl trivial (o_mv rfl) ?_
      refine xq rfl trivial (o_lenL rfl Try.underlying22 rfl (SL.val hs0)) ?_
      refine xq rfl trivial (o_lss rfl rfl) ?_
      refine xo_nil (xq_then ?_)
      refine xw_bool 14 rfl (fun hc2 => ?_) (fun hc2 => ?_)
      · have hq2 : (decide (i5 < (a0.length : Int))) = true := hc2
        have hp2 : i5 < (a0.length : Int) := of_decide_eq_true hq2
        rw [if_pos hp2] at h
        refine xw_cond_t rfl rfl (xw_skip (xq_then (xw_seq ?_)))
        refine xw_block ?_
        refine xw_seq ?_
        refine xd_start (by kernel_rfl) (by kernel_rfl) (fun hok => ?_)
        refine xd_b hok 0 [(0, _)] ([]) rsN rfl rfl rfl (lc rfl ln) (by kernel_rfl) trivial (fun H' hy hK => o_mv rfl) ?_
        refine xd_b hok 1 [(5, _)] ([]) rsN rfl rfl rfl (lc rfl ln) (by kernel_rfl) trivial (fun H' hy hK => o_mv rfl) ?_
        obtain ⟨ho3, h⟩ := h
        refine xd_b hok 2 [(17, _), (18, _)] ([]) rsN rfl rfl rfl (lc rfl (lc rfl ln)) (by kernel_rfl) trivial (fun H' hy hK => o_ixL el22 rfl rfl (fun w hw => (hs0.keep hw (fun k hk => (hK k hk).elim (fun h => Fr.nil k h) id))) rfl ho3) ?_
        refine xd_b hok 3 [(19, _)] ([]) rsN rfl rfl rfl (lc rfl ln) (by kernel_rfl) trivial (fun H' hy hK => o_ldLI rfl ts37 rfl (fun w hw => (hs0.keep hw (fun k hk => (hK k hk).elim (fun h => Fr.nil k h) id))) (toNat_lt ho3) rfl) ?_
        refine xd_b hok 4 [(1, _)] ([]) rsN rfl rfl rfl (lc rfl ln) (by kernel_rfl) trivial (fun H' hy hK => o_mv rfl) ?_
        refine xd_b hok 5 [(5, _)] ([]) rsN rfl rfl rfl (lc rfl ln) (by kernel_rfl) trivial (fun H' hy hK => o_mv rfl) ?_
        obtain ⟨ho4, h⟩ := h
        refine xd_b hok 6 [(21, _), (22, _)] ([]) rsN rfl rfl rfl (lc rfl (lc rfl ln)) (by kernel_rfl) trivial (fun H' hy hK => o_ixL el22 rfl rfl (fun w hw => (hs1.keep hw (fun k hk => (hK k hk).elim (fun h => Fr.nil k h) id))) rfl ho4) ?_
        refine xd_b hok 7 [(23, _)] ([]) rsN rfl rfl rfl (lc rfl ln) (by kernel_rfl) trivial (fun H' hy hK => o_ldLI rfl ts37 rfl (fun w hw => (hs1.keep hw (fun k hk => (hK k hk).elim (fun h => Fr.nil k h) id))) (toNat_lt ho4) rfl) ?_
        refine xd_b hok 8 [(20, _), (24, _)] ([]) rsN rfl rfl rfl (lc rfl (lc rfl ln)) (by kernel_rfl) trivial (fun H' hy hK => o_neqA eq37 rfl rfl) ?_
        refine xd_end hok (by kernel_rfl) ?_
        refine xq_then ?_
        refine xw_bool 25 rfl (fun hc5 => ?_) (fun hc5 => ?_)
        · have hq5 : ((eqN 4 (a0[i5.toNat]!) (b1[i5.toNat]!))) = false := (bnT hc5)
          have hp5 : ¬ (((eqN 4 (a0[i5.toNat]!) (b1[i5.toNat]!))) = true) := bne' hq5
          rw [if_neg hp5] at h
          refine xw_cond_t rfl rfl (xw_seq (xw_region ?_))
          refine xq rfl trivial (o_as rfl) ?_
          refine xo_nil (xq_then (xw_ret (xq_blk_ret (xq_then_ret ?_))))
          exact xq_out (r := (.inr () : (Unit) ⊕ (Unit))) (e' := [(4, .bool false)]) ([]) (lc rfl ln) (fun _ h => h) h (by intro hh; cases hh) ⟨rfl, rfl, rfl⟩
        · have hq5 : ((eqN 4 (a0[i5.toNat]!) (b1[i5.toNat]!))) = true := (bnF hc5)
          have hp5 : ((eqN 4 (a0[i5.toNat]!) (b1[i5.toNat]!))) = true := hq5
          rw [if_pos hp5] at h
          refine xw_cond_f rfl rfl (xw_skip ?_)
          refine xq_blk 1 ?_
          refine xq_then (xw_region ?_)
          refine xq rfl trivial (o_mv rfl) ?_
          obtain ⟨ho6, h⟩ := h
          refine xq rfl trivial (o_add rfl rfl rfl ho6) ?_
          refine xq rfl trivial (o_as rfl) ?_
          refine xo_nil ?_
          exact xq_next (s' := (i5 + 1 : Int)) (e' := [(0, v0), (1, v1), (5, .int .i64 (i5 + 1))]) ([]) (lc rfl (lc rfl (lc rfl ln))) (fun _ h => h) h ⟨rfl, rfl⟩
      · have hq2 : (decide (i5 < (a0.length : Int))) = false := hc2
        have hp2 : ¬ (i5 < (a0.length : Int)) := of_decide_eq_false hq2
        rw [if_neg hp2] at h
        refine xw_cond_f rfl rfl (xw_exit (xq_then_exit ?_))
        exact xq_out (r := (.inl () : (Unit) ⊕ (Unit))) (e' := []) ([]) ln (fun _ h => h) h (by intro hh; cases hh) ⟨rfl, rfl, rfl⟩
    · rcases x1 with _ | x1
      · rintro _ _ _ ⟨rfl, rfl, rfl⟩
        replace h : esame_k1a r := h
        unfold esame_k1a at h
        refine xq_blk_eq ?_
        refine xq_then (xw_seq (xw_region ?_))
        refine xq rfl trivial (o_as rfl) ?_
        refine xo_nil (xq_then (xw_ret ?_))
        subst h
        exact con_ret1 (.inl rfl) Try.results10 rfl [] (fun _ h => h) (⟨rfl, rfl⟩)
      cases x1
      rintro _ _ _ ⟨rfl, rfl, rfl⟩
      replace h : esame_k1b r := h
      unfold esame_k1b at h
      refine xq_blk_ret (xq_then_ret ?_)
      subst h
      exact con_ret1 (.inl rfl) Try.results10 rfl [] (fun _ h => h) (⟨rfl, rfl⟩)

theorem risingR_con (l0 : (List Int)) (v0 : Value) (w : World) (hs0 : SL w 1 ic v0 l0) (r : (List Int)) (h : risingR_S l0 r) : Con Try.prog 28 #[v0] w (fun v F => ∃ (u0 : Value) (C0 : GH), v = u0 ∧ F = (C0 ++ []) ∧ OJ 3 1 ic C0 u0 r ∧ Cov w [] C0) := by
  unfold risingR_S at h
  refine con_enter (n := 60) [(0, _)] Try.func28 rfl Try.ntmps28 rfl (lac rfl lan) ?_
  refine xw_seq (xw_region ?_)
  refine xq rfl trivial (o_as rfl) ?_
  refine xo_nil (xq_then (xw_seq (xw_region ?_)))
  refine xq rfl trivial (o_as rfl) ?_
  refine xo_nil (xq_then (xw_seq (xw_seq (xw_region ?_))))
  refine xq rfl trivial (o_as rfl) ?_
  refine xo_nil (xq_then ?_)
  refine xw_block ?_
  obtain ⟨out3, hx1, h⟩ := h
  refine xw_wh (fun s e H => match s with | (out3, i4) => ∃ (v3_1 : Value) (B3_1 : GH), e = [(0, v0), (3, v3_1), (4, .int .i64 i4)] ∧ H = B3_1 ++ ([]) ∧ OJ 3 1 ic B3_1 v3_1 out3 ∧ Cov w [] B3_1) (fun (out3 : (List Int)) ex e H => ∃ (v3_1o : Value) (B3_1o : GH), ex = .exit 0 ∧ e = [(3, v3_1o)] ∧ H = B3_1o ++ ([]) ∧ OJ 3 1 ic B3_1o v3_1o out3 ∧ Cov w [] B3_1o) hx1 ⟨[(0, v0), (3, .slice none 0 0), (4, .int .i64 0)], [] ++ ([]), (lc rfl (lc rfl (lc rfl ln))), fun _ h => h, ⟨_, [], rfl, rfl, OJ.nil, (Cov.refl _)⟩⟩ ?_ ?_
  · rintro ⟨out3, i4⟩ o _ _ ⟨v3_1, B3_1, rfl, rfl, hJ3_1, hcB3_1⟩ hb
    have h : risingR_l1 l0 out3 i4 o := hb
    clear hb
    unfold risingR_l1 at h
    refine xw_seq (xw_seq (xw_region ?_))
    refine xq rfl trivial (o_mv rfl) ?_
    refine xq rfl trivial (o_mv rfl) ?_
    refine xq rfl trivial (o_lenL rfl Try.underlying38 rfl (SL.val hs0)) ?_
    refine xq rfl trivial (o_lss rfl rfl) ?_
    refine xo_nil (xq_then ?_)
    refine xw_bool 9 rfl (fun hc1 => ?_) (fun hc1 => ?_)
    · have hq1 : (decide (i4 < (l0.length : Int))) = true := hc1
      have hp1 : i4 < (l0.length : Int) := of_decide_eq_true hq1
      rw [if_pos hp1] at h
      refine xw_cond_t rfl rfl (xw_skip (xq_then (xw_seq ?_)))
      refine xw_block ?_
      refine xw_seq (xw_region ?_)
      refine xq rfl trivial (o_as rfl) ?_
      refine xo_nil (xq_then (xw_seq ?_))
      refine xw_block ?_
      obtain ⟨at5, hx2, h⟩ := h
      refine xw_wh (fun (at5 : Int) e H => e = [(0, v0), (3, v3_1), (4, .int .i64 i4), (5, .int .i64 at5)] ∧ H = B3_1 ++ ([])) (fun (at5 : Int) ex e H => ex = .exit 2 ∧ e = [(0, v0), (3, v3_1), (4, .int .i64 i4), (5, .int .i64 at5)] ∧ H = B3_1 ++ ([])) hx2 ⟨[(0, v0), (3, v3_1), (4, .int .i64 i4), (5, .int .i64 0)], B3_1 ++ ([]), (lc rfl (lc rfl (lc rfl (lc rfl ln)))), fun _ h => h, ⟨rfl, rfl⟩⟩ ?_ ?_
      · rintro at5 o _ _ ⟨rfl, rfl⟩ hb
        have h : risingR_l2 l0 out3 i4 at5 o := hb
        clear hb
        unfold risingR_l2 at h
        refine xw_seq (xw_seq ?_)
        obtain ⟨ho2, ho3, h⟩ := h
        refine xw_cut [(0, _), (3, _), (4, _), (5, _)] (lc rfl (lc rfl (lc rfl (lc rfl ln)))) [(26, .bool ((decide (at5 < (out3.length : Int))) && (decide (out3[at5.toNat]! < l0[i4.toNat]!))))] ?_ ?_
        · refine xd_start (by kernel_rfl) (by kernel_rfl) (fun hok => ?_)
          refine xd_b hok 0 [(5, _)] ([]) rsN rfl rfl rfl (lc rfl ln) (by kernel_rfl) trivial (fun H' hy hK => o_mv rfl) ?_
          refine xd_b hok 1 [(3, _)] ([]) rsN rfl rfl rfl (lc rfl ln) (by kernel_rfl) trivial (fun H' hy hK => o_mv rfl) ?_
          refine xd_b hok 2 [(13, _)] ([]) rsN rfl rfl rfl (lc rfl ln) (by kernel_rfl) trivial (fun H' hy hK => o_lenL rfl Try.underlying38 rfl (OJ.val hJ3_1)) ?_
          refine xd_b hok 3 [(12, _), (14, _)] ([]) rsN rfl rfl rfl (lc rfl (lc rfl ln)) (by kernel_rfl) trivial (fun H' hy hK => o_lss rfl rfl) ?_
          refine xd_b hok 4 [(15, _)] ([]) rsN rfl rfl rfl (lc rfl ln) (by kernel_rfl) trivial (fun H' hy hK => o_mv rfl) ?_
          refine xd_bool 16 rfl (fun hg4 => ?_) (fun hg4 => ?_)
          · have hq4 : (decide (at5 < (out3.length : Int))) = true := hg4
            have hp4 : at5 < (out3.length : Int) := of_decide_eq_true hq4
            refine xd_b hok 5 [(3, _), (16, _)] ([]) rsN rfl rfl rfl (lc rfl (lc rfl ln)) (by kernel_rfl) ⟨_, rfl, rfl⟩ (fun H' hy hK => o_mv rfl) ?_
            refine xd_b hok 6 [(5, _), (16, _)] ([]) rsN rfl rfl rfl (lc rfl (lc rfl ln)) (by kernel_rfl) ⟨_, rfl, rfl⟩ (fun H' hy hK => o_mv rfl) ?_
            refine xd_b hok 7 [(17, _), (18, _), (16, _)] (B3_1 ++ ([])) (rsA (Pull.sub (.here _ _)) rsN) rfl rfl rfl (lc rfl (lc rfl (lc rfl ln))) (by kernel_rfl) ⟨_, rfl, rfl⟩ (fun H' hy hK => o_ixL el38 rfl rfl (fun w hw => (hJ3_1.sl hw (fun x hx => hy x (Pull.sub (.here _ _) x hx)))) rfl (ho2 (by first | exact hg4 | (simp only [hq4, if_pos hp4, bS]; done) | (simp only [hq4, if_pos hp4, bS, reduceIte, Bool.false_eq_true]; done) | (simp [hp4]; done) | (simp_all; done)))) ?_
            refine xd_b hok 8 [(19, _), (16, _)] (B3_1 ++ ([])) (rsA (Pull.sub (.here _ _)) rsN) rfl rfl rfl (lc rfl (lc rfl ln)) (by kernel_rfl) ⟨_, rfl, rfl⟩ (fun H' hy hK => o_ldL1 (off := 0) (u := .int .i64 (out3[at5.toNat]!)) rfl ts3 rfl (fun w hw => (hJ3_1.sl hw (fun x hx => hy x (Pull.sub (.here _ _) x hx)))) (toNat_lt (ho2 (by first | exact hg4 | (simp only [hq4, if_pos hp4, bS]; done) | (simp only [hq4, if_pos hp4, bS, reduceIte, Bool.false_eq_true]; done) | (simp [hp4]; done) | (simp_all; done)))) rfl rfl) ?_
            refine xd_b hok 9 [(0, _), (16, _)] ([]) rsN rfl rfl rfl (lc rfl (lc rfl ln)) (by kernel_rfl) ⟨_, rfl, rfl⟩ (fun H' hy hK => o_mv rfl) ?_
            refine xd_b hok 10 [(4, _), (16, _)] ([]) rsN rfl rfl rfl (lc rfl (lc rfl ln)) (by kernel_rfl) ⟨_, rfl, rfl⟩ (fun H' hy hK => o_mv rfl) ?_
            refine xd_b hok 11 [(21, _), (22, _), (16, _)] ([]) rsN rfl rfl rfl (lc rfl (lc rfl (lc rfl ln))) (by kernel_rfl) ⟨_, rfl, rfl⟩ (fun H' hy hK => o_ixL el38 rfl rfl (fun w hw => (hs0.keep hw (fun k hk => (hK k hk).elim (fun h => (Fr.seg hcB3_1 Fr.nil) k h) id))) rfl (ho3 (by first | exact hg4 | (simp only [hq4, if_pos hp4, bS]; done) | (simp only [hq4, if_pos hp4, bS, reduceIte, Bool.false_eq_true]; done) | (simp [hp4]; done) | (simp_all; done)))) ?_
            refine xd_b hok 12 [(23, _), (16, _)] ([]) rsN rfl rfl rfl (lc rfl (lc rfl ln)) (by kernel_rfl) ⟨_, rfl, rfl⟩ (fun H' hy hK => o_ldL1 (off := 0) (u := .int .i64 (l0[i4.toNat]!)) rfl ts3 rfl (fun w hw => (hs0.keep hw (fun k hk => (hK k hk).elim (fun h => (Fr.seg hcB3_1 Fr.nil) k h) id))) (toNat_lt (ho3 (by first | exact hg4 | (simp only [hq4, if_pos hp4, bS]; done) | (simp only [hq4, if_pos hp4, bS, reduceIte, Bool.false_eq_true]; done) | (simp [hp4]; done) | (simp_all; done)))) rfl rfl) ?_
            refine xd_b hok 13 [(20, _), (24, _), (16, _)] ([]) rsN rfl rfl rfl (lc rfl (lc rfl (lc rfl ln))) (by kernel_rfl) ⟨_, rfl, rfl⟩ (fun H' hy hK => o_lss rfl rfl) ?_
            refine xd_b hok 14 [(16, _), (25, _)] ([]) rsN rfl rfl rfl (lc rfl (lc rfl ln)) (by kernel_rfl) trivial (fun H' hy hK => o_pick_t rfl rfl) ?_
            refine xd_end hok (by kernel_rfl) ?_
            exact xq_cut ((lce rfl (by first | rfl | (simp only [hq4, if_pos hp4, bS]; done) | (simp only [hq4, if_pos hp4, bS, reduceIte, Bool.false_eq_true]; done) | (simp [hp4]; done) | (simp_all; done)) (lc rfl (lc rfl (lc rfl (lc rfl ln)))))) (fun _ h => h)
          · have hq4 : (decide (at5 < (out3.length : Int))) = false := hg4
            have hp4 : ¬ (at5 < (out3.length : Int)) := of_decide_eq_false hq4
            refine xd_skip hok 5 [(3, _), (16, _)] rfl rfl rfl (lc rfl (lc rfl ln)) (by kernel_rfl) ⟨_, _, rfl, rfl, rfl⟩ ?_
            refine xd_skip hok 6 [(5, _), (16, _)] rfl rfl rfl (lc rfl (lc rfl ln)) (by kernel_rfl) ⟨_, _, rfl, rfl, rfl⟩ ?_
            refine xd_skip hok 7 [(17, _), (18, _), (16, _)] rfl rfl rfl (lc rfl (lc rfl (lc rfl ln))) (by kernel_rfl) ⟨_, _, rfl, rfl, rfl⟩ ?_
            refine xd_skip hok 8 [(19, _), (16, _)] rfl rfl rfl (lc rfl (lc rfl ln)) (by kernel_rfl) ⟨_, _, rfl, rfl, rfl⟩ ?_
            refine xd_skip hok 9 [(0, _), (16, _)] rfl rfl rfl (lc rfl (lc rfl ln)) (by kernel_rfl) ⟨_, _, rfl, rfl, rfl⟩ ?_
            refine xd_skip hok 10 [(4, _), (16, _)] rfl rfl rfl (lc rfl (lc rfl ln)) (by kernel_rfl) ⟨_, _, rfl, rfl, rfl⟩ ?_
            refine xd_skip hok 11 [(21, _), (22, _), (16, _)] rfl rfl rfl (lc rfl (lc rfl (lc rfl ln))) (by kernel_rfl) ⟨_, _, rfl, rfl, rfl⟩ ?_
            refine xd_skip hok 12 [(23, _), (16, _)] rfl rfl rfl (lc rfl (lc rfl ln)) (by kernel_rfl) ⟨_, _, rfl, rfl, rfl⟩ ?_
            refine xd_skip hok 13 [(20, _), (24, _), (16, _)] rfl rfl rfl (lc rfl (lc rfl (lc rfl ln))) (by kernel_rfl) ⟨_, _, rfl, rfl, rfl⟩ ?_
            refine xd_b hok 14 [(16, _), (25, _)] ([]) rsN rfl rfl rfl (lc rfl (lc rfl ln)) (by kernel_rfl) trivial (fun H' hy hK => o_pick_f rfl rfl) ?_
            refine xd_end hok (by kernel_rfl) ?_
            exact xq_cut ((lce rfl (by first | rfl | (simp only [hq4, if_neg hp4, bS]; done) | (simp only [hq4, if_neg hp4, bS, reduceIte, Bool.false_eq_true]; done) | (simp [hp4]; done) | (simp_all; done)) (lc rfl (lc rfl (lc rfl (lc rfl ln)))))) (fun _ h => h)
        · refine xq_then ?_
          refine xw_bool 26 rfl (fun hc5 => ?_) (fun hc5 => ?_)
          · have hq5 : ((decide (at5 < (out3.length : Int))) && (decide (out3[at5.toNat]! < l0[i4.toNat]!))) = true := hc5
            have hp5 : ((decide (at5 < (out3.length : Int))) && (decide (out3[at5.toNat]! < l0[i4.toNat]!))) = true := hq5
            rw [if_pos hp5] at h
            refine xw_cond_t rfl rfl (xw_skip (xq_then ?_))
            refine xw_block ?_
            refine xw_region ?_
            refine xq rfl trivial (o_mv rfl) ?_
            obtain ⟨ho6, h⟩ := h
            refine xq rfl trivial (o_add rfl rfl rfl ho6) ?_
            refine xq rfl trivial (o_as rfl) ?_
            refine xo_nil ?_
            refine xq_blk 3 ?_
            exact xq_next (s' := (at5 + 1 : Int)) (e' := [(0, v0), (3, v3_1), (4, .int .i64 i4), (5, .int .i64 (at5 + 1))]) (B3_1 ++ ([])) (lc rfl (lc rfl (lc rfl (lc rfl ln)))) (fun _ h => h) h ⟨rfl, rfl⟩
          · have hq5 : ((decide (at5 < (out3.length : Int))) && (decide (out3[at5.toNat]! < l0[i4.toNat]!))) = false := hc5
            have hp5 : ¬ (((decide (at5 < (out3.length : Int))) && (decide (out3[at5.toNat]! < l0[i4.toNat]!))) = true) := bne' hq5
            rw [if_neg hp5] at h
            refine xw_cond_f rfl rfl (xw_exit (xq_then_exit ?_))
            exact xq_out (r := (at5 : Int)) (e' := [(0, v0), (3, v3_1), (4, .int .i64 i4), (5, .int .i64 at5)]) (B3_1 ++ ([])) (lc rfl (lc rfl (lc rfl (lc rfl ln)))) (fun _ h => h) h (by intro hh; cases hh) ⟨rfl, rfl, rfl⟩
      · rintro _ _ _ ⟨rfl, rfl, rfl⟩
        replace h : risingR_k2a l0 out3 i4 at5 o := h
        unfold risingR_k2a at h
        refine xq_blk_eq ?_
        refine xq_then (xw_seq (xw_seq ?_))
        obtain ⟨ho7, ho8, h⟩ := h
        refine xw_cut [(0, _), (3, _), (4, _), (5, _)] (lc rfl (lc rfl (lc rfl (lc rfl ln)))) [(43, .bool ((decide (at5 < (out3.length : Int))) && (decide (out3[at5.toNat]! = l0[i4.toNat]!))))] ?_ ?_
        · refine xd_start (by kernel_rfl) (by kernel_rfl) (fun hok => ?_)
          refine xd_b hok 0 [(5, _)] ([]) rsN rfl rfl rfl (lc rfl ln) (by kernel_rfl) trivial (fun H' hy hK => o_mv rfl) ?_
          refine xd_b hok 1 [(3, _)] ([]) rsN rfl rfl rfl (lc rfl ln) (by kernel_rfl) trivial (fun H' hy hK => o_mv rfl) ?_
          refine xd_b hok 2 [(30, _)] ([]) rsN rfl rfl rfl (lc rfl ln) (by kernel_rfl) trivial (fun H' hy hK => o_lenL rfl Try.underlying38 rfl (OJ.val hJ3_1)) ?_
          refine xd_b hok 3 [(29, _), (31, _)] ([]) rsN rfl rfl rfl (lc rfl (lc rfl ln)) (by kernel_rfl) trivial (fun H' hy hK => o_lss rfl rfl) ?_
          refine xd_b hok 4 [(32, _)] ([]) rsN rfl rfl rfl (lc rfl ln) (by kernel_rfl) trivial (fun H' hy hK => o_mv rfl) ?_
          refine xd_bool 33 rfl (fun hg9 => ?_) (fun hg9 => ?_)
          · have hq9 : (decide (at5 < (out3.length : Int))) = true := hg9
            have hp9 : at5 < (out3.length : Int) := of_decide_eq_true hq9
            refine xd_b hok 5 [(3, _), (33, _)] ([]) rsN rfl rfl rfl (lc rfl (lc rfl ln)) (by kernel_rfl) ⟨_, rfl, rfl⟩ (fun H' hy hK => o_mv rfl) ?_
            refine xd_b hok 6 [(5, _), (33, _)] ([]) rsN rfl rfl rfl (lc rfl (lc rfl ln)) (by kernel_rfl) ⟨_, rfl, rfl⟩ (fun H' hy hK => o_mv rfl) ?_
            refine xd_b hok 7 [(34, _), (35, _), (33, _)] (B3_1 ++ ([])) (rsA (Pull.sub (.here _ _)) rsN) rfl rfl rfl (lc rfl (lc rfl (lc rfl ln))) (by kernel_rfl) ⟨_, rfl, rfl⟩ (fun H' hy hK => o_ixL el38 rfl rfl (fun w hw => (hJ3_1.sl hw (fun x hx => hy x (Pull.sub (.here _ _) x hx)))) rfl (ho7 (by first | exact hg9 | (simp only [hq9, if_pos hp9, bS]; done) | (simp only [hq9, if_pos hp9, bS, reduceIte, Bool.false_eq_true]; done) | (simp [hp9]; done) | (simp_all; done)))) ?_
            refine xd_b hok 8 [(36, _), (33, _)] (B3_1 ++ ([])) (rsA (Pull.sub (.here _ _)) rsN) rfl rfl rfl (lc rfl (lc rfl ln)) (by kernel_rfl) ⟨_, rfl, rfl⟩ (fun H' hy hK => o_ldL1 (off := 0) (u := .int .i64 (out3[at5.toNat]!)) rfl ts3 rfl (fun w hw => (hJ3_1.sl hw (fun x hx => hy x (Pull.sub (.here _ _) x hx)))) (toNat_lt (ho7 (by first | exact hg9 | (simp only [hq9, if_pos hp9, bS]; done) | (simp only [hq9, if_pos hp9, bS, reduceIte, Bool.false_eq_true]; done) | (simp [hp9]; done) | (simp_all; done)))) rfl rfl) ?_
            refine xd_b hok 9 [(0, _), (33, _)] ([]) rsN rfl rfl rfl (lc rfl (lc rfl ln)) (by kernel_rfl) ⟨_, rfl, rfl⟩ (fun H' hy hK => o_mv rfl) ?_
            refine xd_b hok 10 [(4, _), (33, _)] ([]) rsN rfl rfl rfl (lc rfl (lc rfl ln)) (by kernel_rfl) ⟨_, rfl, rfl⟩ (fun H' hy hK => o_mv rfl) ?_
            refine xd_b hok 11 [(38, _), (39, _), (33, _)] ([]) rsN rfl rfl rfl (lc rfl (lc rfl (lc rfl ln))) (by kernel_rfl) ⟨_, rfl, rfl⟩ (fun H' hy hK => o_ixL el38 rfl rfl (fun w hw => (hs0.keep hw (fun k hk => (hK k hk).elim (fun h => (Fr.seg hcB3_1 Fr.nil) k h) id))) rfl (ho8 (by first | exact hg9 | (simp only [hq9, if_pos hp9, bS]; done) | (simp only [hq9, if_pos hp9, bS, reduceIte, Bool.false_eq_true]; done) | (simp [hp9]; done) | (simp_all; done)))) ?_
            refine xd_b hok 12 [(40, _), (33, _)] ([]) rsN rfl rfl rfl (lc rfl (lc rfl ln)) (by kernel_rfl) ⟨_, rfl, rfl⟩ (fun H' hy hK => o_ldL1 (off := 0) (u := .int .i64 (l0[i4.toNat]!)) rfl ts3 rfl (fun w hw => (hs0.keep hw (fun k hk => (hK k hk).elim (fun h => (Fr.seg hcB3_1 Fr.nil) k h) id))) (toNat_lt (ho8 (by first | exact hg9 | (simp only [hq9, if_pos hp9, bS]; done) | (simp only [hq9, if_pos hp9, bS, reduceIte, Bool.false_eq_true]; done) | (simp [hp9]; done) | (simp_all; done)))) rfl rfl) ?_
            refine xd_b hok 13 [(37, _), (41, _), (33, _)] ([]) rsN rfl rfl rfl (lc rfl (lc rfl (lc rfl ln))) (by kernel_rfl) ⟨_, rfl, rfl⟩ (fun H' hy hK => o_eql rfl rfl) ?_
            refine xd_b hok 14 [(33, _), (42, _)] ([]) rsN rfl rfl rfl (lc rfl (lc rfl ln)) (by kernel_rfl) trivial (fun H' hy hK => o_pick_t rfl rfl) ?_
            refine xd_end hok (by kernel_rfl) ?_
            exact xq_cut ((lce rfl (by first | rfl | (simp only [hq9, if_pos hp9, bS]; done) | (simp only [hq9, if_pos hp9, bS, reduceIte, Bool.false_eq_true]; done) | (simp [hp9]; done) | (simp_all; done)) (lc rfl (lc rfl (lc rfl (lc rfl ln)))))) (fun _ h => h)
          · have hq9 : (decide (at5 < (out3.length : Int))) = false := hg9
            have hp9 : ¬ (at5 < (out3.length : Int)) := of_decide_eq_false hq9
            refine xd_skip hok 5 [(3, _), (33, _)] rfl rfl rfl (lc rfl (lc rfl ln)) (by kernel_rfl) ⟨_, _, rfl, rfl, rfl⟩ ?_
            refine xd_skip hok 6 [(5, _), (33, _)] rfl rfl rfl (lc rfl (lc rfl ln)) (by kernel_rfl) ⟨_, _, rfl, rfl, rfl⟩ ?_
            refine xd_skip hok 7 [(34, _), (35, _), (33, _)] rfl rfl rfl (lc rfl (lc rfl (lc rfl ln))) (by kernel_rfl) ⟨_, _, rfl, rfl, rfl⟩ ?_
            refine xd_skip hok 8 [(36, _), (33, _)] rfl rfl rfl (lc rfl (lc rfl ln)) (by kernel_rfl) ⟨_, _, rfl, rfl, rfl⟩ ?_
            refine xd_skip hok 9 [(0, _), (33, _)] rfl rfl rfl (lc rfl (lc rfl ln)) (by kernel_rfl) ⟨_, _, rfl, rfl, rfl⟩ ?_
            refine xd_skip hok 10 [(4, _), (33, _)] rfl rfl rfl (lc rfl (lc rfl ln)) (by kernel_rfl) ⟨_, _, rfl, rfl, rfl⟩ ?_
            refine xd_skip hok 11 [(38, _), (39, _), (33, _)] rfl rfl rfl (lc rfl (lc rfl (lc rfl ln))) (by kernel_rfl) ⟨_, _, rfl, rfl, rfl⟩ ?_
            refine xd_skip hok 12 [(40, _), (33, _)] rfl rfl rfl (lc rfl (lc rfl ln)) (by kernel_rfl) ⟨_, _, rfl, rfl, rfl⟩ ?_
            refine xd_skip hok 13 [(37, _), (41, _), (33, _)] rfl rfl rfl (lc rfl (lc rfl (lc rfl ln))) (by kernel_rfl) ⟨_, _, rfl, rfl, rfl⟩ ?_
            refine xd_b hok 14 [(33, _), (42, _)] ([]) rsN rfl rfl rfl (lc rfl (lc rfl ln)) (by kernel_rfl) trivial (fun H' hy hK => o_pick_f rfl rfl) ?_
            refine xd_end hok (by kernel_rfl) ?_
            exact xq_cut ((lce rfl (by first | rfl | (simp only [hq9, if_neg hp9, bS]; done) | (simp only [hq9, if_neg hp9, bS, reduceIte, Bool.false_eq_true]; done) | (simp [hp9]; done) | (simp_all; done)) (lc rfl (lc rfl (lc rfl (lc rfl ln)))))) (fun _ h => h)
        · refine xq_then ?_
          refine xw_bool 43 rfl (fun hc10 => ?_) (fun hc10 => ?_)
          · have hq10 : ((decide (at5 < (out3.length : Int))) && (decide (out3[at5.toNat]! = l0[i4.toNat]!))) = true := hc10
            have hp10 : ((decide (at5 < (out3.length : Int))) && (decide (out3[at5.toNat]! = l0[i4.toNat]!))) = true := hq10
            rw [if_pos hp10] at h
            refine xw_cond_t rfl rfl (xw_exit (xq_then_exit ?_))
            refine xq_blk_eq ?_
            refine xq_then (xw_region ?_)
            refine xq rfl trivial (o_mv rfl) ?_
            obtain ⟨ho11, h⟩ := h
            refine xq rfl trivial (o_add rfl rfl rfl ho11) ?_
            refine xq rfl trivial (o_as rfl) ?_
            refine xo_nil ?_
            exact xq_next (s' := ((out3, i4 + 1) : (List Int) × Int)) (e' := [(0, v0), (3, v3_1), (4, .int .i64 (i4 + 1))]) (B3_1 ++ ([])) (lc rfl (lc rfl (lc rfl ln))) (fun _ h => h) h ⟨v3_1, B3_1, rfl, rfl, hJ3_1, hcB3_1⟩
          · have hq10 : ((decide (at5 < (out3.length : Int))) && (decide (out3[at5.toNat]! = l0[i4.toNat]!))) = false := hc10
            have hp10 : ¬ (((decide (at5 < (out3.length : Int))) && (decide (out3[at5.toNat]! = l0[i4.toNat]!))) = true) := bne' hq10
            rw [if_neg hp10] at h
            refine xw_cond_f rfl rfl (xw_skip (xq_then ?_))
            refine xd_start (by kernel_rfl) (by kernel_rfl) (fun hok => ?_)
            refine xd_b hok 1 [(3, _)] ([]) rsN rfl rfl rfl (lc rfl ln) (by kernel_rfl) trivial (fun H' hy hK => o_mv rfl) ?_
            refine xd_b hok 2 [(5, _)] ([]) rsN rfl rfl rfl (lc rfl ln) (by kernel_rfl) trivial (fun H' hy hK => o_mv rfl) ?_
            obtain ⟨ho12, h⟩ := h
            refine xd_b hok 3 [(45, _), (46, _)] (B3_1 ++ ([])) (rsA (Pull.sub (.here _ _)) rsN) rfl rfl rfl (lc rfl (lc rfl ln)) (by kernel_rfl) trivial (fun H' hy hK => o_cutH el38 rfl (fun w hw => (hJ3_1.sl hw (fun x hx => hy x (Pull.sub (.here _ _) x hx)))) rfl ho12) ?_
            refine xd_b hok 5 [(0, _)] ([]) rsN rfl rfl rfl (lc rfl ln) (by kernel_rfl) trivial (fun H' hy hK => o_mv rfl) ?_
            refine xd_b hok 6 [(4, _)] ([]) rsN rfl rfl rfl (lc rfl ln) (by kernel_rfl) trivial (fun H' hy hK => o_mv rfl) ?_
            obtain ⟨ho13, h⟩ := h
            refine xd_b hok 7 [(49, _), (50, _)] ([]) rsN rfl rfl rfl (lc rfl (lc rfl ln)) (by kernel_rfl) trivial (fun H' hy hK => o_ixL el38 rfl rfl (fun w hw => (hs0.keep hw (fun k hk => (hK k hk).elim (fun h => (Fr.seg hcB3_1 Fr.nil) k h) id))) rfl ho13) ?_
            refine xd_b hok 8 [(51, _)] ([]) rsN rfl rfl rfl (lc rfl ln) (by kernel_rfl) trivial (fun H' hy hK => o_ldL1 (off := 0) (u := .int .i64 (l0[i4.toNat]!)) rfl ts3 rfl (fun w hw => (hs0.keep hw (fun k hk => (hK k hk).elim (fun h => (Fr.seg hcB3_1 Fr.nil) k h) id))) (toNat_lt ho13) rfl rfl) ?_
            refine xd_b hok 11 [(3, _)] ([]) rsN rfl rfl rfl (lc rfl ln) (by kernel_rfl) trivial (fun H' hy hK => o_mv rfl) ?_
            refine xd_b hok 12 [(5, _)] ([]) rsN rfl rfl rfl (lc rfl ln) (by kernel_rfl) trivial (fun H' hy hK => o_mv rfl) ?_
            obtain ⟨ho14, h⟩ := h
            refine xd_b hok 13 [(55, _), (56, _)] (B3_1 ++ ([])) (rsA (Pull.sub (.here _ _)) rsN) rfl rfl rfl (lc rfl (lc rfl ln)) (by kernel_rfl) trivial (fun H' hy hK => o_cutL el38 rfl (fun w hw => (hJ3_1.sl hw (fun x hx => hy x (Pull.sub (.here _ _) x hx)))) rfl ho14) ?_
            refine xd_step2 hok 0 9 [] [(52, _)] rfl rfl rfl rfl (by kernel_rfl) ln (lc rfl ln) (by kernel_rfl) (by kernel_rfl) trivial trivial (o_bsl el38 ze3 (cells_one rfl) rfl rfl (.nil _)) (o_bsl el38 ze3 (cells_one rfl) rfl rfl (.int rfl rfl (.nil _))) ?_ ?_
            · rintro _ _ ⟨b44, hb44, rfl, rfl⟩
              refine ⟨(rsA (rsA (Pull.sub (.thereC _ (.here _ _))) rsN) (rsA rsN (rsA rsN (rsA rsN (rsA rsN (rsA rsN (rsA rsN (rsA (rsA (Pull.sub (.thereC _ (.here _ _))) rsN) (rsA rsN (rsA rsN rsN)))))))))), (Ks.consN hb44 (Ks.segK (fun k hk => by simp [hk]) Ks.nil)), ?_⟩
              obtain ⟨ho16, h⟩ := h
              refine xd_step2 hok 4 9 [(44, _), (47, _)] [(52, _)] rfl rfl rfl rfl (by kernel_rfl) (lc rfl (lc rfl ln)) (lc rfl ln) (by kernel_rfl) (by kernel_rfl) trivial trivial (OT.st (fun _ h => Pull.st (.hereC _ _) h) (o_appJ (l := []) (l' := (out3.take at5.toNat).drop 0) (B := [_]) ap38 rfl rfl (OJ.lit (l := []) (List.Mem.head _) rfl (by omega) (by simp [maxLen]) (by exact (fun i hi => match i, hi with  | q + 0, h => absurd h (by omega)))) (fun w2 hw2 => ((hJ3_1.cut (Nat.zero_le _) (toNat_le ho12) (by decide)).sl hw2 (Pull.sub (.there _ (.here _ _))))) (fun _ _ => rfl) ho16 (len_max ho16 (by decide)))) (o_bsl el38 ze3 (cells_one rfl) rfl rfl (.int rfl rfl (.nil _))) ?_ ?_
              · rintro vs15 _ ⟨Bs15, rfl, hns15, hJs15⟩
                have hcBs15 := Cov.trans (Cov.new hb44) hns15
                refine ⟨(rsA (rsA (Pull.sub (.there _ (.here _ _))) rsN) (rsA rsN (rsA rsN (rsA rsN (rsA rsN (rsA rsN (rsA rsN (rsA (rsA (Pull.sub (.there _ (.here _ _))) rsN) (rsA rsN (rsA rsN rsN)))))))))), (Ks.segN hcBs15 (Ks.segK (fun k hk => by simp [hk]) Ks.nil)), ?_⟩
                refine xd_step hok 9 [(52, _)] rfl rfl (by kernel_rfl) (lc rfl ln) (by kernel_rfl) trivial (o_bsl el38 ze3 (cells_one rfl) rfl rfl (.int rfl rfl (.nil _))) ?_
                rintro _ _ ⟨b53, hb53, rfl, rfl⟩
                refine ⟨(rsA (rsA (Pull.sub (.thereC _ (.there _ (.here _ _)))) rsN) (rsA rsN (rsA rsN (rsA rsN (rsA rsN (rsA rsN (rsA rsN (rsA (rsA (Pull.sub (.thereC _ (.there _ (.here _ _)))) rsN) (rsA rsN (rsA rsN rsN)))))))))), (Ks.consN hb53 (Ks.segN hcBs15 (Ks.segK (fun k hk => by simp [hk]) Ks.nil))), ?_⟩
                obtain ⟨ho18, h⟩ := h
                refine xd_step hok 10 [(48, _), (53, _)] rfl rfl (by kernel_rfl) (lc rfl (lc rfl ln)) (by kernel_rfl) trivial (OT.push (fun q_ => (b53, BK 1 _ 3) :: (q_ ++ (B3_1 ++ ([])))) (fun _ => (.thereC _ (.here _ _))) (OT.st (fun _ h => Pull.st (.thereC _ (.here _ _)) h) (o_appJ (l := ([] ++ (out3.take at5.toNat).drop 0)) (l' := [l0[i4.toNat]!]) (B := Bs15) ap38 rfl rfl hJs15 (fun w2 hw2 => (SL.lit (l := [l0[i4.toNat]!]) hw2 (List.mem_append_right _ (List.Mem.head _)) rfl (by omega) (by simp [maxLen]) (by exact (fun i hi => match i, hi with | 0, _ => rfl | q + 1, h => absurd h (by omega))))) (fun _ _ => rfl) ho18 (len_max ho18 (by decide))))) ?_
                rintro vs17 _ ⟨Bs17, rfl, hns17, hJs17⟩
                have hcBs17 := Cov.trans hcBs15 hns17
                refine ⟨(rsA (rsA (Pull.sub (.thereC _ (.there _ (.here _ _)))) rsN) (rsA rsN (rsA rsN (rsA rsN (rsA rsN (rsA rsN (rsA rsN (rsA (rsA (Pull.sub (.thereC _ (.there _ (.here _ _)))) rsN) (rsA rsN (rsA rsN rsN)))))))))), (Ks.consN hb53 (Ks.segN hcBs17 (Ks.segK (fun k hk => by simp [hk]) Ks.nil))), ?_⟩
                refine xd_show (H' := (b53, BK 1 _ 3) :: (Bs17 ++ (B3_1 ++ ([])))) rfl ?_
                obtain ⟨ho20, h⟩ := h
                refine xd_fl hok 4 14 [(54, _), (57, _)] rfl rfl (by kernel_rfl) (by kernel_rfl) (lc rfl (lc rfl ln)) (by kernel_rfl) trivial (OT.push (fun q_ => (b53, BK 1 _ 3) :: (q_ ++ (B3_1 ++ ([])))) (fun _ => (.thereC _ (.here _ _))) (OT.st (fun _ h => Pull.st (.thereC _ (.here _ _)) h) (o_appJ (l := (([] ++ (out3.take at5.toNat).drop 0) ++ [l0[i4.toNat]!])) (l' := (out3.take out3.length).drop at5.toNat) (B := Bs17) ap38 rfl rfl hJs17 (fun w2 hw2 => ((hJ3_1.cut (toNat_le ho14) (Nat.le_refl _) (by decide)).sl hw2 (Pull.sub (.there _ (.thereC _ (.here _ _)))))) (fun _ _ => rfl) ho20 (len_max ho20 (by decide))))) ?_
                rintro vs19 _ ⟨Bs19, rfl, hns19, hJs19⟩
                have hcBs19 := Cov.trans hcBs17 hns19
                refine ⟨(Ks.consN hb53 (Ks.segN hcBs19 (Ks.segK (fun k hk => by simp [hk]) Ks.nil))), ?_⟩
                refine xd_show (H' := (b53, BK 1 _ 3) :: (Bs19 ++ (B3_1 ++ ([])))) rfl ?_
                refine xd_b hok 15 [(58, _)] ([]) rsN rfl rfl rfl (lc rfl ln) (by kernel_rfl) trivial (fun H' hy hK => o_as rfl) ?_
                refine xd_end hok (by kernel_rfl) ?_
                refine xq_blk 1 ?_
                refine xq_then (xw_region ?_)
                refine xq rfl trivial (o_mv rfl) ?_
                obtain ⟨ho21, h⟩ := h
                refine xq rfl trivial (o_add rfl rfl rfl ho21) ?_
                refine xq rfl trivial (o_as rfl) ?_
                refine xo_nil ?_
                exact xq_next (s' := ((((([] ++ (out3.take at5.toNat).drop 0) ++ [l0[i4.toNat]!]) ++ (out3.take out3.length).drop at5.toNat), i4 + 1) : (List Int) × Int)) (e' := [(0, v0), (3, vs19), (4, .int .i64 (i4 + 1))]) (Bs19 ++ ([])) (lc rfl (lc rfl (lc rfl ln))) (Kp.st (Kp.new hb53 (Kp.segKeep (Kp.segNew (Cov.fresh hcB3_1) Kp.nil)))) h ⟨vs19, Bs19, rfl, rfl, hJs19, hcBs19⟩
              · rintro _ _ ⟨b53, hb53, rfl, rfl⟩
                refine ⟨(rsA (rsA (Pull.sub (.thereC _ (.thereC _ (.here _ _)))) rsN) (rsA rsN (rsA rsN (rsA rsN (rsA rsN (rsA rsN (rsA rsN (rsA (rsA (Pull.sub (.thereC _ (.thereC _ (.here _ _)))) rsN) (rsA rsN (rsA rsN rsN)))))))))), (Ks.consN hb53 (Ks.consN hb44 (Ks.segK (fun k hk => by simp [hk]) Ks.nil))), ?_⟩
                refine xd_step hok 4 [(44, _), (47, _)] rfl rfl (by kernel_rfl) (lc rfl (lc rfl ln)) (by kernel_rfl) trivial (OT.push (fun q_ => (b53, BK 1 _ 3) :: (q_ ++ (B3_1 ++ ([])))) (fun _ => (.thereC _ (.here _ _))) (OT.st (fun _ h => Pull.st (.thereC _ (.hereC _ _)) h) (o_appJ (l := []) (l' := (out3.take at5.toNat).drop 0) (B := [_]) ap38 rfl rfl (OJ.lit (l := []) (List.Mem.head _) rfl (by omega) (by simp [maxLen]) (by exact (fun i hi => match i, hi with  | q + 0, h => absurd h (by omega)))) (fun w2 hw2 => ((hJ3_1.cut (Nat.zero_le _) (toNat_le ho12) (by decide)).sl hw2 (Pull.sub (.there _ (.thereC _ (.here _ _)))))) (fun _ _ => rfl) ho16 (len_max ho16 (by decide))))) ?_
                rintro vs22 _ ⟨Bs22, rfl, hns22, hJs22⟩
                have hcBs22 := Cov.trans (Cov.new hb44) hns22
                refine ⟨(rsA (rsA (Pull.sub (.thereC _ (.there _ (.here _ _)))) rsN) (rsA rsN (rsA rsN (rsA rsN (rsA rsN (rsA rsN (rsA rsN (rsA (rsA (Pull.sub (.thereC _ (.there _ (.here _ _)))) rsN) (rsA rsN (rsA rsN rsN)))))))))), (Ks.consN hb53 (Ks.segN hcBs22 (Ks.segK (fun k hk => by simp [hk]) Ks.nil))), ?_⟩
                refine xd_show (H' := (b53, BK 1 _ 3) :: (Bs22 ++ (B3_1 ++ ([])))) rfl ?_
                obtain ⟨ho24, h⟩ := h
                refine xd_step hok 10 [(48, _), (53, _)] rfl rfl (by kernel_rfl) (lc rfl (lc rfl ln)) (by kernel_rfl) trivial (OT.push (fun q_ => (b53, BK 1 _ 3) :: (q_ ++ (B3_1 ++ ([])))) (fun _ => (.thereC _ (.here _ _))) (OT.st (fun _ h => Pull.st (.thereC _ (.here _ _)) h) (o_appJ (l := ([] ++ (out3.take at5.toNat).drop 0)) (l' := [l0[i4.toNat]!]) (B := Bs22) ap38 rfl rfl hJs22 (fun w2 hw2 => (SL.lit (l := [l0[i4.toNat]!]) hw2 (List.mem_append_right _ (List.Mem.head _)) rfl (by omega) (by simp [maxLen]) (by exact (fun i hi => match i, hi with | 0, _ => rfl | q + 1, h => absurd h (by omega))))) (fun _ _ => rfl) ho24 (len_max ho24 (by decide))))) ?_
                rintro vs23 _ ⟨Bs23, rfl, hns23, hJs23⟩
                have hcBs23 := Cov.trans hcBs22 hns23
                refine ⟨(rsA (rsA (Pull.sub (.thereC _ (.there _ (.here _ _)))) rsN) (rsA rsN (rsA rsN (rsA rsN (rsA rsN (rsA rsN (rsA rsN (rsA (rsA (Pull.sub (.thereC _ (.there _ (.here _ _)))) rsN) (rsA rsN (rsA rsN rsN)))))))))), (Ks.consN hb53 (Ks.segN hcBs23 (Ks.segK (fun k hk => by simp [hk]) Ks.nil))), ?_⟩
                refine xd_show (H' := (b53, BK 1 _ 3) :: (Bs23 ++ (B3_1 ++ ([])))) rfl ?_
                obtain ⟨ho26, h⟩ := h
                refine xd_fl hok 4 14 [(54, _), (57, _)] rfl rfl (by kernel_rfl) (by kernel_rfl) (lc rfl (lc rfl ln)) (by kernel_rfl) trivial (OT.push (fun q_ => (b53, BK 1 _ 3) :: (q_ ++ (B3_1 ++ ([])))) (fun _ => (.thereC _ (.here _ _))) (OT.st (fun _ h => Pull.st (.thereC _ (.here _ _)) h) (o_appJ (l := (([] ++ (out3.take at5.toNat).drop 0) ++ [l0[i4.toNat]!])) (l' := (out3.take out3.length).drop at5.toNat) (B := Bs23) ap38 rfl rfl hJs23 (fun w2 hw2 => ((hJ3_1.cut (toNat_le ho14) (Nat.le_refl _) (by decide)).sl hw2 (Pull.sub (.there _ (.thereC _ (.here _ _)))))) (fun _ _ => rfl) ho26 (len_max ho26 (by decide))))) ?_
                rintro vs25 _ ⟨Bs25, rfl, hns25, hJs25⟩
                have hcBs25 := Cov.trans hcBs23 hns25
                refine ⟨(Ks.consN hb53 (Ks.segN hcBs25 (Ks.segK (fun k hk => by simp [hk]) Ks.nil))), ?_⟩
                refine xd_show (H' := (b53, BK 1 _ 3) :: (Bs25 ++ (B3_1 ++ ([])))) rfl ?_
                refine xd_b hok 15 [(58, _)] ([]) rsN rfl rfl rfl (lc rfl ln) (by kernel_rfl) trivial (fun H' hy hK => o_as rfl) ?_
                refine xd_end hok (by kernel_rfl) ?_
                refine xq_blk 1 ?_
                refine xq_then (xw_region ?_)
                refine xq rfl trivial (o_mv rfl) ?_
                obtain ⟨ho27, h⟩ := h
                refine xq rfl trivial (o_add rfl rfl rfl ho27) ?_
                refine xq rfl trivial (o_as rfl) ?_
                refine xo_nil ?_
                exact xq_next (s' := ((((([] ++ (out3.take at5.toNat).drop 0) ++ [l0[i4.toNat]!]) ++ (out3.take out3.length).drop at5.toNat), i4 + 1) : (List Int) × Int)) (e' := [(0, v0), (3, vs25), (4, .int .i64 (i4 + 1))]) (Bs25 ++ ([])) (lc rfl (lc rfl (lc rfl ln))) (Kp.st (Kp.new hb53 (Kp.segKeep (Kp.segNew (Cov.fresh hcB3_1) Kp.nil)))) h ⟨vs25, Bs25, rfl, rfl, hJs25, hcBs25⟩
            · rintro _ _ ⟨b53, hb53, rfl, rfl⟩
              refine ⟨(rsA (rsA (Pull.sub (.thereC _ (.here _ _))) rsN) (rsA rsN (rsA rsN (rsA rsN (rsA rsN (rsA rsN (rsA rsN (rsA (rsA (Pull.sub (.thereC _ (.here _ _))) rsN) (rsA rsN (rsA rsN rsN)))))))))), (Ks.consN hb53 (Ks.segK (fun k hk => by simp [hk]) Ks.nil)), ?_⟩
              refine xd_step hok 0 [] rfl rfl (by kernel_rfl) ln (by kernel_rfl) trivial (o_bsl el38 ze3 (cells_one rfl) rfl rfl (.nil _)) ?_
              rintro _ _ ⟨b44, hb44, rfl, rfl⟩
              refine ⟨(rsA (rsA (Pull.sub (.thereC _ (.thereC _ (.here _ _)))) rsN) (rsA rsN (rsA rsN (rsA rsN (rsA rsN (rsA rsN (rsA rsN (rsA (rsA (Pull.sub (.thereC _ (.thereC _ (.here _ _)))) rsN) (rsA rsN (rsA rsN rsN)))))))))), (Ks.consN hb44 (Ks.consN hb53 (Ks.segK (fun k hk => by simp [hk]) Ks.nil))), ?_⟩
              obtain ⟨ho29, h⟩ := h
              refine xd_step hok 4 [(44, _), (47, _)] rfl rfl (by kernel_rfl) (lc rfl (lc rfl ln)) (by kernel_rfl) trivial (OT.st (fun _ h => Pull.st (.hereC _ _) h) (o_appJ (l := []) (l' := (out3.take at5.toNat).drop 0) (B := [_]) ap38 rfl rfl (OJ.lit (l := []) (List.Mem.head _) rfl (by omega) (by simp [maxLen]) (by exact (fun i hi => match i, hi with  | q + 0, h => absurd h (by omega)))) (fun w2 hw2 => ((hJ3_1.cut (Nat.zero_le _) (toNat_le ho12) (by decide)).sl hw2 (Pull.sub (.there _ (.thereC _ (.here _ _)))))) (fun _ _ => rfl) ho29 (len_max ho29 (by decide)))) ?_
              rintro vs28 _ ⟨Bs28, rfl, hns28, hJs28⟩
              have hcBs28 := Cov.trans (Cov.new hb44) hns28
              refine ⟨(rsA (rsA (Pull.sub (.there _ (.thereC _ (.here _ _)))) rsN) (rsA rsN (rsA rsN (rsA rsN (rsA rsN (rsA rsN (rsA rsN (rsA (rsA (Pull.sub (.there _ (.thereC _ (.here _ _)))) rsN) (rsA rsN (rsA rsN rsN)))))))))), (Ks.segN hcBs28 (Ks.consN hb53 (Ks.segK (fun k hk => by simp [hk]) Ks.nil))), ?_⟩
              obtain ⟨ho31, h⟩ := h
              refine xd_step hok 10 [(48, _), (53, _)] rfl rfl (by kernel_rfl) (lc rfl (lc rfl ln)) (by kernel_rfl) trivial (OT.st (fun _ h => Pull.st (.here _ _) h) (o_appJ (l := ([] ++ (out3.take at5.toNat).drop 0)) (l' := [l0[i4.toNat]!]) (B := Bs28) ap38 rfl rfl hJs28 (fun w2 hw2 => (SL.lit (l := [l0[i4.toNat]!]) hw2 (List.mem_append_right _ (List.Mem.head _)) rfl (by omega) (by simp [maxLen]) (by exact (fun i hi => match i, hi with | 0, _ => rfl | q + 1, h => absurd h (by omega))))) (fun _ _ => rfl) ho31 (len_max ho31 (by decide)))) ?_
              rintro vs30 _ ⟨Bs30, rfl, hns30, hJs30⟩
              have hcBs30 := Cov.trans hcBs28 hns30
              refine ⟨(rsA (rsA (Pull.sub (.there _ (.thereC _ (.here _ _)))) rsN) (rsA rsN (rsA rsN (rsA rsN (rsA rsN (rsA rsN (rsA rsN (rsA (rsA (Pull.sub (.there _ (.thereC _ (.here _ _)))) rsN) (rsA rsN (rsA rsN rsN)))))))))), (Ks.segN hcBs30 (Ks.consN hb53 (Ks.segK (fun k hk => by simp [hk]) Ks.nil))), ?_⟩
              obtain ⟨ho33, h⟩ := h
              refine xd_fl hok 4 14 [(54, _), (57, _)] rfl rfl (by kernel_rfl) (by kernel_rfl) (lc rfl (lc rfl ln)) (by kernel_rfl) trivial (OT.st (fun _ h => Pull.st (.here _ _) h) (o_appJ (l := (([] ++ (out3.take at5.toNat).drop 0) ++ [l0[i4.toNat]!])) (l' := (out3.take out3.length).drop at5.toNat) (B := Bs30) ap38 rfl rfl hJs30 (fun w2 hw2 => ((hJ3_1.cut (toNat_le ho14) (Nat.le_refl _) (by decide)).sl hw2 (Pull.sub (.there _ (.thereC _ (.here _ _)))))) (fun _ _ => rfl) ho33 (len_max ho33 (by decide)))) ?_
              rintro vs32 _ ⟨Bs32, rfl, hns32, hJs32⟩
              have hcBs32 := Cov.trans hcBs30 hns32
              refine ⟨(Ks.segN hcBs32 (Ks.consN hb53 (Ks.segK (fun k hk => by simp [hk]) Ks.nil))), ?_⟩
              refine xd_b hok 15 [(58, _)] ([]) rsN rfl rfl rfl (lc rfl ln) (by kernel_rfl) trivial (fun H' hy hK => o_as rfl) ?_
              refine xd_end hok (by kernel_rfl) ?_
              refine xq_blk 1 ?_
              refine xq_then (xw_region ?_)
              refine xq rfl trivial (o_mv rfl) ?_
              obtain ⟨ho34, h⟩ := h
              refine xq rfl trivial (o_add rfl rfl rfl ho34) ?_
              refine xq rfl trivial (o_as rfl) ?_
              refine xo_nil ?_
              exact xq_next (s' := ((((([] ++ (out3.take at5.toNat).drop 0) ++ [l0[i4.toNat]!]) ++ (out3.take out3.length).drop at5.toNat), i4 + 1) : (List Int) × Int)) (e' := [(0, v0), (3, vs32), (4, .int .i64 (i4 + 1))]) (Bs32 ++ ([])) (lc rfl (lc rfl (lc rfl ln))) (Kp.st (Kp.segKeep (Kp.new hb53 (Kp.segNew (Cov.fresh hcB3_1) Kp.nil)))) h ⟨vs32, Bs32, rfl, rfl, hJs32, hcBs32⟩
    · have hq1 : (decide (i4 < (l0.length : Int))) = false := hc1
      have hp1 : ¬ (i4 < (l0.length : Int)) := of_decide_eq_false hq1
      rw [if_neg hp1] at h
      refine xw_cond_f rfl rfl (xw_exit (xq_then_exit ?_))
      exact xq_out (r := (out3 : (List Int))) (e' := [(3, v3_1)]) (B3_1 ++ ([])) (lc rfl ln) (fun _ h => h) h (by intro hh; cases hh) ⟨v3_1, B3_1, rfl, rfl, rfl, hJ3_1, hcB3_1⟩
  · rintro _ _ _ ⟨v3_1o, B3_1o, rfl, rfl, rfl, hJ3_1o, hcB3_1o⟩
    replace h : risingR_k1a out3 r := h
    unfold risingR_k1a at h
    refine xq_blk_eq ?_
    refine xq_then (xw_seq (xw_region ?_))
    refine xq rfl trivial (o_mv rfl) ?_
    refine xq rfl trivial (o_as rfl) ?_
    refine xo_nil (xq_then (xw_ret ?_))
    subst h
    exact con_ret1 (.inl rfl) Try.results28 rfl (B3_1o ++ []) (fun _ h => h) (⟨_, B3_1o, rfl, rfl, hJ3_1o, hcB3_1o⟩)

theorem byR_con (l0 : (List (Nat → Int))) (tx1 : Int) (v0 : Value) (w : World) (hs0 : SL w 4 iv v0 l0) (r : Int × Bool) (h : byR_S l0 tx1 r) : Con Try.prog 20 #[v0, .int .i64 tx1] w (Is (.tuple #[.int .i64 r.1, .bool r.2]) []) := by
  unfold byR_S at h
  refine con_enter (n := 51) [(0, _), (1, _)] Try.func20 rfl Try.ntmps20 rfl (lac rfl (lac rfl lan)) ?_
  refine xw_seq (xw_region ?_)
  refine xq rfl trivial (o_as rfl) ?_
  refine xq rfl trivial (o_as rfl) ?_
  refine xo_nil (xq_then (xw_seq (xw_region ?_)))
  refine xq rfl trivial (o_as rfl) ?_
  refine xq rfl trivial (o_as rfl) ?_
  refine xo_nil (xq_then (xw_seq (xw_seq (xw_region ?_))))
  refine xq rfl trivial (o_as rfl) ?_
  refine xo_nil (xq_then ?_)
  refine xw_block ?_
  obtain ⟨x1, hx1, h⟩ := h
  refine xw_wh (fun s e H => match s with | (n6, some7, i8) => e = [(0, v0), (1, .int .i64 tx1), (6, .int .i64 n6), (7, .bool (some7)), (8, .int .i64 i8)] ∧ H = []) (fun s ex e H => match s with | (n6, some7) => ex = .exit 0 ∧ e = [(6, .int .i64 n6), (7, .bool (some7))] ∧ H = []) hx1 ⟨[(0, v0), (1, .int .i64 tx1), (6, .int .i64 0), (7, .bool false), (8, .int .i64 0)], [], (lc rfl (lc rfl (lc rfl (lc rfl (lc rfl ln))))), fun _ h => h, ⟨rfl, rfl⟩⟩ ?_ ?_
  · rintro ⟨n6, some7, i8⟩ o _ _ ⟨rfl, rfl⟩ hb
    have h : byR_l1 l0 tx1 n6 some7 i8 o := hb
    clear hb
    unfold byR_l1 at h
    refine xw_seq (xw_seq (xw_region ?_))
    refine xq rfl trivial (o_mv rfl) ?_
    refine xq rfl trivial (o_mv rfl) ?_
    refine xq rfl trivial (o_lenL rfl Try.underlying22 rfl (SL.val hs0)) ?_
    refine xq rfl trivial (o_lss rfl rfl) ?_
    refine xo_nil (xq_then ?_)
    refine xw_bool 12 rfl (fun hc1 => ?_) (fun hc1 => ?_)
    · have hq1 : (decide (i8 < (l0.length : Int))) = true := hc1
      have hp1 : i8 < (l0.length : Int) := of_decide_eq_true hq1
      rw [if_pos hp1] at h
      refine xw_cond_t rfl rfl (xw_skip (xq_then (xw_seq ?_)))
      refine xw_block ?_
      refine xw_seq ?_
      obtain ⟨ho2, ho3, ho4, h⟩ := h
      refine xw_cut [(0, _), (1, _), (6, _), (7, _), (8, _)] (lc rfl (lc rfl (lc rfl (lc rfl (lc rfl ln))))) [(43, .bool (((decide (l0[i8.toNat]! 2 = tx1)) && (decide (l0[i8.toNat]! 0 < tx1))) && ((!(some7)) || (decide (l0[i8.toNat]! 0 < n6)))))] ?_ ?_
      · refine xw_region ?_
        refine xq rfl trivial (o_mv rfl) ?_
        refine xq rfl trivial (o_mv rfl) ?_
        refine xq rfl trivial (o_ixL el22 rfl rfl (fun w hw => (hs0.keep hw Fr.nil)) rfl (ho2)) ?_
        refine xq rfl trivial (o_faL fl37_2 rfl rfl (fun w hw => (hs0.keep hw Fr.nil)) (toNat_lt (ho2))) ?_
        refine xq rfl trivial (o_ldL1 (off := 2) (u := .int .i64 (l0[i8.toNat]! 2)) rfl ts3 rfl (fun w hw => (hs0.keep hw Fr.nil)) (toNat_lt (ho2)) rfl rfl) ?_
        refine xq rfl trivial (o_mv rfl) ?_
        refine xq rfl trivial (o_eql rfl rfl) ?_
        refine xq rfl trivial (o_mv rfl) ?_
        refine xo_bool 22 rfl (fun hg5 => ?_) (fun hg5 => ?_)
        · have hq5 : (decide (l0[i8.toNat]! 2 = tx1)) = true := hg5
          have hp5 : l0[i8.toNat]! 2 = tx1 := of_decide_eq_true hq5
          refine xq rfl ⟨_, rfl, rfl⟩ (o_mv rfl) ?_
          refine xq rfl ⟨_, rfl, rfl⟩ (o_mv rfl) ?_
          refine xq rfl ⟨_, rfl, rfl⟩ (o_ixL el22 rfl rfl (fun w hw => (hs0.keep hw Fr.nil)) rfl (ho3 (by first | exact hg5 | (simp only [hq1, hq5, if_pos hp1, if_pos hp5, bS]; done) | (simp only [hq1, hq5, if_pos hp1, if_pos hp5, bS, reduceIte, Bool.false_eq_true]; done) | (simp [hp1, hp5]; done) | (simp_all; done)))) ?_
          refine xq rfl ⟨_, rfl, rfl⟩ (o_faL fl37_0 rfl rfl (fun w hw => (hs0.keep hw Fr.nil)) (toNat_lt (ho3 (by first | exact hg5 | (simp only [hq1, hq5, if_pos hp1, if_pos hp5, bS]; done) | (simp only [hq1, hq5, if_pos hp1, if_pos hp5, bS, reduceIte, Bool.false_eq_true]; done) | (simp [hp1, hp5]; done) | (simp_all; done))))) ?_
          refine xq rfl ⟨_, rfl, rfl⟩ (o_ldL1 (off := 0) (u := .int .i64 (l0[i8.toNat]! 0)) rfl ts3 rfl (fun w hw => (hs0.keep hw Fr.nil)) (toNat_lt (ho3 (by first | exact hg5 | (simp only [hq1, hq5, if_pos hp1, if_pos hp5, bS]; done) | (simp only [hq1, hq5, if_pos hp1, if_pos hp5, bS, reduceIte, Bool.false_eq_true]; done) | (simp [hp1, hp5]; done) | (simp_all; done)))) rfl rfl) ?_
          refine xq rfl ⟨_, rfl, rfl⟩ (o_mv rfl) ?_
          refine xq rfl ⟨_, rfl, rfl⟩ (o_lss rfl rfl) ?_
          refine xq rfl trivial (o_pick_t rfl rfl) ?_
          refine xq rfl trivial (o_mv rfl) ?_
          refine xo_bool 31 rfl (fun hg6 => ?_) (fun hg6 => ?_)
          · have hq6 : (decide (l0[i8.toNat]! 0 < tx1)) = true := hg6
            have hp6 : l0[i8.toNat]! 0 < tx1 := of_decide_eq_true hq6
            refine xq rfl ⟨_, rfl, rfl⟩ (o_mv rfl) ?_
            refine xq rfl ⟨_, rfl, rfl⟩ (o_not rfl) ?_
            refine xq rfl ⟨_, rfl, rfl⟩ (o_mv rfl) ?_
            refine xo_bool 34 rfl (fun hg7 => ?_) (fun hg7 => ?_)
            · have hq7 : (some7) = false := (bnT hg7)
              have hp7 : ¬ ((some7) = true) := bne' hq7
              refine xs rfl ⟨_, _, rfl, rfl, rfl⟩ (xs rfl ⟨_, _, rfl, rfl, rfl⟩ (xs rfl ⟨_, _, rfl, rfl, rfl⟩ (xs rfl ⟨_, _, rfl, rfl, rfl⟩ (xs rfl ⟨_, _, rfl, rfl, rfl⟩ (xs rfl ⟨_, _, rfl, rfl, rfl⟩ (xs rfl ⟨_, _, rfl, rfl, rfl⟩ ?_))))))
              refine xq rfl ⟨_, rfl, rfl⟩ (o_pick_t rfl rfl) ?_
              refine xq rfl trivial (o_pick_t rfl rfl) ?_
              refine xo_nil ?_
              exact xq_cut ((lce rfl (by first | rfl | (simp only [hq1, hq5, hq6, hq7, if_pos hp1, if_pos hp5, if_pos hp6, if_neg hp7, bS]; done) | (simp only [hq1, hq5, hq6, hq7, if_pos hp1, if_pos hp5, if_pos hp6, if_neg hp7, bS, reduceIte, Bool.false_eq_true]; done) | (simp [hp1, hp5, hp6, hp7]; done) | (simp_all; done)) (lc rfl (lc rfl (lc rfl (lc rfl (lc rfl ln))))))) (fun _ h => h)
            · have hq7 : (some7) = true := (bnF hg7)
              have hp7 : (some7) = true := hq7
              refine xq rfl ⟨_, rfl, rfl⟩ (o_mv rfl) ?_
              refine xq rfl ⟨_, rfl, rfl⟩ (o_mv rfl) ?_
              refine xq rfl ⟨_, rfl, rfl⟩ (o_ixL el22 rfl rfl (fun w hw => (hs0.keep hw Fr.nil)) rfl (ho4 (by first | exact hg6 | (simp only [hq1, hq5, hq6, hq7, if_pos hp1, if_pos hp5, if_pos hp6, if_pos hp7, bS]; done) | (simp only [hq1, hq5, hq6, hq7, if_pos hp1, if_pos hp5, if_pos hp6, if_pos hp7, bS, reduceIte, Bool.false_eq_true]; done) | (simp [hp1, hp5, hp6, hp7]; done) | (simp_all; done)) (by first | exact hg7 | (simp only [hq1, hq5, hq6, hq7, if_pos hp1, if_pos hp5, if_pos hp6, if_pos hp7, bS]; done) | (simp only [hq1, hq5, hq6, hq7, if_pos hp1, if_pos hp5, if_pos hp6, if_pos hp7, bS, reduceIte, Bool.false_eq_true]; done) | (simp [hp1, hp5, hp6, hp7]; done) | (simp_all; done)))) ?_
              refine xq rfl ⟨_, rfl, rfl⟩ (o_faL fl37_0 rfl rfl (fun w hw => (hs0.keep hw Fr.nil)) (toNat_lt (ho4 (by first | exact hg6 | (simp only [hq1, hq5, hq6, hq7, if_pos hp1, if_pos hp5, if_pos hp6, if_pos hp7, bS]; done) | (simp only [hq1, hq5, hq6, hq7, if_pos hp1, if_pos hp5, if_pos hp6, if_pos hp7, bS, reduceIte, Bool.false_eq_true]; done) | (simp [hp1, hp5, hp6, hp7]; done) | (simp_all; done)) (by first | exact hg7 | (simp only [hq1, hq5, hq6, hq7, if_pos hp1, if_pos hp5, if_pos hp6, if_pos hp7, bS]; done) | (simp only [hq1, hq5, hq6, hq7, if_pos hp1, if_pos hp5, if_pos hp6, if_pos hp7, bS, reduceIte, Bool.false_eq_true]; done) | (simp [hp1, hp5, hp6, hp7]; done) | (simp_all; done))))) ?_
              refine xq rfl ⟨_, rfl, rfl⟩ (o_ldL1 (off := 0) (u := .int .i64 (l0[i8.toNat]! 0)) rfl ts3 rfl (fun w hw => (hs0.keep hw Fr.nil)) (toNat_lt (ho4 (by first | exact hg6 | (simp only [hq1, hq5, hq6, hq7, if_pos hp1, if_pos hp5, if_pos hp6, if_pos hp7, bS]; done) | (simp only [hq1, hq5, hq6, hq7, if_pos hp1, if_pos hp5, if_pos hp6, if_pos hp7, bS, reduceIte, Bool.false_eq_true]; done) | (simp [hp1, hp5, hp6, hp7]; done) | (simp_all; done)) (by first | exact hg7 | (simp only [hq1, hq5, hq6, hq7, if_pos hp1, if_pos hp5, if_pos hp6, if_pos hp7, bS]; done) | (simp only [hq1, hq5, hq6, hq7, if_pos hp1, if_pos hp5, if_pos hp6, if_pos hp7, bS, reduceIte, Bool.false_eq_true]; done) | (simp [hp1, hp5, hp6, hp7]; done) | (simp_all; done)))) rfl rfl) ?_
              refine xq rfl ⟨_, rfl, rfl⟩ (o_mv rfl) ?_
              refine xq rfl ⟨_, rfl, rfl⟩ (o_lss rfl rfl) ?_
              refine xq rfl ⟨_, rfl, rfl⟩ (o_pick_f rfl rfl) ?_
              refine xq rfl trivial (o_pick_t rfl rfl) ?_
              refine xo_nil ?_
              exact xq_cut ((lce rfl (by first | rfl | (simp only [hq1, hq5, hq6, hq7, if_pos hp1, if_pos hp5, if_pos hp6, if_pos hp7, bS]; done) | (simp only [hq1, hq5, hq6, hq7, if_pos hp1, if_pos hp5, if_pos hp6, if_pos hp7, bS, reduceIte, Bool.false_eq_true]; done) | (simp [hp1, hp5, hp6, hp7]; done) | (simp_all; done)) (lc rfl (lc rfl (lc rfl (lc rfl (lc rfl ln))))))) (fun _ h => h)
          · have hq6 : (decide (l0[i8.toNat]! 0 < tx1)) = false := hg6
            have hp6 : ¬ (l0[i8.toNat]! 0 < tx1) := of_decide_eq_false hq6
            refine xs rfl ⟨_, _, rfl, rfl, rfl⟩ (xs rfl ⟨_, _, rfl, rfl, rfl⟩ (xs rfl ⟨_, _, rfl, rfl, rfl⟩ (xs rfl ⟨_, _, rfl, rfl, rfl⟩ (xs rfl ⟨_, _, rfl, rfl, rfl⟩ (xs rfl ⟨_, _, rfl, rfl, rfl⟩ (xs rfl ⟨_, _, rfl, rfl, rfl⟩ (xs rfl ⟨_, _, rfl, rfl, rfl⟩ ?_)))))))
            refine xs rfl ⟨_, _, rfl, rfl, rfl⟩ (xs rfl ⟨_, _, rfl, rfl, rfl⟩ (xs rfl ⟨_, _, rfl, rfl, rfl⟩ ?_))
            refine xq rfl trivial (o_pick_f rfl rfl) ?_
            refine xo_nil ?_
            exact xq_cut ((lce rfl (by first | rfl | (simp only [hq1, hq5, hq6, if_pos hp1, if_pos hp5, if_neg hp6, bS]; done) | (simp only [hq1, hq5, hq6, if_pos hp1, if_pos hp5, if_neg hp6, bS, reduceIte, Bool.false_eq_true]; done) | (simp [hp1, hp5, hp6]; done) | (simp_all; done)) (lc rfl (lc rfl (lc rfl (lc rfl (lc rfl ln))))))) (fun _ h => h)
        · have hq5 : (decide (l0[i8.toNat]! 2 = tx1)) = false := hg5
          have hp5 : ¬ (l0[i8.toNat]! 2 = tx1) := of_decide_eq_false hq5
          refine xs rfl ⟨_, _, rfl, rfl, rfl⟩ (xs rfl ⟨_, _, rfl, rfl, rfl⟩ (xs rfl ⟨_, _, rfl, rfl, rfl⟩ (xs rfl ⟨_, _, rfl, rfl, rfl⟩ (xs rfl ⟨_, _, rfl, rfl, rfl⟩ (xs rfl ⟨_, _, rfl, rfl, rfl⟩ (xs rfl ⟨_, _, rfl, rfl, rfl⟩ ?_))))))
          refine xq rfl trivial (o_pick_f rfl rfl) ?_
          refine xq rfl trivial (o_mv rfl) ?_
          refine xs rfl ⟨_, _, rfl, rfl, rfl⟩ (xs rfl ⟨_, _, rfl, rfl, rfl⟩ (xs rfl ⟨_, _, rfl, rfl, rfl⟩ (xs rfl ⟨_, _, rfl, rfl, rfl⟩ (xs rfl ⟨_, _, rfl, rfl, rfl⟩ (xs rfl ⟨_, _, rfl, rfl, rfl⟩ (xs rfl ⟨_, _, rfl, rfl, rfl⟩ (xs rfl ⟨_, _, rfl, rfl, rfl⟩ ?_)))))))
          refine xs rfl ⟨_, _, rfl, rfl, rfl⟩ (xs rfl ⟨_, _, rfl, rfl, rfl⟩ (xs rfl ⟨_, _, rfl, rfl, rfl⟩ ?_))
          refine xq rfl trivial (o_pick_f rfl rfl) ?_
          refine xo_nil ?_
          exact xq_cut ((lce rfl (by first | rfl | (simp only [hq1, hq5, if_pos hp1, if_neg hp5, bS]; done) | (simp only [hq1, hq5, if_pos hp1, if_neg hp5, bS, reduceIte, Bool.false_eq_true]; done) | (simp [hp1, hp5]; done) | (simp_all; done)) (lc rfl (lc rfl (lc rfl (lc rfl (lc rfl ln))))))) (fun _ h => h)
      · refine xq_then ?_
        have hk := h.2
        replace h := h.1
        refine xw_cut [(0, _), (1, _), (8, _)] (lc rfl (lc rfl (lc rfl ln))) [(6, .int .i64 (if (((decide (l0[i8.toNat]! 2 = tx1)) && (decide (l0[i8.toNat]! 0 < tx1))) && ((!(some7)) || (decide (l0[i8.toNat]! 0 < n6)))) = true then l0[i8.toNat]! 0 else n6)), (7, .bool ((((decide (l0[i8.toNat]! 2 = tx1)) && (decide (l0[i8.toNat]! 0 < tx1))) && ((!(some7)) || (decide (l0[i8.toNat]! 0 < n6)))) || (some7)))] ?_ ?_
        · refine xw_bool 43 rfl (fun hc8 => ?_) (fun hc8 => ?_)
          · have hq8 : (((decide (l0[i8.toNat]! 2 = tx1)) && (decide (l0[i8.toNat]! 0 < tx1))) && ((!(some7)) || (decide (l0[i8.toNat]! 0 < n6)))) = true := hc8
            have hp8 : (((decide (l0[i8.toNat]! 2 = tx1)) && (decide (l0[i8.toNat]! 0 < tx1))) && ((!(some7)) || (decide (l0[i8.toNat]! 0 < n6)))) = true := hq8
            rw [if_pos hp8] at h
            refine xw_cond_t rfl rfl (xw_seq (xw_region ?_))
            refine xq rfl trivial (o_mv rfl) ?_
            refine xq rfl trivial (o_mv rfl) ?_
            obtain ⟨ho9, h⟩ := h
            refine xq rfl trivial (o_ixL el22 rfl rfl (fun w hw => (hs0.keep hw Fr.nil)) rfl ho9) ?_
            refine xq rfl trivial (o_faL fl37_0 rfl rfl (fun w hw => (hs0.keep hw Fr.nil)) (toNat_lt ho9)) ?_
            refine xq rfl trivial (o_ldL1 (off := 0) (u := .int .i64 (l0[i8.toNat]! 0)) rfl ts3 rfl (fun w hw => (hs0.keep hw Fr.nil)) (toNat_lt ho9) rfl rfl) ?_
            refine xq rfl trivial (o_as rfl) ?_
            refine xo_nil (xq_then (xw_region ?_))
            refine xq rfl trivial (o_as rfl) ?_
            refine xo_nil ?_
            exact xq_cut (lce rfl (by first | rfl | (simp only [hq1, hq8, if_pos hp1, if_pos hp8, bS]; done) | (simp only [hq1, hq8, if_pos hp1, if_pos hp8, bS, reduceIte, Bool.false_eq_true]; done) | (simp [hp1, hp8]; done) | (simp_all; done)) (lce rfl (by first | rfl | (simp only [hq1, hq8, if_pos hp1, if_pos hp8, bS]; done) | (simp only [hq1, hq8, if_pos hp1, if_pos hp8, bS, reduceIte, Bool.false_eq_true]; done) | (simp [hp1, hp8]; done) | (simp_all; done)) (lc rfl (lc rfl (lc rfl ln))))) (fun _ hh => hh)
          · have hq8 : (((decide (l0[i8.toNat]! 2 = tx1)) && (decide (l0[i8.toNat]! 0 < tx1))) && ((!(some7)) || (decide (l0[i8.toNat]! 0 < n6)))) = false := hc8
            have hp8 : ¬ ((((decide (l0[i8.toNat]! 2 = tx1)) && (decide (l0[i8.toNat]! 0 < tx1))) && ((!(some7)) || (decide (l0[i8.toNat]! 0 < n6)))) = true) := bne' hq8
            rw [if_neg hp8] at h
            refine xw_cond_f rfl rfl (xw_skip ?_)
            exact xq_cut (lce rfl (by first | rfl | (simp only [hq1, hq8, if_pos hp1, if_neg hp8, bS]; done) | (simp only [hq1, hq8, if_pos hp1, if_neg hp8, bS, reduceIte, Bool.false_eq_true]; done) | (simp [hp1, hp8]; done) | (simp_all; done)) (lce rfl (by first | rfl | (simp only [hq1, hq8, if_pos hp1, if_neg hp8, bS]; done) | (simp only [hq1, hq8, if_pos hp1, if_neg hp8, bS, reduceIte, Bool.false_eq_true]; done) | (simp [hp1, hp8]; done) | (simp_all; done)) (lc rfl (lc rfl (lc rfl ln))))) (fun _ hh => hh)
        · replace h := hk
          refine xq_blk 1 ?_
          refine xq_then (xw_region ?_)
          refine xq rfl trivial (o_mv rfl) ?_
          obtain ⟨ho10, h⟩ := h
          refine xq rfl trivial (o_add rfl rfl rfl ho10) ?_
          refine xq rfl trivial (o_as rfl) ?_
          refine xo_nil ?_
          exact xq_next (s' := (((if (((decide (l0[i8.toNat]! 2 = tx1)) && (decide (l0[i8.toNat]! 0 < tx1))) && ((!(some7)) || (decide (l0[i8.toNat]! 0 < n6)))) = true then l0[i8.toNat]! 0 else n6), (((decide (l0[i8.toNat]! 2 = tx1)) && (decide (l0[i8.toNat]! 0 < tx1))) && ((!(some7)) || (decide (l0[i8.toNat]! 0 < n6)))) || (some7), i8 + 1) : Int × Bool × Int)) (e' := [(0, v0), (1, .int .i64 tx1), (6, .int .i64 (if (((decide (l0[i8.toNat]! 2 = tx1)) && (decide (l0[i8.toNat]! 0 < tx1))) && ((!(some7)) || (decide (l0[i8.toNat]! 0 < n6)))) = true then l0[i8.toNat]! 0 else n6)), (7, .bool ((((decide (l0[i8.toNat]! 2 = tx1)) && (decide (l0[i8.toNat]! 0 < tx1))) && ((!(some7)) || (decide (l0[i8.toNat]! 0 < n6)))) || (some7))), (8, .int .i64 (i8 + 1))]) ([]) (lc rfl (lc rfl (lc rfl (lc rfl (lc rfl ln))))) (fun _ h => h) h ⟨rfl, rfl⟩
    · have hq1 : (decide (i8 < (l0.length : Int))) = false := hc1
      have hp1 : ¬ (i8 < (l0.length : Int)) := of_decide_eq_false hq1
      rw [if_neg hp1] at h
      refine xw_cond_f rfl rfl (xw_exit (xq_then_exit ?_))
      exact xq_out (r := ((n6, some7) : Int × Bool)) (e' := [(6, .int .i64 n6), (7, .bool (some7))]) ([]) (lc rfl (lc rfl ln)) (fun _ h => h) h (by intro hh; cases hh) ⟨rfl, rfl, rfl⟩
  · obtain ⟨n6, some7⟩ := x1
    rintro _ _ _ ⟨rfl, rfl, rfl⟩
    replace h : byR_k1a n6 some7 r := h
    unfold byR_k1a at h
    refine xq_blk_eq ?_
    refine xq_then (xw_seq (xw_region ?_))
    refine xq rfl trivial (o_mv rfl) ?_
    refine xq rfl trivial (o_mv rfl) ?_
    refine xq rfl trivial (o_as rfl) ?_
    refine xq rfl trivial (o_as rfl) ?_
    refine xo_nil (xq_then (xw_ret ?_))
    subst h
    exact con_ret2 (.inl rfl) Try.results20 rfl rfl [] (fun _ h => h) (⟨rfl, rfl⟩)

end Go.Proofs.Ytcnbdkkmcdjncaa
