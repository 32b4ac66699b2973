/- The code answers as the relations say. -/
import Derived.Test.YtcnbdkkmcdjncaaTab
import Derived.Test.YtcnbdkkmcdjncaaB11S
import Derived.Test.YtcnbdkkmcdjncaaA11W
set_option maxHeartbeats 1000000
set_option linter.unusedVariables false
set_option linter.unusedSimpArgs false
set_option maxRecDepth 100000
namespace Go.Proofs.Ytcnbdkkmcdjncaa
open Go Go.E

theorem wby_c (l0 : (List (Nat → Int))) (v0 : Value) (w : World) (hs0 : SL w 4 iv v0 l0) (hP : wby_P l0) : Con Try.prog 17 #[v0] w (fun v F => ∃ (u0 : Value) (C0 : GH), v = u0 ∧ F = (C0 ++ []) ∧ MJ kI kI ieq C0 u0 (wby_F l0) ∧ Cov w [] C0) :=
  wby_con l0 v0 w hs0 _ (wby_ok l0 hP)

theorem hasW_c (s0 : (List (Nat → Int))) (v1 : (Nat → Int)) (v0 : Value) (w : World) (hs0 : SL w 2 iv v0 s0) (hP : hasW_P s0 v1) : Con Try.prog 22 #[v0, AI 2 v1] w (Is (.bool (hasW_F s0 v1)) []) :=
  hasW_con s0 v1 v0 w hs0 _ (hasW_ok s0 v1 hP)

theorem oldest_c (l0 : (List (Nat → Int))) (v0 : Value) (w : World) (hs0 : SL w 4 iv v0 l0) (hP : oldest_P l0) : Con Try.prog 13 #[v0] w (Is (.tuple #[.int .i64 ((oldest_F l0).1), .bool ((oldest_F l0).2)]) []) :=
  oldest_con l0 v0 w hs0 _ (oldest_ok l0 hP)

theorem risingR_c (l0 : (List Int)) (v0 : Value) (w : World) (hs0 : SL w 1 ic v0 l0) (hP : rising_P l0) : Con Try.prog 28 #[v0] w (fun v F => ∃ (u0 : Value) (C0 : GH), v = u0 ∧ F = (C0 ++ []) ∧ OJ 3 1 ic C0 u0 (rising_F l0) ∧ Cov w [] C0) :=
  risingR_con l0 v0 w hs0 _ (risingR_ok l0 hP)

theorem byR_c (l0 : (List (Nat → Int))) (tx1 : Int) (v0 : Value) (w : World) (hs0 : SL w 4 iv v0 l0) (hP : byR_P l0 tx1) : Con Try.prog 20 #[v0, .int .i64 tx1] w (Is (.tuple #[.int .i64 ((byR_F l0 tx1).1), .bool ((byR_F l0 tx1).2)]) []) :=
  byR_con l0 tx1 v0 w hs0 _ (byR_ok l0 tx1 hP)

theorem wof_con (l0 : (List (Nat → Int))) (v0 : Value) (w : World) (hs0 : SL w 4 iv v0 l0) (r : (List (Nat → Int))) (h : wof_S l0 r) : Con Try.prog 8 #[v0] w (fun v F => ∃ (u0 : Value) (C0 : GH), v = u0 ∧ F = (C0 ++ []) ∧ OJ 29 2 iv C0 u0 r ∧ Cov w [] C0) := by
  unfold wof_S at h
  refine con_enter (n := 27) [(0, _)] Try.func8 rfl Try.ntmps8 rfl (lac rfl lan) ?_
  refine xw_seq (xw_region ?_)
  refine xq rfl trivial (o_as rfl) ?_
  refine xo_nil (xq_then (xw_seq (xw_region ?_)))
  refine xq rfl trivial (o_mv rfl) ?_
  obtain ⟨ho1, h⟩ := h
  refine xcall rfl trivial kf17 rfl (fun w1 hw1 => wby_c _ _ w1 (hs0.keep hw1 Fr.nil) ho1) ?_
  rintro w1 vs2 _ hw1 ⟨_, Bs2, rfl, rfl, hJs2, hcBs2⟩
  refine ⟨_, Mg.news (Cov.fresh hcBs2) (.nil _), ?_⟩
  replace hcBs2 := Cov.base (w0 := w) hcBs2 hw1.size
  refine xq rfl trivial (o_as rfl) ?_
  refine xo_nil (xq_then (xw_seq (xw_region ?_)))
  refine xq rfl trivial (o_as rfl) ?_
  refine xo_nil (xq_then (xw_seq (xw_seq (xw_region ?_))))
  refine xq rfl trivial (o_mv rfl) ?_
  refine xoR rfl trivial (ot_in (l := [(0, _)]) kf19 rfl Try.func19 rfl Try.ntmps19 rfl (lac rfl lan) ?_)
  refine xw_seq (xw_region ?_)
  refine xo rfl trivial (o_box1 rfl (MJ.one hJs2)) ?_
  rintro _ _ ⟨b1, hb1, rfl, rfl⟩
  refine xq rfl trivial (o_as rfl) ?_
  refine xo_nil (xq_then (xw_seq (xw_region ?_)))
  refine xq rfl trivial (o_mkf rfl rfl) ?_
  refine xq rfl trivial (o_as rfl) ?_
  refine xo_nil (xq_then (xw_ret ?_))
  refine con_ret1 (.inl rfl) Try.results19 rfl _ (fun _ h => h) (?_)
  obtain ⟨ho3, h⟩ := h
  refine xcall rfl trivial kf18 rfl (fun w1 hw1 => sk34_c (hw1.own _ _ (List.Mem.head _)) hJs2 (fun x hx => hw1.own x.1 x.2 (Pull.sub (.thereC _ (.here _ _)) x hx)) ho3) ?_
  rintro w1 vs4 _ hw1 ⟨_, Bs4, rfl, rfl, hJs4, hcBs4⟩
  refine ⟨_, .news (Cov.fresh hcBs4) (.nil _), ?_⟩
  replace hcBs4 := Cov.base (w0 := w) hcBs4 hw1.size
  refine xq rfl trivial (o_lenL rfl Try.underlying38 rfl (OJ.val hJs4)) ?_
  refine xq rfl trivial (o_mv rfl) ?_
  refine xo_nil (xq_then ?_)
  refine xw_block ?_
  obtain ⟨out4, hx1, h⟩ := h
  refine xw_wh (fun s e H => match s with | (out4, x13) => ∃ (v4_1 : Value) (B4_1 : GH), e = [(3, vs2), (4, v4_1), (11, vs4), (12, .int .i64 ((skeys (wby_F l0)).length : Int)), (13, .int .i64 x13)] ∧ H = B4_1 ++ (Bs4 ++ (Bs2 ++ ([]))) ∧ OJ 29 2 iv B4_1 v4_1 out4 ∧ Cov w [] B4_1) (fun (out4 : (List (Nat → Int))) ex e H => ∃ (v4_1o : Value) (B4_1o : GH), ex = .exit 0 ∧ e = [(4, v4_1o)] ∧ H = B4_1o ++ (Bs4 ++ (Bs2 ++ ([]))) ∧ OJ 29 2 iv B4_1o v4_1o out4 ∧ Cov w [] B4_1o) hx1 ⟨[(3, vs2), (4, .slice none 0 0), (11, vs4), (12, .int .i64 ((skeys (wby_F l0)).length : Int)), (13, .int .i64 0)], [] ++ (Bs4 ++ (Bs2 ++ ([]))), (lc rfl (lc rfl (lc rfl (lc rfl (lc rfl ln))))), Kp.st (Kp.segKeep (Kp.new hb1 (Kp.segKeep Kp.nil))), ⟨_, [], rfl, rfl, OJ.nil, (Cov.refl _)⟩⟩ ?_ ?_
  · rintro ⟨out4, x13⟩ o _ _ ⟨v4_1, B4_1, rfl, rfl, hJ4_1, hcB4_1⟩ hb
    have h : wof_l1 l0 out4 x13 o := hb
    clear hb
    unfold wof_l1 at h
    refine xw_seq (xw_region ?_)
    refine xq rfl trivial (o_lss rfl rfl) ?_
    refine xo_nil (xq_then (xw_seq ?_))
    refine xw_bool 14 rfl (fun hc5 => ?_) (fun hc5 => ?_)
    · have hq5 : (decide (x13 < ((skeys (wby_F l0)).length : Int))) = true := hc5
      have hp5 : x13 < ((skeys (wby_F l0)).length : Int) := of_decide_eq_true hq5
      rw [if_pos hp5] at h
      refine xw_cond_t rfl rfl (xw_skip (xq_then (xw_seq ?_)))
      refine xw_block ?_
      refine xw_seq (xw_region ?_)
      obtain ⟨ho6, h⟩ := h
      refine xq rfl trivial (o_ixL el38 rfl rfl (fun w hw => (hJs4.sl hw (Pull.sub (.there _ (.here _ _))))) rfl ho6) ?_
      refine xq rfl trivial (o_ldL1 (off := 0) (u := .int .i64 ((skeys (wby_F l0))[x13.toNat]!)) rfl ts3 rfl (fun w hw => (hJs4.sl hw (Pull.sub (.there _ (.here _ _))))) (toNat_lt ho6) rfl rfl) ?_
      refine xq rfl trivial (o_as rfl) ?_
      refine xo_nil (xq_then (xw_region ?_))
      refine xq rfl trivial (o_mv rfl) ?_
      refine xq rfl trivial (o_mv rfl) ?_
      refine xq rfl trivial (o_mv rfl) ?_
      refine xq rfl trivial (o_mv rfl) ?_
      refine xq rfl trivial (o_lk (z := 0) (k := (skeys (wby_F l0))[x13.toNat]!) kt3 Try.underlying45 ze3 rfl rfl hJs2 (Pull.sub (.there _ (.there _ (.here _ _))))) ?_
      refine xq rfl trivial (o_build fk29 ze29 (.int fl29_0 rfl rfl (.int fl29_1 rfl rfl (.nil _)))) ?_
      refine xo rfl trivial (o_bsl el24 ze29 rfl rfl rfl (.ints rfl rfl (.nil _))) ?_
      rintro _ _ ⟨b23, hb23, rfl, rfl⟩
      obtain ⟨ho8, h⟩ := h
      refine xo rfl trivial (OT.st (fun _ h => Pull.st (.thereC _ (.here _ _)) h) (o_appJ (l := out4) (l' := [(updI (updI (fun _ => 0) 0 ((skeys (wby_F l0))[x13.toNat]!)) 1 (mget ieq (wby_F l0) ((skeys (wby_F l0))[x13.toNat]!) 0))]) (B := B4_1) ap24 rfl rfl hJ4_1 (fun w2 hw2 => (SL.lit (l := [(updI (updI (fun _ => 0) 0 ((skeys (wby_F l0))[x13.toNat]!)) 1 (mget ieq (wby_F l0) ((skeys (wby_F l0))[x13.toNat]!) 0))]) hw2 (List.mem_append_right _ (List.Mem.head _)) rfl (by omega) (by simp [maxLen]) (by exact (fun i hi => match i, hi with | 0, _ => rfl | 1, _ => rfl | q + 2, h => absurd h (by omega))))) (fun _ _ => rfl) ho8 (len_max ho8 (by decide)))) ?_
      rintro vs7 _ ⟨Bs7, rfl, hns7, hJs7⟩
      have hcBs7 := Cov.trans hcB4_1 hns7
      refine xo_st ((b23, BK 2 _ 29) :: (Bs7 ++ (Bs4 ++ (Bs2 ++ ([]))))) (fun _ h => Pull.push (.thereC _ (.here _ _)) h) ?_
      refine xq rfl trivial (o_as rfl) ?_
      refine xo_nil ?_
      refine xq_blk 1 ?_
      refine xq_then (xw_region ?_)
      obtain ⟨ho9, h⟩ := h
      refine xq rfl trivial (o_add rfl rfl rfl ho9) ?_
      refine xq rfl trivial (o_mv rfl) ?_
      refine xo_nil ?_
      exact xq_next (s' := (((out4 ++ [(updI (updI (fun _ => 0) 0 ((skeys (wby_F l0))[x13.toNat]!)) 1 (mget ieq (wby_F l0) ((skeys (wby_F l0))[x13.toNat]!) 0))]), x13 + 1) : (List (Nat → Int)) × Int)) (e' := [(3, vs2), (4, vs7), (11, vs4), (12, .int .i64 ((skeys (wby_F l0)).length : Int)), (13, .int .i64 (x13 + 1))]) (Bs7 ++ (Bs4 ++ (Bs2 ++ ([])))) (lc rfl (lc rfl (lc rfl (lc rfl (lc rfl ln))))) (Kp.st (Kp.new hb23 (Kp.segKeep (Kp.segKeep (Kp.segKeep Kp.nil))))) h ⟨vs7, Bs7, rfl, rfl, hJs7, hcBs7⟩
    · have hq5 : (decide (x13 < ((skeys (wby_F l0)).length : Int))) = false := hc5
      have hp5 : ¬ (x13 < ((skeys (wby_F l0)).length : Int)) := of_decide_eq_false hq5
      rw [if_neg hp5] at h
      refine xw_cond_f rfl rfl (xw_exit (xq_then_exit ?_))
      exact xq_out (r := (out4 : (List (Nat → Int)))) (e' := [(4, v4_1)]) (B4_1 ++ (Bs4 ++ (Bs2 ++ ([])))) (lc rfl ln) (fun _ h => h) h (by intro hh; cases hh) ⟨v4_1, B4_1, rfl, rfl, rfl, hJ4_1, hcB4_1⟩
  · rintro _ _ _ ⟨v4_1o, B4_1o, rfl, rfl, rfl, hJ4_1o, hcB4_1o⟩
    replace h : wof_k1a out4 r := h
    unfold wof_k1a at h
    refine xq_blk_eq ?_
    refine xq_then (xw_seq (xw_region ?_))
    refine xq rfl trivial (o_mv rfl) ?_
    refine xq rfl trivial (o_as rfl) ?_
    refine xo_nil (xq_then (xw_ret ?_))
    subst h
    exact con_ret1 (.inl rfl) Try.results8 rfl (B4_1o ++ []) (Kp.st (Kp.segKeep (Kp.segNew (Cov.fresh hcBs4) (Kp.segNew (Cov.fresh hcBs2) Kp.nil)))) (⟨_, B4_1o, rfl, rfl, hJ4_1o, hcB4_1o⟩)

theorem nodesR_con (l0 : (List (Nat → Int))) (v0 : Value) (w : World) (hs0 : SL w 4 iv v0 l0) (r : (List Int)) (h : nodesR_S l0 r) : Con Try.prog 15 #[v0] w (fun v F => ∃ (u0 : Value) (C0 : GH), v = u0 ∧ F = (C0 ++ []) ∧ OJ 3 1 ic C0 u0 r ∧ Cov w [] C0) := by
  unfold nodesR_S at h
  refine con_enter (n := 26) [(0, _)] Try.func15 rfl Try.ntmps15 rfl (lac rfl lan) ?_
  refine xw_seq (xw_region ?_)
  refine xq rfl trivial (o_as rfl) ?_
  refine xo_nil (xq_then (xw_seq (xw_region ?_)))
  refine xq rfl trivial (o_as rfl) ?_
  refine xo_nil (xq_then (xw_seq (xw_seq (xw_region ?_))))
  refine xq rfl trivial (o_as rfl) ?_
  refine xo_nil (xq_then ?_)
  refine xw_block ?_
  obtain ⟨out3, hx1, h⟩ := h
  refine xw_wh (fun s e H => match s with | (out3, i4) => ∃ (v3_1 : Value) (B3_1 : GH), e = [(0, v0), (3, v3_1), (4, .int .i64 i4)] ∧ H = B3_1 ++ ([]) ∧ OJ 3 1 ic B3_1 v3_1 out3 ∧ Cov w [] B3_1) (fun (out3 : (List Int)) ex e H => ∃ (v3_1o : Value) (B3_1o : GH), ex = .exit 0 ∧ e = [(3, v3_1o)] ∧ H = B3_1o ++ ([]) ∧ OJ 3 1 ic B3_1o v3_1o out3 ∧ Cov w [] B3_1o) hx1 ⟨[(0, v0), (3, .slice none 0 0), (4, .int .i64 0)], [] ++ ([]), (lc rfl (lc rfl (lc rfl ln))), fun _ h => h, ⟨_, [], rfl, rfl, OJ.nil, (Cov.refl _)⟩⟩ ?_ ?_
  · rintro ⟨out3, i4⟩ o _ _ ⟨v3_1, B3_1, rfl, rfl, hJ3_1, hcB3_1⟩ hb
    have h : nodesR_l1 l0 out3 i4 o := hb
    clear hb
    unfold nodesR_l1 at h
    refine xw_seq (xw_seq (xw_region ?_))
    refine xq rfl trivial (o_mv rfl) ?_
    refine xq rfl trivial (o_mv rfl) ?_
    refine xq rfl trivial (o_lenL rfl Try.underlying22 rfl (SL.val hs0)) ?_
    refine xq rfl trivial (o_lss rfl rfl) ?_
    refine xo_nil (xq_then ?_)
    refine xw_bool 8 rfl (fun hc1 => ?_) (fun hc1 => ?_)
    · have hq1 : (decide (i4 < (l0.length : Int))) = true := hc1
      have hp1 : i4 < (l0.length : Int) := of_decide_eq_true hq1
      rw [if_pos hp1] at h
      refine xw_cond_t rfl rfl (xw_skip (xq_then (xw_seq ?_)))
      refine xw_block ?_
      refine xd_start (by kernel_rfl) (by kernel_rfl) (fun hok => ?_)
      refine xd_b hok 0 [(3, _)] ([]) rsN rfl rfl rfl (lc rfl ln) (by kernel_rfl) trivial (fun H' hy hK => o_mv rfl) ?_
      refine xd_b hok 1 [(0, _)] ([]) rsN rfl rfl rfl (lc rfl ln) (by kernel_rfl) trivial (fun H' hy hK => o_mv rfl) ?_
      refine xd_b hok 2 [(4, _)] ([]) rsN rfl rfl rfl (lc rfl ln) (by kernel_rfl) trivial (fun H' hy hK => o_mv rfl) ?_
      obtain ⟨ho2, h⟩ := h
      refine xd_b hok 3 [(12, _), (13, _)] ([]) rsN rfl rfl rfl (lc rfl (lc rfl ln)) (by kernel_rfl) trivial (fun H' hy hK => o_ixL el22 rfl rfl (fun w hw => (hs0.keep hw (fun k hk => (hK k hk).elim (fun h => (Fr.seg hcB3_1 Fr.nil) k h) id))) rfl ho2) ?_
      refine xd_b hok 4 [(14, _)] ([]) rsN rfl rfl rfl (lc rfl ln) (by kernel_rfl) trivial (fun H' hy hK => o_faL fl37_0 rfl rfl (fun w hw => (hs0.keep hw (fun k hk => (hK k hk).elim (fun h => (Fr.seg hcB3_1 Fr.nil) k h) id))) (toNat_lt ho2)) ?_
      refine xd_b hok 5 [(15, _)] ([]) rsN rfl rfl rfl (lc rfl ln) (by kernel_rfl) trivial (fun H' hy hK => o_ldL1 (off := 0) (u := .int .i64 (l0[i4.toNat]! 0)) rfl ts3 rfl (fun w hw => (hs0.keep hw (fun k hk => (hK k hk).elim (fun h => (Fr.seg hcB3_1 Fr.nil) k h) id))) (toNat_lt ho2) rfl rfl) ?_
      refine xd_b hok 6 [(0, _)] ([]) rsN rfl rfl rfl (lc rfl ln) (by kernel_rfl) trivial (fun H' hy hK => o_mv rfl) ?_
      refine xd_b hok 7 [(4, _)] ([]) rsN rfl rfl rfl (lc rfl ln) (by kernel_rfl) trivial (fun H' hy hK => o_mv rfl) ?_
      obtain ⟨ho3, h⟩ := h
      refine xd_b hok 8 [(17, _), (18, _)] ([]) rsN rfl rfl rfl (lc rfl (lc rfl ln)) (by kernel_rfl) trivial (fun H' hy hK => o_ixL el22 rfl rfl (fun w hw => (hs0.keep hw (fun k hk => (hK k hk).elim (fun h => (Fr.seg hcB3_1 Fr.nil) k h) id))) rfl ho3) ?_
      refine xd_b hok 9 [(19, _)] ([]) rsN rfl rfl rfl (lc rfl ln) (by kernel_rfl) trivial (fun H' hy hK => o_faL fl37_2 rfl rfl (fun w hw => (hs0.keep hw (fun k hk => (hK k hk).elim (fun h => (Fr.seg hcB3_1 Fr.nil) k h) id))) (toNat_lt ho3)) ?_
      refine xd_b hok 10 [(20, _)] ([]) rsN rfl rfl rfl (lc rfl ln) (by kernel_rfl) trivial (fun H' hy hK => o_ldL1 (off := 2) (u := .int .i64 (l0[i4.toNat]! 2)) rfl ts3 rfl (fun w hw => (hs0.keep hw (fun k hk => (hK k hk).elim (fun h => (Fr.seg hcB3_1 Fr.nil) k h) id))) (toNat_lt ho3) rfl rfl) ?_
      refine xd_step hok 11 [(16, _), (21, _)] rfl rfl (by kernel_rfl) (lc rfl (lc rfl ln)) (by kernel_rfl) trivial (o_bsl el38 ze3 (cells_one rfl) rfl rfl (.int rfl rfl (.int rfl rfl (.nil _)))) ?_
      rintro _ _ ⟨b22, hb22, rfl, rfl⟩
      refine ⟨(rsA rsN (rsA rsN (rsA rsN (rsA rsN (rsA rsN (rsA rsN (rsA rsN (rsA rsN (rsA rsN (rsA rsN (rsA rsN rsN))))))))))), (Ks.consN hb22 (Ks.segK (fun k hk => by simp [hk]) Ks.nil)), ?_⟩
      obtain ⟨ho5, h⟩ := h
      refine xd_fl hok 4 12 [(11, _), (22, _)] rfl rfl (by kernel_rfl) (by kernel_rfl) (lc rfl (lc rfl ln)) (by kernel_rfl) trivial (OT.push (fun q_ => (b22, BK 2 _ 3) :: (q_ ++ ([]))) (fun _ => (.thereC _ (.here _ _))) (OT.st (fun _ h => Pull.st (.thereC _ (.here _ _)) h) (o_appJ (l := out3) (l' := [l0[i4.toNat]! 0, l0[i4.toNat]! 2]) (B := B3_1) ap38 rfl rfl hJ3_1 (fun w2 hw2 => (SL.lit (l := [l0[i4.toNat]! 0, l0[i4.toNat]! 2]) hw2 (List.mem_append_right _ (List.Mem.head _)) rfl (by omega) (by simp [maxLen]) (by exact (fun i hi => match i, hi with | 0, _ => rfl | 1, _ => rfl | q + 2, h => absurd h (by omega))))) (fun _ _ => rfl) ho5 (len_max ho5 (by decide))))) ?_
      rintro vs4 _ ⟨Bs4, rfl, hns4, hJs4⟩
      have hcBs4 := Cov.trans hcB3_1 hns4
      refine ⟨(Ks.consN hb22 (Ks.segN hcBs4 Ks.nil)), ?_⟩
      refine xd_show (H' := (b22, BK 2 _ 3) :: (Bs4 ++ ([]))) rfl ?_
      refine xd_b hok 13 [(23, _)] ([]) rsN rfl rfl rfl (lc rfl ln) (by kernel_rfl) trivial (fun H' hy hK => o_as rfl) ?_
      refine xd_end hok (by kernel_rfl) ?_
      refine xq_blk 1 ?_
      refine xq_then (xw_region ?_)
      refine xq rfl trivial (o_mv rfl) ?_
      obtain ⟨ho6, h⟩ := h
      refine xq rfl trivial (o_add rfl rfl rfl ho6) ?_
      refine xq rfl trivial (o_as rfl) ?_
      refine xo_nil ?_
      exact xq_next (s' := (((out3 ++ [l0[i4.toNat]! 0, l0[i4.toNat]! 2]), i4 + 1) : (List Int) × Int)) (e' := [(0, v0), (3, vs4), (4, .int .i64 (i4 + 1))]) (Bs4 ++ ([])) (lc rfl (lc rfl (lc rfl ln))) (Kp.st (Kp.new hb22 (Kp.segKeep Kp.nil))) h ⟨vs4, Bs4, rfl, rfl, hJs4, hcBs4⟩
    · have hq1 : (decide (i4 < (l0.length : Int))) = false := hc1
      have hp1 : ¬ (i4 < (l0.length : Int)) := of_decide_eq_false hq1
      rw [if_neg hp1] at h
      refine xw_cond_f rfl rfl (xw_exit (xq_then_exit ?_))
      exact xq_out (r := (out3 : (List Int))) (e' := [(3, v3_1)]) (B3_1 ++ ([])) (lc rfl ln) (fun _ h => h) h (by intro hh; cases hh) ⟨v3_1, B3_1, rfl, rfl, rfl, hJ3_1, hcB3_1⟩
  · rintro _ _ _ ⟨v3_1o, B3_1o, rfl, rfl, rfl, hJ3_1o, hcB3_1o⟩
    replace h : nodesR_k1a out3 r := h
    unfold nodesR_k1a at h
    refine xq_blk_eq ?_
    refine xq_then (xw_seq (xw_region ?_))
    refine xq rfl trivial (o_mv rfl) ?_
    obtain ⟨ho7, h⟩ := h
    refine xcall rfl trivial kf28 rfl (fun w1 hw1 => risingR_c _ _ w1 (hJ3_1o.sl hw1 (Pull.sub (.here _ _))) ho7) ?_
    rintro w1 vs8 _ hw1 ⟨_, Bs8, rfl, rfl, hJs8, hcBs8⟩
    refine ⟨_, Mg.news (Cov.fresh hcBs8) (.nil _), ?_⟩
    replace hcBs8 := Cov.base (w0 := w) hcBs8 hw1.size
    refine xq rfl trivial (o_as rfl) ?_
    refine xo_nil (xq_then (xw_ret ?_))
    subst h
    exact con_ret1 (.inl rfl) Try.results15 rfl (Bs8 ++ []) (Kp.st (Kp.segKeep (Kp.segNew (Cov.fresh hcB3_1o) Kp.nil))) (⟨_, Bs8, rfl, rfl, hJs8, hcBs8⟩)

end Go.Proofs.Ytcnbdkkmcdjncaa
