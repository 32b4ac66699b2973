/- The code answers as the relations say. -/
import Derived.Test.YtmcohikcgdfhcaaTab
import Derived.Test.YtmcohikcgdfhcaaD4S
import Derived.Test.YtmcohikcgdfhcaaC4W
set_option maxHeartbeats 1000000
set_option linter.unusedVariables false
set_option linter.unusedSimpArgs false
set_option maxRecDepth 100000
namespace Go.Proofs.Ytmcohikcgdfhcaa
open Go Go.E

theorem take_c (r0b : (List Int)) (r0at : Int) (width1 : Int) (p0 : Nat) (v0_0 : Value) (S0_0 : GH) (w : World) (hJ0_0 : OJ 5 1 u8c S0_0 v0_0 r0b) (hC : Has w (cat [[(p0, BK 2 (cl [v0_0, .int .i64 r0at]) 78)], S0_0])) (hP : take_P r0b r0at width1) : Con Try.prog 28 #[.pointer (some ⟨p0, 0, none⟩), .int .i64 width1] w (CatG fun v Ls => Cov w (cat [[(p0, BK 2 (cl [v0_0, .int .i64 r0at]) 78)], S0_0]) (cat Ls) ∧ v = .tuple #[.int .i64 ((take_F r0b r0at width1).1), errV 59 ((take_F r0b r0at width1).2.1)] ∧ Ls = [[(p0, BK 2 (cl [v0_0, .int .i64 ((take_F r0b r0at width1).2.2)]) 78)], S0_0]) :=
  take_con r0b r0at width1 p0 v0_0 S0_0 w hJ0_0 hC _ (take_ok r0b r0at width1 hP)

theorem put_c (b0 : (List Int)) (width1 : Int) (l2 : (List Int)) (v0 : Value) (v2 : Value) (w : World) (hs0 : SL w 1 u8c v0 b0) (hs2 : SL w 1 ic v2 l2) (hP : put_P b0 width1 l2) : Con Try.prog 20 #[v0, .int .i64 width1, v2] w (fun v F => ∃ (u0 : Value) (C0 : GH), v = .tuple #[u0, errV 59 ((put_F b0 width1 l2).2)] ∧ F = (C0 ++ []) ∧ OJ 5 1 u8c C0 u0 ((put_F b0 width1 l2).1) ∧ Cov w [] C0) :=
  put_con b0 width1 l2 v0 v2 w hs0 hs2 _ (put_ok b0 width1 l2 hP)

theorem enc_con (m0 : (Nat → Int)) (w : World) (r : (List Int) × Int) (h : enc_S m0 r) : Con Try.prog 10 #[AI 28 m0] w (fun v F => ∃ (u0 : Value) (C0 : GH), v = .tuple #[u0, errV 59 r.2] ∧ F = (C0 ++ []) ∧ OJ 5 1 u8c C0 u0 r.1 ∧ Cov w [] C0) := by
  unfold enc_S at h
  refine con_enter (n := 70) [(0, _)] Try.func10 rfl Try.ntmps10 rfl (lac rfl lan) ?_
  refine xw_seq (xw_region ?_)
  refine xo rfl trivial (o_boxA rfl) ?_
  rintro _ _ ⟨b1, hb1, rfl, rfl⟩
  refine xq rfl trivial (o_as rfl) ?_
  refine xq rfl trivial (o_as rfl) ?_
  refine xo_nil (xq_then (xw_seq (xw_seq (xw_region ?_))))
  refine xq rfl trivial (o_ldW rfl ts34 (List.Mem.head _)) ?_
  refine xcallq rfl trivial kf13 rfl (fun w1 hw1 => msgOk_c _ w1) ?_
  refine xq rfl trivial (o_as rfl) ?_
  refine xo_nil (xq_then (xw_seq (xw_region ?_)))
  refine xq rfl trivial (o_mv rfl) ?_
  refine xq rfl trivial (o_neE Try.underlying37 rfl (fun _ => rfl) rfl rfl) ?_
  refine xo_nil (xq_then ?_)
  refine xw_bool 12 rfl (fun hc1 => ?_) (fun hc1 => ?_)
  · have hq1 : (decide ((msgOk_F m0) = 0)) = false := (bnT hc1)
    have hp1 : ¬ ((msgOk_F m0) = 0) := of_decide_eq_false hq1
    rw [if_neg hp1] at h
    refine xw_cond_t rfl rfl (xw_seq (xw_region ?_))
    refine xq rfl trivial (o_mv rfl) ?_
    refine xq rfl trivial (o_as rfl) ?_
    refine xq rfl trivial (o_as rfl) ?_
    refine xo_nil (xq_then (xw_ret (xq_then_ret ?_)))
    subst h
    exact con_ret2 (.inl rfl) Try.results10 rfl rfl [] (Kp.st (Kp.new hb1 Kp.nil)) (⟨_, [], rfl, rfl, OJ.nil, Cov.refl _⟩)
  · have hq1 : (decide ((msgOk_F m0) = 0)) = true := (bnF hc1)
    have hp1 : (msgOk_F m0) = 0 := of_decide_eq_true hq1
    rw [if_pos hp1] at h
    refine xw_cond_f rfl rfl (xw_skip (xq_then (xw_seq (xw_region ?_))))
    refine xo rfl trivial (o_alloc ze35 (cells_one rfl)) ?_
    rintro _ _ ⟨b5, hb5, rfl, rfl⟩
    refine xo_nil (xq_then (xw_seq (xw_region ?_)))
    refine xq rfl trivial (o_mkf rfl rfl) ?_
    refine xq rfl trivial (o_as rfl) ?_
    refine xo_nil (xq_then (xw_seq (xw_region ?_)))
    refine xq rfl trivial (o_mv rfl) ?_
    first | refine xq rfl trivial (o_fa0 fl34_0 rfl) ?_ | refine xq rfl trivial (o_fa fl34_0 rfl) ?_
    refine xq rfl trivial (o_ldI (v := m0 0) rfl ts3 (List.Mem.tail _ (List.Mem.head _)) (by omega) rfl) ?_
    first | refine xq rfl trivial (o_fa0 fl34_1 rfl) ?_ | refine xq rfl trivial (o_fa fl34_1 rfl) ?_
    refine xq rfl trivial (o_ldI (v := m0 1) rfl ts3 (List.Mem.tail _ (List.Mem.head _)) (by omega) rfl) ?_
    first | refine xq rfl trivial (o_fa0 fl34_2 rfl) ?_ | refine xq rfl trivial (o_fa fl34_2 rfl) ?_
    refine xq rfl trivial (o_ldI (v := m0 2) rfl ts3 (List.Mem.tail _ (List.Mem.head _)) (by omega) rfl) ?_
    refine xo rfl trivial (o_bsl el53 ze3 (cells_one rfl) rfl rfl (.int rfl rfl (.int rfl rfl (.int rfl rfl (.nil _))))) ?_
    rintro _ _ ⟨b22, hb22, rfl, rfl⟩
    refine xoR rfl trivial (ot_inv (l := [(0, _), (1, _), (2, _)]) rfl kf19 rfl Try.func19 rfl Try.ntmps19 rfl (lac rfl (lac rfl (lac rfl lan))) ?_)
    refine xw_region ?_
    refine xq rfl trivial (o_ldV rfl ts35 (List.Mem.tail _ (List.Mem.head _))) ?_
    refine xq rfl trivial (o_mv rfl) ?_
    refine xq rfl trivial (o_mv rfl) ?_
    obtain ⟨ho2, h⟩ := h
    refine xcall rfl trivial kf20 rfl (fun w1 hw1 => put_c _ _ _ _ _ w1 SL.nil (SL.lit (l := [m0 0, m0 1, m0 2]) hw1 (List.Mem.head _) rfl (by omega) (by simp [maxLen]) (by exact (fun i hi => match i, hi with | 0, _ => rfl | 1, _ => rfl | 2, _ => rfl | q + 3, h => absurd h (by omega)))) ho2) ?_
    rintro w1 _ _ hw1 ⟨vs3, Bs3, rfl, rfl, hJs3, hcBs3⟩
    refine ⟨_, Mg.news (Cov.fresh hcBs3) (.nil _), ?_⟩
    replace hcBs3 := Cov.base (w0 := w) hcBs3 hw1.size
    refine xq rfl trivial (o_mv rfl) ?_
    refine xq rfl trivial (o_ext rfl rfl) ?_
    refine xq rfl trivial (o_ext rfl rfl) ?_
    refine xq0 trivial (o_stV rfl rfl ts35 (oneOf (OJ.val hJs3)) (List.mem_append_right _ (List.Mem.tail _ (List.Mem.head _))) (Upd.seg (.there _ _ _ _ _ (.here _ _ _ _)))) ?_
    refine xo_nil ?_
    refine con_ret0 (.inr rfl) Try.results19  _ (fun _ h => h) (?_)
    refine xo_nil (xq_then (xw_seq (xw_region ?_)))
    refine xq rfl trivial (o_mv rfl) ?_
    first | refine xq rfl trivial (o_fa0 fl34_3 rfl) ?_ | refine xq rfl trivial (o_fa fl34_3 rfl) ?_
    refine xq rfl trivial (o_ldI (v := m0 3) rfl ts3 (List.mem_append_right _ (List.Mem.tail _ (List.Mem.tail _ (List.Mem.head _)))) (by omega) rfl) ?_
    first | refine xq rfl trivial (o_fa0 fl34_4 rfl) ?_ | refine xq rfl trivial (o_fa fl34_4 rfl) ?_
    refine xq rfl trivial (o_ldI (v := m0 4) rfl ts3 (List.mem_append_right _ (List.Mem.tail _ (List.Mem.tail _ (List.Mem.head _)))) (by omega) rfl) ?_
    refine xo rfl trivial (o_bsl el53 ze3 (cells_one rfl) rfl rfl (.int rfl rfl (.int rfl rfl (.nil _)))) ?_
    rintro _ _ ⟨b29, hb29, rfl, rfl⟩
    refine xoR rfl trivial (ot_inv (l := [(0, _), (1, _), (2, _)]) rfl kf19 rfl Try.func19 rfl Try.ntmps19 rfl (lac rfl (lac rfl (lac rfl lan))) ?_)
    refine xw_region ?_
    refine xq rfl trivial (o_ldV rfl ts35 (List.Mem.tail _ (List.mem_append_right _ (List.Mem.tail _ (List.Mem.head _))))) ?_
    refine xq rfl trivial (o_mv rfl) ?_
    refine xq rfl trivial (o_mv rfl) ?_
    obtain ⟨ho4, h⟩ := h
    refine xcall rfl trivial kf20 rfl (fun w1 hw1 => put_c _ _ _ _ _ w1 (hJs3.sl hw1 (Pull.sub (.thereC _ (.here _ _)))) (SL.lit (l := [m0 3, m0 4]) hw1 (List.Mem.head _) rfl (by omega) (by simp [maxLen]) (by exact (fun i hi => match i, hi with | 0, _ => rfl | 1, _ => rfl | q + 2, h => absurd h (by omega)))) ho4) ?_
    rintro w1 _ _ hw1 ⟨vs5, Bs5, rfl, rfl, hJs5, hcBs5⟩
    refine ⟨_, Mg.news (Cov.fresh hcBs5) (.nil _), ?_⟩
    replace hcBs5 := Cov.base (w0 := w) hcBs5 hw1.size
    refine xq rfl trivial (o_mv rfl) ?_
    refine xq rfl trivial (o_ext rfl rfl) ?_
    refine xq rfl trivial (o_ext rfl rfl) ?_
    refine xq0 trivial (o_stV rfl rfl ts35 (oneOf (OJ.val hJs5)) (List.mem_append_right _ (List.Mem.tail _ (List.mem_append_right _ (List.Mem.tail _ (List.Mem.head _))))) (Upd.seg (.there _ _ _ _ _ (Upd.seg (.there _ _ _ _ _ (.here _ _ _ _)))))) ?_
    refine xo_nil ?_
    refine con_ret0 (.inr rfl) Try.results19  _ (fun _ h => h) (?_)
    refine xo_nil (xq_then (xw_seq (xw_region ?_)))
    refine xq rfl trivial (o_mv rfl) ?_
    first | refine xq rfl trivial (o_fa0 fl34_5 rfl) ?_ | refine xq rfl trivial (o_fa fl34_5 rfl) ?_
    first | refine xq rfl trivial (o_fa0 fl28_0 rfl) ?_ | refine xq rfl trivial (o_fa fl28_0 rfl) ?_
    refine xq rfl trivial (o_ldI (v := m0 5) rfl ts3 (List.mem_append_right _ (List.Mem.tail _ (List.mem_append_right _ (List.Mem.tail _ (List.Mem.tail _ (List.Mem.head _)))))) (by omega) rfl) ?_
    first | refine xq rfl trivial (o_fa0 fl34_5 rfl) ?_ | refine xq rfl trivial (o_fa fl34_5 rfl) ?_
    first | refine xq rfl trivial (o_fa0 fl28_1 rfl) ?_ | refine xq rfl trivial (o_fa fl28_1 rfl) ?_
    refine xq rfl trivial (o_ldI (v := m0 6) rfl ts3 (List.mem_append_right _ (List.Mem.tail _ (List.mem_append_right _ (List.Mem.tail _ (List.Mem.tail _ (List.Mem.head _)))))) (by omega) rfl) ?_
    first | refine xq rfl trivial (o_fa0 fl34_6 rfl) ?_ | refine xq rfl trivial (o_fa fl34_6 rfl) ?_
    refine xq rfl trivial (o_ldI (v := m0 7) rfl ts29 (List.mem_append_right _ (List.Mem.tail _ (List.mem_append_right _ (List.Mem.tail _ (List.Mem.tail _ (List.Mem.head _)))))) (by omega) rfl) ?_
    first | refine xq rfl trivial (o_fa0 fl34_7 rfl) ?_ | refine xq rfl trivial (o_fa fl34_7 rfl) ?_
    refine xq rfl trivial (o_ldI (v := m0 8) rfl ts3 (List.mem_append_right _ (List.Mem.tail _ (List.mem_append_right _ (List.Mem.tail _ (List.Mem.tail _ (List.Mem.head _)))))) (by omega) rfl) ?_
    refine xo rfl trivial (o_bsl el53 ze3 (cells_one rfl) rfl rfl (.int rfl rfl (.int rfl rfl (.int rfl rfl (.int rfl rfl (.nil _)))))) ?_
    rintro _ _ ⟨b42, hb42, rfl, rfl⟩
    refine xoR rfl trivial (ot_inv (l := [(0, _), (1, _), (2, _)]) rfl kf19 rfl Try.func19 rfl Try.ntmps19 rfl (lac rfl (lac rfl (lac rfl lan))) ?_)
    refine xw_region ?_
    refine xq rfl trivial (o_ldV rfl ts35 (List.Mem.tail _ (List.mem_append_right _ (List.Mem.tail _ (List.mem_append_right _ (List.Mem.tail _ (List.Mem.head _))))))) ?_
    refine xq rfl trivial (o_mv rfl) ?_
    refine xq rfl trivial (o_mv rfl) ?_
    obtain ⟨ho6, h⟩ := h
    refine xcall rfl trivial kf20 rfl (fun w1 hw1 => put_c _ _ _ _ _ w1 (hJs5.sl hw1 (Pull.sub (.thereC _ (.here _ _)))) (SL.lit (l := [m0 5, m0 6, m0 7, m0 8]) hw1 (List.Mem.head _) rfl (by omega) (by simp [maxLen]) (by exact (fun i hi => match i, hi with | 0, _ => rfl | 1, _ => rfl | 2, _ => rfl | 3, _ => rfl | q + 4, h => absurd h (by omega)))) ho6) ?_
    rintro w1 _ _ hw1 ⟨vs7, Bs7, rfl, rfl, hJs7, hcBs7⟩
    refine ⟨_, Mg.news (Cov.fresh hcBs7) (.nil _), ?_⟩
    replace hcBs7 := Cov.base (w0 := w) hcBs7 hw1.size
    refine xq rfl trivial (o_mv rfl) ?_
    refine xq rfl trivial (o_ext rfl rfl) ?_
    refine xq rfl trivial (o_ext rfl rfl) ?_
    refine xq0 trivial (o_stV rfl rfl ts35 (oneOf (OJ.val hJs7)) (List.mem_append_right _ (List.Mem.tail _ (List.mem_append_right _ (List.Mem.tail _ (List.mem_append_right _ (List.Mem.tail _ (List.Mem.head _))))))) (Upd.seg (.there _ _ _ _ _ (Upd.seg (.there _ _ _ _ _ (Upd.seg (.there _ _ _ _ _ (.here _ _ _ _)))))))) ?_
    refine xo_nil ?_
    refine con_ret0 (.inr rfl) Try.results19  _ (fun _ h => h) (?_)
    refine xo_nil (xq_then (xw_seq (xw_region ?_)))
    refine xq rfl trivial (o_mv rfl) ?_
    first | refine xq rfl trivial (o_fa0 fl34_8 rfl) ?_ | refine xq rfl trivial (o_fa fl34_8 rfl) ?_
    refine xq rfl trivial (o_ldI (v := m0 9) rfl ts3 (List.mem_append_right _ (List.Mem.tail _ (List.mem_append_right _ (List.Mem.tail _ (List.mem_append_right _ (List.Mem.tail _ (List.Mem.tail _ (List.Mem.head _)))))))) (by omega) rfl) ?_
    first | refine xq rfl trivial (o_fa0 fl34_9 rfl) ?_ | refine xq rfl trivial (o_fa fl34_9 rfl) ?_
    refine xq rfl trivial (o_ldI (v := m0 10) rfl ts3 (List.mem_append_right _ (List.Mem.tail _ (List.mem_append_right _ (List.Mem.tail _ (List.mem_append_right _ (List.Mem.tail _ (List.Mem.tail _ (List.Mem.head _)))))))) (by omega) rfl) ?_
    refine xo rfl trivial (o_bsl el53 ze3 (cells_one rfl) rfl rfl (.int rfl rfl (.int rfl rfl (.nil _)))) ?_
    rintro _ _ ⟨b49, hb49, rfl, rfl⟩
    refine xoR rfl trivial (ot_inv (l := [(0, _), (1, _), (2, _)]) rfl kf19 rfl Try.func19 rfl Try.ntmps19 rfl (lac rfl (lac rfl (lac rfl lan))) ?_)
    refine xw_region ?_
    refine xq rfl trivial (o_ldV rfl ts35 (List.Mem.tail _ (List.mem_append_right _ (List.Mem.tail _ (List.mem_append_right _ (List.Mem.tail _ (List.mem_append_right _ (List.Mem.tail _ (List.Mem.head _))))))))) ?_
    refine xq rfl trivial (o_mv rfl) ?_
    refine xq rfl trivial (o_mv rfl) ?_
    obtain ⟨ho8, h⟩ := h
    refine xcall rfl trivial kf20 rfl (fun w1 hw1 => put_c _ _ _ _ _ w1 (hJs7.sl hw1 (Pull.sub (.thereC _ (.here _ _)))) (SL.lit (l := [m0 9, m0 10]) hw1 (List.Mem.head _) rfl (by omega) (by simp [maxLen]) (by exact (fun i hi => match i, hi with | 0, _ => rfl | 1, _ => rfl | q + 2, h => absurd h (by omega)))) ho8) ?_
    rintro w1 _ _ hw1 ⟨vs9, Bs9, rfl, rfl, hJs9, hcBs9⟩
    refine ⟨_, Mg.news (Cov.fresh hcBs9) (.nil _), ?_⟩
    replace hcBs9 := Cov.base (w0 := w) hcBs9 hw1.size
    refine xq rfl trivial (o_mv rfl) ?_
    refine xq rfl trivial (o_ext rfl rfl) ?_
    refine xq rfl trivial (o_ext rfl rfl) ?_
    refine xq0 trivial (o_stV rfl rfl ts35 (oneOf (OJ.val hJs9)) (List.mem_append_right _ (List.Mem.tail _ (List.mem_append_right _ (List.Mem.tail _ (List.mem_append_right _ (List.Mem.tail _ (List.mem_append_right _ (List.Mem.tail _ (List.Mem.head _))))))))) (Upd.seg (.there _ _ _ _ _ (Upd.seg (.there _ _ _ _ _ (Upd.seg (.there _ _ _ _ _ (Upd.seg (.there _ _ _ _ _ (.here _ _ _ _)))))))))) ?_
    refine xo_nil ?_
    refine con_ret0 (.inr rfl) Try.results19  _ (fun _ h => h) (?_)
    refine xo_nil (xq_then (xw_seq (xw_region ?_)))
    refine xq rfl trivial (o_mv rfl) ?_
    first | refine xq rfl trivial (o_fa0 fl34_10 rfl) ?_ | refine xq rfl trivial (o_fa fl34_10 rfl) ?_
    refine xq rfl trivial (o_ldI (v := m0 11) rfl ts3 (List.mem_append_right _ (List.Mem.tail _ (List.mem_append_right _ (List.Mem.tail _ (List.mem_append_right _ (List.Mem.tail _ (List.mem_append_right _ (List.Mem.tail _ (List.Mem.tail _ (List.Mem.head _)))))))))) (by omega) rfl) ?_
    refine xo rfl trivial (o_bsl el53 ze3 (cells_one rfl) rfl rfl (.int rfl rfl (.nil _))) ?_
    rintro _ _ ⟨b54, hb54, rfl, rfl⟩
    refine xoR rfl trivial (ot_inv (l := [(0, _), (1, _), (2, _)]) rfl kf19 rfl Try.func19 rfl Try.ntmps19 rfl (lac rfl (lac rfl (lac rfl lan))) ?_)
    refine xw_region ?_
    refine xq rfl trivial (o_ldV rfl ts35 (List.Mem.tail _ (List.mem_append_right _ (List.Mem.tail _ (List.mem_append_right _ (List.Mem.tail _ (List.mem_append_right _ (List.Mem.tail _ (List.mem_append_right _ (List.Mem.tail _ (List.Mem.head _))))))))))) ?_
    refine xq rfl trivial (o_mv rfl) ?_
    refine xq rfl trivial (o_mv rfl) ?_
    obtain ⟨ho10, h⟩ := h
    refine xcall rfl trivial kf20 rfl (fun w1 hw1 => put_c _ _ _ _ _ w1 (hJs9.sl hw1 (Pull.sub (.thereC _ (.here _ _)))) (SL.lit (l := [m0 11]) hw1 (List.Mem.head _) rfl (by omega) (by simp [maxLen]) (by exact (fun i hi => match i, hi with | 0, _ => rfl | q + 1, h => absurd h (by omega)))) ho10) ?_
    rintro w1 _ _ hw1 ⟨vs11, Bs11, rfl, rfl, hJs11, hcBs11⟩
    refine ⟨_, Mg.news (Cov.fresh hcBs11) (.nil _), ?_⟩
    replace hcBs11 := Cov.base (w0 := w) hcBs11 hw1.size
    refine xq rfl trivial (o_mv rfl) ?_
    refine xq rfl trivial (o_ext rfl rfl) ?_
    refine xq rfl trivial (o_ext rfl rfl) ?_
    refine xq0 trivial (o_stV rfl rfl ts35 (oneOf (OJ.val hJs11)) (List.mem_append_right _ (List.Mem.tail _ (List.mem_append_right _ (List.Mem.tail _ (List.mem_append_right _ (List.Mem.tail _ (List.mem_append_right _ (List.Mem.tail _ (List.mem_append_right _ (List.Mem.tail _ (List.Mem.head _))))))))))) (Upd.seg (.there _ _ _ _ _ (Upd.seg (.there _ _ _ _ _ (Upd.seg (.there _ _ _ _ _ (Upd.seg (.there _ _ _ _ _ (Upd.seg (.there _ _ _ _ _ (.here _ _ _ _)))))))))))) ?_
    refine xo_nil ?_
    refine con_ret0 (.inr rfl) Try.results19  _ (fun _ h => h) (?_)
    refine xo_nil (xq_then (xw_seq (xw_seq (xw_region ?_))))
    first | refine xq rfl trivial (o_fa0 fl34_11 rfl) ?_ | refine xq rfl trivial (o_fa fl34_11 rfl) ?_
    refine xq rfl trivial (o_ldSI rfl ts32 (List.mem_append_right _ (List.Mem.tail _ (List.mem_append_right _ (List.Mem.tail _ (List.mem_append_right _ (List.Mem.tail _ (List.mem_append_right _ (List.Mem.tail _ (List.mem_append_right _ (List.Mem.tail _ (List.Mem.tail _ (List.Mem.head _)))))))))))) (by omega) (fun _ _ => rfl)) ?_
    refine xq rfl trivial (o_mv rfl) ?_
    refine xo_nil (xq_then ?_)
    refine xw_block ?_
    refine xw_rounds 60 ?_
    refine xr_succ ?_
    refine xw_seq (xw_region ?_)
    refine xq rfl trivial (o_lss rfl rfl) ?_
    refine xo_nil (xq_then (xw_seq (xw_cond_t rfl rfl (xw_skip (xq_then (xw_seq ?_))))))
    refine xw_block ?_
    refine xw_seq (xw_region ?_)
    refine xq rfl trivial (o_ixAI (j := 0) ea32 rfl rfl ⟨by omega, by omega⟩ rfl (by decide) (fun _ _ => rfl)) ?_
    refine xo rfl trivial (o_alloc ze31 rfl) ?_
    rintro _ _ ⟨b8, hb8, rfl, rfl⟩
    refine xq0 trivial (o_stWI rfl rfl ts31 (List.Mem.head _) (.here _ _ _ _)) ?_
    refine xo_nil (xq_then (xw_region ?_))
    refine xq rfl trivial (o_mv rfl) ?_
    first | refine xq rfl trivial (o_fa0 fl31_0 rfl) ?_ | refine xq rfl trivial (o_fa fl31_0 rfl) ?_
    refine xq rfl trivial (o_ldI (v := m0 12) rfl ts3 (List.Mem.head _) (by omega) rfl) ?_
    first | refine xq rfl trivial (o_fa0 fl31_1 rfl) ?_ | refine xq rfl trivial (o_fa fl31_1 rfl) ?_
    refine xq rfl trivial (o_ldI (v := m0 13) rfl ts3 (List.Mem.head _) (by omega) rfl) ?_
    refine xo rfl trivial (o_bsl el53 ze3 (cells_one rfl) rfl rfl (.int rfl rfl (.int rfl rfl (.nil _)))) ?_
    rintro _ _ ⟨b66, hb66, rfl, rfl⟩
    refine xoR rfl trivial (ot_inv (l := [(0, _), (1, _), (2, _)]) rfl kf19 rfl Try.func19 rfl Try.ntmps19 rfl (lac rfl (lac rfl (lac rfl lan))) ?_)
    refine xw_region ?_
    refine xq rfl trivial (o_ldV rfl ts35 (List.Mem.tail _ (List.Mem.tail _ (List.mem_append_right _ (List.Mem.tail _ (List.mem_append_right _ (List.Mem.tail _ (List.mem_append_right _ (List.Mem.tail _ (List.mem_append_right _ (List.Mem.tail _ (List.mem_append_right _ (List.Mem.tail _ (List.Mem.head _)))))))))))))) ?_
    refine xq rfl trivial (o_mv rfl) ?_
    refine xq rfl trivial (o_mv rfl) ?_
    obtain ⟨ho12, h⟩ := h
    refine xcall rfl trivial kf20 rfl (fun w1 hw1 => put_c _ _ _ _ _ w1 (hJs11.sl hw1 (Pull.sub (.thereC _ (.thereC _ (.here _ _))))) (SL.lit (l := [m0 12, m0 13]) hw1 (List.Mem.head _) rfl (by omega) (by simp [maxLen]) (by exact (fun i hi => match i, hi with | 0, _ => rfl | 1, _ => rfl | q + 2, h => absurd h (by omega)))) ho12) ?_
    rintro w1 _ _ hw1 ⟨vs13, Bs13, rfl, rfl, hJs13, hcBs13⟩
    refine ⟨_, Mg.news (Cov.fresh hcBs13) (.nil _), ?_⟩
    replace hcBs13 := Cov.base (w0 := w) hcBs13 hw1.size
    refine xq rfl trivial (o_mv rfl) ?_
    refine xq rfl trivial (o_ext rfl rfl) ?_
    refine xq rfl trivial (o_ext rfl rfl) ?_
    refine xq0 trivial (o_stV rfl rfl ts35 (oneOf (OJ.val hJs13)) (List.mem_append_right _ (List.Mem.tail _ (List.Mem.tail _ (List.mem_append_right _ (List.Mem.tail _ (List.mem_append_right _ (List.Mem.tail _ (List.mem_append_right _ (List.Mem.tail _ (List.mem_append_right _ (List.Mem.tail _ (List.mem_append_right _ (List.Mem.tail _ (List.Mem.head _)))))))))))))) (Upd.seg (.there _ _ _ _ _ (.there _ _ _ _ _ (Upd.seg (.there _ _ _ _ _ (Upd.seg (.there _ _ _ _ _ (Upd.seg (.there _ _ _ _ _ (Upd.seg (.there _ _ _ _ _ (Upd.seg (.there _ _ _ _ _ (.here _ _ _ _))))))))))))))) ?_
    refine xo_nil ?_
    refine con_ret0 (.inr rfl) Try.results19  _ (fun _ h => h) (?_)
    refine xo_nil ?_
    refine xq_blk 1 ?_
    refine xq_then (xw_region ?_)
    refine xq rfl trivial (o_add rfl rfl rfl ⟨by omega, by omega⟩) ?_
    refine xq rfl trivial (o_mv rfl) ?_
    refine xo_nil ?_
    refine xq_st _ (Kp.st (Kp.segKeep (Kp.new hb66 (Kp.new hb8 (Kp.segNew (Cov.fresh hcBs11) (Kp.new hb54 (Kp.segNew (Cov.fresh hcBs9) (Kp.new hb49 (Kp.segNew (Cov.fresh hcBs7) (Kp.new hb42 (Kp.segNew (Cov.fresh hcBs5) (Kp.new hb29 (Kp.segNew (Cov.fresh hcBs3) (Kp.new hb22 (Kp.keep (Kp.new hb1 Kp.nil)))))))))))))))) ?_
    refine xq_rounds ?_
    refine xr_succ ?_
    refine xw_seq (xw_region ?_)
    refine xq rfl trivial (o_lss rfl rfl) ?_
    refine xo_nil (xq_then (xw_seq (xw_cond_t rfl rfl (xw_skip (xq_then (xw_seq ?_))))))
    refine xw_block ?_
    refine xw_seq (xw_region ?_)
    refine xq rfl trivial (o_ixAI (j := 1) ea32 rfl rfl ⟨by omega, by omega⟩ rfl (by decide) (fun _ _ => rfl)) ?_
    refine xo rfl trivial (o_alloc ze31 rfl) ?_
    rintro _ _ ⟨b8, hb8, rfl, rfl⟩
    refine xq0 trivial (o_stWI rfl rfl ts31 (List.Mem.head _) (.here _ _ _ _)) ?_
    refine xo_nil (xq_then (xw_region ?_))
    refine xq rfl trivial (o_mv rfl) ?_
    first | refine xq rfl trivial (o_fa0 fl31_0 rfl) ?_ | refine xq rfl trivial (o_fa fl31_0 rfl) ?_
    refine xq rfl trivial (o_ldI (v := m0 14) rfl ts3 (List.Mem.head _) (by omega) rfl) ?_
    first | refine xq rfl trivial (o_fa0 fl31_1 rfl) ?_ | refine xq rfl trivial (o_fa fl31_1 rfl) ?_
    refine xq rfl trivial (o_ldI (v := m0 15) rfl ts3 (List.Mem.head _) (by omega) rfl) ?_
    refine xo rfl trivial (o_bsl el53 ze3 (cells_one rfl) rfl rfl (.int rfl rfl (.int rfl rfl (.nil _)))) ?_
    rintro _ _ ⟨b66, hb66, rfl, rfl⟩
    refine xoR rfl trivial (ot_inv (l := [(0, _), (1, _), (2, _)]) rfl kf19 rfl Try.func19 rfl Try.ntmps19 rfl (lac rfl (lac rfl (lac rfl lan))) ?_)
    refine xw_region ?_
    refine xq rfl trivial (o_ldV rfl ts35 (List.Mem.tail _ (List.Mem.tail _ (List.mem_append_right _ (List.Mem.head _))))) ?_
    refine xq rfl trivial (o_mv rfl) ?_
    refine xq rfl trivial (o_mv rfl) ?_
    obtain ⟨ho14, h⟩ := h
    refine xcall rfl trivial kf20 rfl (fun w1 hw1 => put_c _ _ _ _ _ w1 (hJs13.sl hw1 (Pull.sub (.thereC _ (.thereC _ (.here _ _))))) (SL.lit (l := [m0 14, m0 15]) hw1 (List.Mem.head _) rfl (by omega) (by simp [maxLen]) (by exact (fun i hi => match i, hi with | 0, _ => rfl | 1, _ => rfl | q + 2, h => absurd h (by omega)))) ho14) ?_
    rintro w1 _ _ hw1 ⟨vs15, Bs15, rfl, rfl, hJs15, hcBs15⟩
    refine ⟨_, Mg.news (Cov.fresh hcBs15) (.nil _), ?_⟩
    replace hcBs15 := Cov.base (w0 := w) hcBs15 hw1.size
    refine xq rfl trivial (o_mv rfl) ?_
    refine xq rfl trivial (o_ext rfl rfl) ?_
    refine xq rfl trivial (o_ext rfl rfl) ?_
    refine xq0 trivial (o_stV rfl rfl ts35 (oneOf (OJ.val hJs15)) (List.mem_append_right _ (List.Mem.tail _ (List.Mem.tail _ (List.mem_append_right _ (List.Mem.head _))))) (Upd.seg (.there _ _ _ _ _ (.there _ _ _ _ _ (Upd.seg (.here _ _ _ _)))))) ?_
    refine xo_nil ?_
    refine con_ret0 (.inr rfl) Try.results19  _ (fun _ h => h) (?_)
    refine xo_nil ?_
    refine xq_blk 1 ?_
    refine xq_then (xw_region ?_)
    refine xq rfl trivial (o_add rfl rfl rfl ⟨by omega, by omega⟩) ?_
    refine xq rfl trivial (o_mv rfl) ?_
    refine xo_nil ?_
    refine xq_st _ (Kp.st (Kp.segKeep (Kp.new hb66 (Kp.new hb8 (Kp.segNew (Cov.fresh hcBs13) (Kp.keep Kp.nil)))))) ?_
    refine xq_rounds ?_
    refine xr_succ ?_
    refine xw_seq (xw_region ?_)
    refine xq rfl trivial (o_lss rfl rfl) ?_
    refine xo_nil (xq_then (xw_seq (xw_cond_t rfl rfl (xw_skip (xq_then (xw_seq ?_))))))
    refine xw_block ?_
    refine xw_seq (xw_region ?_)
    refine xq rfl trivial (o_ixAI (j := 2) ea32 rfl rfl ⟨by omega, by omega⟩ rfl (by decide) (fun _ _ => rfl)) ?_
    refine xo rfl trivial (o_alloc ze31 rfl) ?_
    rintro _ _ ⟨b8, hb8, rfl, rfl⟩
    refine xq0 trivial (o_stWI rfl rfl ts31 (List.Mem.head _) (.here _ _ _ _)) ?_
    refine xo_nil (xq_then (xw_region ?_))
    refine xq rfl trivial (o_mv rfl) ?_
    first | refine xq rfl trivial (o_fa0 fl31_0 rfl) ?_ | refine xq rfl trivial (o_fa fl31_0 rfl) ?_
    refine xq rfl trivial (o_ldI (v := m0 16) rfl ts3 (List.Mem.head _) (by omega) rfl) ?_
    first | refine xq rfl trivial (o_fa0 fl31_1 rfl) ?_ | refine xq rfl trivial (o_fa fl31_1 rfl) ?_
    refine xq rfl trivial (o_ldI (v := m0 17) rfl ts3 (List.Mem.head _) (by omega) rfl) ?_
    refine xo rfl trivial (o_bsl el53 ze3 (cells_one rfl) rfl rfl (.int rfl rfl (.int rfl rfl (.nil _)))) ?_
    rintro _ _ ⟨b66, hb66, rfl, rfl⟩
    refine xoR rfl trivial (ot_inv (l := [(0, _), (1, _), (2, _)]) rfl kf19 rfl Try.func19 rfl Try.ntmps19 rfl (lac rfl (lac rfl (lac rfl lan))) ?_)
    refine xw_region ?_
    refine xq rfl trivial (o_ldV rfl ts35 (List.Mem.tail _ (List.Mem.tail _ (List.mem_append_right _ (List.Mem.head _))))) ?_
    refine xq rfl trivial (o_mv rfl) ?_
    refine xq rfl trivial (o_mv rfl) ?_
    obtain ⟨ho16, h⟩ := h
    refine xcall rfl trivial kf20 rfl (fun w1 hw1 => put_c _ _ _ _ _ w1 (hJs15.sl hw1 (Pull.sub (.thereC _ (.thereC _ (.here _ _))))) (SL.lit (l := [m0 16, m0 17]) hw1 (List.Mem.head _) rfl (by omega) (by simp [maxLen]) (by exact (fun i hi => match i, hi with | 0, _ => rfl | 1, _ => rfl | q + 2, h => absurd h (by omega)))) ho16) ?_
    rintro w1 _ _ hw1 ⟨vs17, Bs17, rfl, rfl, hJs17, hcBs17⟩
    refine ⟨_, Mg.news (Cov.fresh hcBs17) (.nil _), ?_⟩
    replace hcBs17 := Cov.base (w0 := w) hcBs17 hw1.size
    refine xq rfl trivial (o_mv rfl) ?_
    refine xq rfl trivial (o_ext rfl rfl) ?_
    refine xq rfl trivial (o_ext rfl rfl) ?_
    refine xq0 trivial (o_stV rfl rfl ts35 (oneOf (OJ.val hJs17)) (List.mem_append_right _ (List.Mem.tail _ (List.Mem.tail _ (List.mem_append_right _ (List.Mem.head _))))) (Upd.seg (.there _ _ _ _ _ (.there _ _ _ _ _ (Upd.seg (.here _ _ _ _)))))) ?_
    refine xo_nil ?_
    refine con_ret0 (.inr rfl) Try.results19  _ (fun _ h => h) (?_)
    refine xo_nil ?_
    refine xq_blk 1 ?_
    refine xq_then (xw_region ?_)
    refine xq rfl trivial (o_add rfl rfl rfl ⟨by omega, by omega⟩) ?_
    refine xq rfl trivial (o_mv rfl) ?_
    refine xo_nil ?_
    refine xq_st _ (Kp.st (Kp.segKeep (Kp.new hb66 (Kp.new hb8 (Kp.segNew (Cov.fresh hcBs15) (Kp.keep Kp.nil)))))) ?_
    refine xq_rounds ?_
    refine xr_succ ?_
    refine xw_seq (xw_region ?_)
    refine xq rfl trivial (o_lss rfl rfl) ?_
    refine xo_nil (xq_then (xw_seq (xw_cond_t rfl rfl (xw_skip (xq_then (xw_seq ?_))))))
    refine xw_block ?_
    refine xw_seq (xw_region ?_)
    refine xq rfl trivial (o_ixAI (j := 3) ea32 rfl rfl ⟨by omega, by omega⟩ rfl (by decide) (fun _ _ => rfl)) ?_
    refine xo rfl trivial (o_alloc ze31 rfl) ?_
    rintro _ _ ⟨b8, hb8, rfl, rfl⟩
    refine xq0 trivial (o_stWI rfl rfl ts31 (List.Mem.head _) (.here _ _ _ _)) ?_
    refine xo_nil (xq_then (xw_region ?_))
    refine xq rfl trivial (o_mv rfl) ?_
    first | refine xq rfl trivial (o_fa0 fl31_0 rfl) ?_ | refine xq rfl trivial (o_fa fl31_0 rfl) ?_
    refine xq rfl trivial (o_ldI (v := m0 18) rfl ts3 (List.Mem.head _) (by omega) rfl) ?_
    first | refine xq rfl trivial (o_fa0 fl31_1 rfl) ?_ | refine xq rfl trivial (o_fa fl31_1 rfl) ?_
    refine xq rfl trivial (o_ldI (v := m0 19) rfl ts3 (List.Mem.head _) (by omega) rfl) ?_
    refine xo rfl trivial (o_bsl el53 ze3 (cells_one rfl) rfl rfl (.int rfl rfl (.int rfl rfl (.nil _)))) ?_
    rintro _ _ ⟨b66, hb66, rfl, rfl⟩
    refine xoR rfl trivial (ot_inv (l := [(0, _), (1, _), (2, _)]) rfl kf19 rfl Try.func19 rfl Try.ntmps19 rfl (lac rfl (lac rfl (lac rfl lan))) ?_)
    refine xw_region ?_
    refine xq rfl trivial (o_ldV rfl ts35 (List.Mem.tail _ (List.Mem.tail _ (List.mem_append_right _ (List.Mem.head _))))) ?_
    refine xq rfl trivial (o_mv rfl) ?_
    refine xq rfl trivial (o_mv rfl) ?_
    obtain ⟨ho18, h⟩ := h
    refine xcall rfl trivial kf20 rfl (fun w1 hw1 => put_c _ _ _ _ _ w1 (hJs17.sl hw1 (Pull.sub (.thereC _ (.thereC _ (.here _ _))))) (SL.lit (l := [m0 18, m0 19]) hw1 (List.Mem.head _) rfl (by omega) (by simp [maxLen]) (by exact (fun i hi => match i, hi with | 0, _ => rfl | 1, _ => rfl | q + 2, h => absurd h (by omega)))) ho18) ?_
    rintro w1 _ _ hw1 ⟨vs19, Bs19, rfl, rfl, hJs19, hcBs19⟩
    refine ⟨_, Mg.news (Cov.fresh hcBs19) (.nil _), ?_⟩
    replace hcBs19 := Cov.base (w0 := w) hcBs19 hw1.size
    refine xq rfl trivial (o_mv rfl) ?_
    refine xq rfl trivial (o_ext rfl rfl) ?_
    refine xq rfl trivial (o_ext rfl rfl) ?_
    refine xq0 trivial (o_stV rfl rfl ts35 (oneOf (OJ.val hJs19)) (List.mem_append_right _ (List.Mem.tail _ (List.Mem.tail _ (List.mem_append_right _ (List.Mem.head _))))) (Upd.seg (.there _ _ _ _ _ (.there _ _ _ _ _ (Upd.seg (.here _ _ _ _)))))) ?_
    refine xo_nil ?_
    refine con_ret0 (.inr rfl) Try.results19  _ (fun _ h => h) (?_)
    refine xo_nil ?_
    refine xq_blk 1 ?_
    refine xq_then (xw_region ?_)
    refine xq rfl trivial (o_add rfl rfl rfl ⟨by omega, by omega⟩) ?_
    refine xq rfl trivial (o_mv rfl) ?_
    refine xo_nil ?_
    refine xq_st _ (Kp.st (Kp.segKeep (Kp.new hb66 (Kp.new hb8 (Kp.segNew (Cov.fresh hcBs17) (Kp.keep Kp.nil)))))) ?_
    refine xq_rounds ?_
    refine xr_succ ?_
    refine xw_seq (xw_region ?_)
    refine xq rfl trivial (o_lss rfl rfl) ?_
    refine xo_nil (xq_then (xw_seq (xw_cond_t rfl rfl (xw_skip (xq_then (xw_seq ?_))))))
    refine xw_block ?_
    refine xw_seq (xw_region ?_)
    refine xq rfl trivial (o_ixAI (j := 4) ea32 rfl rfl ⟨by omega, by omega⟩ rfl (by decide) (fun _ _ => rfl)) ?_
    refine xo rfl trivial (o_alloc ze31 rfl) ?_
    rintro _ _ ⟨b8, hb8, rfl, rfl⟩
    refine xq0 trivial (o_stWI rfl rfl ts31 (List.Mem.head _) (.here _ _ _ _)) ?_
    refine xo_nil (xq_then (xw_region ?_))
    refine xq rfl trivial (o_mv rfl) ?_
    first | refine xq rfl trivial (o_fa0 fl31_0 rfl) ?_ | refine xq rfl trivial (o_fa fl31_0 rfl) ?_
    refine xq rfl trivial (o_ldI (v := m0 20) rfl ts3 (List.Mem.head _) (by omega) rfl) ?_
    first | refine xq rfl trivial (o_fa0 fl31_1 rfl) ?_ | refine xq rfl trivial (o_fa fl31_1 rfl) ?_
    refine xq rfl trivial (o_ldI (v := m0 21) rfl ts3 (List.Mem.head _) (by omega) rfl) ?_
    refine xo rfl trivial (o_bsl el53 ze3 (cells_one rfl) rfl rfl (.int rfl rfl (.int rfl rfl (.nil _)))) ?_
    rintro _ _ ⟨b66, hb66, rfl, rfl⟩
    refine xoR rfl trivial (ot_inv (l := [(0, _), (1, _), (2, _)]) rfl kf19 rfl Try.func19 rfl Try.ntmps19 rfl (lac rfl (lac rfl (lac rfl lan))) ?_)
    refine xw_region ?_
    refine xq rfl trivial (o_ldV rfl ts35 (List.Mem.tail _ (List.Mem.tail _ (List.mem_append_right _ (List.Mem.head _))))) ?_
    refine xq rfl trivial (o_mv rfl) ?_
    refine xq rfl trivial (o_mv rfl) ?_
    obtain ⟨ho20, h⟩ := h
    refine xcall rfl trivial kf20 rfl (fun w1 hw1 => put_c _ _ _ _ _ w1 (hJs19.sl hw1 (Pull.sub (.thereC _ (.thereC _ (.here _ _))))) (SL.lit (l := [m0 20, m0 21]) hw1 (List.Mem.head _) rfl (by omega) (by simp [maxLen]) (by exact (fun i hi => match i, hi with | 0, _ => rfl | 1, _ => rfl | q + 2, h => absurd h (by omega)))) ho20) ?_
    rintro w1 _ _ hw1 ⟨vs21, Bs21, rfl, rfl, hJs21, hcBs21⟩
    refine ⟨_, Mg.news (Cov.fresh hcBs21) (.nil _), ?_⟩
    replace hcBs21 := Cov.base (w0 := w) hcBs21 hw1.size
    refine xq rfl trivial (o_mv rfl) ?_
    refine xq rfl trivial (o_ext rfl rfl) ?_
    refine xq rfl trivial (o_ext rfl rfl) ?_
    refine xq0 trivial (o_stV rfl rfl ts35 (oneOf (OJ.val hJs21)) (List.mem_append_right _ (List.Mem.tail _ (List.Mem.tail _ (List.mem_append_right _ (List.Mem.head _))))) (Upd.seg (.there _ _ _ _ _ (.there _ _ _ _ _ (Upd.seg (.here _ _ _ _)))))) ?_
    refine xo_nil ?_
    refine con_ret0 (.inr rfl) Try.results19  _ (fun _ h => h) (?_)
    refine xo_nil ?_
    refine xq_blk 1 ?_
    refine xq_then (xw_region ?_)
    refine xq rfl trivial (o_add rfl rfl rfl ⟨by omega, by omega⟩) ?_
    refine xq rfl trivial (o_mv rfl) ?_
    refine xo_nil ?_
    refine xq_st _ (Kp.st (Kp.segKeep (Kp.new hb66 (Kp.new hb8 (Kp.segNew (Cov.fresh hcBs19) (Kp.keep Kp.nil)))))) ?_
    refine xq_rounds ?_
    refine xr_succ ?_
    refine xw_seq (xw_region ?_)
    refine xq rfl trivial (o_lss rfl rfl) ?_
    refine xo_nil (xq_then (xw_seq (xw_cond_t rfl rfl (xw_skip (xq_then (xw_seq ?_))))))
    refine xw_block ?_
    refine xw_seq (xw_region ?_)
    refine xq rfl trivial (o_ixAI (j := 5) ea32 rfl rfl ⟨by omega, by omega⟩ rfl (by decide) (fun _ _ => rfl)) ?_
    refine xo rfl trivial (o_alloc ze31 rfl) ?_
    rintro _ _ ⟨b8, hb8, rfl, rfl⟩
    refine xq0 trivial (o_stWI rfl rfl ts31 (List.Mem.head _) (.here _ _ _ _)) ?_
    refine xo_nil (xq_then (xw_region ?_))
    refine xq rfl trivial (o_mv rfl) ?_
    first | refine xq rfl trivial (o_fa0 fl31_0 rfl) ?_ | refine xq rfl trivial (o_fa fl31_0 rfl) ?_
    refine xq rfl trivial (o_ldI (v := m0 22) rfl ts3 (List.Mem.head _) (by omega) rfl) ?_
    first | refine xq rfl trivial (o_fa0 fl31_1 rfl) ?_ | refine xq rfl trivial (o_fa fl31_1 rfl) ?_
    refine xq rfl trivial (o_ldI (v := m0 23) rfl ts3 (List.Mem.head _) (by omega) rfl) ?_
    refine xo rfl trivial (o_bsl el53 ze3 (cells_one rfl) rfl rfl (.int rfl rfl (.int rfl rfl (.nil _)))) ?_
    rintro _ _ ⟨b66, hb66, rfl, rfl⟩
    refine xoR rfl trivial (ot_inv (l := [(0, _), (1, _), (2, _)]) rfl kf19 rfl Try.func19 rfl Try.ntmps19 rfl (lac rfl (lac rfl (lac rfl lan))) ?_)
    refine xw_region ?_
    refine xq rfl trivial (o_ldV rfl ts35 (List.Mem.tail _ (List.Mem.tail _ (List.mem_append_right _ (List.Mem.head _))))) ?_
    refine xq rfl trivial (o_mv rfl) ?_
    refine xq rfl trivial (o_mv rfl) ?_
    obtain ⟨ho22, h⟩ := h
    refine xcall rfl trivial kf20 rfl (fun w1 hw1 => put_c _ _ _ _ _ w1 (hJs21.sl hw1 (Pull.sub (.thereC _ (.thereC _ (.here _ _))))) (SL.lit (l := [m0 22, m0 23]) hw1 (List.Mem.head _) rfl (by omega) (by simp [maxLen]) (by exact (fun i hi => match i, hi with | 0, _ => rfl | 1, _ => rfl | q + 2, h => absurd h (by omega)))) ho22) ?_
    rintro w1 _ _ hw1 ⟨vs23, Bs23, rfl, rfl, hJs23, hcBs23⟩
    refine ⟨_, Mg.news (Cov.fresh hcBs23) (.nil _), ?_⟩
    replace hcBs23 := Cov.base (w0 := w) hcBs23 hw1.size
    refine xq rfl trivial (o_mv rfl) ?_
    refine xq rfl trivial (o_ext rfl rfl) ?_
    refine xq rfl trivial (o_ext rfl rfl) ?_
    refine xq0 trivial (o_stV rfl rfl ts35 (oneOf (OJ.val hJs23)) (List.mem_append_right _ (List.Mem.tail _ (List.Mem.tail _ (List.mem_append_right _ (List.Mem.head _))))) (Upd.seg (.there _ _ _ _ _ (.there _ _ _ _ _ (Upd.seg (.here _ _ _ _)))))) ?_
    refine xo_nil ?_
    refine con_ret0 (.inr rfl) Try.results19  _ (fun _ h => h) (?_)
    refine xo_nil ?_
    refine xq_blk 1 ?_
    refine xq_then (xw_region ?_)
    refine xq rfl trivial (o_add rfl rfl rfl ⟨by omega, by omega⟩) ?_
    refine xq rfl trivial (o_mv rfl) ?_
    refine xo_nil ?_
    refine xq_st _ (Kp.st (Kp.segKeep (Kp.new hb66 (Kp.new hb8 (Kp.segNew (Cov.fresh hcBs21) (Kp.keep Kp.nil)))))) ?_
    refine xq_rounds ?_
    refine xr_succ ?_
    refine xw_seq (xw_region ?_)
    refine xq rfl trivial (o_lss rfl rfl) ?_
    refine xo_nil (xq_then (xw_seq (xw_cond_t rfl rfl (xw_skip (xq_then (xw_seq ?_))))))
    refine xw_block ?_
    refine xw_seq (xw_region ?_)
    refine xq rfl trivial (o_ixAI (j := 6) ea32 rfl rfl ⟨by omega, by omega⟩ rfl (by decide) (fun _ _ => rfl)) ?_
    refine xo rfl trivial (o_alloc ze31 rfl) ?_
    rintro _ _ ⟨b8, hb8, rfl, rfl⟩
    refine xq0 trivial (o_stWI rfl rfl ts31 (List.Mem.head _) (.here _ _ _ _)) ?_
    refine xo_nil (xq_then (xw_region ?_))
    refine xq rfl trivial (o_mv rfl) ?_
    first | refine xq rfl trivial (o_fa0 fl31_0 rfl) ?_ | refine xq rfl trivial (o_fa fl31_0 rfl) ?_
    refine xq rfl trivial (o_ldI (v := m0 24) rfl ts3 (List.Mem.head _) (by omega) rfl) ?_
    first | refine xq rfl trivial (o_fa0 fl31_1 rfl) ?_ | refine xq rfl trivial (o_fa fl31_1 rfl) ?_
    refine xq rfl trivial (o_ldI (v := m0 25) rfl ts3 (List.Mem.head _) (by omega) rfl) ?_
    refine xo rfl trivial (o_bsl el53 ze3 (cells_one rfl) rfl rfl (.int rfl rfl (.int rfl rfl (.nil _)))) ?_
    rintro _ _ ⟨b66, hb66, rfl, rfl⟩
    refine xoR rfl trivial (ot_inv (l := [(0, _), (1, _), (2, _)]) rfl kf19 rfl Try.func19 rfl Try.ntmps19 rfl (lac rfl (lac rfl (lac rfl lan))) ?_)
    refine xw_region ?_
    refine xq rfl trivial (o_ldV rfl ts35 (List.Mem.tail _ (List.Mem.tail _ (List.mem_append_right _ (List.Mem.head _))))) ?_
    refine xq rfl trivial (o_mv rfl) ?_
    refine xq rfl trivial (o_mv rfl) ?_
    obtain ⟨ho24, h⟩ := h
    refine xcall rfl trivial kf20 rfl (fun w1 hw1 => put_c _ _ _ _ _ w1 (hJs23.sl hw1 (Pull.sub (.thereC _ (.thereC _ (.here _ _))))) (SL.lit (l := [m0 24, m0 25]) hw1 (List.Mem.head _) rfl (by omega) (by simp [maxLen]) (by exact (fun i hi => match i, hi with | 0, _ => rfl | 1, _ => rfl | q + 2, h => absurd h (by omega)))) ho24) ?_
    rintro w1 _ _ hw1 ⟨vs25, Bs25, rfl, rfl, hJs25, hcBs25⟩
    refine ⟨_, Mg.news (Cov.fresh hcBs25) (.nil _), ?_⟩
    replace hcBs25 := Cov.base (w0 := w) hcBs25 hw1.size
    refine xq rfl trivial (o_mv rfl) ?_
    refine xq rfl trivial (o_ext rfl rfl) ?_
    refine xq rfl trivial (o_ext rfl rfl) ?_
    refine xq0 trivial (o_stV rfl rfl ts35 (oneOf (OJ.val hJs25)) (List.mem_append_right _ (List.Mem.tail _ (List.Mem.tail _ (List.mem_append_right _ (List.Mem.head _))))) (Upd.seg (.there _ _ _ _ _ (.there _ _ _ _ _ (Upd.seg (.here _ _ _ _)))))) ?_
    refine xo_nil ?_
    refine con_ret0 (.inr rfl) Try.results19  _ (fun _ h => h) (?_)
    refine xo_nil ?_
    refine xq_blk 1 ?_
    refine xq_then (xw_region ?_)
    refine xq rfl trivial (o_add rfl rfl rfl ⟨by omega, by omega⟩) ?_
    refine xq rfl trivial (o_mv rfl) ?_
    refine xo_nil ?_
    refine xq_st _ (Kp.st (Kp.segKeep (Kp.new hb66 (Kp.new hb8 (Kp.segNew (Cov.fresh hcBs23) (Kp.keep Kp.nil)))))) ?_
    refine xq_rounds ?_
    refine xr_succ ?_
    refine xw_seq (xw_region ?_)
    refine xq rfl trivial (o_lss rfl rfl) ?_
    refine xo_nil (xq_then (xw_seq (xw_cond_t rfl rfl (xw_skip (xq_then (xw_seq ?_))))))
    refine xw_block ?_
    refine xw_seq (xw_region ?_)
    refine xq rfl trivial (o_ixAI (j := 7) ea32 rfl rfl ⟨by omega, by omega⟩ rfl (by decide) (fun _ _ => rfl)) ?_
    refine xo rfl trivial (o_alloc ze31 rfl) ?_
    rintro _ _ ⟨b8, hb8, rfl, rfl⟩
    refine xq0 trivial (o_stWI rfl rfl ts31 (List.Mem.head _) (.here _ _ _ _)) ?_
    refine xo_nil (xq_then (xw_region ?_))
    refine xq rfl trivial (o_mv rfl) ?_
    first | refine xq rfl trivial (o_fa0 fl31_0 rfl) ?_ | refine xq rfl trivial (o_fa fl31_0 rfl) ?_
    refine xq rfl trivial (o_ldI (v := m0 26) rfl ts3 (List.Mem.head _) (by omega) rfl) ?_
    first | refine xq rfl trivial (o_fa0 fl31_1 rfl) ?_ | refine xq rfl trivial (o_fa fl31_1 rfl) ?_
    refine xq rfl trivial (o_ldI (v := m0 27) rfl ts3 (List.Mem.head _) (by omega) rfl) ?_
    refine xo rfl trivial (o_bsl el53 ze3 (cells_one rfl) rfl rfl (.int rfl rfl (.int rfl rfl (.nil _)))) ?_
    rintro _ _ ⟨b66, hb66, rfl, rfl⟩
    refine xoR rfl trivial (ot_inv (l := [(0, _), (1, _), (2, _)]) rfl kf19 rfl Try.func19 rfl Try.ntmps19 rfl (lac rfl (lac rfl (lac rfl lan))) ?_)
    refine xw_region ?_
    refine xq rfl trivial (o_ldV rfl ts35 (List.Mem.tail _ (List.Mem.tail _ (List.mem_append_right _ (List.Mem.head _))))) ?_
    refine xq rfl trivial (o_mv rfl) ?_
    refine xq rfl trivial (o_mv rfl) ?_
    obtain ⟨ho26, h⟩ := h
    refine xcall rfl trivial kf20 rfl (fun w1 hw1 => put_c _ _ _ _ _ w1 (hJs25.sl hw1 (Pull.sub (.thereC _ (.thereC _ (.here _ _))))) (SL.lit (l := [m0 26, m0 27]) hw1 (List.Mem.head _) rfl (by omega) (by simp [maxLen]) (by exact (fun i hi => match i, hi with | 0, _ => rfl | 1, _ => rfl | q + 2, h => absurd h (by omega)))) ho26) ?_
    rintro w1 _ _ hw1 ⟨vs27, Bs27, rfl, rfl, hJs27, hcBs27⟩
    refine ⟨_, Mg.news (Cov.fresh hcBs27) (.nil _), ?_⟩
    replace hcBs27 := Cov.base (w0 := w) hcBs27 hw1.size
    refine xq rfl trivial (o_mv rfl) ?_
    refine xq rfl trivial (o_ext rfl rfl) ?_
    refine xq rfl trivial (o_ext rfl rfl) ?_
    refine xq0 trivial (o_stV rfl rfl ts35 (oneOf (OJ.val hJs27)) (List.mem_append_right _ (List.Mem.tail _ (List.Mem.tail _ (List.mem_append_right _ (List.Mem.head _))))) (Upd.seg (.there _ _ _ _ _ (.there _ _ _ _ _ (Upd.seg (.here _ _ _ _)))))) ?_
    refine xo_nil ?_
    refine con_ret0 (.inr rfl) Try.results19  _ (fun _ h => h) (?_)
    refine xo_nil ?_
    refine xq_blk 1 ?_
    refine xq_then (xw_region ?_)
    refine xq rfl trivial (o_add rfl rfl rfl ⟨by omega, by omega⟩) ?_
    refine xq rfl trivial (o_mv rfl) ?_
    refine xo_nil ?_
    refine xq_st _ (Kp.st (Kp.segKeep (Kp.new hb66 (Kp.new hb8 (Kp.segNew (Cov.fresh hcBs25) (Kp.keep Kp.nil)))))) ?_
    refine xq_rounds ?_
    refine xr_succ ?_
    refine xw_seq (xw_region ?_)
    refine xq rfl trivial (o_lss rfl rfl) ?_
    refine xo_nil (xq_then (xw_seq (xw_cond_f rfl rfl (xw_exit (xq_then_exit (xq_then_exit ?_))))))
    refine xq_blk_eq ?_
    refine xq_then (xw_seq (xw_region ?_))
    refine xq rfl trivial (o_ldV rfl ts35 (List.mem_append_right _ (List.Mem.head _))) ?_
    refine xq rfl trivial (o_as rfl) ?_
    refine xq rfl trivial (o_as rfl) ?_
    refine xo_nil (xq_then (xw_ret ?_))
    subst h
    exact con_ret2 (.inl rfl) Try.results10 rfl rfl (Bs27 ++ []) (Kp.st (Kp.segKeep (Kp.new hb5 Kp.nil))) (⟨_, Bs27, rfl, rfl, hJs27, hcBs27⟩)

theorem enc_c (m0 : (Nat → Int)) (w : World) (hP : enc_P m0) : Con Try.prog 10 #[AI 28 m0] w (fun v F => ∃ (u0 : Value) (C0 : GH), v = .tuple #[u0, errV 59 ((enc_F m0).2)] ∧ F = (C0 ++ []) ∧ OJ 5 1 u8c C0 u0 ((enc_F m0).1) ∧ Cov w [] C0) :=
  enc_con m0 w _ (enc_ok m0 hP)

theorem dcd_con (b0 : (List Int)) (v0 : Value) (w : World) (hs0 : SL w 1 u8c v0 b0) (r : (Nat → Int) × Int) (h : dcd_S b0 r) : Con Try.prog 16 #[v0] w (Is (.tuple #[AI 28 r.1, errV 59 r.2]) []) := by
  unfold dcd_S at h
  refine con_enter (n := 76) [(0, _)] Try.func16 rfl Try.ntmps16 rfl (lac rfl lan) ?_
  refine xw_seq (xw_region ?_)
  refine xo rfl trivial (o_alloc ze34 rfl) ?_
  rintro _ _ ⟨b2, hb2, rfl, rfl⟩
  refine xq rfl trivial (o_as rfl) ?_
  refine xo_nil (xq_then (xw_seq ?_))
  refine xw_block ?_
  refine xw_seq (xw_region ?_)
  refine xq rfl trivial (o_mv rfl) ?_
  refine xq rfl trivial (o_lenL rfl Try.underlying35 rfl (SL.val hs0)) ?_
  refine xq rfl trivial (o_lss rfl rfl) ?_
  refine xq rfl trivial (o_as rfl) ?_
  refine xo_nil (xq_then ?_)
  refine xw_bool 9 rfl (fun hc1 => ?_) (fun hc1 => ?_)
  · have hq1 : (decide ((b0.length : Int) < 88)) = true := hc1
    have hp1 : (b0.length : Int) < 88 := of_decide_eq_true hq1
    rw [if_pos hp1] at h
    refine xw_cond_t rfl rfl (xw_seq (xw_region ?_))
    refine xq rfl trivial (o_build fk34 ze34 (.nil _)) ?_
    refine xq rfl trivial (o_mki rfl Try.underlying59 rfl) ?_
    refine xq0 trivial (o_stWI rfl rfl ts34 (List.Mem.head _) (.here _ _ _ _)) ?_
    refine xq rfl trivial (o_as rfl) ?_
    refine xo_nil (xq_then (xw_ret (xq_blk_ret (xq_then_ret ?_))))
    subst h
    exact con_retN (.inl rfl) (l := [.cell 2 34, .tmp 3]) Try.results16 (.cell rfl ts34 (List.Mem.head _) (.tmp rfl .nil)) rfl [] (Kp.st (Kp.new hb2 Kp.nil)) (⟨rfl, rfl⟩)
  · have hq1 : (decide ((b0.length : Int) < 88)) = false := hc1
    have hp1 : ¬ ((b0.length : Int) < 88) := of_decide_eq_false hq1
    rw [if_neg hp1] at h
    refine xw_cond_f rfl rfl (xw_seq (xw_region ?_))
    refine xq rfl trivial (o_mv rfl) ?_
    refine xq rfl trivial (o_lenL rfl Try.underlying35 rfl (SL.val hs0)) ?_
    refine xq rfl trivial (o_gtr rfl rfl) ?_
    refine xq rfl trivial (o_as rfl) ?_
    refine xo_nil (xq_then ?_)
    refine xw_bool 15 rfl (fun hc2 => ?_) (fun hc2 => ?_)
    · have hq2 : (decide (88 < (b0.length : Int))) = true := hc2
      have hp2 : 88 < (b0.length : Int) := of_decide_eq_true hq2
      rw [if_pos hp2] at h
      refine xw_cond_t rfl rfl (xw_seq (xw_region ?_))
      refine xq rfl trivial (o_build fk34 ze34 (.nil _)) ?_
      refine xq rfl trivial (o_mki rfl Try.underlying59 rfl) ?_
      refine xq0 trivial (o_stWI rfl rfl ts34 (List.Mem.head _) (.here _ _ _ _)) ?_
      refine xq rfl trivial (o_as rfl) ?_
      refine xo_nil (xq_then (xw_ret (xq_blk_ret (xq_then_ret ?_))))
      subst h
      exact con_retN (.inl rfl) (l := [.cell 2 34, .tmp 3]) Try.results16 (.cell rfl ts34 (List.Mem.head _) (.tmp rfl .nil)) rfl [] (Kp.st (Kp.new hb2 Kp.nil)) (⟨rfl, rfl⟩)
    · have hq2 : (decide (88 < (b0.length : Int))) = false := hc2
      have hp2 : ¬ (88 < (b0.length : Int)) := of_decide_eq_false hq2
      rw [if_neg hp2] at h
      refine xw_cond_f rfl rfl (xw_skip ?_)
      refine xq_blk 0 ?_
      refine xq_then (xw_seq (xw_region ?_))
      refine xq rfl trivial (o_mv rfl) ?_
      refine xoR rfl trivial (ot_in (l := [(0, _)]) kf27 rfl Try.func27 rfl Try.ntmps27 rfl (lac rfl lan) ?_)
      refine xw_seq (xw_region ?_)
      refine xq rfl trivial (o_as rfl) ?_
      refine xo_nil (xq_then (xw_seq (xw_region ?_)))
      refine xq rfl trivial (o_mv rfl) ?_
      obtain ⟨ho3, h⟩ := h
      refine xcall rfl trivial kf32 rfl (fun w1 hw1 => cloneB_c _ _ w1 (hs0.keep hw1 (Fr.cons hb2 Fr.nil)) ho3) ?_
      rintro w1 vs4 _ hw1 ⟨_, Bs4, rfl, rfl, hJs4, hcBs4⟩
      refine ⟨_, Mg.news (Cov.fresh hcBs4) (.nil _), ?_⟩
      replace hcBs4 := Cov.base (w0 := w) hcBs4 hw1.size
      refine xq rfl trivial (o_buildC [vs4, .int .i64 0] fk78 ze78 (.one fl78_0 rfl rfl (oneOf (OJ.val hJs4)) (.nil _)) (fun i hi => match i, hi with | 0, _ => rfl | 1, _ => rfl | q + 2, h => absurd h (by omega))) ?_
      refine xo rfl trivial (o_boxC [vs4, .int .i64 0] rfl (fun i hi => match i, hi with | 0, _ => rfl | 1, _ => rfl | q + 2, h => absurd h (by omega))) ?_
      rintro _ _ ⟨b6, hb6, rfl, rfl⟩
      refine xq rfl trivial (o_as rfl) ?_
      refine xo_nil (xq_then (xw_ret ?_))
      refine con_ret1 (.inl rfl) Try.results27 rfl _ (fun _ h => h) (?_)
      refine xq rfl trivial (o_mkf rfl rfl) ?_
      refine xq rfl trivial (o_as rfl) ?_
      refine xo_nil (xq_then (xw_seq (xw_region ?_)))
      refine xo rfl trivial (o_alloc ze34 rfl) ?_
      rintro _ _ ⟨b5, hb5, rfl, rfl⟩
      refine xo_nil (xq_then (xw_seq (xw_region ?_)))
      refine xo rfl trivial (o_alloc ze3 (cells_one rfl)) ?_
      rintro _ _ ⟨b6a, hb6a, rfl, rfl⟩
      refine xq0 trivial (o_stV rfl rfl ts3 rfl (List.Mem.head _) (.here _ _ _ _)) ?_
      refine xo_nil (xq_then (xw_seq (xw_region ?_)))
      refine xq rfl trivial (o_mv rfl) ?_
      first | refine xq rfl trivial (o_fa0 fl34_0 rfl) ?_ | refine xq rfl trivial (o_fa fl34_0 rfl) ?_
      first | refine xq rfl trivial (o_fa0 fl34_1 rfl) ?_ | refine xq rfl trivial (o_fa fl34_1 rfl) ?_
      first | refine xq rfl trivial (o_fa0 fl34_2 rfl) ?_ | refine xq rfl trivial (o_fa fl34_2 rfl) ?_
      refine xo rfl trivial (o_bsl el80 ze67 (cells_one rfl) rfl rfl (.one rfl rfl rfl rfl (.one rfl rfl rfl rfl (.one rfl rfl rfl rfl (.nil _))))) ?_
      rintro _ _ ⟨b28, hb28, rfl, rfl⟩
      refine xoR rfl trivial (ot_in (l := [(0, _), (1, _), (2, _)]) kf29 rfl Try.func29 rfl Try.ntmps29 rfl (lac rfl (lac rfl (lac rfl lan))) ?_)
      refine xw_seq (xw_region ?_)
      refine xq rfl trivial (o_mv rfl) ?_
      refine xq rfl trivial (o_len rfl Try.underlying80 rfl) ?_
      refine xq rfl trivial (o_mv rfl) ?_
      refine xo_nil (xq_then ?_)
      refine xw_block ?_
      refine xw_rounds 60 ?_
      refine xr_succ ?_
      refine xw_seq (xw_region ?_)
      refine xq rfl trivial (o_lss rfl rfl) ?_
      refine xo_nil (xq_then (xw_seq (xw_cond_t rfl rfl (xw_skip (xq_then (xw_seq ?_))))))
      refine xw_block ?_
      refine xw_seq (xw_region ?_)
      refine xq rfl trivial (o_ixs el80 rfl rfl ⟨by omega, by omega⟩ (rfl : _ = 0)) ?_
      first | refine xq rfl trivial (o_ldI rfl ts67 (List.Mem.head _) (by decide) rfl) ?_ | refine xq rfl trivial (o_ld rfl ts67 (List.Mem.head _) (by decide) rfl) ?_
      refine xq rfl trivial (o_as rfl) ?_
      refine xo_nil (xq_then (xw_region ?_))
      refine xq rfl trivial (o_mv rfl) ?_
      refine xq rfl trivial (o_mv rfl) ?_
      refine xq rfl trivial (o_mv rfl) ?_
      obtain ⟨ho5, h⟩ := h
      refine xo rfl trivial (OT.st (fun _ h => St.permI [3, 4, 0, 1, 2, 5] [[(b28, _)], [(b6a, _)], [(b5, _)], [(b6, _)], Bs4, [(b2, _)]] rfl h) (ot_callV (Cs := [[(b6, _)], Bs4]) (Rs := [[(b28, _)], [(b6a, _)], [(b5, _)], [(b2, _)]]) rfl kf28 rfl (fun w1 hw1 => take_c _ _ _ _ _ _ w1 hJs4 (St.hasC hw1) ho5) (fun _ _ _ h => h.1))) ?_
      rintro _ _ ⟨w1, _, rfl, hle, -, rfl, rfl⟩
      refine xo_st ((b6, BK 2 (cl [vs4, .int .i64 1]) 78) :: (Bs4 ++ ((b28, BK 3 _ 67) :: ((b6a, BK 1 (fun _ => .int .i64 0) 3) :: ((b5, BK 28 (iv (fun _ => 0)) 34) :: ((b2, BK 28 (iv (fun _ => 0)) 34) :: ([]))))))) (fun _ h => h) ?_
      refine xq rfl trivial (o_mv rfl) ?_
      refine xq rfl trivial (o_ext rfl rfl) ?_
      refine xq rfl trivial (o_ext rfl rfl) ?_
      refine xq rfl trivial (o_nilp rfl) ?_
      refine xq0 trivial (o_stI rfl rfl ts3 (List.Mem.tail _ (List.mem_append_right _ (List.Mem.tail _ (List.Mem.tail _ (List.Mem.head _))))) (by omega) (.there _ _ _ _ _ (Upd.seg (.there _ _ _ _ _ (.there _ _ _ _ _ (.here _ _ _ _)))))) ?_
      refine xo_nil ?_
      refine xq_blk 1 ?_
      refine xq_then (xw_region ?_)
      refine xq rfl trivial (o_add rfl rfl rfl ⟨by omega, by omega⟩) ?_
      refine xq rfl trivial (o_mv rfl) ?_
      refine xo_nil ?_
      refine xq_rounds ?_
      refine xr_succ ?_
      refine xw_seq (xw_region ?_)
      refine xq rfl trivial (o_lss rfl rfl) ?_
      refine xo_nil (xq_then (xw_seq (xw_cond_t rfl rfl (xw_skip (xq_then (xw_seq ?_))))))
      refine xw_block ?_
      refine xw_seq (xw_region ?_)
      refine xq rfl trivial (o_ixs el80 rfl rfl ⟨by omega, by omega⟩ (rfl : _ = 1)) ?_
      first | refine xq rfl trivial (o_ldI rfl ts67 (List.Mem.tail _ (List.mem_append_right _ (List.Mem.head _))) (by decide) rfl) ?_ | refine xq rfl trivial (o_ld rfl ts67 (List.Mem.tail _ (List.mem_append_right _ (List.Mem.head _))) (by decide) rfl) ?_
      refine xq rfl trivial (o_as rfl) ?_
      refine xo_nil (xq_then (xw_region ?_))
      refine xq rfl trivial (o_mv rfl) ?_
      refine xq rfl trivial (o_mv rfl) ?_
      refine xq rfl trivial (o_mv rfl) ?_
      obtain ⟨ho8, h⟩ := h
      refine xo rfl trivial (OT.st (fun _ h => h) (ot_callV (Cs := [[(b6, _)], Bs4]) (Rs := [[(b28, _)], [(b6a, _)], [(b5, _)], [(b2, _)]]) rfl kf28 rfl (fun w1 hw1 => take_c _ _ _ _ _ _ w1 hJs4 (St.hasC hw1) ho8) (fun _ _ _ h => h.1))) ?_
      rintro _ _ ⟨w1, _, rfl, hle, -, rfl, rfl⟩
      refine xo_st ((b6, BK 2 (cl [vs4, .int .i64 2]) 78) :: (Bs4 ++ ((b28, BK 3 _ 67) :: ((b6a, BK 1 (fun _ => .int .i64 0) 3) :: ((b5, BK 28 (iv (updI (fun _ => 0) 0 (numF b0 0 1))) 34) :: ((b2, BK 28 (iv (fun _ => 0)) 34) :: ([]))))))) (fun _ h => h) ?_
      refine xq rfl trivial (o_mv rfl) ?_
      refine xq rfl trivial (o_ext rfl rfl) ?_
      refine xq rfl trivial (o_ext rfl rfl) ?_
      refine xq rfl trivial (o_nilp rfl) ?_
      refine xq0 trivial (o_stI rfl rfl ts3 (List.Mem.tail _ (List.mem_append_right _ (List.Mem.tail _ (List.Mem.tail _ (List.Mem.head _))))) (by omega) (.there _ _ _ _ _ (Upd.seg (.there _ _ _ _ _ (.there _ _ _ _ _ (.here _ _ _ _)))))) ?_
      refine xo_nil ?_
      refine xq_blk 1 ?_
      refine xq_then (xw_region ?_)
      refine xq rfl trivial (o_add rfl rfl rfl ⟨by omega, by omega⟩) ?_
      refine xq rfl trivial (o_mv rfl) ?_
      refine xo_nil ?_
      refine xq_rounds ?_
      refine xr_succ ?_
      refine xw_seq (xw_region ?_)
      refine xq rfl trivial (o_lss rfl rfl) ?_
      refine xo_nil (xq_then (xw_seq (xw_cond_t rfl rfl (xw_skip (xq_then (xw_seq ?_))))))
      refine xw_block ?_
      refine xw_seq (xw_region ?_)
      refine xq rfl trivial (o_ixs el80 rfl rfl ⟨by omega, by omega⟩ (rfl : _ = 2)) ?_
      first | refine xq rfl trivial (o_ldI rfl ts67 (List.Mem.tail _ (List.mem_append_right _ (List.Mem.head _))) (by decide) rfl) ?_ | refine xq rfl trivial (o_ld rfl ts67 (List.Mem.tail _ (List.mem_append_right _ (List.Mem.head _))) (by decide) rfl) ?_
      refine xq rfl trivial (o_as rfl) ?_
      refine xo_nil (xq_then (xw_region ?_))
      refine xq rfl trivial (o_mv rfl) ?_
      refine xq rfl trivial (o_mv rfl) ?_
      refine xq rfl trivial (o_mv rfl) ?_
      obtain ⟨ho11, h⟩ := h
      refine xo rfl trivial (OT.st (fun _ h => h) (ot_callV (Cs := [[(b6, _)], Bs4]) (Rs := [[(b28, _)], [(b6a, _)], [(b5, _)], [(b2, _)]]) rfl kf28 rfl (fun w1 hw1 => take_c _ _ _ _ _ _ w1 hJs4 (St.hasC hw1) ho11) (fun _ _ _ h => h.1))) ?_
      rintro _ _ ⟨w1, _, rfl, hle, -, rfl, rfl⟩
      refine xo_st ((b6, BK 2 (cl [vs4, .int .i64 3]) 78) :: (Bs4 ++ ((b28, BK 3 _ 67) :: ((b6a, BK 1 (fun _ => .int .i64 0) 3) :: ((b5, BK 28 (iv (updI (updI (fun _ => 0) 0 (numF b0 0 1)) 1 (numF b0 1 1))) 34) :: ((b2, BK 28 (iv (fun _ => 0)) 34) :: ([]))))))) (fun _ h => h) ?_
      refine xq rfl trivial (o_mv rfl) ?_
      refine xq rfl trivial (o_ext rfl rfl) ?_
      refine xq rfl trivial (o_ext rfl rfl) ?_
      refine xq rfl trivial (o_nilp rfl) ?_
      refine xq0 trivial (o_stI rfl rfl ts3 (List.Mem.tail _ (List.mem_append_right _ (List.Mem.tail _ (List.Mem.tail _ (List.Mem.head _))))) (by omega) (.there _ _ _ _ _ (Upd.seg (.there _ _ _ _ _ (.there _ _ _ _ _ (.here _ _ _ _)))))) ?_
      refine xo_nil ?_
      refine xq_blk 1 ?_
      refine xq_then (xw_region ?_)
      refine xq rfl trivial (o_add rfl rfl rfl ⟨by omega, by omega⟩) ?_
      refine xq rfl trivial (o_mv rfl) ?_
      refine xo_nil ?_
      refine xq_rounds ?_
      refine xr_succ ?_
      refine xw_seq (xw_region ?_)
      refine xq rfl trivial (o_lss rfl rfl) ?_
      refine xo_nil (xq_then (xw_seq (xw_cond_f rfl rfl (xw_exit (xq_then_exit (xq_then_exit ?_))))))
      refine xq_blk_eq ?_
      refine con_ret0 (.inr rfl) Try.results29  _ (fun _ h => h) (?_)
      refine xo_nil (xq_then (xw_seq (xw_region ?_)))
      refine xq rfl trivial (o_mv rfl) ?_
      first | refine xq rfl trivial (o_fa0 fl34_3 rfl) ?_ | refine xq rfl trivial (o_fa fl34_3 rfl) ?_
      first | refine xq rfl trivial (o_fa0 fl34_4 rfl) ?_ | refine xq rfl trivial (o_fa fl34_4 rfl) ?_
      refine xo rfl trivial (o_bsl el80 ze67 (cells_one rfl) rfl rfl (.one rfl rfl rfl rfl (.one rfl rfl rfl rfl (.nil _)))) ?_
      rintro _ _ ⟨b33, hb33, rfl, rfl⟩
      refine xoR rfl trivial (ot_in (l := [(0, _), (1, _), (2, _)]) kf29 rfl Try.func29 rfl Try.ntmps29 rfl (lac rfl (lac rfl (lac rfl lan))) ?_)
      refine xw_seq (xw_region ?_)
      refine xq rfl trivial (o_mv rfl) ?_
      refine xq rfl trivial (o_len rfl Try.underlying80 rfl) ?_
      refine xq rfl trivial (o_mv rfl) ?_
      refine xo_nil (xq_then ?_)
      refine xw_block ?_
      refine xw_rounds 60 ?_
      refine xr_succ ?_
      refine xw_seq (xw_region ?_)
      refine xq rfl trivial (o_lss rfl rfl) ?_
      refine xo_nil (xq_then (xw_seq (xw_cond_t rfl rfl (xw_skip (xq_then (xw_seq ?_))))))
      refine xw_block ?_
      refine xw_seq (xw_region ?_)
      refine xq rfl trivial (o_ixs el80 rfl rfl ⟨by omega, by omega⟩ (rfl : _ = 0)) ?_
      first | refine xq rfl trivial (o_ldI rfl ts67 (List.Mem.head _) (by decide) rfl) ?_ | refine xq rfl trivial (o_ld rfl ts67 (List.Mem.head _) (by decide) rfl) ?_
      refine xq rfl trivial (o_as rfl) ?_
      refine xo_nil (xq_then (xw_region ?_))
      refine xq rfl trivial (o_mv rfl) ?_
      refine xq rfl trivial (o_mv rfl) ?_
      refine xq rfl trivial (o_mv rfl) ?_
      obtain ⟨ho14, h⟩ := h
      refine xo rfl trivial (OT.st (fun _ h => St.permI [1, 2, 0, 3, 4, 5, 6] [[(b33, _)], [(b6, _)], Bs4, [(b28, _)], [(b6a, _)], [(b5, _)], [(b2, _)]] rfl h) (ot_callV (Cs := [[(b6, _)], Bs4]) (Rs := [[(b33, _)], [(b28, _)], [(b6a, _)], [(b5, _)], [(b2, _)]]) rfl kf28 rfl (fun w1 hw1 => take_c _ _ _ _ _ _ w1 hJs4 (St.hasC hw1) ho14) (fun _ _ _ h => h.1))) ?_
      rintro _ _ ⟨w1, _, rfl, hle, -, rfl, rfl⟩
      refine xo_st ((b6, BK 2 (cl [vs4, .int .i64 7]) 78) :: (Bs4 ++ ((b33, BK 2 _ 67) :: ((b28, BK 3 _ 67) :: ((b6a, BK 1 (fun _ => .int .i64 0) 3) :: ((b5, BK 28 (iv (updI (updI (updI (fun _ => 0) 0 (numF b0 0 1)) 1 (numF b0 1 1)) 2 (numF b0 2 1))) 34) :: ((b2, BK 28 (iv (fun _ => 0)) 34) :: ([])))))))) (fun _ h => h) ?_
      refine xq rfl trivial (o_mv rfl) ?_
      refine xq rfl trivial (o_ext rfl rfl) ?_
      refine xq rfl trivial (o_ext rfl rfl) ?_
      refine xq rfl trivial (o_nilp rfl) ?_
      refine xq0 trivial (o_stI rfl rfl ts3 (List.Mem.tail _ (List.mem_append_right _ (List.Mem.tail _ (List.Mem.tail _ (List.Mem.tail _ (List.Mem.head _)))))) (by omega) (.there _ _ _ _ _ (Upd.seg (.there _ _ _ _ _ (.there _ _ _ _ _ (.there _ _ _ _ _ (.here _ _ _ _))))))) ?_
      refine xo_nil ?_
      refine xq_blk 1 ?_
      refine xq_then (xw_region ?_)
      refine xq rfl trivial (o_add rfl rfl rfl ⟨by omega, by omega⟩) ?_
      refine xq rfl trivial (o_mv rfl) ?_
      refine xo_nil ?_
      refine xq_rounds ?_
      refine xr_succ ?_
      refine xw_seq (xw_region ?_)
      refine xq rfl trivial (o_lss rfl rfl) ?_
      refine xo_nil (xq_then (xw_seq (xw_cond_t rfl rfl (xw_skip (xq_then (xw_seq ?_))))))
      refine xw_block ?_
      refine xw_seq (xw_region ?_)
      refine xq rfl trivial (o_ixs el80 rfl rfl ⟨by omega, by omega⟩ (rfl : _ = 1)) ?_
      first | refine xq rfl trivial (o_ldI rfl ts67 (List.Mem.tail _ (List.mem_append_right _ (List.Mem.head _))) (by decide) rfl) ?_ | refine xq rfl trivial (o_ld rfl ts67 (List.Mem.tail _ (List.mem_append_right _ (List.Mem.head _))) (by decide) rfl) ?_
      refine xq rfl trivial (o_as rfl) ?_
      refine xo_nil (xq_then (xw_region ?_))
      refine xq rfl trivial (o_mv rfl) ?_
      refine xq rfl trivial (o_mv rfl) ?_
      refine xq rfl trivial (o_mv rfl) ?_
      obtain ⟨ho17, h⟩ := h
      refine xo rfl trivial (OT.st (fun _ h => h) (ot_callV (Cs := [[(b6, _)], Bs4]) (Rs := [[(b33, _)], [(b28, _)], [(b6a, _)], [(b5, _)], [(b2, _)]]) rfl kf28 rfl (fun w1 hw1 => take_c _ _ _ _ _ _ w1 hJs4 (St.hasC hw1) ho17) (fun _ _ _ h => h.1))) ?_
      rintro _ _ ⟨w1, _, rfl, hle, -, rfl, rfl⟩
      refine xo_st ((b6, BK 2 (cl [vs4, .int .i64 11]) 78) :: (Bs4 ++ ((b33, BK 2 _ 67) :: ((b28, BK 3 _ 67) :: ((b6a, BK 1 (fun _ => .int .i64 0) 3) :: ((b5, BK 28 (iv (updI (updI (updI (updI (fun _ => 0) 0 (numF b0 0 1)) 1 (numF b0 1 1)) 2 (numF b0 2 1)) 3 (numF b0 3 4))) 34) :: ((b2, BK 28 (iv (fun _ => 0)) 34) :: ([])))))))) (fun _ h => h) ?_
      refine xq rfl trivial (o_mv rfl) ?_
      refine xq rfl trivial (o_ext rfl rfl) ?_
      refine xq rfl trivial (o_ext rfl rfl) ?_
      refine xq rfl trivial (o_nilp rfl) ?_
      refine xq0 trivial (o_stI rfl rfl ts3 (List.Mem.tail _ (List.mem_append_right _ (List.Mem.tail _ (List.Mem.tail _ (List.Mem.tail _ (List.Mem.head _)))))) (by omega) (.there _ _ _ _ _ (Upd.seg (.there _ _ _ _ _ (.there _ _ _ _ _ (.there _ _ _ _ _ (.here _ _ _ _))))))) ?_
      refine xo_nil ?_
      refine xq_blk 1 ?_
      refine xq_then (xw_region ?_)
      refine xq rfl trivial (o_add rfl rfl rfl ⟨by omega, by omega⟩) ?_
      refine xq rfl trivial (o_mv rfl) ?_
      refine xo_nil ?_
      refine xq_rounds ?_
      refine xr_succ ?_
      refine xw_seq (xw_region ?_)
      refine xq rfl trivial (o_lss rfl rfl) ?_
      refine xo_nil (xq_then (xw_seq (xw_cond_f rfl rfl (xw_exit (xq_then_exit (xq_then_exit ?_))))))
      refine xq_blk_eq ?_
      refine con_ret0 (.inr rfl) Try.results29  _ (fun _ h => h) (?_)
      refine xo_nil (xq_then (xw_seq (xw_region ?_)))
      refine xq rfl trivial (o_mv rfl) ?_
      first | refine xq rfl trivial (o_fa0 fl34_5 rfl) ?_ | refine xq rfl trivial (o_fa fl34_5 rfl) ?_
      first | refine xq rfl trivial (o_fa0 fl28_0 rfl) ?_ | refine xq rfl trivial (o_fa fl28_0 rfl) ?_
      first | refine xq rfl trivial (o_fa0 fl34_5 rfl) ?_ | refine xq rfl trivial (o_fa fl34_5 rfl) ?_
      first | refine xq rfl trivial (o_fa0 fl28_1 rfl) ?_ | refine xq rfl trivial (o_fa fl28_1 rfl) ?_
      first | refine xq rfl trivial (o_fa0 fl34_7 rfl) ?_ | refine xq rfl trivial (o_fa fl34_7 rfl) ?_
      refine xo rfl trivial (o_bsl el80 ze67 (cells_one rfl) rfl rfl (.one rfl rfl rfl rfl (.one rfl rfl rfl rfl (.one rfl rfl rfl rfl (.one rfl rfl rfl rfl (.nil _)))))) ?_
      rintro _ _ ⟨b41, hb41, rfl, rfl⟩
      refine xoR rfl trivial (ot_in (l := [(0, _), (1, _), (2, _)]) kf29 rfl Try.func29 rfl Try.ntmps29 rfl (lac rfl (lac rfl (lac rfl lan))) ?_)
      refine xw_seq (xw_region ?_)
      refine xq rfl trivial (o_mv rfl) ?_
      refine xq rfl trivial (o_len rfl Try.underlying80 rfl) ?_
      refine xq rfl trivial (o_mv rfl) ?_
      refine xo_nil (xq_then ?_)
      refine xw_block ?_
      refine xw_rounds 60 ?_
      refine xr_succ ?_
      refine xw_seq (xw_region ?_)
      refine xq rfl trivial (o_lss rfl rfl) ?_
      refine xo_nil (xq_then (xw_seq (xw_cond_t rfl rfl (xw_skip (xq_then (xw_seq ?_))))))
      refine xw_block ?_
      refine xw_seq (xw_region ?_)
      refine xq rfl trivial (o_ixs el80 rfl rfl ⟨by omega, by omega⟩ (rfl : _ = 0)) ?_
      first | refine xq rfl trivial (o_ldI rfl ts67 (List.Mem.head _) (by decide) rfl) ?_ | refine xq rfl trivial (o_ld rfl ts67 (List.Mem.head _) (by decide) rfl) ?_
      refine xq rfl trivial (o_as rfl) ?_
      refine xo_nil (xq_then (xw_region ?_))
      refine xq rfl trivial (o_mv rfl) ?_
      refine xq rfl trivial (o_mv rfl) ?_
      refine xq rfl trivial (o_mv rfl) ?_
      obtain ⟨ho20, h⟩ := h
      refine xo rfl trivial (OT.st (fun _ h => St.permI [1, 2, 0, 3, 4, 5, 6, 7] [[(b41, _)], [(b6, _)], Bs4, [(b33, _)], [(b28, _)], [(b6a, _)], [(b5, _)], [(b2, _)]] rfl h) (ot_callV (Cs := [[(b6, _)], Bs4]) (Rs := [[(b41, _)], [(b33, _)], [(b28, _)], [(b6a, _)], [(b5, _)], [(b2, _)]]) rfl kf28 rfl (fun w1 hw1 => take_c _ _ _ _ _ _ w1 hJs4 (St.hasC hw1) ho20) (fun _ _ _ h => h.1))) ?_
      rintro _ _ ⟨w1, _, rfl, hle, -, rfl, rfl⟩
      refine xo_st ((b6, BK 2 (cl [vs4, .int .i64 12]) 78) :: (Bs4 ++ ((b41, BK 4 _ 67) :: ((b33, BK 2 _ 67) :: ((b28, BK 3 _ 67) :: ((b6a, BK 1 (fun _ => .int .i64 0) 3) :: ((b5, BK 28 (iv (updI (updI (updI (updI (updI (fun _ => 0) 0 (numF b0 0 1)) 1 (numF b0 1 1)) 2 (numF b0 2 1)) 3 (numF b0 3 4)) 4 (numF b0 7 4))) 34) :: ((b2, BK 28 (iv (fun _ => 0)) 34) :: ([]))))))))) (fun _ h => h) ?_
      refine xq rfl trivial (o_mv rfl) ?_
      refine xq rfl trivial (o_ext rfl rfl) ?_
      refine xq rfl trivial (o_ext rfl rfl) ?_
      refine xq rfl trivial (o_nilp rfl) ?_
      refine xq0 trivial (o_stI rfl rfl ts3 (List.Mem.tail _ (List.mem_append_right _ (List.Mem.tail _ (List.Mem.tail _ (List.Mem.tail _ (List.Mem.tail _ (List.Mem.head _))))))) (by omega) (.there _ _ _ _ _ (Upd.seg (.there _ _ _ _ _ (.there _ _ _ _ _ (.there _ _ _ _ _ (.there _ _ _ _ _ (.here _ _ _ _)))))))) ?_
      refine xo_nil ?_
      refine xq_blk 1 ?_
      refine xq_then (xw_region ?_)
      refine xq rfl trivial (o_add rfl rfl rfl ⟨by omega, by omega⟩) ?_
      refine xq rfl trivial (o_mv rfl) ?_
      refine xo_nil ?_
      refine xq_rounds ?_
      refine xr_succ ?_
      refine xw_seq (xw_region ?_)
      refine xq rfl trivial (o_lss rfl rfl) ?_
      refine xo_nil (xq_then (xw_seq (xw_cond_t rfl rfl (xw_skip (xq_then (xw_seq ?_))))))
      refine xw_block ?_
      refine xw_seq (xw_region ?_)
      refine xq rfl trivial (o_ixs el80 rfl rfl ⟨by omega, by omega⟩ (rfl : _ = 1)) ?_
      first | refine xq rfl trivial (o_ldI rfl ts67 (List.Mem.tail _ (List.mem_append_right _ (List.Mem.head _))) (by decide) rfl) ?_ | refine xq rfl trivial (o_ld rfl ts67 (List.Mem.tail _ (List.mem_append_right _ (List.Mem.head _))) (by decide) rfl) ?_
      refine xq rfl trivial (o_as rfl) ?_
      refine xo_nil (xq_then (xw_region ?_))
      refine xq rfl trivial (o_mv rfl) ?_
      refine xq rfl trivial (o_mv rfl) ?_
      refine xq rfl trivial (o_mv rfl) ?_
      obtain ⟨ho23, h⟩ := h
      refine xo rfl trivial (OT.st (fun _ h => h) (ot_callV (Cs := [[(b6, _)], Bs4]) (Rs := [[(b41, _)], [(b33, _)], [(b28, _)], [(b6a, _)], [(b5, _)], [(b2, _)]]) rfl kf28 rfl (fun w1 hw1 => take_c _ _ _ _ _ _ w1 hJs4 (St.hasC hw1) ho23) (fun _ _ _ h => h.1))) ?_
      rintro _ _ ⟨w1, _, rfl, hle, -, rfl, rfl⟩
      refine xo_st ((b6, BK 2 (cl [vs4, .int .i64 13]) 78) :: (Bs4 ++ ((b41, BK 4 _ 67) :: ((b33, BK 2 _ 67) :: ((b28, BK 3 _ 67) :: ((b6a, BK 1 (fun _ => .int .i64 0) 3) :: ((b5, BK 28 (iv (updI (updI (updI (updI (updI (updI (fun _ => 0) 0 (numF b0 0 1)) 1 (numF b0 1 1)) 2 (numF b0 2 1)) 3 (numF b0 3 4)) 4 (numF b0 7 4)) 5 (numF b0 11 1))) 34) :: ((b2, BK 28 (iv (fun _ => 0)) 34) :: ([]))))))))) (fun _ h => h) ?_
      refine xq rfl trivial (o_mv rfl) ?_
      refine xq rfl trivial (o_ext rfl rfl) ?_
      refine xq rfl trivial (o_ext rfl rfl) ?_
      refine xq rfl trivial (o_nilp rfl) ?_
      refine xq0 trivial (o_stI rfl rfl ts3 (List.Mem.tail _ (List.mem_append_right _ (List.Mem.tail _ (List.Mem.tail _ (List.Mem.tail _ (List.Mem.tail _ (List.Mem.head _))))))) (by omega) (.there _ _ _ _ _ (Upd.seg (.there _ _ _ _ _ (.there _ _ _ _ _ (.there _ _ _ _ _ (.there _ _ _ _ _ (.here _ _ _ _)))))))) ?_
      refine xo_nil ?_
      refine xq_blk 1 ?_
      refine xq_then (xw_region ?_)
      refine xq rfl trivial (o_add rfl rfl rfl ⟨by omega, by omega⟩) ?_
      refine xq rfl trivial (o_mv rfl) ?_
      refine xo_nil ?_
      refine xq_rounds ?_
      refine xr_succ ?_
      refine xw_seq (xw_region ?_)
      refine xq rfl trivial (o_lss rfl rfl) ?_
      refine xo_nil (xq_then (xw_seq (xw_cond_t rfl rfl (xw_skip (xq_then (xw_seq ?_))))))
      refine xw_block ?_
      refine xw_seq (xw_region ?_)
      refine xq rfl trivial (o_ixs el80 rfl rfl ⟨by omega, by omega⟩ (rfl : _ = 2)) ?_
      first | refine xq rfl trivial (o_ldI rfl ts67 (List.Mem.tail _ (List.mem_append_right _ (List.Mem.head _))) (by decide) rfl) ?_ | refine xq rfl trivial (o_ld rfl ts67 (List.Mem.tail _ (List.mem_append_right _ (List.Mem.head _))) (by decide) rfl) ?_
      refine xq rfl trivial (o_as rfl) ?_
      refine xo_nil (xq_then (xw_region ?_))
      refine xq rfl trivial (o_mv rfl) ?_
      refine xq rfl trivial (o_mv rfl) ?_
      refine xq rfl trivial (o_mv rfl) ?_
      obtain ⟨ho26, h⟩ := h
      refine xo rfl trivial (OT.st (fun _ h => h) (ot_callV (Cs := [[(b6, _)], Bs4]) (Rs := [[(b41, _)], [(b33, _)], [(b28, _)], [(b6a, _)], [(b5, _)], [(b2, _)]]) rfl kf28 rfl (fun w1 hw1 => take_c _ _ _ _ _ _ w1 hJs4 (St.hasC hw1) ho26) (fun _ _ _ h => h.1))) ?_
      rintro _ _ ⟨w1, _, rfl, hle, -, rfl, rfl⟩
      refine xo_st ((b6, BK 2 (cl [vs4, .int .i64 14]) 78) :: (Bs4 ++ ((b41, BK 4 _ 67) :: ((b33, BK 2 _ 67) :: ((b28, BK 3 _ 67) :: ((b6a, BK 1 (fun _ => .int .i64 0) 3) :: ((b5, BK 28 (iv (updI (updI (updI (updI (updI (updI (updI (fun _ => 0) 0 (numF b0 0 1)) 1 (numF b0 1 1)) 2 (numF b0 2 1)) 3 (numF b0 3 4)) 4 (numF b0 7 4)) 5 (numF b0 11 1)) 6 (numF b0 12 1))) 34) :: ((b2, BK 28 (iv (fun _ => 0)) 34) :: ([]))))))))) (fun _ h => h) ?_
      refine xq rfl trivial (o_mv rfl) ?_
      refine xq rfl trivial (o_ext rfl rfl) ?_
      refine xq rfl trivial (o_ext rfl rfl) ?_
      refine xq rfl trivial (o_nilp rfl) ?_
      refine xq0 trivial (o_stV rfl rfl ts3 rfl (List.Mem.tail _ (List.mem_append_right _ (List.Mem.tail _ (List.Mem.tail _ (List.Mem.tail _ (List.Mem.head _)))))) (.there _ _ _ _ _ (Upd.seg (.there _ _ _ _ _ (.there _ _ _ _ _ (.there _ _ _ _ _ (.here _ _ _ _))))))) ?_
      refine xo_nil ?_
      refine xq_blk 1 ?_
      refine xq_then (xw_region ?_)
      refine xq rfl trivial (o_add rfl rfl rfl ⟨by omega, by omega⟩) ?_
      refine xq rfl trivial (o_mv rfl) ?_
      refine xo_nil ?_
      refine xq_rounds ?_
      refine xr_succ ?_
      refine xw_seq (xw_region ?_)
      refine xq rfl trivial (o_lss rfl rfl) ?_
      refine xo_nil (xq_then (xw_seq (xw_cond_t rfl rfl (xw_skip (xq_then (xw_seq ?_))))))
      refine xw_block ?_
      refine xw_seq (xw_region ?_)
      refine xq rfl trivial (o_ixs el80 rfl rfl ⟨by omega, by omega⟩ (rfl : _ = 3)) ?_
      first | refine xq rfl trivial (o_ldI rfl ts67 (List.Mem.tail _ (List.mem_append_right _ (List.Mem.head _))) (by decide) rfl) ?_ | refine xq rfl trivial (o_ld rfl ts67 (List.Mem.tail _ (List.mem_append_right _ (List.Mem.head _))) (by decide) rfl) ?_
      refine xq rfl trivial (o_as rfl) ?_
      refine xo_nil (xq_then (xw_region ?_))
      refine xq rfl trivial (o_mv rfl) ?_
      refine xq rfl trivial (o_mv rfl) ?_
      refine xq rfl trivial (o_mv rfl) ?_
      obtain ⟨ho29, h⟩ := h
      refine xo rfl trivial (OT.st (fun _ h => h) (ot_callV (Cs := [[(b6, _)], Bs4]) (Rs := [[(b41, _)], [(b33, _)], [(b28, _)], [(b6a, _)], [(b5, _)], [(b2, _)]]) rfl kf28 rfl (fun w1 hw1 => take_c _ _ _ _ _ _ w1 hJs4 (St.hasC hw1) ho29) (fun _ _ _ h => h.1))) ?_
      rintro _ _ ⟨w1, _, rfl, hle, -, rfl, rfl⟩
      refine xo_st ((b6, BK 2 (cl [vs4, .int .i64 15]) 78) :: (Bs4 ++ ((b41, BK 4 _ 67) :: ((b33, BK 2 _ 67) :: ((b28, BK 3 _ 67) :: ((b6a, BK 1 (fun _ => .int .i64 (numF b0 13 1)) 3) :: ((b5, BK 28 (iv (updI (updI (updI (updI (updI (updI (updI (fun _ => 0) 0 (numF b0 0 1)) 1 (numF b0 1 1)) 2 (numF b0 2 1)) 3 (numF b0 3 4)) 4 (numF b0 7 4)) 5 (numF b0 11 1)) 6 (numF b0 12 1))) 34) :: ((b2, BK 28 (iv (fun _ => 0)) 34) :: ([]))))))))) (fun _ h => h) ?_
      refine xq rfl trivial (o_mv rfl) ?_
      refine xq rfl trivial (o_ext rfl rfl) ?_
      refine xq rfl trivial (o_ext rfl rfl) ?_
      refine xq rfl trivial (o_nilp rfl) ?_
      refine xq0 trivial (o_stI rfl rfl ts3 (List.Mem.tail _ (List.mem_append_right _ (List.Mem.tail _ (List.Mem.tail _ (List.Mem.tail _ (List.Mem.tail _ (List.Mem.head _))))))) (by omega) (.there _ _ _ _ _ (Upd.seg (.there _ _ _ _ _ (.there _ _ _ _ _ (.there _ _ _ _ _ (.there _ _ _ _ _ (.here _ _ _ _)))))))) ?_
      refine xo_nil ?_
      refine xq_blk 1 ?_
      refine xq_then (xw_region ?_)
      refine xq rfl trivial (o_add rfl rfl rfl ⟨by omega, by omega⟩) ?_
      refine xq rfl trivial (o_mv rfl) ?_
      refine xo_nil ?_
      refine xq_rounds ?_
      refine xr_succ ?_
      refine xw_seq (xw_region ?_)
      refine xq rfl trivial (o_lss rfl rfl) ?_
      refine xo_nil (xq_then (xw_seq (xw_cond_f rfl rfl (xw_exit (xq_then_exit (xq_then_exit ?_))))))
      refine xq_blk_eq ?_
      refine con_ret0 (.inr rfl) Try.results29  _ (fun _ h => h) (?_)
      refine xo_nil (xq_then (xw_seq (xw_region ?_)))
      refine xq rfl trivial (o_mv rfl) ?_
      first | refine xq rfl trivial (o_fa0 fl34_8 rfl) ?_ | refine xq rfl trivial (o_fa fl34_8 rfl) ?_
      first | refine xq rfl trivial (o_fa0 fl34_9 rfl) ?_ | refine xq rfl trivial (o_fa fl34_9 rfl) ?_
      refine xo rfl trivial (o_bsl el80 ze67 (cells_one rfl) rfl rfl (.one rfl rfl rfl rfl (.one rfl rfl rfl rfl (.nil _)))) ?_
      rintro _ _ ⟨b46, hb46, rfl, rfl⟩
      refine xoR rfl trivial (ot_in (l := [(0, _), (1, _), (2, _)]) kf29 rfl Try.func29 rfl Try.ntmps29 rfl (lac rfl (lac rfl (lac rfl lan))) ?_)
      refine xw_seq (xw_region ?_)
      refine xq rfl trivial (o_mv rfl) ?_
      refine xq rfl trivial (o_len rfl Try.underlying80 rfl) ?_
      refine xq rfl trivial (o_mv rfl) ?_
      refine xo_nil (xq_then ?_)
      refine xw_block ?_
      refine xw_rounds 60 ?_
      refine xr_succ ?_
      refine xw_seq (xw_region ?_)
      refine xq rfl trivial (o_lss rfl rfl) ?_
      refine xo_nil (xq_then (xw_seq (xw_cond_t rfl rfl (xw_skip (xq_then (xw_seq ?_))))))
      refine xw_block ?_
      refine xw_seq (xw_region ?_)
      refine xq rfl trivial (o_ixs el80 rfl rfl ⟨by omega, by omega⟩ (rfl : _ = 0)) ?_
      first | refine xq rfl trivial (o_ldI rfl ts67 (List.Mem.head _) (by decide) rfl) ?_ | refine xq rfl trivial (o_ld rfl ts67 (List.Mem.head _) (by decide) rfl) ?_
      refine xq rfl trivial (o_as rfl) ?_
      refine xo_nil (xq_then (xw_region ?_))
      refine xq rfl trivial (o_mv rfl) ?_
      refine xq rfl trivial (o_mv rfl) ?_
      refine xq rfl trivial (o_mv rfl) ?_
      obtain ⟨ho32, h⟩ := h
      refine xo rfl trivial (OT.st (fun _ h => St.permI [1, 2, 0, 3, 4, 5, 6, 7, 8] [[(b46, _)], [(b6, _)], Bs4, [(b41, _)], [(b33, _)], [(b28, _)], [(b6a, _)], [(b5, _)], [(b2, _)]] rfl h) (ot_callV (Cs := [[(b6, _)], Bs4]) (Rs := [[(b46, _)], [(b41, _)], [(b33, _)], [(b28, _)], [(b6a, _)], [(b5, _)], [(b2, _)]]) rfl kf28 rfl (fun w1 hw1 => take_c _ _ _ _ _ _ w1 hJs4 (St.hasC hw1) ho32) (fun _ _ _ h => h.1))) ?_
      rintro _ _ ⟨w1, _, rfl, hle, -, rfl, rfl⟩
      refine xo_st ((b6, BK 2 (cl [vs4, .int .i64 19]) 78) :: (Bs4 ++ ((b46, BK 2 _ 67) :: ((b41, BK 4 _ 67) :: ((b33, BK 2 _ 67) :: ((b28, BK 3 _ 67) :: ((b6a, BK 1 (fun _ => .int .i64 (numF b0 13 1)) 3) :: ((b5, BK 28 (iv (updI (updI (updI (updI (updI (updI (updI (updI (fun _ => 0) 0 (numF b0 0 1)) 1 (numF b0 1 1)) 2 (numF b0 2 1)) 3 (numF b0 3 4)) 4 (numF b0 7 4)) 5 (numF b0 11 1)) 6 (numF b0 12 1)) 8 (numF b0 14 1))) 34) :: ((b2, BK 28 (iv (fun _ => 0)) 34) :: ([])))))))))) (fun _ h => h) ?_
      refine xq rfl trivial (o_mv rfl) ?_
      refine xq rfl trivial (o_ext rfl rfl) ?_
      refine xq rfl trivial (o_ext rfl rfl) ?_
      refine xq rfl trivial (o_nilp rfl) ?_
      refine xq0 trivial (o_stI rfl rfl ts3 (List.Mem.tail _ (List.mem_append_right _ (List.Mem.tail _ (List.Mem.tail _ (List.Mem.tail _ (List.Mem.tail _ (List.Mem.tail _ (List.Mem.head _)))))))) (by omega) (.there _ _ _ _ _ (Upd.seg (.there _ _ _ _ _ (.there _ _ _ _ _ (.there _ _ _ _ _ (.there _ _ _ _ _ (.there _ _ _ _ _ (.here _ _ _ _))))))))) ?_
      refine xo_nil ?_
      refine xq_blk 1 ?_
      refine xq_then (xw_region ?_)
      refine xq rfl trivial (o_add rfl rfl rfl ⟨by omega, by omega⟩) ?_
      refine xq rfl trivial (o_mv rfl) ?_
      refine xo_nil ?_
      refine xq_rounds ?_
      refine xr_succ ?_
      refine xw_seq (xw_region ?_)
      refine xq rfl trivial (o_lss rfl rfl) ?_
      refine xo_nil (xq_then (xw_seq (xw_cond_t rfl rfl (xw_skip (xq_then (xw_seq ?_))))))
      refine xw_block ?_
      refine xw_seq (xw_region ?_)
      refine xq rfl trivial (o_ixs el80 rfl rfl ⟨by omega, by omega⟩ (rfl : _ = 1)) ?_
      first | refine xq rfl trivial (o_ldI rfl ts67 (List.Mem.tail _ (List.mem_append_right _ (List.Mem.head _))) (by decide) rfl) ?_ | refine xq rfl trivial (o_ld rfl ts67 (List.Mem.tail _ (List.mem_append_right _ (List.Mem.head _))) (by decide) rfl) ?_
      refine xq rfl trivial (o_as rfl) ?_
      refine xo_nil (xq_then (xw_region ?_))
      refine xq rfl trivial (o_mv rfl) ?_
      refine xq rfl trivial (o_mv rfl) ?_
      refine xq rfl trivial (o_mv rfl) ?_
      obtain ⟨ho35, h⟩ := h
      refine xo rfl trivial (OT.st (fun _ h => h) (ot_callV (Cs := [[(b6, _)], Bs4]) (Rs := [[(b46, _)], [(b41, _)], [(b33, _)], [(b28, _)], [(b6a, _)], [(b5, _)], [(b2, _)]]) rfl kf28 rfl (fun w1 hw1 => take_c _ _ _ _ _ _ w1 hJs4 (St.hasC hw1) ho35) (fun _ _ _ h => h.1))) ?_
      rintro _ _ ⟨w1, _, rfl, hle, -, rfl, rfl⟩
      refine xo_st ((b6, BK 2 (cl [vs4, .int .i64 23]) 78) :: (Bs4 ++ ((b46, BK 2 _ 67) :: ((b41, BK 4 _ 67) :: ((b33, BK 2 _ 67) :: ((b28, BK 3 _ 67) :: ((b6a, BK 1 (fun _ => .int .i64 (numF b0 13 1)) 3) :: ((b5, BK 28 (iv (updI (updI (updI (updI (updI (updI (updI (updI (updI (fun _ => 0) 0 (numF b0 0 1)) 1 (numF b0 1 1)) 2 (numF b0 2 1)) 3 (numF b0 3 4)) 4 (numF b0 7 4)) 5 (numF b0 11 1)) 6 (numF b0 12 1)) 8 (numF b0 14 1)) 9 (numF b0 15 4))) 34) :: ((b2, BK 28 (iv (fun _ => 0)) 34) :: ([])))))))))) (fun _ h => h) ?_
      refine xq rfl trivial (o_mv rfl) ?_
      refine xq rfl trivial (o_ext rfl rfl) ?_
      refine xq rfl trivial (o_ext rfl rfl) ?_
      refine xq rfl trivial (o_nilp rfl) ?_
      refine xq0 trivial (o_stI rfl rfl ts3 (List.Mem.tail _ (List.mem_append_right _ (List.Mem.tail _ (List.Mem.tail _ (List.Mem.tail _ (List.Mem.tail _ (List.Mem.tail _ (List.Mem.head _)))))))) (by omega) (.there _ _ _ _ _ (Upd.seg (.there _ _ _ _ _ (.there _ _ _ _ _ (.there _ _ _ _ _ (.there _ _ _ _ _ (.there _ _ _ _ _ (.here _ _ _ _))))))))) ?_
      refine xo_nil ?_
      refine xq_blk 1 ?_
      refine xq_then (xw_region ?_)
      refine xq rfl trivial (o_add rfl rfl rfl ⟨by omega, by omega⟩) ?_
      refine xq rfl trivial (o_mv rfl) ?_
      refine xo_nil ?_
      refine xq_rounds ?_
      refine xr_succ ?_
      refine xw_seq (xw_region ?_)
      refine xq rfl trivial (o_lss rfl rfl) ?_
      refine xo_nil (xq_then (xw_seq (xw_cond_f rfl rfl (xw_exit (xq_then_exit (xq_then_exit ?_))))))
      refine xq_blk_eq ?_
      refine con_ret0 (.inr rfl) Try.results29  _ (fun _ h => h) (?_)
      refine xo_nil (xq_then (xw_seq (xw_region ?_)))
      refine xq rfl trivial (o_mv rfl) ?_
      first | refine xq rfl trivial (o_fa0 fl34_10 rfl) ?_ | refine xq rfl trivial (o_fa fl34_10 rfl) ?_
      refine xo rfl trivial (o_bsl el80 ze67 (cells_one rfl) rfl rfl (.one rfl rfl rfl rfl (.nil _))) ?_
      rintro _ _ ⟨b50, hb50, rfl, rfl⟩
      refine xoR rfl trivial (ot_in (l := [(0, _), (1, _), (2, _)]) kf29 rfl Try.func29 rfl Try.ntmps29 rfl (lac rfl (lac rfl (lac rfl lan))) ?_)
      refine xw_seq (xw_region ?_)
      refine xq rfl trivial (o_mv rfl) ?_
      refine xq rfl trivial (o_len rfl Try.underlying80 rfl) ?_
      refine xq rfl trivial (o_mv rfl) ?_
      refine xo_nil (xq_then ?_)
      refine xw_block ?_
      refine xw_rounds 60 ?_
      refine xr_succ ?_
      refine xw_seq (xw_region ?_)
      refine xq rfl trivial (o_lss rfl rfl) ?_
      refine xo_nil (xq_then (xw_seq (xw_cond_t rfl rfl (xw_skip (xq_then (xw_seq ?_))))))
      refine xw_block ?_
      refine xw_seq (xw_region ?_)
      refine xq rfl trivial (o_ixs el80 rfl rfl ⟨by omega, by omega⟩ (rfl : _ = 0)) ?_
      first | refine xq rfl trivial (o_ldI rfl ts67 (List.Mem.head _) (by decide) rfl) ?_ | refine xq rfl trivial (o_ld rfl ts67 (List.Mem.head _) (by decide) rfl) ?_
      refine xq rfl trivial (o_as rfl) ?_
      refine xo_nil (xq_then (xw_region ?_))
      refine xq rfl trivial (o_mv rfl) ?_
      refine xq rfl trivial (o_mv rfl) ?_
      refine xq rfl trivial (o_mv rfl) ?_
      obtain ⟨ho38, h⟩ := h
      refine xo rfl trivial (OT.st (fun _ h => St.permI [1, 2, 0, 3, 4, 5, 6, 7, 8, 9] [[(b50, _)], [(b6, _)], Bs4, [(b46, _)], [(b41, _)], [(b33, _)], [(b28, _)], [(b6a, _)], [(b5, _)], [(b2, _)]] rfl h) (ot_callV (Cs := [[(b6, _)], Bs4]) (Rs := [[(b50, _)], [(b46, _)], [(b41, _)], [(b33, _)], [(b28, _)], [(b6a, _)], [(b5, _)], [(b2, _)]]) rfl kf28 rfl (fun w1 hw1 => take_c _ _ _ _ _ _ w1 hJs4 (St.hasC hw1) ho38) (fun _ _ _ h => h.1))) ?_
      rintro _ _ ⟨w1, _, rfl, hle, -, rfl, rfl⟩
      refine xo_st ((b6, BK 2 (cl [vs4, .int .i64 24]) 78) :: (Bs4 ++ ((b50, BK 1 _ 67) :: ((b46, BK 2 _ 67) :: ((b41, BK 4 _ 67) :: ((b33, BK 2 _ 67) :: ((b28, BK 3 _ 67) :: ((b6a, BK 1 (fun _ => .int .i64 (numF b0 13 1)) 3) :: ((b5, BK 28 (iv (updI (updI (updI (updI (updI (updI (updI (updI (updI (updI (fun _ => 0) 0 (numF b0 0 1)) 1 (numF b0 1 1)) 2 (numF b0 2 1)) 3 (numF b0 3 4)) 4 (numF b0 7 4)) 5 (numF b0 11 1)) 6 (numF b0 12 1)) 8 (numF b0 14 1)) 9 (numF b0 15 4)) 10 (numF b0 19 4))) 34) :: ((b2, BK 28 (iv (fun _ => 0)) 34) :: ([]))))))))))) (fun _ h => h) ?_
      refine xq rfl trivial (o_mv rfl) ?_
      refine xq rfl trivial (o_ext rfl rfl) ?_
      refine xq rfl trivial (o_ext rfl rfl) ?_
      refine xq rfl trivial (o_nilp rfl) ?_
      refine xq0 trivial (o_stI rfl rfl ts3 (List.Mem.tail _ (List.mem_append_right _ (List.Mem.tail _ (List.Mem.tail _ (List.Mem.tail _ (List.Mem.tail _ (List.Mem.tail _ (List.Mem.tail _ (List.Mem.head _))))))))) (by omega) (.there _ _ _ _ _ (Upd.seg (.there _ _ _ _ _ (.there _ _ _ _ _ (.there _ _ _ _ _ (.there _ _ _ _ _ (.there _ _ _ _ _ (.there _ _ _ _ _ (.here _ _ _ _)))))))))) ?_
      refine xo_nil ?_
      refine xq_blk 1 ?_
      refine xq_then (xw_region ?_)
      refine xq rfl trivial (o_add rfl rfl rfl ⟨by omega, by omega⟩) ?_
      refine xq rfl trivial (o_mv rfl) ?_
      refine xo_nil ?_
      refine xq_rounds ?_
      refine xr_succ ?_
      refine xw_seq (xw_region ?_)
      refine xq rfl trivial (o_lss rfl rfl) ?_
      refine xo_nil (xq_then (xw_seq (xw_cond_f rfl rfl (xw_exit (xq_then_exit (xq_then_exit ?_))))))
      refine xq_blk_eq ?_
      refine con_ret0 (.inr rfl) Try.results29  _ (fun _ h => h) (?_)
      refine xo_nil (xq_then (xw_seq (xw_seq (xw_region ?_))))
      refine xq rfl trivial (o_mv rfl) ?_
      refine xo_nil (xq_then ?_)
      refine xw_block ?_
      refine xw_rounds 60 ?_
      refine xr_succ ?_
      refine xw_seq (xw_region ?_)
      refine xq rfl trivial (o_lss rfl rfl) ?_
      refine xo_nil (xq_then (xw_seq (xw_cond_t rfl rfl (xw_skip (xq_then (xw_seq ?_))))))
      refine xw_block ?_
      refine xw_seq (xw_region ?_)
      refine xq rfl trivial (o_mv rfl) ?_
      refine xq rfl trivial (o_as rfl) ?_
      refine xo_nil (xq_then ?_)
      refine xd_start (by kernel_rfl) (by kernel_rfl) (fun hok => ?_)
      refine xd_a hok 0 [(4, _)] (fun _ h => absurd h List.not_mem_nil) rfl rfl rfl (lc rfl ln) (by kernel_rfl) trivial (fun H' hy hK => o_mv rfl) ?_
      refine xd_a hok 1 [(7, _)] (fun _ h => h) rfl rfl rfl (lc rfl ln) (by kernel_rfl) trivial (fun H' hy hK => o_mv rfl) ?_
      first | refine xd_a hok 2 [(5, _)] (fun _ h => h) rfl rfl rfl (lc rfl ln) (by kernel_rfl) trivial (fun H' hy hK => o_fa0 fl34_11 rfl) ?_ | refine xd_a hok 2 [(5, _)] (fun _ h => h) rfl rfl rfl (lc rfl ln) (by kernel_rfl) trivial (fun H' hy hK => o_fa fl34_11 rfl) ?_
      refine xd_a hok 3 [(57, _), (56, _)] (fun _ h => h) rfl rfl rfl (lc rfl (lc rfl ln)) (by kernel_rfl) trivial (fun H' hy hK => o_ixa (j := 0) ea32 rfl rfl ⟨by omega, by omega⟩ rfl) ?_
      first | refine xd_a hok 4 [(58, _)] (fun _ h => h) rfl rfl rfl (lc rfl ln) (by kernel_rfl) trivial (fun H' hy hK => o_fa0 fl31_0 rfl) ?_ | refine xd_a hok 4 [(58, _)] (fun _ h => h) rfl rfl rfl (lc rfl ln) (by kernel_rfl) trivial (fun H' hy hK => o_fa fl31_0 rfl) ?_
      refine xd_a hok 5 [(7, _)] (fun _ h => h) rfl rfl rfl (lc rfl ln) (by kernel_rfl) trivial (fun H' hy hK => o_mv rfl) ?_
      first | refine xd_a hok 6 [(5, _)] (fun _ h => h) rfl rfl rfl (lc rfl ln) (by kernel_rfl) trivial (fun H' hy hK => o_fa0 fl34_11 rfl) ?_ | refine xd_a hok 6 [(5, _)] (fun _ h => h) rfl rfl rfl (lc rfl ln) (by kernel_rfl) trivial (fun H' hy hK => o_fa fl34_11 rfl) ?_
      refine xd_a hok 7 [(61, _), (60, _)] (fun _ h => h) rfl rfl rfl (lc rfl (lc rfl ln)) (by kernel_rfl) trivial (fun H' hy hK => o_ixa (j := 0) ea32 rfl rfl ⟨by omega, by omega⟩ rfl) ?_
      first | refine xd_a hok 8 [(62, _)] (fun _ h => h) rfl rfl rfl (lc rfl ln) (by kernel_rfl) trivial (fun H' hy hK => o_fa0 fl31_1 rfl) ?_ | refine xd_a hok 8 [(62, _)] (fun _ h => h) rfl rfl rfl (lc rfl ln) (by kernel_rfl) trivial (fun H' hy hK => o_fa fl31_1 rfl) ?_
      refine xd_step hok 9 [(59, _), (63, _)] rfl rfl (by kernel_rfl) (lc rfl (lc rfl ln)) (by kernel_rfl) trivial (o_bsl el80 ze67 (cells_one rfl) rfl rfl (.one rfl rfl rfl rfl (.one rfl rfl rfl rfl (.nil _)))) ?_
      rintro _ _ ⟨b64, hb64, rfl, rfl⟩
      refine ⟨(fun _ h => .tail _ (h)), (Ks.consN hb64 (Ks.consK (by simp) (Ks.segK (fun k hk => by simp [hk]) (Ks.consK (by simp) (Ks.consK (by simp) (Ks.consK (by simp) (Ks.consK (by simp) (Ks.consK (by simp) (Ks.consK (by simp) (Ks.consK (by simp) (Ks.consK (by simp) Ks.nil))))))))))), ?_⟩
      refine xd_fl hok 3 10 [(55, _), (64, _)] rfl rfl (by kernel_rfl) (by kernel_rfl) (lc rfl (lc rfl ln)) (by kernel_rfl) trivial (ot_in (l := [(0, _), (1, _), (2, _)]) kf29 rfl Try.func29 rfl Try.ntmps29 rfl (lac rfl (lac rfl (lac rfl lan))) ?_) (fun _ _ h => h)
      refine xw_seq (xw_region ?_)
      refine xq rfl trivial (o_mv rfl) ?_
      refine xq rfl trivial (o_len rfl Try.underlying80 rfl) ?_
      refine xq rfl trivial (o_mv rfl) ?_
      refine xo_nil (xq_then ?_)
      refine xw_block ?_
      refine xw_rounds 60 ?_
      refine xr_succ ?_
      refine xw_seq (xw_region ?_)
      refine xq rfl trivial (o_lss rfl rfl) ?_
      refine xo_nil (xq_then (xw_seq (xw_cond_t rfl rfl (xw_skip (xq_then (xw_seq ?_))))))
      refine xw_block ?_
      refine xw_seq (xw_region ?_)
      refine xq rfl trivial (o_ixs el80 rfl rfl ⟨by omega, by omega⟩ (rfl : _ = 0)) ?_
      first | refine xq rfl trivial (o_ldI rfl ts67 (List.Mem.head _) (by decide) rfl) ?_ | refine xq rfl trivial (o_ld rfl ts67 (List.Mem.head _) (by decide) rfl) ?_
      refine xq rfl trivial (o_as rfl) ?_
      refine xo_nil (xq_then (xw_region ?_))
      refine xq rfl trivial (o_mv rfl) ?_
      refine xq rfl trivial (o_mv rfl) ?_
      refine xq rfl trivial (o_mv rfl) ?_
      obtain ⟨ho41, h⟩ := h
      refine xo rfl trivial (OT.st (fun _ h => St.permI [1, 2, 0, 3, 4, 5, 6, 7, 8, 9, 10] [[(b64, _)], [(b6, _)], Bs4, [(b50, _)], [(b46, _)], [(b41, _)], [(b33, _)], [(b28, _)], [(b6a, _)], [(b5, _)], [(b2, _)]] rfl h) (ot_callV (Cs := [[(b6, _)], Bs4]) (Rs := [[(b64, _)], [(b50, _)], [(b46, _)], [(b41, _)], [(b33, _)], [(b28, _)], [(b6a, _)], [(b5, _)], [(b2, _)]]) rfl kf28 rfl (fun w1 hw1 => take_c _ _ _ _ _ _ w1 hJs4 (St.hasC hw1) ho41) (fun _ _ _ h => h.1))) ?_
      rintro _ _ ⟨w1, _, rfl, hle, -, rfl, rfl⟩
      refine xo_st ((b6, BK 2 (cl [vs4, .int .i64 28]) 78) :: (Bs4 ++ ((b64, BK 2 _ 67) :: ((b50, BK 1 _ 67) :: ((b46, BK 2 _ 67) :: ((b41, BK 4 _ 67) :: ((b33, BK 2 _ 67) :: ((b28, BK 3 _ 67) :: ((b6a, BK 1 (fun _ => .int .i64 (numF b0 13 1)) 3) :: ((b5, BK 28 (iv (updI (updI (updI (updI (updI (updI (updI (updI (updI (updI (updI (fun _ => 0) 0 (numF b0 0 1)) 1 (numF b0 1 1)) 2 (numF b0 2 1)) 3 (numF b0 3 4)) 4 (numF b0 7 4)) 5 (numF b0 11 1)) 6 (numF b0 12 1)) 8 (numF b0 14 1)) 9 (numF b0 15 4)) 10 (numF b0 19 4)) 11 (numF b0 23 1))) 34) :: ((b2, BK 28 (iv (fun _ => 0)) 34) :: ([])))))))))))) (fun _ h => h) ?_
      refine xq rfl trivial (o_mv rfl) ?_
      refine xq rfl trivial (o_ext rfl rfl) ?_
      refine xq rfl trivial (o_ext rfl rfl) ?_
      refine xq rfl trivial (o_nilp rfl) ?_
      refine xq0 trivial (o_stI rfl rfl ts3 (List.Mem.tail _ (List.mem_append_right _ (List.Mem.tail _ (List.Mem.tail _ (List.Mem.tail _ (List.Mem.tail _ (List.Mem.tail _ (List.Mem.tail _ (List.Mem.tail _ (List.Mem.head _)))))))))) (by omega) (.there _ _ _ _ _ (Upd.seg (.there _ _ _ _ _ (.there _ _ _ _ _ (.there _ _ _ _ _ (.there _ _ _ _ _ (.there _ _ _ _ _ (.there _ _ _ _ _ (.there _ _ _ _ _ (.here _ _ _ _))))))))))) ?_
      refine xo_nil ?_
      refine xq_blk 1 ?_
      refine xq_then (xw_region ?_)
      refine xq rfl trivial (o_add rfl rfl rfl ⟨by omega, by omega⟩) ?_
      refine xq rfl trivial (o_mv rfl) ?_
      refine xo_nil ?_
      refine xq_rounds ?_
      refine xr_succ ?_
      refine xw_seq (xw_region ?_)
      refine xq rfl trivial (o_lss rfl rfl) ?_
      refine xo_nil (xq_then (xw_seq (xw_cond_t rfl rfl (xw_skip (xq_then (xw_seq ?_))))))
      refine xw_block ?_
      refine xw_seq (xw_region ?_)
      refine xq rfl trivial (o_ixs el80 rfl rfl ⟨by omega, by omega⟩ (rfl : _ = 1)) ?_
      first | refine xq rfl trivial (o_ldI rfl ts67 (List.Mem.tail _ (List.mem_append_right _ (List.Mem.head _))) (by decide) rfl) ?_ | refine xq rfl trivial (o_ld rfl ts67 (List.Mem.tail _ (List.mem_append_right _ (List.Mem.head _))) (by decide) rfl) ?_
      refine xq rfl trivial (o_as rfl) ?_
      refine xo_nil (xq_then (xw_region ?_))
      refine xq rfl trivial (o_mv rfl) ?_
      refine xq rfl trivial (o_mv rfl) ?_
      refine xq rfl trivial (o_mv rfl) ?_
      obtain ⟨ho44, h⟩ := h
      refine xo rfl trivial (OT.st (fun _ h => h) (ot_callV (Cs := [[(b6, _)], Bs4]) (Rs := [[(b64, _)], [(b50, _)], [(b46, _)], [(b41, _)], [(b33, _)], [(b28, _)], [(b6a, _)], [(b5, _)], [(b2, _)]]) rfl kf28 rfl (fun w1 hw1 => take_c _ _ _ _ _ _ w1 hJs4 (St.hasC hw1) ho44) (fun _ _ _ h => h.1))) ?_
      rintro _ _ ⟨w1, _, rfl, hle, -, rfl, rfl⟩
      refine xo_st ((b6, BK 2 (cl [vs4, .int .i64 32]) 78) :: (Bs4 ++ ((b64, BK 2 _ 67) :: ((b50, BK 1 _ 67) :: ((b46, BK 2 _ 67) :: ((b41, BK 4 _ 67) :: ((b33, BK 2 _ 67) :: ((b28, BK 3 _ 67) :: ((b6a, BK 1 (fun _ => .int .i64 (numF b0 13 1)) 3) :: ((b5, BK 28 (iv (updI (updI (updI (updI (updI (updI (updI (updI (updI (updI (updI (updI (fun _ => 0) 0 (numF b0 0 1)) 1 (numF b0 1 1)) 2 (numF b0 2 1)) 3 (numF b0 3 4)) 4 (numF b0 7 4)) 5 (numF b0 11 1)) 6 (numF b0 12 1)) 8 (numF b0 14 1)) 9 (numF b0 15 4)) 10 (numF b0 19 4)) 11 (numF b0 23 1)) 12 (numF b0 24 4))) 34) :: ((b2, BK 28 (iv (fun _ => 0)) 34) :: ([])))))))))))) (fun _ h => h) ?_
      refine xq rfl trivial (o_mv rfl) ?_
      refine xq rfl trivial (o_ext rfl rfl) ?_
      refine xq rfl trivial (o_ext rfl rfl) ?_
      refine xq rfl trivial (o_nilp rfl) ?_
      refine xq0 trivial (o_stI rfl rfl ts3 (List.Mem.tail _ (List.mem_append_right _ (List.Mem.tail _ (List.Mem.tail _ (List.Mem.tail _ (List.Mem.tail _ (List.Mem.tail _ (List.Mem.tail _ (List.Mem.tail _ (List.Mem.head _)))))))))) (by omega) (.there _ _ _ _ _ (Upd.seg (.there _ _ _ _ _ (.there _ _ _ _ _ (.there _ _ _ _ _ (.there _ _ _ _ _ (.there _ _ _ _ _ (.there _ _ _ _ _ (.there _ _ _ _ _ (.here _ _ _ _))))))))))) ?_
      refine xo_nil ?_
      refine xq_blk 1 ?_
      refine xq_then (xw_region ?_)
      refine xq rfl trivial (o_add rfl rfl rfl ⟨by omega, by omega⟩) ?_
      refine xq rfl trivial (o_mv rfl) ?_
      refine xo_nil ?_
      refine xq_rounds ?_
      refine xr_succ ?_
      refine xw_seq (xw_region ?_)
      refine xq rfl trivial (o_lss rfl rfl) ?_
      refine xo_nil (xq_then (xw_seq (xw_cond_f rfl rfl (xw_exit (xq_then_exit (xq_then_exit ?_))))))
      refine xq_blk_eq ?_
      refine con_ret0 (.inr rfl) Try.results29  _ (fun _ h => h) (?_)
      refine ⟨(Ks.consK (by simp) (Ks.segK (fun k hk => by simp [hk]) (Ks.consN hb64 (Ks.consK (by simp) (Ks.consK (by simp) (Ks.consK (by simp) (Ks.consK (by simp) (Ks.consK (by simp) (Ks.consK (by simp) (Ks.consK (by simp) (Ks.consK (by simp) Ks.nil))))))))))), ?_⟩
      refine xd_end hok (by kernel_rfl) ?_
      refine xq_blk 2 ?_
      refine xq_then (xw_region ?_)
      refine xq rfl trivial (o_add rfl rfl rfl ⟨by omega, by omega⟩) ?_
      refine xq rfl trivial (o_mv rfl) ?_
      refine xo_nil ?_
      refine xq_st _ (Kp.st (Kp.keep (Kp.segKeep (Kp.new hb64 (Kp.new hb50 (Kp.new hb46 (Kp.new hb41 (Kp.new hb33 (Kp.new hb28 (Kp.keep (Kp.keep (Kp.keep Kp.nil)))))))))))) ?_
      refine xq_rounds ?_
      refine xr_succ ?_
      refine xw_seq (xw_region ?_)
      refine xq rfl trivial (o_lss rfl rfl) ?_
      refine xo_nil (xq_then (xw_seq (xw_cond_t rfl rfl (xw_skip (xq_then (xw_seq ?_))))))
      refine xw_block ?_
      refine xw_seq (xw_region ?_)
      refine xq rfl trivial (o_mv rfl) ?_
      refine xq rfl trivial (o_as rfl) ?_
      refine xo_nil (xq_then ?_)
      refine xd_start (by kernel_rfl) (by kernel_rfl) (fun hok => ?_)
      refine xd_a hok 0 [(4, _)] (fun _ h => absurd h List.not_mem_nil) rfl rfl rfl (lc rfl ln) (by kernel_rfl) trivial (fun H' hy hK => o_mv rfl) ?_
      refine xd_a hok 1 [(7, _)] (fun _ h => h) rfl rfl rfl (lc rfl ln) (by kernel_rfl) trivial (fun H' hy hK => o_mv rfl) ?_
      first | refine xd_a hok 2 [(5, _)] (fun _ h => h) rfl rfl rfl (lc rfl ln) (by kernel_rfl) trivial (fun H' hy hK => o_fa0 fl34_11 rfl) ?_ | refine xd_a hok 2 [(5, _)] (fun _ h => h) rfl rfl rfl (lc rfl ln) (by kernel_rfl) trivial (fun H' hy hK => o_fa fl34_11 rfl) ?_
      refine xd_a hok 3 [(57, _), (56, _)] (fun _ h => h) rfl rfl rfl (lc rfl (lc rfl ln)) (by kernel_rfl) trivial (fun H' hy hK => o_ixa (j := 1) ea32 rfl rfl ⟨by omega, by omega⟩ rfl) ?_
      first | refine xd_a hok 4 [(58, _)] (fun _ h => h) rfl rfl rfl (lc rfl ln) (by kernel_rfl) trivial (fun H' hy hK => o_fa0 fl31_0 rfl) ?_ | refine xd_a hok 4 [(58, _)] (fun _ h => h) rfl rfl rfl (lc rfl ln) (by kernel_rfl) trivial (fun H' hy hK => o_fa fl31_0 rfl) ?_
      refine xd_a hok 5 [(7, _)] (fun _ h => h) rfl rfl rfl (lc rfl ln) (by kernel_rfl) trivial (fun H' hy hK => o_mv rfl) ?_
      first | refine xd_a hok 6 [(5, _)] (fun _ h => h) rfl rfl rfl (lc rfl ln) (by kernel_rfl) trivial (fun H' hy hK => o_fa0 fl34_11 rfl) ?_ | refine xd_a hok 6 [(5, _)] (fun _ h => h) rfl rfl rfl (lc rfl ln) (by kernel_rfl) trivial (fun H' hy hK => o_fa fl34_11 rfl) ?_
      refine xd_a hok 7 [(61, _), (60, _)] (fun _ h => h) rfl rfl rfl (lc rfl (lc rfl ln)) (by kernel_rfl) trivial (fun H' hy hK => o_ixa (j := 1) ea32 rfl rfl ⟨by omega, by omega⟩ rfl) ?_
      first | refine xd_a hok 8 [(62, _)] (fun _ h => h) rfl rfl rfl (lc rfl ln) (by kernel_rfl) trivial (fun H' hy hK => o_fa0 fl31_1 rfl) ?_ | refine xd_a hok 8 [(62, _)] (fun _ h => h) rfl rfl rfl (lc rfl ln) (by kernel_rfl) trivial (fun H' hy hK => o_fa fl31_1 rfl) ?_
      refine xd_step hok 9 [(59, _), (63, _)] rfl rfl (by kernel_rfl) (lc rfl (lc rfl ln)) (by kernel_rfl) trivial (o_bsl el80 ze67 (cells_one rfl) rfl rfl (.one rfl rfl rfl rfl (.one rfl rfl rfl rfl (.nil _)))) ?_
      rintro _ _ ⟨b64, hb64, rfl, rfl⟩
      refine ⟨(fun _ h => .tail _ (h)), (Ks.consN hb64 (Ks.consK (by simp) (Ks.segK (fun k hk => by simp [hk]) (Ks.consK (by simp) (Ks.consK (by simp) (Ks.consK (by simp) Ks.nil)))))), ?_⟩
      refine xd_fl hok 3 10 [(55, _), (64, _)] rfl rfl (by kernel_rfl) (by kernel_rfl) (lc rfl (lc rfl ln)) (by kernel_rfl) trivial (ot_in (l := [(0, _), (1, _), (2, _)]) kf29 rfl Try.func29 rfl Try.ntmps29 rfl (lac rfl (lac rfl (lac rfl lan))) ?_) (fun _ _ h => h)
      refine xw_seq (xw_region ?_)
      refine xq rfl trivial (o_mv rfl) ?_
      refine xq rfl trivial (o_len rfl Try.underlying80 rfl) ?_
      refine xq rfl trivial (o_mv rfl) ?_
      refine xo_nil (xq_then ?_)
      refine xw_block ?_
      refine xw_rounds 60 ?_
      refine xr_succ ?_
      refine xw_seq (xw_region ?_)
      refine xq rfl trivial (o_lss rfl rfl) ?_
      refine xo_nil (xq_then (xw_seq (xw_cond_t rfl rfl (xw_skip (xq_then (xw_seq ?_))))))
      refine xw_block ?_
      refine xw_seq (xw_region ?_)
      refine xq rfl trivial (o_ixs el80 rfl rfl ⟨by omega, by omega⟩ (rfl : _ = 0)) ?_
      first | refine xq rfl trivial (o_ldI rfl ts67 (List.Mem.head _) (by decide) rfl) ?_ | refine xq rfl trivial (o_ld rfl ts67 (List.Mem.head _) (by decide) rfl) ?_
      refine xq rfl trivial (o_as rfl) ?_
      refine xo_nil (xq_then (xw_region ?_))
      refine xq rfl trivial (o_mv rfl) ?_
      refine xq rfl trivial (o_mv rfl) ?_
      refine xq rfl trivial (o_mv rfl) ?_
      obtain ⟨ho47, h⟩ := h
      refine xo rfl trivial (OT.st (fun _ h => St.permI [1, 2, 0, 3, 4, 5] [[(b64, _)], [(b6, _)], Bs4, [(b6a, _)], [(b5, _)], [(b2, _)]] rfl h) (ot_callV (Cs := [[(b6, _)], Bs4]) (Rs := [[(b64, _)], [(b6a, _)], [(b5, _)], [(b2, _)]]) rfl kf28 rfl (fun w1 hw1 => take_c _ _ _ _ _ _ w1 hJs4 (St.hasC hw1) ho47) (fun _ _ _ h => h.1))) ?_
      rintro _ _ ⟨w1, _, rfl, hle, -, rfl, rfl⟩
      refine xo_st ((b6, BK 2 (cl [vs4, .int .i64 36]) 78) :: (Bs4 ++ ((b64, BK 2 _ 67) :: ((b6a, BK 1 (fun _ => .int .i64 (numF b0 13 1)) 3) :: ((b5, BK 28 (iv (updI (updI (updI (updI (updI (updI (updI (updI (updI (updI (updI (updI (updI (fun _ => 0) 0 (numF b0 0 1)) 1 (numF b0 1 1)) 2 (numF b0 2 1)) 3 (numF b0 3 4)) 4 (numF b0 7 4)) 5 (numF b0 11 1)) 6 (numF b0 12 1)) 8 (numF b0 14 1)) 9 (numF b0 15 4)) 10 (numF b0 19 4)) 11 (numF b0 23 1)) 12 (numF b0 24 4)) 13 (numF b0 28 4))) 34) :: ((b2, BK 28 (iv (fun _ => 0)) 34) :: ([]))))))) (fun _ h => h) ?_
      refine xq rfl trivial (o_mv rfl) ?_
      refine xq rfl trivial (o_ext rfl rfl) ?_
      refine xq rfl trivial (o_ext rfl rfl) ?_
      refine xq rfl trivial (o_nilp rfl) ?_
      refine xq0 trivial (o_stI rfl rfl ts3 (List.Mem.tail _ (List.mem_append_right _ (List.Mem.tail _ (List.Mem.tail _ (List.Mem.head _))))) (by omega) (.there _ _ _ _ _ (Upd.seg (.there _ _ _ _ _ (.there _ _ _ _ _ (.here _ _ _ _)))))) ?_
      refine xo_nil ?_
      refine xq_blk 1 ?_
      refine xq_then (xw_region ?_)
      refine xq rfl trivial (o_add rfl rfl rfl ⟨by omega, by omega⟩) ?_
      refine xq rfl trivial (o_mv rfl) ?_
      refine xo_nil ?_
      refine xq_rounds ?_
      refine xr_succ ?_
      refine xw_seq (xw_region ?_)
      refine xq rfl trivial (o_lss rfl rfl) ?_
      refine xo_nil (xq_then (xw_seq (xw_cond_t rfl rfl (xw_skip (xq_then (xw_seq ?_))))))
      refine xw_block ?_
      refine xw_seq (xw_region ?_)
      refine xq rfl trivial (o_ixs el80 rfl rfl ⟨by omega, by omega⟩ (rfl : _ = 1)) ?_
      first | refine xq rfl trivial (o_ldI rfl ts67 (List.Mem.tail _ (List.mem_append_right _ (List.Mem.head _))) (by decide) rfl) ?_ | refine xq rfl trivial (o_ld rfl ts67 (List.Mem.tail _ (List.mem_append_right _ (List.Mem.head _))) (by decide) rfl) ?_
      refine xq rfl trivial (o_as rfl) ?_
      refine xo_nil (xq_then (xw_region ?_))
      refine xq rfl trivial (o_mv rfl) ?_
      refine xq rfl trivial (o_mv rfl) ?_
      refine xq rfl trivial (o_mv rfl) ?_
      obtain ⟨ho50, h⟩ := h
      refine xo rfl trivial (OT.st (fun _ h => h) (ot_callV (Cs := [[(b6, _)], Bs4]) (Rs := [[(b64, _)], [(b6a, _)], [(b5, _)], [(b2, _)]]) rfl kf28 rfl (fun w1 hw1 => take_c _ _ _ _ _ _ w1 hJs4 (St.hasC hw1) ho50) (fun _ _ _ h => h.1))) ?_
      rintro _ _ ⟨w1, _, rfl, hle, -, rfl, rfl⟩
      refine xo_st ((b6, BK 2 (cl [vs4, .int .i64 40]) 78) :: (Bs4 ++ ((b64, BK 2 _ 67) :: ((b6a, BK 1 (fun _ => .int .i64 (numF b0 13 1)) 3) :: ((b5, BK 28 (iv (updI (updI (updI (updI (updI (updI (updI (updI (updI (updI (updI (updI (updI (updI (fun _ => 0) 0 (numF b0 0 1)) 1 (numF b0 1 1)) 2 (numF b0 2 1)) 3 (numF b0 3 4)) 4 (numF b0 7 4)) 5 (numF b0 11 1)) 6 (numF b0 12 1)) 8 (numF b0 14 1)) 9 (numF b0 15 4)) 10 (numF b0 19 4)) 11 (numF b0 23 1)) 12 (numF b0 24 4)) 13 (numF b0 28 4)) 14 (numF b0 32 4))) 34) :: ((b2, BK 28 (iv (fun _ => 0)) 34) :: ([]))))))) (fun _ h => h) ?_
      refine xq rfl trivial (o_mv rfl) ?_
      refine xq rfl trivial (o_ext rfl rfl) ?_
      refine xq rfl trivial (o_ext rfl rfl) ?_
      refine xq rfl trivial (o_nilp rfl) ?_
      refine xq0 trivial (o_stI rfl rfl ts3 (List.Mem.tail _ (List.mem_append_right _ (List.Mem.tail _ (List.Mem.tail _ (List.Mem.head _))))) (by omega) (.there _ _ _ _ _ (Upd.seg (.there _ _ _ _ _ (.there _ _ _ _ _ (.here _ _ _ _)))))) ?_
      refine xo_nil ?_
      refine xq_blk 1 ?_
      refine xq_then (xw_region ?_)
      refine xq rfl trivial (o_add rfl rfl rfl ⟨by omega, by omega⟩) ?_
      refine xq rfl trivial (o_mv rfl) ?_
      refine xo_nil ?_
      refine xq_rounds ?_
      refine xr_succ ?_
      refine xw_seq (xw_region ?_)
      refine xq rfl trivial (o_lss rfl rfl) ?_
      refine xo_nil (xq_then (xw_seq (xw_cond_f rfl rfl (xw_exit (xq_then_exit (xq_then_exit ?_))))))
      refine xq_blk_eq ?_
      refine con_ret0 (.inr rfl) Try.results29  _ (fun _ h => h) (?_)
      refine ⟨(Ks.consK (by simp) (Ks.segK (fun k hk => by simp [hk]) (Ks.consN hb64 (Ks.consK (by simp) (Ks.consK (by simp) (Ks.consK (by simp) Ks.nil)))))), ?_⟩
      refine xd_end hok (by kernel_rfl) ?_
      refine xq_blk 2 ?_
      refine xq_then (xw_region ?_)
      refine xq rfl trivial (o_add rfl rfl rfl ⟨by omega, by omega⟩) ?_
      refine xq rfl trivial (o_mv rfl) ?_
      refine xo_nil ?_
      refine xq_st _ (Kp.st (Kp.keep (Kp.segKeep (Kp.new hb64 (Kp.keep (Kp.keep (Kp.keep Kp.nil))))))) ?_
      refine xq_rounds ?_
      refine xr_succ ?_
      refine xw_seq (xw_region ?_)
      refine xq rfl trivial (o_lss rfl rfl) ?_
      refine xo_nil (xq_then (xw_seq (xw_cond_t rfl rfl (xw_skip (xq_then (xw_seq ?_))))))
      refine xw_block ?_
      refine xw_seq (xw_region ?_)
      refine xq rfl trivial (o_mv rfl) ?_
      refine xq rfl trivial (o_as rfl) ?_
      refine xo_nil (xq_then ?_)
      refine xd_start (by kernel_rfl) (by kernel_rfl) (fun hok => ?_)
      refine xd_a hok 0 [(4, _)] (fun _ h => absurd h List.not_mem_nil) rfl rfl rfl (lc rfl ln) (by kernel_rfl) trivial (fun H' hy hK => o_mv rfl) ?_
      refine xd_a hok 1 [(7, _)] (fun _ h => h) rfl rfl rfl (lc rfl ln) (by kernel_rfl) trivial (fun H' hy hK => o_mv rfl) ?_
      first | refine xd_a hok 2 [(5, _)] (fun _ h => h) rfl rfl rfl (lc rfl ln) (by kernel_rfl) trivial (fun H' hy hK => o_fa0 fl34_11 rfl) ?_ | refine xd_a hok 2 [(5, _)] (fun _ h => h) rfl rfl rfl (lc rfl ln) (by kernel_rfl) trivial (fun H' hy hK => o_fa fl34_11 rfl) ?_
      refine xd_a hok 3 [(57, _), (56, _)] (fun _ h => h) rfl rfl rfl (lc rfl (lc rfl ln)) (by kernel_rfl) trivial (fun H' hy hK => o_ixa (j := 2) ea32 rfl rfl ⟨by omega, by omega⟩ rfl) ?_
      first | refine xd_a hok 4 [(58, _)] (fun _ h => h) rfl rfl rfl (lc rfl ln) (by kernel_rfl) trivial (fun H' hy hK => o_fa0 fl31_0 rfl) ?_ | refine xd_a hok 4 [(58, _)] (fun _ h => h) rfl rfl rfl (lc rfl ln) (by kernel_rfl) trivial (fun H' hy hK => o_fa fl31_0 rfl) ?_
      refine xd_a hok 5 [(7, _)] (fun _ h => h) rfl rfl rfl (lc rfl ln) (by kernel_rfl) trivial (fun H' hy hK => o_mv rfl) ?_
      first | refine xd_a hok 6 [(5, _)] (fun _ h => h) rfl rfl rfl (lc rfl ln) (by kernel_rfl) trivial (fun H' hy hK => o_fa0 fl34_11 rfl) ?_ | refine xd_a hok 6 [(5, _)] (fun _ h => h) rfl rfl rfl (lc rfl ln) (by kernel_rfl) trivial (fun H' hy hK => o_fa fl34_11 rfl) ?_
      refine xd_a hok 7 [(61, _), (60, _)] (fun _ h => h) rfl rfl rfl (lc rfl (lc rfl ln)) (by kernel_rfl) trivial (fun H' hy hK => o_ixa (j := 2) ea32 rfl rfl ⟨by omega, by omega⟩ rfl) ?_
      first | refine xd_a hok 8 [(62, _)] (fun _ h => h) rfl rfl rfl (lc rfl ln) (by kernel_rfl) trivial (fun H' hy hK => o_fa0 fl31_1 rfl) ?_ | refine xd_a hok 8 [(62, _)] (fun _ h => h) rfl rfl rfl (lc rfl ln) (by kernel_rfl) trivial (fun H' hy hK => o_fa fl31_1 rfl) ?_
      refine xd_step hok 9 [(59, _), (63, _)] rfl rfl (by kernel_rfl) (lc rfl (lc rfl ln)) (by kernel_rfl) trivial (o_bsl el80 ze67 (cells_one rfl) rfl rfl (.one rfl rfl rfl rfl (.one rfl rfl rfl rfl (.nil _)))) ?_
      rintro _ _ ⟨b64, hb64, rfl, rfl⟩
      refine ⟨(fun _ h => .tail _ (h)), (Ks.consN hb64 (Ks.consK (by simp) (Ks.segK (fun k hk => by simp [hk]) (Ks.consK (by simp) (Ks.consK (by simp) (Ks.consK (by simp) Ks.nil)))))), ?_⟩
      refine xd_fl hok 3 10 [(55, _), (64, _)] rfl rfl (by kernel_rfl) (by kernel_rfl) (lc rfl (lc rfl ln)) (by kernel_rfl) trivial (ot_in (l := [(0, _), (1, _), (2, _)]) kf29 rfl Try.func29 rfl Try.ntmps29 rfl (lac rfl (lac rfl (lac rfl lan))) ?_) (fun _ _ h => h)
      refine xw_seq (xw_region ?_)
      refine xq rfl trivial (o_mv rfl) ?_
      refine xq rfl trivial (o_len rfl Try.underlying80 rfl) ?_
      refine xq rfl trivial (o_mv rfl) ?_
      refine xo_nil (xq_then ?_)
      refine xw_block ?_
      refine xw_rounds 60 ?_
      refine xr_succ ?_
      refine xw_seq (xw_region ?_)
      refine xq rfl trivial (o_lss rfl rfl) ?_
      refine xo_nil (xq_then (xw_seq (xw_cond_t rfl rfl (xw_skip (xq_then (xw_seq ?_))))))
      refine xw_block ?_
      refine xw_seq (xw_region ?_)
      refine xq rfl trivial (o_ixs el80 rfl rfl ⟨by omega, by omega⟩ (rfl : _ = 0)) ?_
      first | refine xq rfl trivial (o_ldI rfl ts67 (List.Mem.head _) (by decide) rfl) ?_ | refine xq rfl trivial (o_ld rfl ts67 (List.Mem.head _) (by decide) rfl) ?_
      refine xq rfl trivial (o_as rfl) ?_
      refine xo_nil (xq_then (xw_region ?_))
      refine xq rfl trivial (o_mv rfl) ?_
      refine xq rfl trivial (o_mv rfl) ?_
      refine xq rfl trivial (o_mv rfl) ?_
      obtain ⟨ho53, h⟩ := h
      refine xo rfl trivial (OT.st (fun _ h => St.permI [1, 2, 0, 3, 4, 5] [[(b64, _)], [(b6, _)], Bs4, [(b6a, _)], [(b5, _)], [(b2, _)]] rfl h) (ot_callV (Cs := [[(b6, _)], Bs4]) (Rs := [[(b64, _)], [(b6a, _)], [(b5, _)], [(b2, _)]]) rfl kf28 rfl (fun w1 hw1 => take_c _ _ _ _ _ _ w1 hJs4 (St.hasC hw1) ho53) (fun _ _ _ h => h.1))) ?_
      rintro _ _ ⟨w1, _, rfl, hle, -, rfl, rfl⟩
      refine xo_st ((b6, BK 2 (cl [vs4, .int .i64 44]) 78) :: (Bs4 ++ ((b64, BK 2 _ 67) :: ((b6a, BK 1 (fun _ => .int .i64 (numF b0 13 1)) 3) :: ((b5, BK 28 (iv (updI (updI (updI (updI (updI (updI (updI (updI (updI (updI (updI (updI (updI (updI (updI (fun _ => 0) 0 (numF b0 0 1)) 1 (numF b0 1 1)) 2 (numF b0 2 1)) 3 (numF b0 3 4)) 4 (numF b0 7 4)) 5 (numF b0 11 1)) 6 (numF b0 12 1)) 8 (numF b0 14 1)) 9 (numF b0 15 4)) 10 (numF b0 19 4)) 11 (numF b0 23 1)) 12 (numF b0 24 4)) 13 (numF b0 28 4)) 14 (numF b0 32 4)) 15 (numF b0 36 4))) 34) :: ((b2, BK 28 (iv (fun _ => 0)) 34) :: ([]))))))) (fun _ h => h) ?_
      refine xq rfl trivial (o_mv rfl) ?_
      refine xq rfl trivial (o_ext rfl rfl) ?_
      refine xq rfl trivial (o_ext rfl rfl) ?_
      refine xq rfl trivial (o_nilp rfl) ?_
      refine xq0 trivial (o_stI rfl rfl ts3 (List.Mem.tail _ (List.mem_append_right _ (List.Mem.tail _ (List.Mem.tail _ (List.Mem.head _))))) (by omega) (.there _ _ _ _ _ (Upd.seg (.there _ _ _ _ _ (.there _ _ _ _ _ (.here _ _ _ _)))))) ?_
      refine xo_nil ?_
      refine xq_blk 1 ?_
      refine xq_then (xw_region ?_)
      refine xq rfl trivial (o_add rfl rfl rfl ⟨by omega, by omega⟩) ?_
      refine xq rfl trivial (o_mv rfl) ?_
      refine xo_nil ?_
      refine xq_rounds ?_
      refine xr_succ ?_
      refine xw_seq (xw_region ?_)
      refine xq rfl trivial (o_lss rfl rfl) ?_
      refine xo_nil (xq_then (xw_seq (xw_cond_t rfl rfl (xw_skip (xq_then (xw_seq ?_))))))
      refine xw_block ?_
      refine xw_seq (xw_region ?_)
      refine xq rfl trivial (o_ixs el80 rfl rfl ⟨by omega, by omega⟩ (rfl : _ = 1)) ?_
      first | refine xq rfl trivial (o_ldI rfl ts67 (List.Mem.tail _ (List.mem_append_right _ (List.Mem.head _))) (by decide) rfl) ?_ | refine xq rfl trivial (o_ld rfl ts67 (List.Mem.tail _ (List.mem_append_right _ (List.Mem.head _))) (by decide) rfl) ?_
      refine xq rfl trivial (o_as rfl) ?_
      refine xo_nil (xq_then (xw_region ?_))
      refine xq rfl trivial (o_mv rfl) ?_
      refine xq rfl trivial (o_mv rfl) ?_
      refine xq rfl trivial (o_mv rfl) ?_
      obtain ⟨ho56, h⟩ := h
      refine xo rfl trivial (OT.st (fun _ h => h) (ot_callV (Cs := [[(b6, _)], Bs4]) (Rs := [[(b64, _)], [(b6a, _)], [(b5, _)], [(b2, _)]]) rfl kf28 rfl (fun w1 hw1 => take_c _ _ _ _ _ _ w1 hJs4 (St.hasC hw1) ho56) (fun _ _ _ h => h.1))) ?_
      rintro _ _ ⟨w1, _, rfl, hle, -, rfl, rfl⟩
      refine xo_st ((b6, BK 2 (cl [vs4, .int .i64 48]) 78) :: (Bs4 ++ ((b64, BK 2 _ 67) :: ((b6a, BK 1 (fun _ => .int .i64 (numF b0 13 1)) 3) :: ((b5, BK 28 (iv (updI (updI (updI (updI (updI (updI (updI (updI (updI (updI (updI (updI (updI (updI (updI (updI (fun _ => 0) 0 (numF b0 0 1)) 1 (numF b0 1 1)) 2 (numF b0 2 1)) 3 (numF b0 3 4)) 4 (numF b0 7 4)) 5 (numF b0 11 1)) 6 (numF b0 12 1)) 8 (numF b0 14 1)) 9 (numF b0 15 4)) 10 (numF b0 19 4)) 11 (numF b0 23 1)) 12 (numF b0 24 4)) 13 (numF b0 28 4)) 14 (numF b0 32 4)) 15 (numF b0 36 4)) 16 (numF b0 40 4))) 34) :: ((b2, BK 28 (iv (fun _ => 0)) 34) :: ([]))))))) (fun _ h => h) ?_
      refine xq rfl trivial (o_mv rfl) ?_
      refine xq rfl trivial (o_ext rfl rfl) ?_
      refine xq rfl trivial (o_ext rfl rfl) ?_
      refine xq rfl trivial (o_nilp rfl) ?_
      refine xq0 trivial (o_stI rfl rfl ts3 (List.Mem.tail _ (List.mem_append_right _ (List.Mem.tail _ (List.Mem.tail _ (List.Mem.head _))))) (by omega) (.there _ _ _ _ _ (Upd.seg (.there _ _ _ _ _ (.there _ _ _ _ _ (.here _ _ _ _)))))) ?_
      refine xo_nil ?_
      refine xq_blk 1 ?_
      refine xq_then (xw_region ?_)
      refine xq rfl trivial (o_add rfl rfl rfl ⟨by omega, by omega⟩) ?_
      refine xq rfl trivial (o_mv rfl) ?_
      refine xo_nil ?_
      refine xq_rounds ?_
      refine xr_succ ?_
      refine xw_seq (xw_region ?_)
      refine xq rfl trivial (o_lss rfl rfl) ?_
      refine xo_nil (xq_then (xw_seq (xw_cond_f rfl rfl (xw_exit (xq_then_exit (xq_then_exit ?_))))))
      refine xq_blk_eq ?_
      refine con_ret0 (.inr rfl) Try.results29  _ (fun _ h => h) (?_)
      refine ⟨(Ks.consK (by simp) (Ks.segK (fun k hk => by simp [hk]) (Ks.consN hb64 (Ks.consK (by simp) (Ks.consK (by simp) (Ks.consK (by simp) Ks.nil)))))), ?_⟩
      refine xd_end hok (by kernel_rfl) ?_
      refine xq_blk 2 ?_
      refine xq_then (xw_region ?_)
      refine xq rfl trivial (o_add rfl rfl rfl ⟨by omega, by omega⟩) ?_
      refine xq rfl trivial (o_mv rfl) ?_
      refine xo_nil ?_
      refine xq_st _ (Kp.st (Kp.keep (Kp.segKeep (Kp.new hb64 (Kp.keep (Kp.keep (Kp.keep Kp.nil))))))) ?_
      refine xq_rounds ?_
      refine xr_succ ?_
      refine xw_seq (xw_region ?_)
      refine xq rfl trivial (o_lss rfl rfl) ?_
      refine xo_nil (xq_then (xw_seq (xw_cond_t rfl rfl (xw_skip (xq_then (xw_seq ?_))))))
      refine xw_block ?_
      refine xw_seq (xw_region ?_)
      refine xq rfl trivial (o_mv rfl) ?_
      refine xq rfl trivial (o_as rfl) ?_
      refine xo_nil (xq_then ?_)
      refine xd_start (by kernel_rfl) (by kernel_rfl) (fun hok => ?_)
      refine xd_a hok 0 [(4, _)] (fun _ h => absurd h List.not_mem_nil) rfl rfl rfl (lc rfl ln) (by kernel_rfl) trivial (fun H' hy hK => o_mv rfl) ?_
      refine xd_a hok 1 [(7, _)] (fun _ h => h) rfl rfl rfl (lc rfl ln) (by kernel_rfl) trivial (fun H' hy hK => o_mv rfl) ?_
      first | refine xd_a hok 2 [(5, _)] (fun _ h => h) rfl rfl rfl (lc rfl ln) (by kernel_rfl) trivial (fun H' hy hK => o_fa0 fl34_11 rfl) ?_ | refine xd_a hok 2 [(5, _)] (fun _ h => h) rfl rfl rfl (lc rfl ln) (by kernel_rfl) trivial (fun H' hy hK => o_fa fl34_11 rfl) ?_
      refine xd_a hok 3 [(57, _), (56, _)] (fun _ h => h) rfl rfl rfl (lc rfl (lc rfl ln)) (by kernel_rfl) trivial (fun H' hy hK => o_ixa (j := 3) ea32 rfl rfl ⟨by omega, by omega⟩ rfl) ?_
      first | refine xd_a hok 4 [(58, _)] (fun _ h => h) rfl rfl rfl (lc rfl ln) (by kernel_rfl) trivial (fun H' hy hK => o_fa0 fl31_0 rfl) ?_ | refine xd_a hok 4 [(58, _)] (fun _ h => h) rfl rfl rfl (lc rfl ln) (by kernel_rfl) trivial (fun H' hy hK => o_fa fl31_0 rfl) ?_
      refine xd_a hok 5 [(7, _)] (fun _ h => h) rfl rfl rfl (lc rfl ln) (by kernel_rfl) trivial (fun H' hy hK => o_mv rfl) ?_
      first | refine xd_a hok 6 [(5, _)] (fun _ h => h) rfl rfl rfl (lc rfl ln) (by kernel_rfl) trivial (fun H' hy hK => o_fa0 fl34_11 rfl) ?_ | refine xd_a hok 6 [(5, _)] (fun _ h => h) rfl rfl rfl (lc rfl ln) (by kernel_rfl) trivial (fun H' hy hK => o_fa fl34_11 rfl) ?_
      refine xd_a hok 7 [(61, _), (60, _)] (fun _ h => h) rfl rfl rfl (lc rfl (lc rfl ln)) (by kernel_rfl) trivial (fun H' hy hK => o_ixa (j := 3) ea32 rfl rfl ⟨by omega, by omega⟩ rfl) ?_
      first | refine xd_a hok 8 [(62, _)] (fun _ h => h) rfl rfl rfl (lc rfl ln) (by kernel_rfl) trivial (fun H' hy hK => o_fa0 fl31_1 rfl) ?_ | refine xd_a hok 8 [(62, _)] (fun _ h => h) rfl rfl rfl (lc rfl ln) (by kernel_rfl) trivial (fun H' hy hK => o_fa fl31_1 rfl) ?_
      refine xd_step hok 9 [(59, _), (63, _)] rfl rfl (by kernel_rfl) (lc rfl (lc rfl ln)) (by kernel_rfl) trivial (o_bsl el80 ze67 (cells_one rfl) rfl rfl (.one rfl rfl rfl rfl (.one rfl rfl rfl rfl (.nil _)))) ?_
      rintro _ _ ⟨b64, hb64, rfl, rfl⟩
      refine ⟨(fun _ h => .tail _ (h)), (Ks.consN hb64 (Ks.consK (by simp) (Ks.segK (fun k hk => by simp [hk]) (Ks.consK (by simp) (Ks.consK (by simp) (Ks.consK (by simp) Ks.nil)))))), ?_⟩
      refine xd_fl hok 3 10 [(55, _), (64, _)] rfl rfl (by kernel_rfl) (by kernel_rfl) (lc rfl (lc rfl ln)) (by kernel_rfl) trivial (ot_in (l := [(0, _), (1, _), (2, _)]) kf29 rfl Try.func29 rfl Try.ntmps29 rfl (lac rfl (lac rfl (lac rfl lan))) ?_) (fun _ _ h => h)
      refine xw_seq (xw_region ?_)
      refine xq rfl trivial (o_mv rfl) ?_
      refine xq rfl trivial (o_len rfl Try.underlying80 rfl) ?_
      refine xq rfl trivial (o_mv rfl) ?_
      refine xo_nil (xq_then ?_)
      refine xw_block ?_
      refine xw_rounds 60 ?_
      refine xr_succ ?_
      refine xw_seq (xw_region ?_)
      refine xq rfl trivial (o_lss rfl rfl) ?_
      refine xo_nil (xq_then (xw_seq (xw_cond_t rfl rfl (xw_skip (xq_then (xw_seq ?_))))))
      refine xw_block ?_
      refine xw_seq (xw_region ?_)
      refine xq rfl trivial (o_ixs el80 rfl rfl ⟨by omega, by omega⟩ (rfl : _ = 0)) ?_
      first | refine xq rfl trivial (o_ldI rfl ts67 (List.Mem.head _) (by decide) rfl) ?_ | refine xq rfl trivial (o_ld rfl ts67 (List.Mem.head _) (by decide) rfl) ?_
      refine xq rfl trivial (o_as rfl) ?_
      refine xo_nil (xq_then (xw_region ?_))
      refine xq rfl trivial (o_mv rfl) ?_
      refine xq rfl trivial (o_mv rfl) ?_
      refine xq rfl trivial (o_mv rfl) ?_
      obtain ⟨ho59, h⟩ := h
      refine xo rfl trivial (OT.st (fun _ h => St.permI [1, 2, 0, 3, 4, 5] [[(b64, _)], [(b6, _)], Bs4, [(b6a, _)], [(b5, _)], [(b2, _)]] rfl h) (ot_callV (Cs := [[(b6, _)], Bs4]) (Rs := [[(b64, _)], [(b6a, _)], [(b5, _)], [(b2, _)]]) rfl kf28 rfl (fun w1 hw1 => take_c _ _ _ _ _ _ w1 hJs4 (St.hasC hw1) ho59) (fun _ _ _ h => h.1))) ?_
      rintro _ _ ⟨w1, _, rfl, hle, -, rfl, rfl⟩
      refine xo_st ((b6, BK 2 (cl [vs4, .int .i64 52]) 78) :: (Bs4 ++ ((b64, BK 2 _ 67) :: ((b6a, BK 1 (fun _ => .int .i64 (numF b0 13 1)) 3) :: ((b5, BK 28 (iv (updI (updI (updI (updI (updI (updI (updI (updI (updI (updI (updI (updI (updI (updI (updI (updI (updI (fun _ => 0) 0 (numF b0 0 1)) 1 (numF b0 1 1)) 2 (numF b0 2 1)) 3 (numF b0 3 4)) 4 (numF b0 7 4)) 5 (numF b0 11 1)) 6 (numF b0 12 1)) 8 (numF b0 14 1)) 9 (numF b0 15 4)) 10 (numF b0 19 4)) 11 (numF b0 23 1)) 12 (numF b0 24 4)) 13 (numF b0 28 4)) 14 (numF b0 32 4)) 15 (numF b0 36 4)) 16 (numF b0 40 4)) 17 (numF b0 44 4))) 34) :: ((b2, BK 28 (iv (fun _ => 0)) 34) :: ([]))))))) (fun _ h => h) ?_
      refine xq rfl trivial (o_mv rfl) ?_
      refine xq rfl trivial (o_ext rfl rfl) ?_
      refine xq rfl trivial (o_ext rfl rfl) ?_
      refine xq rfl trivial (o_nilp rfl) ?_
      refine xq0 trivial (o_stI rfl rfl ts3 (List.Mem.tail _ (List.mem_append_right _ (List.Mem.tail _ (List.Mem.tail _ (List.Mem.head _))))) (by omega) (.there _ _ _ _ _ (Upd.seg (.there _ _ _ _ _ (.there _ _ _ _ _ (.here _ _ _ _)))))) ?_
      refine xo_nil ?_
      refine xq_blk 1 ?_
      refine xq_then (xw_region ?_)
      refine xq rfl trivial (o_add rfl rfl rfl ⟨by omega, by omega⟩) ?_
      refine xq rfl trivial (o_mv rfl) ?_
      refine xo_nil ?_
      refine xq_rounds ?_
      refine xr_succ ?_
      refine xw_seq (xw_region ?_)
      refine xq rfl trivial (o_lss rfl rfl) ?_
      refine xo_nil (xq_then (xw_seq (xw_cond_t rfl rfl (xw_skip (xq_then (xw_seq ?_))))))
      refine xw_block ?_
      refine xw_seq (xw_region ?_)
      refine xq rfl trivial (o_ixs el80 rfl rfl ⟨by omega, by omega⟩ (rfl : _ = 1)) ?_
      first | refine xq rfl trivial (o_ldI rfl ts67 (List.Mem.tail _ (List.mem_append_right _ (List.Mem.head _))) (by decide) rfl) ?_ | refine xq rfl trivial (o_ld rfl ts67 (List.Mem.tail _ (List.mem_append_right _ (List.Mem.head _))) (by decide) rfl) ?_
      refine xq rfl trivial (o_as rfl) ?_
      refine xo_nil (xq_then (xw_region ?_))
      refine xq rfl trivial (o_mv rfl) ?_
      refine xq rfl trivial (o_mv rfl) ?_
      refine xq rfl trivial (o_mv rfl) ?_
      obtain ⟨ho62, h⟩ := h
      refine xo rfl trivial (OT.st (fun _ h => h) (ot_callV (Cs := [[(b6, _)], Bs4]) (Rs := [[(b64, _)], [(b6a, _)], [(b5, _)], [(b2, _)]]) rfl kf28 rfl (fun w1 hw1 => take_c _ _ _ _ _ _ w1 hJs4 (St.hasC hw1) ho62) (fun _ _ _ h => h.1))) ?_
      rintro _ _ ⟨w1, _, rfl, hle, -, rfl, rfl⟩
      refine xo_st ((b6, BK 2 (cl [vs4, .int .i64 56]) 78) :: (Bs4 ++ ((b64, BK 2 _ 67) :: ((b6a, BK 1 (fun _ => .int .i64 (numF b0 13 1)) 3) :: ((b5, BK 28 (iv (updI (updI (updI (updI (updI (updI (updI (updI (updI (updI (updI (updI (updI (updI (updI (updI (updI (updI (fun _ => 0) 0 (numF b0 0 1)) 1 (numF b0 1 1)) 2 (numF b0 2 1)) 3 (numF b0 3 4)) 4 (numF b0 7 4)) 5 (numF b0 11 1)) 6 (numF b0 12 1)) 8 (numF b0 14 1)) 9 (numF b0 15 4)) 10 (numF b0 19 4)) 11 (numF b0 23 1)) 12 (numF b0 24 4)) 13 (numF b0 28 4)) 14 (numF b0 32 4)) 15 (numF b0 36 4)) 16 (numF b0 40 4)) 17 (numF b0 44 4)) 18 (numF b0 48 4))) 34) :: ((b2, BK 28 (iv (fun _ => 0)) 34) :: ([]))))))) (fun _ h => h) ?_
      refine xq rfl trivial (o_mv rfl) ?_
      refine xq rfl trivial (o_ext rfl rfl) ?_
      refine xq rfl trivial (o_ext rfl rfl) ?_
      refine xq rfl trivial (o_nilp rfl) ?_
      refine xq0 trivial (o_stI rfl rfl ts3 (List.Mem.tail _ (List.mem_append_right _ (List.Mem.tail _ (List.Mem.tail _ (List.Mem.head _))))) (by omega) (.there _ _ _ _ _ (Upd.seg (.there _ _ _ _ _ (.there _ _ _ _ _ (.here _ _ _ _)))))) ?_
      refine xo_nil ?_
      refine xq_blk 1 ?_
      refine xq_then (xw_region ?_)
      refine xq rfl trivial (o_add rfl rfl rfl ⟨by omega, by omega⟩) ?_
      refine xq rfl trivial (o_mv rfl) ?_
      refine xo_nil ?_
      refine xq_rounds ?_
      refine xr_succ ?_
      refine xw_seq (xw_region ?_)
      refine xq rfl trivial (o_lss rfl rfl) ?_
      refine xo_nil (xq_then (xw_seq (xw_cond_f rfl rfl (xw_exit (xq_then_exit (xq_then_exit ?_))))))
      refine xq_blk_eq ?_
      refine con_ret0 (.inr rfl) Try.results29  _ (fun _ h => h) (?_)
      refine ⟨(Ks.consK (by simp) (Ks.segK (fun k hk => by simp [hk]) (Ks.consN hb64 (Ks.consK (by simp) (Ks.consK (by simp) (Ks.consK (by simp) Ks.nil)))))), ?_⟩
      refine xd_end hok (by kernel_rfl) ?_
      refine xq_blk 2 ?_
      refine xq_then (xw_region ?_)
      refine xq rfl trivial (o_add rfl rfl rfl ⟨by omega, by omega⟩) ?_
      refine xq rfl trivial (o_mv rfl) ?_
      refine xo_nil ?_
      refine xq_st _ (Kp.st (Kp.keep (Kp.segKeep (Kp.new hb64 (Kp.keep (Kp.keep (Kp.keep Kp.nil))))))) ?_
      refine xq_rounds ?_
      refine xr_succ ?_
      refine xw_seq (xw_region ?_)
      refine xq rfl trivial (o_lss rfl rfl) ?_
      refine xo_nil (xq_then (xw_seq (xw_cond_t rfl rfl (xw_skip (xq_then (xw_seq ?_))))))
      refine xw_block ?_
      refine xw_seq (xw_region ?_)
      refine xq rfl trivial (o_mv rfl) ?_
      refine xq rfl trivial (o_as rfl) ?_
      refine xo_nil (xq_then ?_)
      refine xd_start (by kernel_rfl) (by kernel_rfl) (fun hok => ?_)
      refine xd_a hok 0 [(4, _)] (fun _ h => absurd h List.not_mem_nil) rfl rfl rfl (lc rfl ln) (by kernel_rfl) trivial (fun H' hy hK => o_mv rfl) ?_
      refine xd_a hok 1 [(7, _)] (fun _ h => h) rfl rfl rfl (lc rfl ln) (by kernel_rfl) trivial (fun H' hy hK => o_mv rfl) ?_
      first | refine xd_a hok 2 [(5, _)] (fun _ h => h) rfl rfl rfl (lc rfl ln) (by kernel_rfl) trivial (fun H' hy hK => o_fa0 fl34_11 rfl) ?_ | refine xd_a hok 2 [(5, _)] (fun _ h => h) rfl rfl rfl (lc rfl ln) (by kernel_rfl) trivial (fun H' hy hK => o_fa fl34_11 rfl) ?_
      refine xd_a hok 3 [(57, _), (56, _)] (fun _ h => h) rfl rfl rfl (lc rfl (lc rfl ln)) (by kernel_rfl) trivial (fun H' hy hK => o_ixa (j := 4) ea32 rfl rfl ⟨by omega, by omega⟩ rfl) ?_
      first | refine xd_a hok 4 [(58, _)] (fun _ h => h) rfl rfl rfl (lc rfl ln) (by kernel_rfl) trivial (fun H' hy hK => o_fa0 fl31_0 rfl) ?_ | refine xd_a hok 4 [(58, _)] (fun _ h => h) rfl rfl rfl (lc rfl ln) (by kernel_rfl) trivial (fun H' hy hK => o_fa fl31_0 rfl) ?_
      refine xd_a hok 5 [(7, _)] (fun _ h => h) rfl rfl rfl (lc rfl ln) (by kernel_rfl) trivial (fun H' hy hK => o_mv rfl) ?_
      first | refine xd_a hok 6 [(5, _)] (fun _ h => h) rfl rfl rfl (lc rfl ln) (by kernel_rfl) trivial (fun H' hy hK => o_fa0 fl34_11 rfl) ?_ | refine xd_a hok 6 [(5, _)] (fun _ h => h) rfl rfl rfl (lc rfl ln) (by kernel_rfl) trivial (fun H' hy hK => o_fa fl34_11 rfl) ?_
      refine xd_a hok 7 [(61, _), (60, _)] (fun _ h => h) rfl rfl rfl (lc rfl (lc rfl ln)) (by kernel_rfl) trivial (fun H' hy hK => o_ixa (j := 4) ea32 rfl rfl ⟨by omega, by omega⟩ rfl) ?_
      first | refine xd_a hok 8 [(62, _)] (fun _ h => h) rfl rfl rfl (lc rfl ln) (by kernel_rfl) trivial (fun H' hy hK => o_fa0 fl31_1 rfl) ?_ | refine xd_a hok 8 [(62, _)] (fun _ h => h) rfl rfl rfl (lc rfl ln) (by kernel_rfl) trivial (fun H' hy hK => o_fa fl31_1 rfl) ?_
      refine xd_step hok 9 [(59, _), (63, _)] rfl rfl (by kernel_rfl) (lc rfl (lc rfl ln)) (by kernel_rfl) trivial (o_bsl el80 ze67 (cells_one rfl) rfl rfl (.one rfl rfl rfl rfl (.one rfl rfl rfl rfl (.nil _)))) ?_
      rintro _ _ ⟨b64, hb64, rfl, rfl⟩
      refine ⟨(fun _ h => .tail _ (h)), (Ks.consN hb64 (Ks.consK (by simp) (Ks.segK (fun k hk => by simp [hk]) (Ks.consK (by simp) (Ks.consK (by simp) (Ks.consK (by simp) Ks.nil)))))), ?_⟩
      refine xd_fl hok 3 10 [(55, _), (64, _)] rfl rfl (by kernel_rfl) (by kernel_rfl) (lc rfl (lc rfl ln)) (by kernel_rfl) trivial (ot_in (l := [(0, _), (1, _), (2, _)]) kf29 rfl Try.func29 rfl Try.ntmps29 rfl (lac rfl (lac rfl (lac rfl lan))) ?_) (fun _ _ h => h)
      refine xw_seq (xw_region ?_)
      refine xq rfl trivial (o_mv rfl) ?_
      refine xq rfl trivial (o_len rfl Try.underlying80 rfl) ?_
      refine xq rfl trivial (o_mv rfl) ?_
      refine xo_nil (xq_then ?_)
      refine xw_block ?_
      refine xw_rounds 60 ?_
      refine xr_succ ?_
      refine xw_seq (xw_region ?_)
      refine xq rfl trivial (o_lss rfl rfl) ?_
      refine xo_nil (xq_then (xw_seq (xw_cond_t rfl rfl (xw_skip (xq_then (xw_seq ?_))))))
      refine xw_block ?_
      refine xw_seq (xw_region ?_)
      refine xq rfl trivial (o_ixs el80 rfl rfl ⟨by omega, by omega⟩ (rfl : _ = 0)) ?_
      first | refine xq rfl trivial (o_ldI rfl ts67 (List.Mem.head _) (by decide) rfl) ?_ | refine xq rfl trivial (o_ld rfl ts67 (List.Mem.head _) (by decide) rfl) ?_
      refine xq rfl trivial (o_as rfl) ?_
      refine xo_nil (xq_then (xw_region ?_))
      refine xq rfl trivial (o_mv rfl) ?_
      refine xq rfl trivial (o_mv rfl) ?_
      refine xq rfl trivial (o_mv rfl) ?_
      obtain ⟨ho65, h⟩ := h
      refine xo rfl trivial (OT.st (fun _ h => St.permI [1, 2, 0, 3, 4, 5] [[(b64, _)], [(b6, _)], Bs4, [(b6a, _)], [(b5, _)], [(b2, _)]] rfl h) (ot_callV (Cs := [[(b6, _)], Bs4]) (Rs := [[(b64, _)], [(b6a, _)], [(b5, _)], [(b2, _)]]) rfl kf28 rfl (fun w1 hw1 => take_c _ _ _ _ _ _ w1 hJs4 (St.hasC hw1) ho65) (fun _ _ _ h => h.1))) ?_
      rintro _ _ ⟨w1, _, rfl, hle, -, rfl, rfl⟩
      refine xo_st ((b6, BK 2 (cl [vs4, .int .i64 60]) 78) :: (Bs4 ++ ((b64, BK 2 _ 67) :: ((b6a, BK 1 (fun _ => .int .i64 (numF b0 13 1)) 3) :: ((b5, BK 28 (iv (updI (updI (updI (updI (updI (updI (updI (updI (updI (updI (updI (updI (updI (updI (updI (updI (updI (updI (updI (fun _ => 0) 0 (numF b0 0 1)) 1 (numF b0 1 1)) 2 (numF b0 2 1)) 3 (numF b0 3 4)) 4 (numF b0 7 4)) 5 (numF b0 11 1)) 6 (numF b0 12 1)) 8 (numF b0 14 1)) 9 (numF b0 15 4)) 10 (numF b0 19 4)) 11 (numF b0 23 1)) 12 (numF b0 24 4)) 13 (numF b0 28 4)) 14 (numF b0 32 4)) 15 (numF b0 36 4)) 16 (numF b0 40 4)) 17 (numF b0 44 4)) 18 (numF b0 48 4)) 19 (numF b0 52 4))) 34) :: ((b2, BK 28 (iv (fun _ => 0)) 34) :: ([]))))))) (fun _ h => h) ?_
      refine xq rfl trivial (o_mv rfl) ?_
      refine xq rfl trivial (o_ext rfl rfl) ?_
      refine xq rfl trivial (o_ext rfl rfl) ?_
      refine xq rfl trivial (o_nilp rfl) ?_
      refine xq0 trivial (o_stI rfl rfl ts3 (List.Mem.tail _ (List.mem_append_right _ (List.Mem.tail _ (List.Mem.tail _ (List.Mem.head _))))) (by omega) (.there _ _ _ _ _ (Upd.seg (.there _ _ _ _ _ (.there _ _ _ _ _ (.here _ _ _ _)))))) ?_
      refine xo_nil ?_
      refine xq_blk 1 ?_
      refine xq_then (xw_region ?_)
      refine xq rfl trivial (o_add rfl rfl rfl ⟨by omega, by omega⟩) ?_
      refine xq rfl trivial (o_mv rfl) ?_
      refine xo_nil ?_
      refine xq_rounds ?_
      refine xr_succ ?_
      refine xw_seq (xw_region ?_)
      refine xq rfl trivial (o_lss rfl rfl) ?_
      refine xo_nil (xq_then (xw_seq (xw_cond_t rfl rfl (xw_skip (xq_then (xw_seq ?_))))))
      refine xw_block ?_
      refine xw_seq (xw_region ?_)
      refine xq rfl trivial (o_ixs el80 rfl rfl ⟨by omega, by omega⟩ (rfl : _ = 1)) ?_
      first | refine xq rfl trivial (o_ldI rfl ts67 (List.Mem.tail _ (List.mem_append_right _ (List.Mem.head _))) (by decide) rfl) ?_ | refine xq rfl trivial (o_ld rfl ts67 (List.Mem.tail _ (List.mem_append_right _ (List.Mem.head _))) (by decide) rfl) ?_
      refine xq rfl trivial (o_as rfl) ?_
      refine xo_nil (xq_then (xw_region ?_))
      refine xq rfl trivial (o_mv rfl) ?_
      refine xq rfl trivial (o_mv rfl) ?_
      refine xq rfl trivial (o_mv rfl) ?_
      obtain ⟨ho68, h⟩ := h
      refine xo rfl trivial (OT.st (fun _ h => h) (ot_callV (Cs := [[(b6, _)], Bs4]) (Rs := [[(b64, _)], [(b6a, _)], [(b5, _)], [(b2, _)]]) rfl kf28 rfl (fun w1 hw1 => take_c _ _ _ _ _ _ w1 hJs4 (St.hasC hw1) ho68) (fun _ _ _ h => h.1))) ?_
      rintro _ _ ⟨w1, _, rfl, hle, -, rfl, rfl⟩
      refine xo_st ((b6, BK 2 (cl [vs4, .int .i64 64]) 78) :: (Bs4 ++ ((b64, BK 2 _ 67) :: ((b6a, BK 1 (fun _ => .int .i64 (numF b0 13 1)) 3) :: ((b5, BK 28 (iv (updI (updI (updI (updI (updI (updI (updI (updI (updI (updI (updI (updI (updI (updI (updI (updI (updI (updI (updI (updI (fun _ => 0) 0 (numF b0 0 1)) 1 (numF b0 1 1)) 2 (numF b0 2 1)) 3 (numF b0 3 4)) 4 (numF b0 7 4)) 5 (numF b0 11 1)) 6 (numF b0 12 1)) 8 (numF b0 14 1)) 9 (numF b0 15 4)) 10 (numF b0 19 4)) 11 (numF b0 23 1)) 12 (numF b0 24 4)) 13 (numF b0 28 4)) 14 (numF b0 32 4)) 15 (numF b0 36 4)) 16 (numF b0 40 4)) 17 (numF b0 44 4)) 18 (numF b0 48 4)) 19 (numF b0 52 4)) 20 (numF b0 56 4))) 34) :: ((b2, BK 28 (iv (fun _ => 0)) 34) :: ([]))))))) (fun _ h => h) ?_
      refine xq rfl trivial (o_mv rfl) ?_
      refine xq rfl trivial (o_ext rfl rfl) ?_
      refine xq rfl trivial (o_ext rfl rfl) ?_
      refine xq rfl trivial (o_nilp rfl) ?_
      refine xq0 trivial (o_stI rfl rfl ts3 (List.Mem.tail _ (List.mem_append_right _ (List.Mem.tail _ (List.Mem.tail _ (List.Mem.head _))))) (by omega) (.there _ _ _ _ _ (Upd.seg (.there _ _ _ _ _ (.there _ _ _ _ _ (.here _ _ _ _)))))) ?_
      refine xo_nil ?_
      refine xq_blk 1 ?_
      refine xq_then (xw_region ?_)
      refine xq rfl trivial (o_add rfl rfl rfl ⟨by omega, by omega⟩) ?_
      refine xq rfl trivial (o_mv rfl) ?_
      refine xo_nil ?_
      refine xq_rounds ?_
      refine xr_succ ?_
      refine xw_seq (xw_region ?_)
      refine xq rfl trivial (o_lss rfl rfl) ?_
      refine xo_nil (xq_then (xw_seq (xw_cond_f rfl rfl (xw_exit (xq_then_exit (xq_then_exit ?_))))))
      refine xq_blk_eq ?_
      refine con_ret0 (.inr rfl) Try.results29  _ (fun _ h => h) (?_)
      refine ⟨(Ks.consK (by simp) (Ks.segK (fun k hk => by simp [hk]) (Ks.consN hb64 (Ks.consK (by simp) (Ks.consK (by simp) (Ks.consK (by simp) Ks.nil)))))), ?_⟩
      refine xd_end hok (by kernel_rfl) ?_
      refine xq_blk 2 ?_
      refine xq_then (xw_region ?_)
      refine xq rfl trivial (o_add rfl rfl rfl ⟨by omega, by omega⟩) ?_
      refine xq rfl trivial (o_mv rfl) ?_
      refine xo_nil ?_
      refine xq_st _ (Kp.st (Kp.keep (Kp.segKeep (Kp.new hb64 (Kp.keep (Kp.keep (Kp.keep Kp.nil))))))) ?_
      refine xq_rounds ?_
      refine xr_succ ?_
      refine xw_seq (xw_region ?_)
      refine xq rfl trivial (o_lss rfl rfl) ?_
      refine xo_nil (xq_then (xw_seq (xw_cond_t rfl rfl (xw_skip (xq_then (xw_seq ?_))))))
      refine xw_block ?_
      refine xw_seq (xw_region ?_)
      refine xq rfl trivial (o_mv rfl) ?_
      refine xq rfl trivial (o_as rfl) ?_
      refine xo_nil (xq_then ?_)
      refine xd_start (by kernel_rfl) (by kernel_rfl) (fun hok => ?_)
      refine xd_a hok 0 [(4, _)] (fun _ h => absurd h List.not_mem_nil) rfl rfl rfl (lc rfl ln) (by kernel_rfl) trivial (fun H' hy hK => o_mv rfl) ?_
      refine xd_a hok 1 [(7, _)] (fun _ h => h) rfl rfl rfl (lc rfl ln) (by kernel_rfl) trivial (fun H' hy hK => o_mv rfl) ?_
      first | refine xd_a hok 2 [(5, _)] (fun _ h => h) rfl rfl rfl (lc rfl ln) (by kernel_rfl) trivial (fun H' hy hK => o_fa0 fl34_11 rfl) ?_ | refine xd_a hok 2 [(5, _)] (fun _ h => h) rfl rfl rfl (lc rfl ln) (by kernel_rfl) trivial (fun H' hy hK => o_fa fl34_11 rfl) ?_
      refine xd_a hok 3 [(57, _), (56, _)] (fun _ h => h) rfl rfl rfl (lc rfl (lc rfl ln)) (by kernel_rfl) trivial (fun H' hy hK => o_ixa (j := 5) ea32 rfl rfl ⟨by omega, by omega⟩ rfl) ?_
      first | refine xd_a hok 4 [(58, _)] (fun _ h => h) rfl rfl rfl (lc rfl ln) (by kernel_rfl) trivial (fun H' hy hK => o_fa0 fl31_0 rfl) ?_ | refine xd_a hok 4 [(58, _)] (fun _ h => h) rfl rfl rfl (lc rfl ln) (by kernel_rfl) trivial (fun H' hy hK => o_fa fl31_0 rfl) ?_
      refine xd_a hok 5 [(7, _)] (fun _ h => h) rfl rfl rfl (lc rfl ln) (by kernel_rfl) trivial (fun H' hy hK => o_mv rfl) ?_
      first | refine xd_a hok 6 [(5, _)] (fun _ h => h) rfl rfl rfl (lc rfl ln) (by kernel_rfl) trivial (fun H' hy hK => o_fa0 fl34_11 rfl) ?_ | refine xd_a hok 6 [(5, _)] (fun _ h => h) rfl rfl rfl (lc rfl ln) (by kernel_rfl) trivial (fun H' hy hK => o_fa fl34_11 rfl) ?_
      refine xd_a hok 7 [(61, _), (60, _)] (fun _ h => h) rfl rfl rfl (lc rfl (lc rfl ln)) (by kernel_rfl) trivial (fun H' hy hK => o_ixa (j := 5) ea32 rfl rfl ⟨by omega, by omega⟩ rfl) ?_
      first | refine xd_a hok 8 [(62, _)] (fun _ h => h) rfl rfl rfl (lc rfl ln) (by kernel_rfl) trivial (fun H' hy hK => o_fa0 fl31_1 rfl) ?_ | refine xd_a hok 8 [(62, _)] (fun _ h => h) rfl rfl rfl (lc rfl ln) (by kernel_rfl) trivial (fun H' hy hK => o_fa fl31_1 rfl) ?_
      refine xd_step hok 9 [(59, _), (63, _)] rfl rfl (by kernel_rfl) (lc rfl (lc rfl ln)) (by kernel_rfl) trivial (o_bsl el80 ze67 (cells_one rfl) rfl rfl (.one rfl rfl rfl rfl (.one rfl rfl rfl rfl (.nil _)))) ?_
      rintro _ _ ⟨b64, hb64, rfl, rfl⟩
      refine ⟨(fun _ h => .tail _ (h)), (Ks.consN hb64 (Ks.consK (by simp) (Ks.segK (fun k hk => by simp [hk]) (Ks.consK (by simp) (Ks.consK (by simp) (Ks.consK (by simp) Ks.nil)))))), ?_⟩
      refine xd_fl hok 3 10 [(55, _), (64, _)] rfl rfl (by kernel_rfl) (by kernel_rfl) (lc rfl (lc rfl ln)) (by kernel_rfl) trivial (ot_in (l := [(0, _), (1, _), (2, _)]) kf29 rfl Try.func29 rfl Try.ntmps29 rfl (lac rfl (lac rfl (lac rfl lan))) ?_) (fun _ _ h => h)
      refine xw_seq (xw_region ?_)
      refine xq rfl trivial (o_mv rfl) ?_
      refine xq rfl trivial (o_len rfl Try.underlying80 rfl) ?_
      refine xq rfl trivial (o_mv rfl) ?_
      refine xo_nil (xq_then ?_)
      refine xw_block ?_
      refine xw_rounds 60 ?_
      refine xr_succ ?_
      refine xw_seq (xw_region ?_)
      refine xq rfl trivial (o_lss rfl rfl) ?_
      refine xo_nil (xq_then (xw_seq (xw_cond_t rfl rfl (xw_skip (xq_then (xw_seq ?_))))))
      refine xw_block ?_
      refine xw_seq (xw_region ?_)
      refine xq rfl trivial (o_ixs el80 rfl rfl ⟨by omega, by omega⟩ (rfl : _ = 0)) ?_
      first | refine xq rfl trivial (o_ldI rfl ts67 (List.Mem.head _) (by decide) rfl) ?_ | refine xq rfl trivial (o_ld rfl ts67 (List.Mem.head _) (by decide) rfl) ?_
      refine xq rfl trivial (o_as rfl) ?_
      refine xo_nil (xq_then (xw_region ?_))
      refine xq rfl trivial (o_mv rfl) ?_
      refine xq rfl trivial (o_mv rfl) ?_
      refine xq rfl trivial (o_mv rfl) ?_
      obtain ⟨ho71, h⟩ := h
      refine xo rfl trivial (OT.st (fun _ h => St.permI [1, 2, 0, 3, 4, 5] [[(b64, _)], [(b6, _)], Bs4, [(b6a, _)], [(b5, _)], [(b2, _)]] rfl h) (ot_callV (Cs := [[(b6, _)], Bs4]) (Rs := [[(b64, _)], [(b6a, _)], [(b5, _)], [(b2, _)]]) rfl kf28 rfl (fun w1 hw1 => take_c _ _ _ _ _ _ w1 hJs4 (St.hasC hw1) ho71) (fun _ _ _ h => h.1))) ?_
      rintro _ _ ⟨w1, _, rfl, hle, -, rfl, rfl⟩
      refine xo_st ((b6, BK 2 (cl [vs4, .int .i64 68]) 78) :: (Bs4 ++ ((b64, BK 2 _ 67) :: ((b6a, BK 1 (fun _ => .int .i64 (numF b0 13 1)) 3) :: ((b5, BK 28 (iv (updI (updI (updI (updI (updI (updI (updI (updI (updI (updI (updI (updI (updI (updI (updI (updI (updI (updI (updI (updI (updI (fun _ => 0) 0 (numF b0 0 1)) 1 (numF b0 1 1)) 2 (numF b0 2 1)) 3 (numF b0 3 4)) 4 (numF b0 7 4)) 5 (numF b0 11 1)) 6 (numF b0 12 1)) 8 (numF b0 14 1)) 9 (numF b0 15 4)) 10 (numF b0 19 4)) 11 (numF b0 23 1)) 12 (numF b0 24 4)) 13 (numF b0 28 4)) 14 (numF b0 32 4)) 15 (numF b0 36 4)) 16 (numF b0 40 4)) 17 (numF b0 44 4)) 18 (numF b0 48 4)) 19 (numF b0 52 4)) 20 (numF b0 56 4)) 21 (numF b0 60 4))) 34) :: ((b2, BK 28 (iv (fun _ => 0)) 34) :: ([]))))))) (fun _ h => h) ?_
      refine xq rfl trivial (o_mv rfl) ?_
      refine xq rfl trivial (o_ext rfl rfl) ?_
      refine xq rfl trivial (o_ext rfl rfl) ?_
      refine xq rfl trivial (o_nilp rfl) ?_
      refine xq0 trivial (o_stI rfl rfl ts3 (List.Mem.tail _ (List.mem_append_right _ (List.Mem.tail _ (List.Mem.tail _ (List.Mem.head _))))) (by omega) (.there _ _ _ _ _ (Upd.seg (.there _ _ _ _ _ (.there _ _ _ _ _ (.here _ _ _ _)))))) ?_
      refine xo_nil ?_
      refine xq_blk 1 ?_
      refine xq_then (xw_region ?_)
      refine xq rfl trivial (o_add rfl rfl rfl ⟨by omega, by omega⟩) ?_
      refine xq rfl trivial (o_mv rfl) ?_
      refine xo_nil ?_
      refine xq_rounds ?_
      refine xr_succ ?_
      refine xw_seq (xw_region ?_)
      refine xq rfl trivial (o_lss rfl rfl) ?_
      refine xo_nil (xq_then (xw_seq (xw_cond_t rfl rfl (xw_skip (xq_then (xw_seq ?_))))))
      refine xw_block ?_
      refine xw_seq (xw_region ?_)
      refine xq rfl trivial (o_ixs el80 rfl rfl ⟨by omega, by omega⟩ (rfl : _ = 1)) ?_
      first | refine xq rfl trivial (o_ldI rfl ts67 (List.Mem.tail _ (List.mem_append_right _ (List.Mem.head _))) (by decide) rfl) ?_ | refine xq rfl trivial (o_ld rfl ts67 (List.Mem.tail _ (List.mem_append_right _ (List.Mem.head _))) (by decide) rfl) ?_
      refine xq rfl trivial (o_as rfl) ?_
      refine xo_nil (xq_then (xw_region ?_))
      refine xq rfl trivial (o_mv rfl) ?_
      refine xq rfl trivial (o_mv rfl) ?_
      refine xq rfl trivial (o_mv rfl) ?_
      obtain ⟨ho74, h⟩ := h
      refine xo rfl trivial (OT.st (fun _ h => h) (ot_callV (Cs := [[(b6, _)], Bs4]) (Rs := [[(b64, _)], [(b6a, _)], [(b5, _)], [(b2, _)]]) rfl kf28 rfl (fun w1 hw1 => take_c _ _ _ _ _ _ w1 hJs4 (St.hasC hw1) ho74) (fun _ _ _ h => h.1))) ?_
      rintro _ _ ⟨w1, _, rfl, hle, -, rfl, rfl⟩
      refine xo_st ((b6, BK 2 (cl [vs4, .int .i64 72]) 78) :: (Bs4 ++ ((b64, BK 2 _ 67) :: ((b6a, BK 1 (fun _ => .int .i64 (numF b0 13 1)) 3) :: ((b5, BK 28 (iv (updI (updI (updI (updI (updI (updI (updI (updI (updI (updI (updI (updI (updI (updI (updI (updI (updI (updI (updI (updI (updI (updI (fun _ => 0) 0 (numF b0 0 1)) 1 (numF b0 1 1)) 2 (numF b0 2 1)) 3 (numF b0 3 4)) 4 (numF b0 7 4)) 5 (numF b0 11 1)) 6 (numF b0 12 1)) 8 (numF b0 14 1)) 9 (numF b0 15 4)) 10 (numF b0 19 4)) 11 (numF b0 23 1)) 12 (numF b0 24 4)) 13 (numF b0 28 4)) 14 (numF b0 32 4)) 15 (numF b0 36 4)) 16 (numF b0 40 4)) 17 (numF b0 44 4)) 18 (numF b0 48 4)) 19 (numF b0 52 4)) 20 (numF b0 56 4)) 21 (numF b0 60 4)) 22 (numF b0 64 4))) 34) :: ((b2, BK 28 (iv (fun _ => 0)) 34) :: ([]))))))) (fun _ h => h) ?_
      refine xq rfl trivial (o_mv rfl) ?_
      refine xq rfl trivial (o_ext rfl rfl) ?_
      refine xq rfl trivial (o_ext rfl rfl) ?_
      refine xq rfl trivial (o_nilp rfl) ?_
      refine xq0 trivial (o_stI rfl rfl ts3 (List.Mem.tail _ (List.mem_append_right _ (List.Mem.tail _ (List.Mem.tail _ (List.Mem.head _))))) (by omega) (.there _ _ _ _ _ (Upd.seg (.there _ _ _ _ _ (.there _ _ _ _ _ (.here _ _ _ _)))))) ?_
      refine xo_nil ?_
      refine xq_blk 1 ?_
      refine xq_then (xw_region ?_)
      refine xq rfl trivial (o_add rfl rfl rfl ⟨by omega, by omega⟩) ?_
      refine xq rfl trivial (o_mv rfl) ?_
      refine xo_nil ?_
      refine xq_rounds ?_
      refine xr_succ ?_
      refine xw_seq (xw_region ?_)
      refine xq rfl trivial (o_lss rfl rfl) ?_
      refine xo_nil (xq_then (xw_seq (xw_cond_f rfl rfl (xw_exit (xq_then_exit (xq_then_exit ?_))))))
      refine xq_blk_eq ?_
      refine con_ret0 (.inr rfl) Try.results29  _ (fun _ h => h) (?_)
      refine ⟨(Ks.consK (by simp) (Ks.segK (fun k hk => by simp [hk]) (Ks.consN hb64 (Ks.consK (by simp) (Ks.consK (by simp) (Ks.consK (by simp) Ks.nil)))))), ?_⟩
      refine xd_end hok (by kernel_rfl) ?_
      refine xq_blk 2 ?_
      refine xq_then (xw_region ?_)
      refine xq rfl trivial (o_add rfl rfl rfl ⟨by omega, by omega⟩) ?_
      refine xq rfl trivial (o_mv rfl) ?_
      refine xo_nil ?_
      refine xq_st _ (Kp.st (Kp.keep (Kp.segKeep (Kp.new hb64 (Kp.keep (Kp.keep (Kp.keep Kp.nil))))))) ?_
      refine xq_rounds ?_
      refine xr_succ ?_
      refine xw_seq (xw_region ?_)
      refine xq rfl trivial (o_lss rfl rfl) ?_
      refine xo_nil (xq_then (xw_seq (xw_cond_t rfl rfl (xw_skip (xq_then (xw_seq ?_))))))
      refine xw_block ?_
      refine xw_seq (xw_region ?_)
      refine xq rfl trivial (o_mv rfl) ?_
      refine xq rfl trivial (o_as rfl) ?_
      refine xo_nil (xq_then ?_)
      refine xd_start (by kernel_rfl) (by kernel_rfl) (fun hok => ?_)
      refine xd_a hok 0 [(4, _)] (fun _ h => absurd h List.not_mem_nil) rfl rfl rfl (lc rfl ln) (by kernel_rfl) trivial (fun H' hy hK => o_mv rfl) ?_
      refine xd_a hok 1 [(7, _)] (fun _ h => h) rfl rfl rfl (lc rfl ln) (by kernel_rfl) trivial (fun H' hy hK => o_mv rfl) ?_
      first | refine xd_a hok 2 [(5, _)] (fun _ h => h) rfl rfl rfl (lc rfl ln) (by kernel_rfl) trivial (fun H' hy hK => o_fa0 fl34_11 rfl) ?_ | refine xd_a hok 2 [(5, _)] (fun _ h => h) rfl rfl rfl (lc rfl ln) (by kernel_rfl) trivial (fun H' hy hK => o_fa fl34_11 rfl) ?_
      refine xd_a hok 3 [(57, _), (56, _)] (fun _ h => h) rfl rfl rfl (lc rfl (lc rfl ln)) (by kernel_rfl) trivial (fun H' hy hK => o_ixa (j := 6) ea32 rfl rfl ⟨by omega, by omega⟩ rfl) ?_
      first | refine xd_a hok 4 [(58, _)] (fun _ h => h) rfl rfl rfl (lc rfl ln) (by kernel_rfl) trivial (fun H' hy hK => o_fa0 fl31_0 rfl) ?_ | refine xd_a hok 4 [(58, _)] (fun _ h => h) rfl rfl rfl (lc rfl ln) (by kernel_rfl) trivial (fun H' hy hK => o_fa fl31_0 rfl) ?_
      refine xd_a hok 5 [(7, _)] (fun _ h => h) rfl rfl rfl (lc rfl ln) (by kernel_rfl) trivial (fun H' hy hK => o_mv rfl) ?_
      first | refine xd_a hok 6 [(5, _)] (fun _ h => h) rfl rfl rfl (lc rfl ln) (by kernel_rfl) trivial (fun H' hy hK => o_fa0 fl34_11 rfl) ?_ | refine xd_a hok 6 [(5, _)] (fun _ h => h) rfl rfl rfl (lc rfl ln) (by kernel_rfl) trivial (fun H' hy hK => o_fa fl34_11 rfl) ?_
      refine xd_a hok 7 [(61, _), (60, _)] (fun _ h => h) rfl rfl rfl (lc rfl (lc rfl ln)) (by kernel_rfl) trivial (fun H' hy hK => o_ixa (j := 6) ea32 rfl rfl ⟨by omega, by omega⟩ rfl) ?_
      first | refine xd_a hok 8 [(62, _)] (fun _ h => h) rfl rfl rfl (lc rfl ln) (by kernel_rfl) trivial (fun H' hy hK => o_fa0 fl31_1 rfl) ?_ | refine xd_a hok 8 [(62, _)] (fun _ h => h) rfl rfl rfl (lc rfl ln) (by kernel_rfl) trivial (fun H' hy hK => o_fa fl31_1 rfl) ?_
      refine xd_step hok 9 [(59, _), (63, _)] rfl rfl (by kernel_rfl) (lc rfl (lc rfl ln)) (by kernel_rfl) trivial (o_bsl el80 ze67 (cells_one rfl) rfl rfl (.one rfl rfl rfl rfl (.one rfl rfl rfl rfl (.nil _)))) ?_
      rintro _ _ ⟨b64, hb64, rfl, rfl⟩
      refine ⟨(fun _ h => .tail _ (h)), (Ks.consN hb64 (Ks.consK (by simp) (Ks.segK (fun k hk => by simp [hk]) (Ks.consK (by simp) (Ks.consK (by simp) (Ks.consK (by simp) Ks.nil)))))), ?_⟩
      refine xd_fl hok 3 10 [(55, _), (64, _)] rfl rfl (by kernel_rfl) (by kernel_rfl) (lc rfl (lc rfl ln)) (by kernel_rfl) trivial (ot_in (l := [(0, _), (1, _), (2, _)]) kf29 rfl Try.func29 rfl Try.ntmps29 rfl (lac rfl (lac rfl (lac rfl lan))) ?_) (fun _ _ h => h)
      refine xw_seq (xw_region ?_)
      refine xq rfl trivial (o_mv rfl) ?_
      refine xq rfl trivial (o_len rfl Try.underlying80 rfl) ?_
      refine xq rfl trivial (o_mv rfl) ?_
      refine xo_nil (xq_then ?_)
      refine xw_block ?_
      refine xw_rounds 60 ?_
      refine xr_succ ?_
      refine xw_seq (xw_region ?_)
      refine xq rfl trivial (o_lss rfl rfl) ?_
      refine xo_nil (xq_then (xw_seq (xw_cond_t rfl rfl (xw_skip (xq_then (xw_seq ?_))))))
      refine xw_block ?_
      refine xw_seq (xw_region ?_)
      refine xq rfl trivial (o_ixs el80 rfl rfl ⟨by omega, by omega⟩ (rfl : _ = 0)) ?_
      first | refine xq rfl trivial (o_ldI rfl ts67 (List.Mem.head _) (by decide) rfl) ?_ | refine xq rfl trivial (o_ld rfl ts67 (List.Mem.head _) (by decide) rfl) ?_
      refine xq rfl trivial (o_as rfl) ?_
      refine xo_nil (xq_then (xw_region ?_))
      refine xq rfl trivial (o_mv rfl) ?_
      refine xq rfl trivial (o_mv rfl) ?_
      refine xq rfl trivial (o_mv rfl) ?_
      obtain ⟨ho77, h⟩ := h
      refine xo rfl trivial (OT.st (fun _ h => St.permI [1, 2, 0, 3, 4, 5] [[(b64, _)], [(b6, _)], Bs4, [(b6a, _)], [(b5, _)], [(b2, _)]] rfl h) (ot_callV (Cs := [[(b6, _)], Bs4]) (Rs := [[(b64, _)], [(b6a, _)], [(b5, _)], [(b2, _)]]) rfl kf28 rfl (fun w1 hw1 => take_c _ _ _ _ _ _ w1 hJs4 (St.hasC hw1) ho77) (fun _ _ _ h => h.1))) ?_
      rintro _ _ ⟨w1, _, rfl, hle, -, rfl, rfl⟩
      refine xo_st ((b6, BK 2 (cl [vs4, .int .i64 76]) 78) :: (Bs4 ++ ((b64, BK 2 _ 67) :: ((b6a, BK 1 (fun _ => .int .i64 (numF b0 13 1)) 3) :: ((b5, BK 28 (iv (updI (updI (updI (updI (updI (updI (updI (updI (updI (updI (updI (updI (updI (updI (updI (updI (updI (updI (updI (updI (updI (updI (updI (fun _ => 0) 0 (numF b0 0 1)) 1 (numF b0 1 1)) 2 (numF b0 2 1)) 3 (numF b0 3 4)) 4 (numF b0 7 4)) 5 (numF b0 11 1)) 6 (numF b0 12 1)) 8 (numF b0 14 1)) 9 (numF b0 15 4)) 10 (numF b0 19 4)) 11 (numF b0 23 1)) 12 (numF b0 24 4)) 13 (numF b0 28 4)) 14 (numF b0 32 4)) 15 (numF b0 36 4)) 16 (numF b0 40 4)) 17 (numF b0 44 4)) 18 (numF b0 48 4)) 19 (numF b0 52 4)) 20 (numF b0 56 4)) 21 (numF b0 60 4)) 22 (numF b0 64 4)) 23 (numF b0 68 4))) 34) :: ((b2, BK 28 (iv (fun _ => 0)) 34) :: ([]))))))) (fun _ h => h) ?_
      refine xq rfl trivial (o_mv rfl) ?_
      refine xq rfl trivial (o_ext rfl rfl) ?_
      refine xq rfl trivial (o_ext rfl rfl) ?_
      refine xq rfl trivial (o_nilp rfl) ?_
      refine xq0 trivial (o_stI rfl rfl ts3 (List.Mem.tail _ (List.mem_append_right _ (List.Mem.tail _ (List.Mem.tail _ (List.Mem.head _))))) (by omega) (.there _ _ _ _ _ (Upd.seg (.there _ _ _ _ _ (.there _ _ _ _ _ (.here _ _ _ _)))))) ?_
      refine xo_nil ?_
      refine xq_blk 1 ?_
      refine xq_then (xw_region ?_)
      refine xq rfl trivial (o_add rfl rfl rfl ⟨by omega, by omega⟩) ?_
      refine xq rfl trivial (o_mv rfl) ?_
      refine xo_nil ?_
      refine xq_rounds ?_
      refine xr_succ ?_
      refine xw_seq (xw_region ?_)
      refine xq rfl trivial (o_lss rfl rfl) ?_
      refine xo_nil (xq_then (xw_seq (xw_cond_t rfl rfl (xw_skip (xq_then (xw_seq ?_))))))
      refine xw_block ?_
      refine xw_seq (xw_region ?_)
      refine xq rfl trivial (o_ixs el80 rfl rfl ⟨by omega, by omega⟩ (rfl : _ = 1)) ?_
      first | refine xq rfl trivial (o_ldI rfl ts67 (List.Mem.tail _ (List.mem_append_right _ (List.Mem.head _))) (by decide) rfl) ?_ | refine xq rfl trivial (o_ld rfl ts67 (List.Mem.tail _ (List.mem_append_right _ (List.Mem.head _))) (by decide) rfl) ?_
      refine xq rfl trivial (o_as rfl) ?_
      refine xo_nil (xq_then (xw_region ?_))
      refine xq rfl trivial (o_mv rfl) ?_
      refine xq rfl trivial (o_mv rfl) ?_
      refine xq rfl trivial (o_mv rfl) ?_
      obtain ⟨ho80, h⟩ := h
      refine xo rfl trivial (OT.st (fun _ h => h) (ot_callV (Cs := [[(b6, _)], Bs4]) (Rs := [[(b64, _)], [(b6a, _)], [(b5, _)], [(b2, _)]]) rfl kf28 rfl (fun w1 hw1 => take_c _ _ _ _ _ _ w1 hJs4 (St.hasC hw1) ho80) (fun _ _ _ h => h.1))) ?_
      rintro _ _ ⟨w1, _, rfl, hle, -, rfl, rfl⟩
      refine xo_st ((b6, BK 2 (cl [vs4, .int .i64 80]) 78) :: (Bs4 ++ ((b64, BK 2 _ 67) :: ((b6a, BK 1 (fun _ => .int .i64 (numF b0 13 1)) 3) :: ((b5, BK 28 (iv (updI (updI (updI (updI (updI (updI (updI (updI (updI (updI (updI (updI (updI (updI (updI (updI (updI (updI (updI (updI (updI (updI (updI (updI (fun _ => 0) 0 (numF b0 0 1)) 1 (numF b0 1 1)) 2 (numF b0 2 1)) 3 (numF b0 3 4)) 4 (numF b0 7 4)) 5 (numF b0 11 1)) 6 (numF b0 12 1)) 8 (numF b0 14 1)) 9 (numF b0 15 4)) 10 (numF b0 19 4)) 11 (numF b0 23 1)) 12 (numF b0 24 4)) 13 (numF b0 28 4)) 14 (numF b0 32 4)) 15 (numF b0 36 4)) 16 (numF b0 40 4)) 17 (numF b0 44 4)) 18 (numF b0 48 4)) 19 (numF b0 52 4)) 20 (numF b0 56 4)) 21 (numF b0 60 4)) 22 (numF b0 64 4)) 23 (numF b0 68 4)) 24 (numF b0 72 4))) 34) :: ((b2, BK 28 (iv (fun _ => 0)) 34) :: ([]))))))) (fun _ h => h) ?_
      refine xq rfl trivial (o_mv rfl) ?_
      refine xq rfl trivial (o_ext rfl rfl) ?_
      refine xq rfl trivial (o_ext rfl rfl) ?_
      refine xq rfl trivial (o_nilp rfl) ?_
      refine xq0 trivial (o_stI rfl rfl ts3 (List.Mem.tail _ (List.mem_append_right _ (List.Mem.tail _ (List.Mem.tail _ (List.Mem.head _))))) (by omega) (.there _ _ _ _ _ (Upd.seg (.there _ _ _ _ _ (.there _ _ _ _ _ (.here _ _ _ _)))))) ?_
      refine xo_nil ?_
      refine xq_blk 1 ?_
      refine xq_then (xw_region ?_)
      refine xq rfl trivial (o_add rfl rfl rfl ⟨by omega, by omega⟩) ?_
      refine xq rfl trivial (o_mv rfl) ?_
      refine xo_nil ?_
      refine xq_rounds ?_
      refine xr_succ ?_
      refine xw_seq (xw_region ?_)
      refine xq rfl trivial (o_lss rfl rfl) ?_
      refine xo_nil (xq_then (xw_seq (xw_cond_f rfl rfl (xw_exit (xq_then_exit (xq_then_exit ?_))))))
      refine xq_blk_eq ?_
      refine con_ret0 (.inr rfl) Try.results29  _ (fun _ h => h) (?_)
      refine ⟨(Ks.consK (by simp) (Ks.segK (fun k hk => by simp [hk]) (Ks.consN hb64 (Ks.consK (by simp) (Ks.consK (by simp) (Ks.consK (by simp) Ks.nil)))))), ?_⟩
      refine xd_end hok (by kernel_rfl) ?_
      refine xq_blk 2 ?_
      refine xq_then (xw_region ?_)
      refine xq rfl trivial (o_add rfl rfl rfl ⟨by omega, by omega⟩) ?_
      refine xq rfl trivial (o_mv rfl) ?_
      refine xo_nil ?_
      refine xq_st _ (Kp.st (Kp.keep (Kp.segKeep (Kp.new hb64 (Kp.keep (Kp.keep (Kp.keep Kp.nil))))))) ?_
      refine xq_rounds ?_
      refine xr_succ ?_
      refine xw_seq (xw_region ?_)
      refine xq rfl trivial (o_lss rfl rfl) ?_
      refine xo_nil (xq_then (xw_seq (xw_cond_t rfl rfl (xw_skip (xq_then (xw_seq ?_))))))
      refine xw_block ?_
      refine xw_seq (xw_region ?_)
      refine xq rfl trivial (o_mv rfl) ?_
      refine xq rfl trivial (o_as rfl) ?_
      refine xo_nil (xq_then ?_)
      refine xd_start (by kernel_rfl) (by kernel_rfl) (fun hok => ?_)
      refine xd_a hok 0 [(4, _)] (fun _ h => absurd h List.not_mem_nil) rfl rfl rfl (lc rfl ln) (by kernel_rfl) trivial (fun H' hy hK => o_mv rfl) ?_
      refine xd_a hok 1 [(7, _)] (fun _ h => h) rfl rfl rfl (lc rfl ln) (by kernel_rfl) trivial (fun H' hy hK => o_mv rfl) ?_
      first | refine xd_a hok 2 [(5, _)] (fun _ h => h) rfl rfl rfl (lc rfl ln) (by kernel_rfl) trivial (fun H' hy hK => o_fa0 fl34_11 rfl) ?_ | refine xd_a hok 2 [(5, _)] (fun _ h => h) rfl rfl rfl (lc rfl ln) (by kernel_rfl) trivial (fun H' hy hK => o_fa fl34_11 rfl) ?_
      refine xd_a hok 3 [(57, _), (56, _)] (fun _ h => h) rfl rfl rfl (lc rfl (lc rfl ln)) (by kernel_rfl) trivial (fun H' hy hK => o_ixa (j := 7) ea32 rfl rfl ⟨by omega, by omega⟩ rfl) ?_
      first | refine xd_a hok 4 [(58, _)] (fun _ h => h) rfl rfl rfl (lc rfl ln) (by kernel_rfl) trivial (fun H' hy hK => o_fa0 fl31_0 rfl) ?_ | refine xd_a hok 4 [(58, _)] (fun _ h => h) rfl rfl rfl (lc rfl ln) (by kernel_rfl) trivial (fun H' hy hK => o_fa fl31_0 rfl) ?_
      refine xd_a hok 5 [(7, _)] (fun _ h => h) rfl rfl rfl (lc rfl ln) (by kernel_rfl) trivial (fun H' hy hK => o_mv rfl) ?_
      first | refine xd_a hok 6 [(5, _)] (fun _ h => h) rfl rfl rfl (lc rfl ln) (by kernel_rfl) trivial (fun H' hy hK => o_fa0 fl34_11 rfl) ?_ | refine xd_a hok 6 [(5, _)] (fun _ h => h) rfl rfl rfl (lc rfl ln) (by kernel_rfl) trivial (fun H' hy hK => o_fa fl34_11 rfl) ?_
      refine xd_a hok 7 [(61, _), (60, _)] (fun _ h => h) rfl rfl rfl (lc rfl (lc rfl ln)) (by kernel_rfl) trivial (fun H' hy hK => o_ixa (j := 7) ea32 rfl rfl ⟨by omega, by omega⟩ rfl) ?_
      first | refine xd_a hok 8 [(62, _)] (fun _ h => h) rfl rfl rfl (lc rfl ln) (by kernel_rfl) trivial (fun H' hy hK => o_fa0 fl31_1 rfl) ?_ | refine xd_a hok 8 [(62, _)] (fun _ h => h) rfl rfl rfl (lc rfl ln) (by kernel_rfl) trivial (fun H' hy hK => o_fa fl31_1 rfl) ?_
      refine xd_step hok 9 [(59, _), (63, _)] rfl rfl (by kernel_rfl) (lc rfl (lc rfl ln)) (by kernel_rfl) trivial (o_bsl el80 ze67 (cells_one rfl) rfl rfl (.one rfl rfl rfl rfl (.one rfl rfl rfl rfl (.nil _)))) ?_
      rintro _ _ ⟨b64, hb64, rfl, rfl⟩
      refine ⟨(fun _ h => .tail _ (h)), (Ks.consN hb64 (Ks.consK (by simp) (Ks.segK (fun k hk => by simp [hk]) (Ks.consK (by simp) (Ks.consK (by simp) (Ks.consK (by simp) Ks.nil)))))), ?_⟩
      refine xd_fl hok 3 10 [(55, _), (64, _)] rfl rfl (by kernel_rfl) (by kernel_rfl) (lc rfl (lc rfl ln)) (by kernel_rfl) trivial (ot_in (l := [(0, _), (1, _), (2, _)]) kf29 rfl Try.func29 rfl Try.ntmps29 rfl (lac rfl (lac rfl (lac rfl lan))) ?_) (fun _ _ h => h)
      refine xw_seq (xw_region ?_)
      refine xq rfl trivial (o_mv rfl) ?_
      refine xq rfl trivial (o_len rfl Try.underlying80 rfl) ?_
      refine xq rfl trivial (o_mv rfl) ?_
      refine xo_nil (xq_then ?_)
      refine xw_block ?_
      refine xw_rounds 60 ?_
      refine xr_succ ?_
      refine xw_seq (xw_region ?_)
      refine xq rfl trivial (o_lss rfl rfl) ?_
      refine xo_nil (xq_then (xw_seq (xw_cond_t rfl rfl (xw_skip (xq_then (xw_seq ?_))))))
      refine xw_block ?_
      refine xw_seq (xw_region ?_)
      refine xq rfl trivial (o_ixs el80 rfl rfl ⟨by omega, by omega⟩ (rfl : _ = 0)) ?_
      first | refine xq rfl trivial (o_ldI rfl ts67 (List.Mem.head _) (by decide) rfl) ?_ | refine xq rfl trivial (o_ld rfl ts67 (List.Mem.head _) (by decide) rfl) ?_
      refine xq rfl trivial (o_as rfl) ?_
      refine xo_nil (xq_then (xw_region ?_))
      refine xq rfl trivial (o_mv rfl) ?_
      refine xq rfl trivial (o_mv rfl) ?_
      refine xq rfl trivial (o_mv rfl) ?_
      obtain ⟨ho83, h⟩ := h
      refine xo rfl trivial (OT.st (fun _ h => St.permI [1, 2, 0, 3, 4, 5] [[(b64, _)], [(b6, _)], Bs4, [(b6a, _)], [(b5, _)], [(b2, _)]] rfl h) (ot_callV (Cs := [[(b6, _)], Bs4]) (Rs := [[(b64, _)], [(b6a, _)], [(b5, _)], [(b2, _)]]) rfl kf28 rfl (fun w1 hw1 => take_c _ _ _ _ _ _ w1 hJs4 (St.hasC hw1) ho83) (fun _ _ _ h => h.1))) ?_
      rintro _ _ ⟨w1, _, rfl, hle, -, rfl, rfl⟩
      refine xo_st ((b6, BK 2 (cl [vs4, .int .i64 84]) 78) :: (Bs4 ++ ((b64, BK 2 _ 67) :: ((b6a, BK 1 (fun _ => .int .i64 (numF b0 13 1)) 3) :: ((b5, BK 28 (iv (updI (updI (updI (updI (updI (updI (updI (updI (updI (updI (updI (updI (updI (updI (updI (updI (updI (updI (updI (updI (updI (updI (updI (updI (updI (fun _ => 0) 0 (numF b0 0 1)) 1 (numF b0 1 1)) 2 (numF b0 2 1)) 3 (numF b0 3 4)) 4 (numF b0 7 4)) 5 (numF b0 11 1)) 6 (numF b0 12 1)) 8 (numF b0 14 1)) 9 (numF b0 15 4)) 10 (numF b0 19 4)) 11 (numF b0 23 1)) 12 (numF b0 24 4)) 13 (numF b0 28 4)) 14 (numF b0 32 4)) 15 (numF b0 36 4)) 16 (numF b0 40 4)) 17 (numF b0 44 4)) 18 (numF b0 48 4)) 19 (numF b0 52 4)) 20 (numF b0 56 4)) 21 (numF b0 60 4)) 22 (numF b0 64 4)) 23 (numF b0 68 4)) 24 (numF b0 72 4)) 25 (numF b0 76 4))) 34) :: ((b2, BK 28 (iv (fun _ => 0)) 34) :: ([]))))))) (fun _ h => h) ?_
      refine xq rfl trivial (o_mv rfl) ?_
      refine xq rfl trivial (o_ext rfl rfl) ?_
      refine xq rfl trivial (o_ext rfl rfl) ?_
      refine xq rfl trivial (o_nilp rfl) ?_
      refine xq0 trivial (o_stI rfl rfl ts3 (List.Mem.tail _ (List.mem_append_right _ (List.Mem.tail _ (List.Mem.tail _ (List.Mem.head _))))) (by omega) (.there _ _ _ _ _ (Upd.seg (.there _ _ _ _ _ (.there _ _ _ _ _ (.here _ _ _ _)))))) ?_
      refine xo_nil ?_
      refine xq_blk 1 ?_
      refine xq_then (xw_region ?_)
      refine xq rfl trivial (o_add rfl rfl rfl ⟨by omega, by omega⟩) ?_
      refine xq rfl trivial (o_mv rfl) ?_
      refine xo_nil ?_
      refine xq_rounds ?_
      refine xr_succ ?_
      refine xw_seq (xw_region ?_)
      refine xq rfl trivial (o_lss rfl rfl) ?_
      refine xo_nil (xq_then (xw_seq (xw_cond_t rfl rfl (xw_skip (xq_then (xw_seq ?_))))))
      refine xw_block ?_
      refine xw_seq (xw_region ?_)
      refine xq rfl trivial (o_ixs el80 rfl rfl ⟨by omega, by omega⟩ (rfl : _ = 1)) ?_
      first | refine xq rfl trivial (o_ldI rfl ts67 (List.Mem.tail _ (List.mem_append_right _ (List.Mem.head _))) (by decide) rfl) ?_ | refine xq rfl trivial (o_ld rfl ts67 (List.Mem.tail _ (List.mem_append_right _ (List.Mem.head _))) (by decide) rfl) ?_
      refine xq rfl trivial (o_as rfl) ?_
      refine xo_nil (xq_then (xw_region ?_))
      refine xq rfl trivial (o_mv rfl) ?_
      refine xq rfl trivial (o_mv rfl) ?_
      refine xq rfl trivial (o_mv rfl) ?_
      obtain ⟨ho86, h⟩ := h
      refine xo rfl trivial (OT.st (fun _ h => h) (ot_callV (Cs := [[(b6, _)], Bs4]) (Rs := [[(b64, _)], [(b6a, _)], [(b5, _)], [(b2, _)]]) rfl kf28 rfl (fun w1 hw1 => take_c _ _ _ _ _ _ w1 hJs4 (St.hasC hw1) ho86) (fun _ _ _ h => h.1))) ?_
      rintro _ _ ⟨w1, _, rfl, hle, -, rfl, rfl⟩
      refine xo_st ((b6, BK 2 (cl [vs4, .int .i64 88]) 78) :: (Bs4 ++ ((b64, BK 2 _ 67) :: ((b6a, BK 1 (fun _ => .int .i64 (numF b0 13 1)) 3) :: ((b5, BK 28 (iv (updI (updI (updI (updI (updI (updI (updI (updI (updI (updI (updI (updI (updI (updI (updI (updI (updI (updI (updI (updI (updI (updI (updI (updI (updI (updI (fun _ => 0) 0 (numF b0 0 1)) 1 (numF b0 1 1)) 2 (numF b0 2 1)) 3 (numF b0 3 4)) 4 (numF b0 7 4)) 5 (numF b0 11 1)) 6 (numF b0 12 1)) 8 (numF b0 14 1)) 9 (numF b0 15 4)) 10 (numF b0 19 4)) 11 (numF b0 23 1)) 12 (numF b0 24 4)) 13 (numF b0 28 4)) 14 (numF b0 32 4)) 15 (numF b0 36 4)) 16 (numF b0 40 4)) 17 (numF b0 44 4)) 18 (numF b0 48 4)) 19 (numF b0 52 4)) 20 (numF b0 56 4)) 21 (numF b0 60 4)) 22 (numF b0 64 4)) 23 (numF b0 68 4)) 24 (numF b0 72 4)) 25 (numF b0 76 4)) 26 (numF b0 80 4))) 34) :: ((b2, BK 28 (iv (fun _ => 0)) 34) :: ([]))))))) (fun _ h => h) ?_
      refine xq rfl trivial (o_mv rfl) ?_
      refine xq rfl trivial (o_ext rfl rfl) ?_
      refine xq rfl trivial (o_ext rfl rfl) ?_
      refine xq rfl trivial (o_nilp rfl) ?_
      refine xq0 trivial (o_stI rfl rfl ts3 (List.Mem.tail _ (List.mem_append_right _ (List.Mem.tail _ (List.Mem.tail _ (List.Mem.head _))))) (by omega) (.there _ _ _ _ _ (Upd.seg (.there _ _ _ _ _ (.there _ _ _ _ _ (.here _ _ _ _)))))) ?_
      refine xo_nil ?_
      refine xq_blk 1 ?_
      refine xq_then (xw_region ?_)
      refine xq rfl trivial (o_add rfl rfl rfl ⟨by omega, by omega⟩) ?_
      refine xq rfl trivial (o_mv rfl) ?_
      refine xo_nil ?_
      refine xq_rounds ?_
      refine xr_succ ?_
      refine xw_seq (xw_region ?_)
      refine xq rfl trivial (o_lss rfl rfl) ?_
      refine xo_nil (xq_then (xw_seq (xw_cond_f rfl rfl (xw_exit (xq_then_exit (xq_then_exit ?_))))))
      refine xq_blk_eq ?_
      refine con_ret0 (.inr rfl) Try.results29  _ (fun _ h => h) (?_)
      refine ⟨(Ks.consK (by simp) (Ks.segK (fun k hk => by simp [hk]) (Ks.consN hb64 (Ks.consK (by simp) (Ks.consK (by simp) (Ks.consK (by simp) Ks.nil)))))), ?_⟩
      refine xd_end hok (by kernel_rfl) ?_
      refine xq_blk 2 ?_
      refine xq_then (xw_region ?_)
      refine xq rfl trivial (o_add rfl rfl rfl ⟨by omega, by omega⟩) ?_
      refine xq rfl trivial (o_mv rfl) ?_
      refine xo_nil ?_
      refine xq_st _ (Kp.st (Kp.keep (Kp.segKeep (Kp.new hb64 (Kp.keep (Kp.keep (Kp.keep Kp.nil))))))) ?_
      refine xq_rounds ?_
      refine xr_succ ?_
      refine xw_seq (xw_region ?_)
      refine xq rfl trivial (o_lss rfl rfl) ?_
      refine xo_nil (xq_then (xw_seq (xw_cond_f rfl rfl (xw_exit (xq_then_exit (xq_then_exit ?_))))))
      refine xq_blk_eq ?_
      refine xq_then (xw_seq (xw_region ?_))
      refine xq rfl trivial (o_ldV rfl ts3 (List.Mem.tail _ (List.mem_append_right _ (List.Mem.head _)))) ?_
      first | refine xq rfl trivial (o_fa0 fl34_6 rfl) ?_ | refine xq rfl trivial (o_fa fl34_6 rfl) ?_
      refine xq0 trivial (o_stI rfl rfl ts29 (List.Mem.tail _ (List.mem_append_right _ (List.Mem.tail _ (List.Mem.head _)))) (by omega) (.there _ _ _ _ _ (Upd.seg (.there _ _ _ _ _ (.here _ _ _ _))))) ?_
      refine xo_nil (xq_then (xw_seq (xw_seq (xw_region ?_))))
      refine xq rfl trivial (o_ldW rfl ts34 (List.Mem.tail _ (List.mem_append_right _ (List.Mem.tail _ (List.Mem.head _))))) ?_
      refine xcallq rfl trivial kf13 rfl (fun w1 hw1 => msgOk_c _ w1) ?_
      refine xq rfl trivial (o_as rfl) ?_
      refine xo_nil (xq_then (xw_seq (xw_region ?_)))
      refine xq rfl trivial (o_mv rfl) ?_
      refine xq rfl trivial (o_neE Try.underlying37 rfl (fun _ => rfl) rfl rfl) ?_
      refine xo_nil (xq_then ?_)
      refine xw_bool 72 rfl (fun hc89 => ?_) (fun hc89 => ?_)
      · have hq89 : (decide ((msgOk_F (updI (updI (updI (updI (updI (updI (updI (updI (updI (updI (updI (updI (updI (updI (updI (updI (updI (updI (updI (updI (updI (updI (updI (updI (updI (updI (updI (updI (fun _ => 0) 0 (numF b0 0 1)) 1 (numF b0 1 1)) 2 (numF b0 2 1)) 3 (numF b0 3 4)) 4 (numF b0 7 4)) 5 (numF b0 11 1)) 6 (numF b0 12 1)) 8 (numF b0 14 1)) 9 (numF b0 15 4)) 10 (numF b0 19 4)) 11 (numF b0 23 1)) 12 (numF b0 24 4)) 13 (numF b0 28 4)) 14 (numF b0 32 4)) 15 (numF b0 36 4)) 16 (numF b0 40 4)) 17 (numF b0 44 4)) 18 (numF b0 48 4)) 19 (numF b0 52 4)) 20 (numF b0 56 4)) 21 (numF b0 60 4)) 22 (numF b0 64 4)) 23 (numF b0 68 4)) 24 (numF b0 72 4)) 25 (numF b0 76 4)) 26 (numF b0 80 4)) 27 (numF b0 84 4)) 7 (numF b0 13 1))) = 0)) = false := (bnT hc89)
        have hp89 : ¬ ((msgOk_F (updI (updI (updI (updI (updI (updI (updI (updI (updI (updI (updI (updI (updI (updI (updI (updI (updI (updI (updI (updI (updI (updI (updI (updI (updI (updI (updI (updI (fun _ => 0) 0 (numF b0 0 1)) 1 (numF b0 1 1)) 2 (numF b0 2 1)) 3 (numF b0 3 4)) 4 (numF b0 7 4)) 5 (numF b0 11 1)) 6 (numF b0 12 1)) 8 (numF b0 14 1)) 9 (numF b0 15 4)) 10 (numF b0 19 4)) 11 (numF b0 23 1)) 12 (numF b0 24 4)) 13 (numF b0 28 4)) 14 (numF b0 32 4)) 15 (numF b0 36 4)) 16 (numF b0 40 4)) 17 (numF b0 44 4)) 18 (numF b0 48 4)) 19 (numF b0 52 4)) 20 (numF b0 56 4)) 21 (numF b0 60 4)) 22 (numF b0 64 4)) 23 (numF b0 68 4)) 24 (numF b0 72 4)) 25 (numF b0 76 4)) 26 (numF b0 80 4)) 27 (numF b0 84 4)) 7 (numF b0 13 1))) = 0) := of_decide_eq_false hq89
        rw [if_neg hp89] at h
        refine xw_cond_t rfl rfl (xw_seq (xw_region ?_))
        refine xq rfl trivial (o_build fk34 ze34 (.nil _)) ?_
        refine xq rfl trivial (o_mv rfl) ?_
        refine xq0 trivial (o_stWI rfl rfl ts34 (List.Mem.tail _ (List.mem_append_right _ (List.Mem.tail _ (List.Mem.tail _ (List.Mem.head _))))) (.there _ _ _ _ _ (Upd.seg (.there _ _ _ _ _ (.there _ _ _ _ _ (.here _ _ _ _)))))) ?_
        refine xq rfl trivial (o_as rfl) ?_
        refine xo_nil (xq_then (xw_ret (xq_then_ret ?_)))
        subst h
        exact con_retN (.inl rfl) (l := [.cell 2 34, .tmp 3]) Try.results16 (.cell rfl ts34 (List.Mem.tail _ (List.mem_append_right _ (List.Mem.tail _ (List.Mem.tail _ (List.Mem.head _))))) (.tmp rfl .nil)) rfl [] (Kp.st (Kp.new hb6 (Kp.segNew (Cov.fresh hcBs4) (Kp.new hb6a (Kp.new hb5 (Kp.new hb2 Kp.nil)))))) (⟨rfl, rfl⟩)
      · have hq89 : (decide ((msgOk_F (updI (updI (updI (updI (updI (updI (updI (updI (updI (updI (updI (updI (updI (updI (updI (updI (updI (updI (updI (updI (updI (updI (updI (updI (updI (updI (updI (updI (fun _ => 0) 0 (numF b0 0 1)) 1 (numF b0 1 1)) 2 (numF b0 2 1)) 3 (numF b0 3 4)) 4 (numF b0 7 4)) 5 (numF b0 11 1)) 6 (numF b0 12 1)) 8 (numF b0 14 1)) 9 (numF b0 15 4)) 10 (numF b0 19 4)) 11 (numF b0 23 1)) 12 (numF b0 24 4)) 13 (numF b0 28 4)) 14 (numF b0 32 4)) 15 (numF b0 36 4)) 16 (numF b0 40 4)) 17 (numF b0 44 4)) 18 (numF b0 48 4)) 19 (numF b0 52 4)) 20 (numF b0 56 4)) 21 (numF b0 60 4)) 22 (numF b0 64 4)) 23 (numF b0 68 4)) 24 (numF b0 72 4)) 25 (numF b0 76 4)) 26 (numF b0 80 4)) 27 (numF b0 84 4)) 7 (numF b0 13 1))) = 0)) = true := (bnF hc89)
        have hp89 : (msgOk_F (updI (updI (updI (updI (updI (updI (updI (updI (updI (updI (updI (updI (updI (updI (updI (updI (updI (updI (updI (updI (updI (updI (updI (updI (updI (updI (updI (updI (fun _ => 0) 0 (numF b0 0 1)) 1 (numF b0 1 1)) 2 (numF b0 2 1)) 3 (numF b0 3 4)) 4 (numF b0 7 4)) 5 (numF b0 11 1)) 6 (numF b0 12 1)) 8 (numF b0 14 1)) 9 (numF b0 15 4)) 10 (numF b0 19 4)) 11 (numF b0 23 1)) 12 (numF b0 24 4)) 13 (numF b0 28 4)) 14 (numF b0 32 4)) 15 (numF b0 36 4)) 16 (numF b0 40 4)) 17 (numF b0 44 4)) 18 (numF b0 48 4)) 19 (numF b0 52 4)) 20 (numF b0 56 4)) 21 (numF b0 60 4)) 22 (numF b0 64 4)) 23 (numF b0 68 4)) 24 (numF b0 72 4)) 25 (numF b0 76 4)) 26 (numF b0 80 4)) 27 (numF b0 84 4)) 7 (numF b0 13 1))) = 0 := of_decide_eq_true hq89
        rw [if_pos hp89] at h
        refine xw_cond_f rfl rfl (xw_skip (xq_then (xw_seq (xw_region ?_))))
        refine xq rfl trivial (o_ldW rfl ts34 (List.Mem.tail _ (List.mem_append_right _ (List.Mem.tail _ (List.Mem.head _))))) ?_
        refine xq0 trivial (o_stWI rfl rfl ts34 (List.Mem.tail _ (List.mem_append_right _ (List.Mem.tail _ (List.Mem.tail _ (List.Mem.head _))))) (.there _ _ _ _ _ (Upd.seg (.there _ _ _ _ _ (.there _ _ _ _ _ (.here _ _ _ _)))))) ?_
        refine xq rfl trivial (o_as rfl) ?_
        refine xo_nil (xq_then (xw_ret ?_))
        subst h
        exact con_retN (.inl rfl) (l := [.cell 2 34, .tmp 3]) Try.results16 (.cell rfl ts34 (List.Mem.tail _ (List.mem_append_right _ (List.Mem.tail _ (List.Mem.tail _ (List.Mem.head _))))) (.tmp rfl .nil)) rfl [] (Kp.st (Kp.new hb6 (Kp.segNew (Cov.fresh hcBs4) (Kp.new hb6a (Kp.new hb5 (Kp.new hb2 Kp.nil)))))) (⟨rfl, rfl⟩)

theorem dcd_c (b0 : (List Int)) (v0 : Value) (w : World) (hs0 : SL w 1 u8c v0 b0) (hP : dcd_P b0) : Con Try.prog 16 #[v0] w (Is (.tuple #[AI 28 ((dcd_F b0).1), errV 59 ((dcd_F b0).2)]) []) :=
  dcd_con b0 v0 w hs0 _ (dcd_ok b0 hP)

end Go.Proofs.Ytmcohikcgdfhcaa
