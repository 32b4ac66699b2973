/- The code answers as the relations say. -/
import Derived.Test.YtdmibiefinhneaaTab
import Derived.Test.YtdmibiefinhneaaC10S
import Derived.Test.YtdmibiefinhneaaB10W
set_option maxHeartbeats 1000000
set_option linter.unusedVariables false
set_option linter.unusedSimpArgs false
set_option maxRecDepth 100000
namespace Go.Proofs.Ytdmibiefinhneaa
open Go Go.E

theorem nodesR_c (l0 : (List (Nat → Int))) (v0 : Value) (w : World) (hs0 : SL w 4 iv v0 l0) (hP : nodesR_P l0) : Con Try.prog 26 #[v0] w (fun v F => ∃ (u0 : Value) (C0 : GH), v = u0 ∧ F = (C0 ++ []) ∧ OJ 3 1 ic C0 u0 (nodesR_F l0) ∧ Cov w [] C0) :=
  nodesR_con l0 v0 w hs0 _ (nodesR_ok l0 hP)

theorem greach_c (l0 : (List (Nat → Int))) (from1 : Int) (v0 : Value) (w : World) (hs0 : SL w 4 iv v0 l0) (hP : greach_P l0 from1) : Con Try.prog 10 #[v0, .int .i64 from1] w (fun v F => ∃ (u0 : Value) (C0 : GH), v = u0 ∧ F = (C0 ++ []) ∧ OJ 3 1 ic C0 u0 (greach_F l0 from1) ∧ Cov w [] C0) :=
  greach_con l0 from1 v0 w hs0 _ (greach_ok l0 from1 hP)

theorem gfar_c (l0 : (List (Nat → Int))) (to1 : Int) (v0 : Value) (w : World) (hs0 : SL w 4 iv v0 l0) (hP : gfar_P l0 to1) : Con Try.prog 27 #[v0, .int .i64 to1] w (fun v F => ∃ (u0 : Value) (C0 : GH), v = u0 ∧ F = (C0 ++ []) ∧ MJ kI kI ieq C0 u0 (gfar_F l0 to1) ∧ Cov w [] C0) :=
  gfar_con l0 to1 v0 w hs0 _ (gfar_ok l0 to1 hP)

theorem reachR_c (l0 : (List (Nat → Int))) (from1 : Int) (v0 : Value) (w : World) (hs0 : SL w 4 iv v0 l0) (hP : reachR_P l0 from1) : Con Try.prog 11 #[v0, .int .i64 from1] w (fun v F => ∃ (u0 : Value) (C0 : GH), v = u0 ∧ F = (C0 ++ []) ∧ OJ 3 1 ic C0 u0 (reachR_F l0 from1) ∧ Cov w [] C0) :=
  reachR_con l0 from1 v0 w hs0 _ (reachR_ok l0 from1 hP)

theorem gcirc_con (l0 : (List (Nat → Int))) (v0 : Value) (w : World) (hs0 : SL w 4 iv v0 l0) (r : (List Int)) (h : gcirc_S l0 r) : Con Try.prog 12 #[v0] w (fun v F => ∃ (u0 : Value) (C0 : GH), v = u0 ∧ F = (C0 ++ []) ∧ OJ 3 1 ic C0 u0 r ∧ Cov w [] C0) := by
  unfold gcirc_S at h
  refine con_enter (n := 24) [(0, _)] Try.func12 rfl Try.ntmps12 rfl (lac rfl lan) ?_
  refine xw_seq (xw_region ?_)
  refine xq rfl trivial (o_as rfl) ?_
  refine xo_nil (xq_then (xw_seq (xw_region ?_)))
  refine xq rfl trivial (o_as rfl) ?_
  refine xo_nil (xq_then (xw_seq (xw_seq (xw_region ?_))))
  refine xq rfl trivial (o_mv rfl) ?_
  obtain ⟨ho1, h⟩ := h
  refine xcall rfl trivial kf24 rfl (fun w1 hw1 => gnodes_c _ _ w1 (hs0.keep hw1 Fr.nil) ho1) ?_
  rintro w1 vs2 _ hw1 ⟨_, Bs2, rfl, rfl, hJs2, hcBs2⟩
  refine ⟨_, Mg.news (Cov.fresh hcBs2) (.nil _), ?_⟩
  replace hcBs2 := Cov.base (w0 := w) hcBs2 hw1.size
  refine xq rfl trivial (o_lenL rfl Try.underlying25 rfl (OJ.val hJs2)) ?_
  refine xq rfl trivial (o_mv rfl) ?_
  refine xo_nil (xq_then ?_)
  refine xw_block ?_
  obtain ⟨out3, hx1, h⟩ := h
  refine xw_wh (fun s e H => match s with | (out3, x9) => ∃ (v3_1 : Value) (B3_1 : GH), e = [(0, v0), (3, v3_1), (7, vs2), (8, .int .i64 ((gnodes_F l0).length : Int)), (9, .int .i64 x9)] ∧ H = B3_1 ++ (Bs2 ++ ([])) ∧ OJ 3 1 ic B3_1 v3_1 out3 ∧ Cov w [] B3_1) (fun (out3 : (List Int)) ex e H => ∃ (v3_1o : Value) (B3_1o : GH), ex = .exit 0 ∧ e = [(3, v3_1o)] ∧ H = B3_1o ++ (Bs2 ++ ([])) ∧ OJ 3 1 ic B3_1o v3_1o out3 ∧ Cov w [] B3_1o) hx1 ⟨[(0, v0), (3, .slice none 0 0), (7, vs2), (8, .int .i64 ((gnodes_F l0).length : Int)), (9, .int .i64 0)], [] ++ (Bs2 ++ ([])), (lc rfl (lc rfl (lc rfl (lc rfl (lc rfl ln))))), fun _ h => h, ⟨_, [], rfl, rfl, OJ.nil, (Cov.refl _)⟩⟩ ?_ ?_
  · rintro ⟨out3, x9⟩ o _ _ ⟨v3_1, B3_1, rfl, rfl, hJ3_1, hcB3_1⟩ hb
    have h : gcirc_l1 l0 out3 x9 o := hb
    clear hb
    unfold gcirc_l1 at h
    refine xw_seq (xw_region ?_)
    refine xq rfl trivial (o_lss rfl rfl) ?_
    refine xo_nil (xq_then (xw_seq ?_))
    refine xw_bool 10 rfl (fun hc3 => ?_) (fun hc3 => ?_)
    · have hq3 : (decide (x9 < ((gnodes_F l0).length : Int))) = true := hc3
      have hp3 : x9 < ((gnodes_F l0).length : Int) := of_decide_eq_true hq3
      rw [if_pos hp3] at h
      refine xw_cond_t rfl rfl (xw_skip (xq_then (xw_seq ?_)))
      refine xw_block ?_
      refine xw_seq (xw_region ?_)
      obtain ⟨ho4, h⟩ := h
      refine xq rfl trivial (o_ixL el25 rfl rfl (fun w hw => (hJs2.sl hw (Pull.sub (.there _ (.here _ _))))) rfl ho4) ?_
      refine xq rfl trivial (o_ldL1 (off := 0) (u := .int .i64 ((gnodes_F l0)[x9.toNat]!)) rfl ts3 rfl (fun w hw => (hJs2.sl hw (Pull.sub (.there _ (.here _ _))))) (toNat_lt ho4) rfl rfl) ?_
      refine xq rfl trivial (o_as rfl) ?_
      refine xo_nil (xq_then (xw_seq (xw_region ?_)))
      refine xq rfl trivial (o_mv rfl) ?_
      refine xq rfl trivial (o_mv rfl) ?_
      obtain ⟨ho5, h⟩ := h
      refine xcall rfl trivial kf10 rfl (fun w1 hw1 => greach_c _ _ _ w1 (hs0.keep hw1 (Fr.seg hcB3_1 (Fr.seg hcBs2 Fr.nil))) ho5) ?_
      rintro w1 vs6 _ hw1 ⟨_, Bs6, rfl, rfl, hJs6, hcBs6⟩
      refine ⟨_, Mg.news (Cov.fresh hcBs6) (.nil _), ?_⟩
      replace hcBs6 := Cov.base (w0 := w) hcBs6 hw1.size
      refine xq rfl trivial (o_mv rfl) ?_
      obtain ⟨ho7, h⟩ := h
      refine xcallq rfl trivial kf25 rfl (fun w1 hw1 => hasI_c _ _ _ w1 (hJs6.sl hw1 (Pull.sub (.here _ _))) ho7) ?_
      refine xo_nil (xq_then ?_)
      refine xw_bool 17 rfl (fun hc8 => ?_) (fun hc8 => ?_)
      · have hq8 : ((hasI_F (greach_F l0 ((gnodes_F l0)[x9.toNat]!)) ((gnodes_F l0)[x9.toNat]!))) = true := hc8
        have hp8 : ((hasI_F (greach_F l0 ((gnodes_F l0)[x9.toNat]!)) ((gnodes_F l0)[x9.toNat]!))) = true := hq8
        rw [if_pos hp8] at h
        refine xw_cond_t rfl rfl (xw_region ?_)
        refine xq rfl trivial (o_mv rfl) ?_
        refine xq rfl trivial (o_mv rfl) ?_
        refine xo rfl trivial (o_bsl el25 ze3 (cells_one rfl) rfl rfl (.int rfl rfl (.nil _))) ?_
        rintro _ _ ⟨b20, hb20, rfl, rfl⟩
        obtain ⟨ho10, h⟩ := h
        refine xo rfl trivial (OT.st (fun _ h => Pull.st (.thereC _ (.there _ (.here _ _))) h) (o_appJ (l := out3) (l' := [(gnodes_F l0)[x9.toNat]!]) (B := B3_1) ap25 rfl rfl hJ3_1 (fun w2 hw2 => (SL.lit (l := [(gnodes_F l0)[x9.toNat]!]) hw2 (List.mem_append_right _ (List.Mem.head _)) rfl (by omega) (by simp [maxLen]) (by exact (fun i hi => match i, hi with | 0, _ => rfl | q + 1, h => absurd h (by omega))))) (fun _ _ => rfl) ho10 (len_max ho10 (by decide)))) ?_
        rintro vs9 _ ⟨Bs9, rfl, hns9, hJs9⟩
        have hcBs9 := Cov.trans hcB3_1 hns9
        refine xo_st ((b20, BK 1 _ 3) :: (Bs6 ++ (Bs9 ++ (Bs2 ++ ([]))))) (fun _ h => Pull.push (.thereC _ (.there _ (.here _ _))) h) ?_
        refine xq rfl trivial (o_as rfl) ?_
        refine xo_nil ?_
        refine xq_blk 1 ?_
        refine xq_then (xw_region ?_)
        obtain ⟨ho11, h⟩ := h
        refine xq rfl trivial (o_add rfl rfl rfl ho11) ?_
        refine xq rfl trivial (o_mv rfl) ?_
        refine xo_nil ?_
        exact xq_next (s' := (((out3 ++ [(gnodes_F l0)[x9.toNat]!]), x9 + 1) : (List Int) × Int)) (e' := [(0, v0), (3, vs9), (7, vs2), (8, .int .i64 ((gnodes_F l0).length : Int)), (9, .int .i64 (x9 + 1))]) (Bs9 ++ (Bs2 ++ ([]))) (lc rfl (lc rfl (lc rfl (lc rfl (lc rfl ln))))) (Kp.st (Kp.new hb20 (Kp.segNew (Cov.fresh hcBs6) (Kp.segKeep (Kp.segKeep Kp.nil))))) h ⟨vs9, Bs9, rfl, rfl, hJs9, hcBs9⟩
      · have hq8 : ((hasI_F (greach_F l0 ((gnodes_F l0)[x9.toNat]!)) ((gnodes_F l0)[x9.toNat]!))) = false := hc8
        have hp8 : ¬ (((hasI_F (greach_F l0 ((gnodes_F l0)[x9.toNat]!)) ((gnodes_F l0)[x9.toNat]!))) = true) := bne' hq8
        rw [if_neg hp8] at h
        refine xw_cond_f rfl rfl (xw_skip ?_)
        refine xq_blk 1 ?_
        refine xq_then (xw_region ?_)
        obtain ⟨ho12, h⟩ := h
        refine xq rfl trivial (o_add rfl rfl rfl ho12) ?_
        refine xq rfl trivial (o_mv rfl) ?_
        refine xo_nil ?_
        exact xq_next (s' := ((out3, x9 + 1) : (List Int) × Int)) (e' := [(0, v0), (3, v3_1), (7, vs2), (8, .int .i64 ((gnodes_F l0).length : Int)), (9, .int .i64 (x9 + 1))]) (B3_1 ++ (Bs2 ++ ([]))) (lc rfl (lc rfl (lc rfl (lc rfl (lc rfl ln))))) (Kp.st (Kp.segNew (Cov.fresh hcBs6) (Kp.segKeep (Kp.segKeep Kp.nil)))) h ⟨v3_1, B3_1, rfl, rfl, hJ3_1, hcB3_1⟩
    · have hq3 : (decide (x9 < ((gnodes_F l0).length : Int))) = false := hc3
      have hp3 : ¬ (x9 < ((gnodes_F l0).length : Int)) := of_decide_eq_false hq3
      rw [if_neg hp3] at h
      refine xw_cond_f rfl rfl (xw_exit (xq_then_exit ?_))
      exact xq_out (r := (out3 : (List Int))) (e' := [(3, v3_1)]) (B3_1 ++ (Bs2 ++ ([]))) (lc rfl ln) (fun _ h => h) h (by intro hh; cases hh) ⟨v3_1, B3_1, rfl, rfl, rfl, hJ3_1, hcB3_1⟩
  · rintro _ _ _ ⟨v3_1o, B3_1o, rfl, rfl, rfl, hJ3_1o, hcB3_1o⟩
    replace h : gcirc_k1a out3 r := h
    unfold gcirc_k1a at h
    refine xq_blk_eq ?_
    refine xq_then (xw_seq (xw_region ?_))
    refine xq rfl trivial (o_mv rfl) ?_
    refine xq rfl trivial (o_as rfl) ?_
    refine xo_nil (xq_then (xw_ret ?_))
    subst h
    exact con_ret1 (.inl rfl) Try.results12 rfl (B3_1o ++ []) (Kp.st (Kp.segKeep (Kp.segNew (Cov.fresh hcBs2) Kp.nil))) (⟨_, B3_1o, rfl, rfl, hJ3_1o, hcB3_1o⟩)

theorem circR_con (l0 : (List (Nat → Int))) (v0 : Value) (w : World) (hs0 : SL w 4 iv v0 l0) (r : (List Int)) (h : circR_S l0 r) : Con Try.prog 13 #[v0] w (fun v F => ∃ (u0 : Value) (C0 : GH), v = u0 ∧ F = (C0 ++ []) ∧ OJ 3 1 ic C0 u0 r ∧ Cov w [] C0) := by
  unfold circR_S at h
  refine con_enter (n := 33) [(0, _)] Try.func13 rfl Try.ntmps13 rfl (lac rfl lan) ?_
  refine xw_seq (xw_region ?_)
  refine xq rfl trivial (o_as rfl) ?_
  refine xo_nil (xq_then (xw_seq (xw_region ?_)))
  refine xq rfl trivial (o_mv rfl) ?_
  obtain ⟨ho1, h⟩ := h
  refine xcall rfl trivial kf26 rfl (fun w1 hw1 => nodesR_c _ _ w1 (hs0.keep hw1 Fr.nil) ho1) ?_
  rintro w1 vs2 _ hw1 ⟨_, Bs2, rfl, rfl, hJs2, hcBs2⟩
  refine ⟨_, Mg.news (Cov.fresh hcBs2) (.nil _), ?_⟩
  replace hcBs2 := Cov.base (w0 := w) hcBs2 hw1.size
  refine xq rfl trivial (o_as rfl) ?_
  refine xo_nil (xq_then (xw_seq (xw_region ?_)))
  refine xq rfl trivial (o_as rfl) ?_
  refine xo_nil (xq_then (xw_seq (xw_seq (xw_region ?_))))
  refine xq rfl trivial (o_as rfl) ?_
  refine xo_nil (xq_then ?_)
  refine xw_block ?_
  obtain ⟨out4, hx1, h⟩ := h
  refine xw_wh (fun s e H => match s with | (out4, i5) => ∃ (v4_1 : Value) (B4_1 : GH), e = [(0, v0), (3, vs2), (4, v4_1), (5, .int .i64 i5)] ∧ H = B4_1 ++ (Bs2 ++ ([])) ∧ OJ 3 1 ic B4_1 v4_1 out4 ∧ Cov w [] B4_1) (fun (out4 : (List Int)) ex e H => ∃ (v4_1o : Value) (B4_1o : GH), ex = .exit 0 ∧ e = [(4, v4_1o)] ∧ H = B4_1o ++ (Bs2 ++ ([])) ∧ OJ 3 1 ic B4_1o v4_1o out4 ∧ Cov w [] B4_1o) hx1 ⟨[(0, v0), (3, vs2), (4, .slice none 0 0), (5, .int .i64 0)], [] ++ (Bs2 ++ ([])), (lc rfl (lc rfl (lc rfl (lc rfl ln)))), fun _ h => h, ⟨_, [], rfl, rfl, OJ.nil, (Cov.refl _)⟩⟩ ?_ ?_
  · rintro ⟨out4, i5⟩ o _ _ ⟨v4_1, B4_1, rfl, rfl, hJ4_1, hcB4_1⟩ hb
    have h : circR_l1 l0 out4 i5 o := hb
    clear hb
    unfold circR_l1 at h
    refine xw_seq (xw_seq (xw_region ?_))
    refine xq rfl trivial (o_mv rfl) ?_
    refine xq rfl trivial (o_mv rfl) ?_
    refine xq rfl trivial (o_lenL rfl Try.underlying25 rfl (OJ.val hJs2)) ?_
    refine xq rfl trivial (o_lss rfl rfl) ?_
    refine xo_nil (xq_then ?_)
    refine xw_bool 11 rfl (fun hc3 => ?_) (fun hc3 => ?_)
    · have hq3 : (decide (i5 < ((nodesR_F l0).length : Int))) = true := hc3
      have hp3 : i5 < ((nodesR_F l0).length : Int) := of_decide_eq_true hq3
      rw [if_pos hp3] at h
      refine xw_cond_t rfl rfl (xw_skip (xq_then (xw_seq ?_)))
      refine xw_block ?_
      refine xw_seq ?_
      refine xd_start (by kernel_rfl) (by kernel_rfl) (fun hok => ?_)
      refine xd_b hok 0 [(0, _)] ([]) rsN rfl rfl rfl (lc rfl ln) (by kernel_rfl) trivial (fun H' hy hK => o_mv rfl) ?_
      refine xd_b hok 1 [(3, _)] ([]) rsN rfl rfl rfl (lc rfl ln) (by kernel_rfl) trivial (fun H' hy hK => o_mv rfl) ?_
      refine xd_b hok 2 [(5, _)] ([]) rsN rfl rfl rfl (lc rfl ln) (by kernel_rfl) trivial (fun H' hy hK => o_mv rfl) ?_
      obtain ⟨ho4, h⟩ := h
      refine xd_b hok 3 [(15, _), (16, _)] (Bs2 ++ ([])) (rsA (Pull.sub (.there _ (.here _ _))) rsN) rfl rfl rfl (lc rfl (lc rfl ln)) (by kernel_rfl) trivial (fun H' hy hK => o_ixL el25 rfl rfl (fun w hw => (hJs2.sl hw (fun x hx => hy x (Pull.sub (.here _ _) x hx)))) rfl ho4) ?_
      refine xd_b hok 4 [(17, _)] (Bs2 ++ ([])) (rsA (Pull.sub (.there _ (.here _ _))) rsN) rfl rfl rfl (lc rfl ln) (by kernel_rfl) trivial (fun H' hy hK => o_ldL1 (off := 0) (u := .int .i64 ((nodesR_F l0)[i5.toNat]!)) rfl ts3 rfl (fun w hw => (hJs2.sl hw (fun x hx => hy x (Pull.sub (.here _ _) x hx)))) (toNat_lt ho4) rfl rfl) ?_
      refine xd_b hok 6 [(3, _)] ([]) rsN rfl rfl rfl (lc rfl ln) (by kernel_rfl) trivial (fun H' hy hK => o_mv rfl) ?_
      refine xd_b hok 7 [(5, _)] ([]) rsN rfl rfl rfl (lc rfl ln) (by kernel_rfl) trivial (fun H' hy hK => o_mv rfl) ?_
      obtain ⟨ho5, h⟩ := h
      refine xd_b hok 8 [(20, _), (21, _)] (Bs2 ++ ([])) (rsA (Pull.sub (.there _ (.here _ _))) rsN) rfl rfl rfl (lc rfl (lc rfl ln)) (by kernel_rfl) trivial (fun H' hy hK => o_ixL el25 rfl rfl (fun w hw => (hJs2.sl hw (fun x hx => hy x (Pull.sub (.here _ _) x hx)))) rfl ho5) ?_
      refine xd_b hok 9 [(22, _)] (Bs2 ++ ([])) (rsA (Pull.sub (.there _ (.here _ _))) rsN) rfl rfl rfl (lc rfl ln) (by kernel_rfl) trivial (fun H' hy hK => o_ldL1 (off := 0) (u := .int .i64 ((nodesR_F l0)[i5.toNat]!)) rfl ts3 rfl (fun w hw => (hJs2.sl hw (fun x hx => hy x (Pull.sub (.here _ _) x hx)))) (toNat_lt ho5) rfl rfl) ?_
      obtain ⟨ho6, h⟩ := h
      refine xd_step hok 5 [(14, _), (18, _)] rfl rfl (by kernel_rfl) (lc rfl (lc rfl ln)) (by kernel_rfl) trivial (OT.st (fun _ h => h) (ot_callF (Cs := []) (Rs := [B4_1, Bs2]) kf11 rfl (fun w1 hw1 => Con.cat1 ((fun (hw1 : St w (B4_1 ++ (Bs2 ++ ([]))) w1) => reachR_c _ _ _ w1 (hs0.keep hw1 (Fr.seg hcB4_1 (Fr.seg hcBs2 Fr.nil))) ho6) hw1)) (by exact fun _ _ _ h => h.1))) ?_
      rintro vs7 _ ⟨w1, _, rfl, hle, -, _, Bs7, rfl, rfl, hJs7, hcBs7⟩
      replace hcBs7 := Cov.base (w0 := w) hcBs7 hle
      refine xd_sh2 (H' := Bs7 ++ (B4_1 ++ (Bs2 ++ ([])))) rfl ?_
      refine ⟨(rsA (rsA (Pull.sub (.there _ (.there _ (.here _ _)))) rsN) (rsA (rsA (Pull.sub (.there _ (.there _ (.here _ _)))) rsN) (rsA rsN (rsA rsN (rsA (rsA (Pull.sub (.there _ (.there _ (.here _ _)))) rsN) (rsA (rsA (Pull.sub (.there _ (.there _ (.here _ _)))) rsN) (rsA rsN (rsA rsN (rsA rsN rsN))))))))), (Ks.segN hcBs7 (Ks.segK (fun k hk => by simp [hk]) (Ks.segK (fun k hk => by simp [hk]) Ks.nil))), ?_⟩
      obtain ⟨ho8, h⟩ := h
      refine xd_b hok 10 [(19, _), (23, _)] (Bs7 ++ ([])) (rsA (Pull.sub (.here _ _)) rsN) rfl rfl rfl (lc rfl (lc rfl ln)) (by kernel_rfl) trivial (fun H' hy hK => o_callq kf22 rfl (fun w1 hw1 => hasR_c _ _ _ w1 (hJs7.sl hw1 (fun x hx => hy x (Pull.sub (.here _ _) x hx))) ho8)) ?_
      refine xd_end hok (by kernel_rfl) ?_
      refine xq_then ?_
      refine xw_bool 24 rfl (fun hc9 => ?_) (fun hc9 => ?_)
      · have hq9 : ((hasR_F (reachR_F l0 ((nodesR_F l0)[i5.toNat]!)) ((nodesR_F l0)[i5.toNat]!))) = true := hc9
        have hp9 : ((hasR_F (reachR_F l0 ((nodesR_F l0)[i5.toNat]!)) ((nodesR_F l0)[i5.toNat]!))) = true := hq9
        rw [if_pos hp9] at h
        refine xw_cond_t rfl rfl (xw_region ?_)
        refine xq rfl trivial (o_mv rfl) ?_
        refine xq rfl trivial (o_mv rfl) ?_
        refine xq rfl trivial (o_mv rfl) ?_
        obtain ⟨ho10, h⟩ := h
        refine xq rfl trivial (o_ixL el25 rfl rfl (fun w hw => (hJs2.sl hw (Pull.sub (.there _ (.there _ (.here _ _)))))) rfl ho10) ?_
        refine xq rfl trivial (o_ldL1 (off := 0) (u := .int .i64 ((nodesR_F l0)[i5.toNat]!)) rfl ts3 rfl (fun w hw => (hJs2.sl hw (Pull.sub (.there _ (.there _ (.here _ _)))))) (toNat_lt ho10) rfl rfl) ?_
        refine xo rfl trivial (o_bsl el25 ze3 (cells_one rfl) rfl rfl (.int rfl rfl (.nil _))) ?_
        rintro _ _ ⟨b30, hb30, rfl, rfl⟩
        obtain ⟨ho12, h⟩ := h
        refine xo rfl trivial (OT.st (fun _ h => Pull.st (.thereC _ (.there _ (.here _ _))) h) (o_appJ (l := out4) (l' := [(nodesR_F l0)[i5.toNat]!]) (B := B4_1) ap25 rfl rfl hJ4_1 (fun w2 hw2 => (SL.lit (l := [(nodesR_F l0)[i5.toNat]!]) hw2 (List.mem_append_right _ (List.Mem.head _)) rfl (by omega) (by simp [maxLen]) (by exact (fun i hi => match i, hi with | 0, _ => rfl | q + 1, h => absurd h (by omega))))) (fun _ _ => rfl) ho12 (len_max ho12 (by decide)))) ?_
        rintro vs11 _ ⟨Bs11, rfl, hns11, hJs11⟩
        have hcBs11 := Cov.trans hcB4_1 hns11
        refine xo_st ((b30, BK 1 _ 3) :: (Bs7 ++ (Bs11 ++ (Bs2 ++ ([]))))) (fun _ h => Pull.push (.thereC _ (.there _ (.here _ _))) h) ?_
        refine xq rfl trivial (o_as rfl) ?_
        refine xo_nil ?_
        refine xq_blk 1 ?_
        refine xq_then (xw_region ?_)
        refine xq rfl trivial (o_mv rfl) ?_
        obtain ⟨ho13, h⟩ := h
        refine xq rfl trivial (o_add rfl rfl rfl ho13) ?_
        refine xq rfl trivial (o_as rfl) ?_
        refine xo_nil ?_
        exact xq_next (s' := (((out4 ++ [(nodesR_F l0)[i5.toNat]!]), i5 + 1) : (List Int) × Int)) (e' := [(0, v0), (3, vs2), (4, vs11), (5, .int .i64 (i5 + 1))]) (Bs11 ++ (Bs2 ++ ([]))) (lc rfl (lc rfl (lc rfl (lc rfl ln)))) (Kp.st (Kp.new hb30 (Kp.segNew (Cov.fresh hcBs7) (Kp.segKeep (Kp.segKeep Kp.nil))))) h ⟨vs11, Bs11, rfl, rfl, hJs11, hcBs11⟩
      · have hq9 : ((hasR_F (reachR_F l0 ((nodesR_F l0)[i5.toNat]!)) ((nodesR_F l0)[i5.toNat]!))) = false := hc9
        have hp9 : ¬ (((hasR_F (reachR_F l0 ((nodesR_F l0)[i5.toNat]!)) ((nodesR_F l0)[i5.toNat]!))) = true) := bne' hq9
        rw [if_neg hp9] at h
        refine xw_cond_f rfl rfl (xw_skip ?_)
        refine xq_blk 1 ?_
        refine xq_then (xw_region ?_)
        refine xq rfl trivial (o_mv rfl) ?_
        obtain ⟨ho14, h⟩ := h
        refine xq rfl trivial (o_add rfl rfl rfl ho14) ?_
        refine xq rfl trivial (o_as rfl) ?_
        refine xo_nil ?_
        exact xq_next (s' := ((out4, i5 + 1) : (List Int) × Int)) (e' := [(0, v0), (3, vs2), (4, v4_1), (5, .int .i64 (i5 + 1))]) (B4_1 ++ (Bs2 ++ ([]))) (lc rfl (lc rfl (lc rfl (lc rfl ln)))) (Kp.st (Kp.segNew (Cov.fresh hcBs7) (Kp.segKeep (Kp.segKeep Kp.nil)))) h ⟨v4_1, B4_1, rfl, rfl, hJ4_1, hcB4_1⟩
    · have hq3 : (decide (i5 < ((nodesR_F l0).length : Int))) = false := hc3
      have hp3 : ¬ (i5 < ((nodesR_F l0).length : Int)) := of_decide_eq_false hq3
      rw [if_neg hp3] at h
      refine xw_cond_f rfl rfl (xw_exit (xq_then_exit ?_))
      exact xq_out (r := (out4 : (List Int))) (e' := [(4, v4_1)]) (B4_1 ++ (Bs2 ++ ([]))) (lc rfl ln) (fun _ h => h) h (by intro hh; cases hh) ⟨v4_1, B4_1, rfl, rfl, rfl, hJ4_1, hcB4_1⟩
  · rintro _ _ _ ⟨v4_1o, B4_1o, rfl, rfl, rfl, hJ4_1o, hcB4_1o⟩
    replace h : circR_k1a out4 r := h
    unfold circR_k1a at h
    refine xq_blk_eq ?_
    refine xq_then (xw_seq (xw_region ?_))
    refine xq rfl trivial (o_mv rfl) ?_
    refine xq rfl trivial (o_as rfl) ?_
    refine xo_nil (xq_then (xw_ret ?_))
    subst h
    exact con_ret1 (.inl rfl) Try.results13 rfl (B4_1o ++ []) (Kp.st (Kp.segKeep (Kp.segNew (Cov.fresh hcBs2) Kp.nil))) (⟨_, B4_1o, rfl, rfl, hJ4_1o, hcB4_1o⟩)

theorem orderR_con (l0 : (List (Nat → Int))) (v0 : Value) (w : World) (hs0 : SL w 4 iv v0 l0) (r : (List Int) × Bool) (h : orderR_S l0 r) : Con Try.prog 17 #[v0] w (fun v F => ∃ (u0 : Value) (C0 : GH), v = .tuple #[u0, .bool r.2] ∧ F = (C0 ++ []) ∧ OJ 3 1 ic C0 u0 r.1 ∧ Cov w [] C0) := by
  unfold orderR_S at h
  refine con_enter (n := 70) [(0, _)] Try.func17 rfl Try.ntmps17 rfl (lac rfl lan) ?_
  refine xw_seq (xw_region ?_)
  refine xq rfl trivial (o_as rfl) ?_
  refine xq rfl trivial (o_as rfl) ?_
  refine xo_nil (xq_then (xw_seq (xw_region ?_)))
  refine xq rfl trivial (o_mv rfl) ?_
  obtain ⟨ho1, h⟩ := h
  refine xcall rfl trivial kf26 rfl (fun w1 hw1 => nodesR_c _ _ w1 (hs0.keep hw1 Fr.nil) ho1) ?_
  rintro w1 vs2 _ hw1 ⟨_, Bs2, rfl, rfl, hJs2, hcBs2⟩
  refine ⟨_, Mg.news (Cov.fresh hcBs2) (.nil _), ?_⟩
  replace hcBs2 := Cov.base (w0 := w) hcBs2 hw1.size
  refine xq rfl trivial (o_as rfl) ?_
  refine xo_nil (xq_then (xw_seq (xw_region ?_)))
  refine xq rfl trivial (o_as rfl) ?_
  refine xo_nil (xq_then (xw_seq ?_))
  refine xw_block ?_
  obtain ⟨x1, hx1, h⟩ := h
  refine xw_wh (fun (out5 : (List Int)) e H => ∃ (v5_1 : Value) (B5_1 : GH), e = [(0, v0), (4, vs2), (5, v5_1)] ∧ H = B5_1 ++ (Bs2 ++ ([])) ∧ OJ 3 1 ic B5_1 v5_1 out5 ∧ Cov w [] B5_1) (fun x ex e H => match x with | .inl out5 => ∃ (v5_1o : Value) (B5_1o : GH), ex = .exit 0 ∧ e = [(5, v5_1o)] ∧ H = B5_1o ++ (Bs2 ++ ([])) ∧ OJ 3 1 ic B5_1o v5_1o out5 ∧ Cov w [] B5_1o | .inr _ => ∃ (B5_1o : GH), ex = .ret ∧ e = [(2, .slice none 0 0), (3, .bool false)] ∧ H = B5_1o ++ (Bs2 ++ ([])) ∧ Cov w [] B5_1o) hx1 ⟨[(0, v0), (4, vs2), (5, .slice none 0 0)], [] ++ (Bs2 ++ ([])), (lc rfl (lc rfl (lc rfl ln))), fun _ h => h, ⟨_, [], rfl, rfl, OJ.nil, (Cov.refl _)⟩⟩ ?_ ?_
  · rintro out5 o _ _ ⟨v5_1, B5_1, rfl, rfl, hJ5_1, hcB5_1⟩ hb
    have h : orderR_l1 l0 out5 o := hb
    clear hb
    unfold orderR_l1 at h
    refine xw_seq (xw_seq (xw_region ?_))
    refine xq rfl trivial (o_mv rfl) ?_
    refine xq rfl trivial (o_lenL rfl Try.underlying25 rfl (OJ.val hJ5_1)) ?_
    refine xq rfl trivial (o_mv rfl) ?_
    refine xq rfl trivial (o_lenL rfl Try.underlying25 rfl (OJ.val hJs2)) ?_
    refine xq rfl trivial (o_lss rfl rfl) ?_
    refine xo_nil (xq_then ?_)
    refine xw_bool 16 rfl (fun hc3 => ?_) (fun hc3 => ?_)
    · have hq3 : (decide ((out5.length : Int) < ((nodesR_F l0).length : Int))) = true := hc3
      have hp3 : (out5.length : Int) < ((nodesR_F l0).length : Int) := of_decide_eq_true hq3
      rw [if_pos hp3] at h
      refine xw_cond_t rfl rfl (xw_skip (xq_then ?_))
      refine xw_block ?_
      refine xw_seq (xw_region ?_)
      refine xq rfl trivial (o_as rfl) ?_
      refine xo_nil (xq_then (xw_seq (xw_seq (xw_region ?_))))
      refine xq rfl trivial (o_as rfl) ?_
      refine xo_nil (xq_then ?_)
      refine xw_block ?_
      obtain ⟨x2, hx2, h⟩ := h
      refine xw_wh (fun s e H => match s with | (out5a, found6, i7) => ∃ (v5_2 : Value) (B5_2 : GH), e = [(0, v0), (4, vs2), (5, v5_2), (6, .bool (found6)), (7, .int .i64 i7)] ∧ H = B5_2 ++ (Bs2 ++ ([])) ∧ OJ 3 1 ic B5_2 v5_2 out5a ∧ Cov w [] B5_2) (fun s ex e H => match s with | (out5a, found6) => ∃ (v5_2o : Value) (B5_2o : GH), ex = .exit 2 ∧ e = [(0, v0), (4, vs2), (5, v5_2o), (6, .bool (found6))] ∧ H = B5_2o ++ (Bs2 ++ ([])) ∧ OJ 3 1 ic B5_2o v5_2o out5a ∧ Cov w [] B5_2o) hx2 ⟨[(0, v0), (4, vs2), (5, v5_1), (6, .bool false), (7, .int .i64 0)], B5_1 ++ (Bs2 ++ ([])), (lc rfl (lc rfl (lc rfl (lc rfl (lc rfl ln))))), fun _ h => h, ⟨v5_1, B5_1, rfl, rfl, hJ5_1, hcB5_1⟩⟩ ?_ ?_
      · rintro ⟨out5a, found6, i7⟩ o _ _ ⟨v5_2, B5_2, rfl, rfl, hJ5_2, hcB5_2⟩ hb
        have h : orderR_l2 l0 out5a found6 i7 o := hb
        clear hb
        unfold orderR_l2 at h
        refine xw_seq (xw_seq ?_)
        refine xw_cut [(0, _), (4, _), (5, _), (6, _), (7, _)] (lc rfl (lc rfl (lc rfl (lc rfl (lc rfl ln))))) [(24, .bool ((decide (i7 < ((nodesR_F l0).length : Int))) && (!(found6))))] ?_ ?_
        · refine xw_region ?_
          refine xq rfl trivial (o_mv rfl) ?_
          refine xq rfl trivial (o_mv rfl) ?_
          refine xq rfl trivial (o_lenL rfl Try.underlying25 rfl (OJ.val hJs2)) ?_
          refine xq rfl trivial (o_lss rfl rfl) ?_
          refine xq rfl trivial (o_mv rfl) ?_
          refine xo_bool 21 rfl (fun hg4 => ?_) (fun hg4 => ?_)
          · have hq4 : (decide (i7 < ((nodesR_F l0).length : Int))) = true := hg4
            have hp4 : i7 < ((nodesR_F l0).length : Int) := of_decide_eq_true hq4
            refine xq rfl ⟨_, rfl, rfl⟩ (o_mv rfl) ?_
            refine xq rfl ⟨_, rfl, rfl⟩ (o_not rfl) ?_
            refine xq rfl trivial (o_pick_t rfl rfl) ?_
            refine xo_nil ?_
            exact xq_cut ((lce rfl (by first | rfl | (simp only [hq4, if_pos hp4, bS]; done) | (simp only [hq4, if_pos hp4, bS, reduceIte, Bool.false_eq_true]; done) | (simp [hp4]; done) | (simp_all; done)) (lc rfl (lc rfl (lc rfl (lc rfl (lc rfl ln))))))) (fun _ h => h)
          · have hq4 : (decide (i7 < ((nodesR_F l0).length : Int))) = false := hg4
            have hp4 : ¬ (i7 < ((nodesR_F l0).length : Int)) := of_decide_eq_false hq4
            refine xs rfl ⟨_, _, rfl, rfl, rfl⟩ (xs rfl ⟨_, _, rfl, rfl, rfl⟩ ?_)
            refine xq rfl trivial (o_pick_f rfl rfl) ?_
            refine xo_nil ?_
            exact xq_cut ((lce rfl (by first | rfl | (simp only [hq4, if_neg hp4, bS]; done) | (simp only [hq4, if_neg hp4, bS, reduceIte, Bool.false_eq_true]; done) | (simp [hp4]; done) | (simp_all; done)) (lc rfl (lc rfl (lc rfl (lc rfl (lc rfl ln))))))) (fun _ h => h)
        · refine xq_then ?_
          refine xw_bool 24 rfl (fun hc5 => ?_) (fun hc5 => ?_)
          · have hq5 : ((decide (i7 < ((nodesR_F l0).length : Int))) && (!(found6))) = true := hc5
            have hp5 : ((decide (i7 < ((nodesR_F l0).length : Int))) && (!(found6))) = true := hq5
            rw [if_pos hp5] at h
            refine xw_cond_t rfl rfl (xw_skip (xq_then (xw_seq ?_)))
            refine xw_block ?_
            refine xw_seq (xw_seq (xw_region ?_))
            refine xq rfl trivial (o_mv rfl) ?_
            refine xq rfl trivial (o_mv rfl) ?_
            refine xq rfl trivial (o_mv rfl) ?_
            obtain ⟨ho6, h⟩ := h
            refine xq rfl trivial (o_ixL el25 rfl rfl (fun w hw => (hJs2.sl hw (Pull.sub (.there _ (.here _ _))))) rfl ho6) ?_
            refine xq rfl trivial (o_ldL1 (off := 0) (u := .int .i64 ((nodesR_F l0)[i7.toNat]!)) rfl ts3 rfl (fun w hw => (hJs2.sl hw (Pull.sub (.there _ (.here _ _))))) (toNat_lt ho6) rfl rfl) ?_
            obtain ⟨ho7, h⟩ := h
            refine xcallq rfl trivial kf22 rfl (fun w1 hw1 => hasR_c _ _ _ w1 (hJ5_2.sl hw1 (Pull.sub (.here _ _))) ho7) ?_
            refine xo_nil (xq_then ?_)
            refine xw_bool 32 rfl (fun hc8 => ?_) (fun hc8 => ?_)
            · have hq8 : ((hasR_F out5a ((nodesR_F l0)[i7.toNat]!))) = true := hc8
              have hp8 : ((hasR_F out5a ((nodesR_F l0)[i7.toNat]!))) = true := hq8
              rw [if_pos hp8] at h
              refine xw_cond_t rfl rfl (xw_exit (xq_then_exit ?_))
              refine xq_blk_eq ?_
              refine xq_then (xw_region ?_)
              refine xq rfl trivial (o_mv rfl) ?_
              obtain ⟨ho9, h⟩ := h
              refine xq rfl trivial (o_add rfl rfl rfl ho9) ?_
              refine xq rfl trivial (o_as rfl) ?_
              refine xo_nil ?_
              exact xq_next (s' := ((out5a, found6, i7 + 1) : (List Int) × Bool × Int)) (e' := [(0, v0), (4, vs2), (5, v5_2), (6, .bool (found6)), (7, .int .i64 (i7 + 1))]) (B5_2 ++ (Bs2 ++ ([]))) (lc rfl (lc rfl (lc rfl (lc rfl (lc rfl ln))))) (fun _ h => h) h ⟨v5_2, B5_2, rfl, rfl, hJ5_2, hcB5_2⟩
            · have hq8 : ((hasR_F out5a ((nodesR_F l0)[i7.toNat]!))) = false := hc8
              have hp8 : ¬ (((hasR_F out5a ((nodesR_F l0)[i7.toNat]!))) = true) := bne' hq8
              rw [if_neg hp8] at h
              refine xw_cond_f rfl rfl (xw_skip (xq_then (xw_seq (xw_region ?_))))
              refine xq rfl trivial (o_as rfl) ?_
              refine xo_nil (xq_then (xw_seq (xw_seq (xw_region ?_))))
              refine xq rfl trivial (o_as rfl) ?_
              refine xo_nil (xq_then ?_)
              refine xw_block ?_
              obtain ⟨free8, hx3, h⟩ := h
              refine xw_wh (fun s e H => match s with | (free8, k9) => e = [(0, v0), (4, vs2), (5, v5_2), (6, .bool (found6)), (7, .int .i64 i7), (8, .bool (free8)), (9, .int .i64 k9)] ∧ H = B5_2 ++ (Bs2 ++ ([]))) (fun (free8 : Bool) ex e H => ex = .exit 4 ∧ e = [(0, v0), (4, vs2), (5, v5_2), (6, .bool (found6)), (7, .int .i64 i7), (8, .bool (free8))] ∧ H = B5_2 ++ (Bs2 ++ ([]))) hx3 ⟨[(0, v0), (4, vs2), (5, v5_2), (6, .bool (found6)), (7, .int .i64 i7), (8, .bool true), (9, .int .i64 0)], B5_2 ++ (Bs2 ++ ([])), (lc rfl (lc rfl (lc rfl (lc rfl (lc rfl (lc rfl (lc rfl ln))))))), fun _ h => h, ⟨rfl, rfl⟩⟩ ?_ ?_
              · rintro ⟨free8, k9⟩ o _ _ ⟨rfl, rfl⟩ hb
                have h : orderR_l3 l0 out5a i7 free8 k9 o := hb
                clear hb
                unfold orderR_l3 at h
                refine xw_seq (xw_seq (xw_region ?_))
                refine xq rfl trivial (o_mv rfl) ?_
                refine xq rfl trivial (o_mv rfl) ?_
                refine xq rfl trivial (o_lenL rfl Try.underlying22 rfl (SL.val hs0)) ?_
                refine xq rfl trivial (o_lss rfl rfl) ?_
                refine xo_nil (xq_then ?_)
                refine xw_bool 36 rfl (fun hc10 => ?_) (fun hc10 => ?_)
                · have hq10 : (decide (k9 < (l0.length : Int))) = true := hc10
                  have hp10 : k9 < (l0.length : Int) := of_decide_eq_true hq10
                  rw [if_pos hp10] at h
                  refine xw_cond_t rfl rfl (xw_skip (xq_then (xw_seq ?_)))
                  refine xw_block ?_
                  refine xw_seq ?_
                  obtain ⟨ho11, ho12, ho13, ho14, h⟩ := h
                  refine xw_cut [(0, _), (4, _), (5, _), (6, _), (7, _), (8, _), (9, _)] (lc rfl (lc rfl (lc rfl (lc rfl (lc rfl (lc rfl (lc rfl ln))))))) [(58, .bool ((decide (l0[k9.toNat]! 2 = (nodesR_F l0)[i7.toNat]!)) && (!((hasR_F out5a (l0[k9.toNat]! 0))))))] ?_ ?_
                  · refine xd_start (by kernel_rfl) (by kernel_rfl) (fun hok => ?_)
                    refine xd_b hok 0 [(0, _)] ([]) rsN rfl rfl rfl (lc rfl ln) (by kernel_rfl) trivial (fun H' hy hK => o_mv rfl) ?_
                    refine xd_b hok 1 [(9, _)] ([]) rsN rfl rfl rfl (lc rfl ln) (by kernel_rfl) trivial (fun H' hy hK => o_mv rfl) ?_
                    refine xd_b hok 2 [(39, _), (40, _)] ([]) rsN rfl rfl rfl (lc rfl (lc rfl ln)) (by kernel_rfl) trivial (fun H' hy hK => o_ixL el22 rfl rfl (fun w hw => (hs0.keep hw (fun k hk => (hK k hk).elim (fun h => (Fr.seg hcB5_2 (Fr.seg hcBs2 Fr.nil)) k h) id))) rfl (ho11)) ?_
                    refine xd_b hok 3 [(41, _)] ([]) rsN rfl rfl rfl (lc rfl ln) (by kernel_rfl) trivial (fun H' hy hK => o_faL fl32_2 rfl rfl (fun w hw => (hs0.keep hw (fun k hk => (hK k hk).elim (fun h => (Fr.seg hcB5_2 (Fr.seg hcBs2 Fr.nil)) k h) id))) (toNat_lt (ho11))) ?_
                    refine xd_b hok 4 [(42, _)] ([]) rsN rfl rfl rfl (lc rfl ln) (by kernel_rfl) trivial (fun H' hy hK => o_ldL1 (off := 2) (u := .int .i64 (l0[k9.toNat]! 2)) rfl ts3 rfl (fun w hw => (hs0.keep hw (fun k hk => (hK k hk).elim (fun h => (Fr.seg hcB5_2 (Fr.seg hcBs2 Fr.nil)) k h) id))) (toNat_lt (ho11)) rfl rfl) ?_
                    refine xd_b hok 5 [(4, _)] ([]) rsN rfl rfl rfl (lc rfl ln) (by kernel_rfl) trivial (fun H' hy hK => o_mv rfl) ?_
                    refine xd_b hok 6 [(7, _)] ([]) rsN rfl rfl rfl (lc rfl ln) (by kernel_rfl) trivial (fun H' hy hK => o_mv rfl) ?_
                    refine xd_b hok 7 [(44, _), (45, _)] (Bs2 ++ ([])) (rsA (Pull.sub (.there _ (.here _ _))) rsN) rfl rfl rfl (lc rfl (lc rfl ln)) (by kernel_rfl) trivial (fun H' hy hK => o_ixL el25 rfl rfl (fun w hw => (hJs2.sl hw (fun x hx => hy x (Pull.sub (.here _ _) x hx)))) rfl (ho12)) ?_
                    refine xd_b hok 8 [(46, _)] (Bs2 ++ ([])) (rsA (Pull.sub (.there _ (.here _ _))) rsN) rfl rfl rfl (lc rfl ln) (by kernel_rfl) trivial (fun H' hy hK => o_ldL1 (off := 0) (u := .int .i64 ((nodesR_F l0)[i7.toNat]!)) rfl ts3 rfl (fun w hw => (hJs2.sl hw (fun x hx => hy x (Pull.sub (.here _ _) x hx)))) (toNat_lt (ho12)) rfl rfl) ?_
                    refine xd_b hok 9 [(43, _), (47, _)] ([]) rsN rfl rfl rfl (lc rfl (lc rfl ln)) (by kernel_rfl) trivial (fun H' hy hK => o_eql rfl rfl) ?_
                    refine xd_b hok 10 [(48, _)] ([]) rsN rfl rfl rfl (lc rfl ln) (by kernel_rfl) trivial (fun H' hy hK => o_mv rfl) ?_
                    refine xd_bool 49 rfl (fun hg15 => ?_) (fun hg15 => ?_)
                    · have hq15 : (decide (l0[k9.toNat]! 2 = (nodesR_F l0)[i7.toNat]!)) = true := hg15
                      have hp15 : l0[k9.toNat]! 2 = (nodesR_F l0)[i7.toNat]! := of_decide_eq_true hq15
                      refine xd_b hok 11 [(5, _), (49, _)] ([]) rsN rfl rfl rfl (lc rfl (lc rfl ln)) (by kernel_rfl) ⟨_, rfl, rfl⟩ (fun H' hy hK => o_mv rfl) ?_
                      refine xd_b hok 12 [(0, _), (49, _)] ([]) rsN rfl rfl rfl (lc rfl (lc rfl ln)) (by kernel_rfl) ⟨_, rfl, rfl⟩ (fun H' hy hK => o_mv rfl) ?_
                      refine xd_b hok 13 [(9, _), (49, _)] ([]) rsN rfl rfl rfl (lc rfl (lc rfl ln)) (by kernel_rfl) ⟨_, rfl, rfl⟩ (fun H' hy hK => o_mv rfl) ?_
                      refine xd_b hok 14 [(51, _), (52, _), (49, _)] ([]) rsN rfl rfl rfl (lc rfl (lc rfl (lc rfl ln))) (by kernel_rfl) ⟨_, rfl, rfl⟩ (fun H' hy hK => o_ixL el22 rfl rfl (fun w hw => (hs0.keep hw (fun k hk => (hK k hk).elim (fun h => (Fr.seg hcB5_2 (Fr.seg hcBs2 Fr.nil)) k h) id))) rfl (ho13 (by first | exact hg15 | (simp only [hq10, hq15, if_pos hp10, if_pos hp15, bS]; done) | (simp only [hq10, hq15, if_pos hp10, if_pos hp15, bS, reduceIte, Bool.false_eq_true]; done) | (simp [hp10, hp15]; done) | (simp_all; done)))) ?_
                      refine xd_b hok 15 [(53, _), (49, _)] ([]) rsN rfl rfl rfl (lc rfl (lc rfl ln)) (by kernel_rfl) ⟨_, rfl, rfl⟩ (fun H' hy hK => o_faL fl32_0 rfl rfl (fun w hw => (hs0.keep hw (fun k hk => (hK k hk).elim (fun h => (Fr.seg hcB5_2 (Fr.seg hcBs2 Fr.nil)) k h) id))) (toNat_lt (ho13 (by first | exact hg15 | (simp only [hq10, hq15, if_pos hp10, if_pos hp15, bS]; done) | (simp only [hq10, hq15, if_pos hp10, if_pos hp15, bS, reduceIte, Bool.false_eq_true]; done) | (simp [hp10, hp15]; done) | (simp_all; done))))) ?_
                      refine xd_b hok 16 [(54, _), (49, _)] ([]) rsN rfl rfl rfl (lc rfl (lc rfl ln)) (by kernel_rfl) ⟨_, rfl, rfl⟩ (fun H' hy hK => o_ldL1 (off := 0) (u := .int .i64 (l0[k9.toNat]! 0)) rfl ts3 rfl (fun w hw => (hs0.keep hw (fun k hk => (hK k hk).elim (fun h => (Fr.seg hcB5_2 (Fr.seg hcBs2 Fr.nil)) k h) id))) (toNat_lt (ho13 (by first | exact hg15 | (simp only [hq10, hq15, if_pos hp10, if_pos hp15, bS]; done) | (simp only [hq10, hq15, if_pos hp10, if_pos hp15, bS, reduceIte, Bool.false_eq_true]; done) | (simp [hp10, hp15]; done) | (simp_all; done)))) rfl rfl) ?_
                      refine xd_b hok 17 [(50, _), (55, _), (49, _)] (B5_2 ++ ([])) (rsA (Pull.sub (.here _ _)) rsN) rfl rfl rfl (lc rfl (lc rfl (lc rfl ln))) (by kernel_rfl) ⟨_, rfl, rfl⟩ (fun H' hy hK => o_callq kf22 rfl (fun w1 hw1 => hasR_c _ _ _ w1 (hJ5_2.sl hw1 (fun x hx => hy x (Pull.sub (.here _ _) x hx))) (ho14 (by first | exact hg15 | (simp only [hq10, hq15, if_pos hp10, if_pos hp15, bS]; done) | (simp only [hq10, hq15, if_pos hp10, if_pos hp15, bS, reduceIte, Bool.false_eq_true]; done) | (simp [hp10, hp15]; done) | (simp_all; done))))) ?_
                      refine xd_b hok 18 [(56, _), (49, _)] ([]) rsN rfl rfl rfl (lc rfl (lc rfl ln)) (by kernel_rfl) ⟨_, rfl, rfl⟩ (fun H' hy hK => o_not rfl) ?_
                      refine xd_b hok 19 [(49, _), (57, _)] ([]) rsN rfl rfl rfl (lc rfl (lc rfl ln)) (by kernel_rfl) trivial (fun H' hy hK => o_pick_t rfl rfl) ?_
                      refine xd_end hok (by kernel_rfl) ?_
                      exact xq_cut ((lce rfl (by first | rfl | (simp only [hq10, hq15, if_pos hp10, if_pos hp15, bS]; done) | (simp only [hq10, hq15, if_pos hp10, if_pos hp15, bS, reduceIte, Bool.false_eq_true]; done) | (simp [hp10, hp15]; done) | (simp_all; done)) (lc rfl (lc rfl (lc rfl (lc rfl (lc rfl (lc rfl (lc rfl ln))))))))) (fun _ h => h)
                    · have hq15 : (decide (l0[k9.toNat]! 2 = (nodesR_F l0)[i7.toNat]!)) = false := hg15
                      have hp15 : ¬ (l0[k9.toNat]! 2 = (nodesR_F l0)[i7.toNat]!) := of_decide_eq_false hq15
                      refine xd_skip hok 11 [(5, _), (49, _)] rfl rfl rfl (lc rfl (lc rfl ln)) (by kernel_rfl) ⟨_, _, rfl, rfl, rfl⟩ ?_
                      refine xd_skip hok 12 [(0, _), (49, _)] rfl rfl rfl (lc rfl (lc rfl ln)) (by kernel_rfl) ⟨_, _, rfl, rfl, rfl⟩ ?_
                      refine xd_skip hok 13 [(9, _), (49, _)] rfl rfl rfl (lc rfl (lc rfl ln)) (by kernel_rfl) ⟨_, _, rfl, rfl, rfl⟩ ?_
                      refine xd_skip hok 14 [(51, _), (52, _), (49, _)] rfl rfl rfl (lc rfl (lc rfl (lc rfl ln))) (by kernel_rfl) ⟨_, _, rfl, rfl, rfl⟩ ?_
                      refine xd_skip hok 15 [(53, _), (49, _)] rfl rfl rfl (lc rfl (lc rfl ln)) (by kernel_rfl) ⟨_, _, rfl, rfl, rfl⟩ ?_
                      refine xd_skip hok 16 [(54, _), (49, _)] rfl rfl rfl (lc rfl (lc rfl ln)) (by kernel_rfl) ⟨_, _, rfl, rfl, rfl⟩ ?_
                      refine xd_skip hok 17 [(50, _), (55, _), (49, _)] rfl rfl rfl (lc rfl (lc rfl (lc rfl ln))) (by kernel_rfl) ⟨_, _, rfl, rfl, rfl⟩ ?_
                      refine xd_skip hok 18 [(56, _), (49, _)] rfl rfl rfl (lc rfl (lc rfl ln)) (by kernel_rfl) ⟨_, _, rfl, rfl, rfl⟩ ?_
                      refine xd_b hok 19 [(49, _), (57, _)] ([]) rsN rfl rfl rfl (lc rfl (lc rfl ln)) (by kernel_rfl) trivial (fun H' hy hK => o_pick_f rfl rfl) ?_
                      refine xd_end hok (by kernel_rfl) ?_
                      exact xq_cut ((lce rfl (by first | rfl | (simp only [hq10, hq15, if_pos hp10, if_neg hp15, bS]; done) | (simp only [hq10, hq15, if_pos hp10, if_neg hp15, bS, reduceIte, Bool.false_eq_true]; done) | (simp [hp10, hp15]; done) | (simp_all; done)) (lc rfl (lc rfl (lc rfl (lc rfl (lc rfl (lc rfl (lc rfl ln))))))))) (fun _ h => h)
                  · refine xq_then ?_
                    refine xw_cut [(0, _), (4, _), (5, _), (6, _), (7, _), (9, _)] (lc rfl (lc rfl (lc rfl (lc rfl (lc rfl (lc rfl ln)))))) [(8, .bool ((!((decide (l0[k9.toNat]! 2 = (nodesR_F l0)[i7.toNat]!)) && (!((hasR_F out5a (l0[k9.toNat]! 0)))))) && (free8)))] ?_ ?_
                    · refine xw_bool 58 rfl (fun hc16 => ?_) (fun hc16 => ?_)
                      · have hq16 : ((decide (l0[k9.toNat]! 2 = (nodesR_F l0)[i7.toNat]!)) && (!((hasR_F out5a (l0[k9.toNat]! 0))))) = true := hc16
                        have hp16 : ((decide (l0[k9.toNat]! 2 = (nodesR_F l0)[i7.toNat]!)) && (!((hasR_F out5a (l0[k9.toNat]! 0))))) = true := hq16
                        refine xw_cond_t rfl rfl (xw_region ?_)
                        refine xq rfl trivial (o_as rfl) ?_
                        refine xo_nil ?_
                        exact xq_cut (lce rfl (by first | rfl | (simp only [hq10, hq16, if_pos hp10, if_pos hp16, bS]; done) | (simp only [hq10, hq16, if_pos hp10, if_pos hp16, bS, reduceIte, Bool.false_eq_true]; done) | (simp [hp10, hp16]; done) | (simp_all; done)) (lc rfl (lc rfl (lc rfl (lc rfl (lc rfl (lc rfl ln))))))) (fun _ hh => hh)
                      · have hq16 : ((decide (l0[k9.toNat]! 2 = (nodesR_F l0)[i7.toNat]!)) && (!((hasR_F out5a (l0[k9.toNat]! 0))))) = false := hc16
                        have hp16 : ¬ (((decide (l0[k9.toNat]! 2 = (nodesR_F l0)[i7.toNat]!)) && (!((hasR_F out5a (l0[k9.toNat]! 0))))) = true) := bne' hq16
                        refine xw_cond_f rfl rfl (xw_skip ?_)
                        exact xq_cut (lce rfl (by first | rfl | (simp only [hq10, hq16, if_pos hp10, if_neg hp16, bS]; done) | (simp only [hq10, hq16, if_pos hp10, if_neg hp16, bS, reduceIte, Bool.false_eq_true]; done) | (simp [hp10, hp16]; done) | (simp_all; done)) (lc rfl (lc rfl (lc rfl (lc rfl (lc rfl (lc rfl ln))))))) (fun _ hh => hh)
                    · refine xq_blk 5 ?_
                      refine xq_then (xw_region ?_)
                      refine xq rfl trivial (o_mv rfl) ?_
                      obtain ⟨ho17, h⟩ := h
                      refine xq rfl trivial (o_add rfl rfl rfl ho17) ?_
                      refine xq rfl trivial (o_as rfl) ?_
                      refine xo_nil ?_
                      exact xq_next (s' := (((!((decide (l0[k9.toNat]! 2 = (nodesR_F l0)[i7.toNat]!)) && (!((hasR_F out5a (l0[k9.toNat]! 0)))))) && (free8), k9 + 1) : Bool × Int)) (e' := [(0, v0), (4, vs2), (5, v5_2), (6, .bool (found6)), (7, .int .i64 i7), (8, .bool ((!((decide (l0[k9.toNat]! 2 = (nodesR_F l0)[i7.toNat]!)) && (!((hasR_F out5a (l0[k9.toNat]! 0)))))) && (free8))), (9, .int .i64 (k9 + 1))]) (B5_2 ++ (Bs2 ++ ([]))) (lc rfl (lc rfl (lc rfl (lc rfl (lc rfl (lc rfl (lc rfl ln))))))) (fun _ h => h) h ⟨rfl, rfl⟩
                · have hq10 : (decide (k9 < (l0.length : Int))) = false := hc10
                  have hp10 : ¬ (k9 < (l0.length : Int)) := of_decide_eq_false hq10
                  rw [if_neg hp10] at h
                  refine xw_cond_f rfl rfl (xw_exit (xq_then_exit ?_))
                  exact xq_out (r := (free8 : Bool)) (e' := [(0, v0), (4, vs2), (5, v5_2), (6, .bool (found6)), (7, .int .i64 i7), (8, .bool (free8))]) (B5_2 ++ (Bs2 ++ ([]))) (lc rfl (lc rfl (lc rfl (lc rfl (lc rfl (lc rfl ln)))))) (fun _ h => h) h (by intro hh; cases hh) ⟨rfl, rfl, rfl⟩
              · rintro _ _ _ ⟨rfl, rfl, rfl⟩
                replace h : orderR_k3a l0 out5a found6 i7 free8 o := h
                unfold orderR_k3a at h
                refine xq_blk_eq ?_
                refine xq_then (xw_seq (xw_region ?_))
                refine xq rfl trivial (o_mv rfl) ?_
                refine xo_nil (xq_then ?_)
                refine xw_bool 59 rfl (fun hc18 => ?_) (fun hc18 => ?_)
                · have hq18 : (free8) = true := hc18
                  have hp18 : (free8) = true := hq18
                  rw [if_pos hp18] at h
                  refine xw_cond_t rfl rfl (xw_seq (xw_region ?_))
                  refine xq rfl trivial (o_mv rfl) ?_
                  refine xq rfl trivial (o_mv rfl) ?_
                  refine xq rfl trivial (o_mv rfl) ?_
                  obtain ⟨ho19, h⟩ := h
                  refine xq rfl trivial (o_ixL el25 rfl rfl (fun w hw => (hJs2.sl hw (Pull.sub (.there _ (.here _ _))))) rfl ho19) ?_
                  refine xq rfl trivial (o_ldL1 (off := 0) (u := .int .i64 ((nodesR_F l0)[i7.toNat]!)) rfl ts3 rfl (fun w hw => (hJs2.sl hw (Pull.sub (.there _ (.here _ _))))) (toNat_lt ho19) rfl rfl) ?_
                  refine xo rfl trivial (o_bsl el25 ze3 (cells_one rfl) rfl rfl (.int rfl rfl (.nil _))) ?_
                  rintro _ _ ⟨b65, hb65, rfl, rfl⟩
                  obtain ⟨ho21, h⟩ := h
                  refine xo rfl trivial (OT.st (fun _ h => Pull.st (.thereC _ (.here _ _)) h) (o_appJ (l := out5a) (l' := [(nodesR_F l0)[i7.toNat]!]) (B := B5_2) ap25 rfl rfl hJ5_2 (fun w2 hw2 => (SL.lit (l := [(nodesR_F l0)[i7.toNat]!]) hw2 (List.mem_append_right _ (List.Mem.head _)) rfl (by omega) (by simp [maxLen]) (by exact (fun i hi => match i, hi with | 0, _ => rfl | q + 1, h => absurd h (by omega))))) (fun _ _ => rfl) ho21 (len_max ho21 (by decide)))) ?_
                  rintro vs20 _ ⟨Bs20, rfl, hns20, hJs20⟩
                  have hcBs20 := Cov.trans hcB5_2 hns20
                  refine xo_st ((b65, BK 1 _ 3) :: (Bs20 ++ (Bs2 ++ ([])))) (fun _ h => Pull.push (.thereC _ (.here _ _)) h) ?_
                  refine xq rfl trivial (o_as rfl) ?_
                  refine xo_nil (xq_then (xw_region ?_))
                  refine xq rfl trivial (o_as rfl) ?_
                  refine xo_nil ?_
                  refine xq_blk 3 ?_
                  refine xq_then (xw_region ?_)
                  refine xq rfl trivial (o_mv rfl) ?_
                  obtain ⟨ho22, h⟩ := h
                  refine xq rfl trivial (o_add rfl rfl rfl ho22) ?_
                  refine xq rfl trivial (o_as rfl) ?_
                  refine xo_nil ?_
                  exact xq_next (s' := (((out5a ++ [(nodesR_F l0)[i7.toNat]!]), true, i7 + 1) : (List Int) × Bool × Int)) (e' := [(0, v0), (4, vs2), (5, vs20), (6, .bool true), (7, .int .i64 (i7 + 1))]) (Bs20 ++ (Bs2 ++ ([]))) (lc rfl (lc rfl (lc rfl (lc rfl (lc rfl ln))))) (Kp.st (Kp.new hb65 (Kp.segKeep (Kp.segKeep Kp.nil)))) h ⟨vs20, Bs20, rfl, rfl, hJs20, hcBs20⟩
                · have hq18 : (free8) = false := hc18
                  have hp18 : ¬ ((free8) = true) := bne' hq18
                  rw [if_neg hp18] at h
                  refine xw_cond_f rfl rfl (xw_skip ?_)
                  refine xq_blk 3 ?_
                  refine xq_then (xw_region ?_)
                  refine xq rfl trivial (o_mv rfl) ?_
                  obtain ⟨ho23, h⟩ := h
                  refine xq rfl trivial (o_add rfl rfl rfl ho23) ?_
                  refine xq rfl trivial (o_as rfl) ?_
                  refine xo_nil ?_
                  exact xq_next (s' := ((out5a, found6, i7 + 1) : (List Int) × Bool × Int)) (e' := [(0, v0), (4, vs2), (5, v5_2), (6, .bool (found6)), (7, .int .i64 (i7 + 1))]) (B5_2 ++ (Bs2 ++ ([]))) (lc rfl (lc rfl (lc rfl (lc rfl (lc rfl ln))))) (fun _ h => h) h ⟨v5_2, B5_2, rfl, rfl, hJ5_2, hcB5_2⟩
          · have hq5 : ((decide (i7 < ((nodesR_F l0).length : Int))) && (!(found6))) = false := hc5
            have hp5 : ¬ (((decide (i7 < ((nodesR_F l0).length : Int))) && (!(found6))) = true) := bne' hq5
            rw [if_neg hp5] at h
            refine xw_cond_f rfl rfl (xw_exit (xq_then_exit ?_))
            exact xq_out (r := ((out5a, found6) : (List Int) × Bool)) (e' := [(0, v0), (4, vs2), (5, v5_2), (6, .bool (found6))]) (B5_2 ++ (Bs2 ++ ([]))) (lc rfl (lc rfl (lc rfl (lc rfl ln)))) (fun _ h => h) h (by intro hh; cases hh) ⟨v5_2, B5_2, rfl, rfl, rfl, hJ5_2, hcB5_2⟩
      · obtain ⟨out5a, found6⟩ := x2
        rintro _ _ _ ⟨v5_2o, B5_2o, rfl, rfl, rfl, hJ5_2o, hcB5_2o⟩
        replace h : orderR_k2a out5a found6 o := h
        unfold orderR_k2a at h
        refine xq_blk_eq ?_
        refine xq_then (xw_seq (xw_region ?_))
        refine xq rfl trivial (o_mv rfl) ?_
        refine xq rfl trivial (o_not rfl) ?_
        refine xo_nil (xq_then ?_)
        refine xw_bool 68 rfl (fun hc24 => ?_) (fun hc24 => ?_)
        · have hq24 : (found6) = false := (bnT hc24)
          have hp24 : ¬ ((found6) = true) := bne' hq24
          rw [if_neg hp24] at h
          refine xw_cond_t rfl rfl (xw_seq (xw_region ?_))
          refine xq rfl trivial (o_as rfl) ?_
          refine xq rfl trivial (o_as rfl) ?_
          refine xo_nil (xq_then (xw_ret (xq_blk_ret ?_)))
          exact xq_out (r := (.inr () : ((List Int)) ⊕ (Unit))) (e' := [(2, .slice none 0 0), (3, .bool false)]) (B5_2o ++ (Bs2 ++ ([]))) (lc rfl (lc rfl ln)) (fun _ h => h) h (by intro hh; cases hh) ⟨B5_2o, rfl, rfl, rfl, hcB5_2o⟩
        · have hq24 : (found6) = true := (bnF hc24)
          have hp24 : (found6) = true := hq24
          rw [if_pos hp24] at h
          refine xw_cond_f rfl rfl (xw_skip ?_)
          refine xq_blk 1 ?_
          exact xq_next (s' := (out5a : (List Int))) (e' := [(0, v0), (4, vs2), (5, v5_2o)]) (B5_2o ++ (Bs2 ++ ([]))) (lc rfl (lc rfl (lc rfl ln))) (fun _ h => h) h ⟨v5_2o, B5_2o, rfl, rfl, hJ5_2o, hcB5_2o⟩
    · have hq3 : (decide ((out5.length : Int) < ((nodesR_F l0).length : Int))) = false := hc3
      have hp3 : ¬ ((out5.length : Int) < ((nodesR_F l0).length : Int)) := of_decide_eq_false hq3
      rw [if_neg hp3] at h
      refine xw_cond_f rfl rfl (xw_exit (xq_then_exit ?_))
      exact xq_out (r := (.inl out5 : ((List Int)) ⊕ (Unit))) (e' := [(5, v5_1)]) (B5_1 ++ (Bs2 ++ ([]))) (lc rfl ln) (fun _ h => h) h (by intro hh; cases hh) ⟨v5_1, B5_1, rfl, rfl, rfl, hJ5_1, hcB5_1⟩
  · rcases x1 with out5 | x1
    · rintro _ _ _ ⟨v5_1o, B5_1o, rfl, rfl, rfl, hJ5_1o, hcB5_1o⟩
      replace h : orderR_k1a out5 r := h
      unfold orderR_k1a at h
      refine xq_blk_eq ?_
      refine xq_then (xw_seq (xw_region ?_))
      refine xq rfl trivial (o_mv rfl) ?_
      refine xq rfl trivial (o_as rfl) ?_
      refine xq rfl trivial (o_as rfl) ?_
      refine xo_nil (xq_then (xw_ret ?_))
      subst h
      exact con_ret2 (.inl rfl) Try.results17 rfl rfl (B5_1o ++ []) (Kp.st (Kp.segKeep (Kp.segNew (Cov.fresh hcBs2) Kp.nil))) (⟨_, B5_1o, rfl, rfl, hJ5_1o, hcB5_1o⟩)
    cases x1
    rintro _ _ _ ⟨B5_1o, rfl, rfl, rfl, hcB5_1o⟩
    replace h : orderR_k1b r := h
    unfold orderR_k1b at h
    refine xq_blk_ret (xq_then_ret ?_)
    subst h
    exact con_ret2 (.inl rfl) Try.results17 rfl rfl [] (Kp.st (Kp.segNew (Cov.fresh hcB5_1o) (Kp.segNew (Cov.fresh hcBs2) Kp.nil))) (⟨_, [], rfl, rfl, OJ.nil, Cov.refl _⟩)

theorem gway_con (l0 : (List (Nat → Int))) (from1 : Int) (to2 : Int) (v0 : Value) (w : World) (hs0 : SL w 4 iv v0 l0) (r : (List Int)) (h : gway_S l0 from1 to2 r) : Con Try.prog 14 #[v0, .int .i64 from1, .int .i64 to2] w (fun v F => ∃ (u0 : Value) (C0 : GH), v = u0 ∧ F = (C0 ++ []) ∧ OJ 3 1 ic C0 u0 r ∧ Cov w [] C0) := by
  unfold gway_S at h
  refine con_enter (n := 92) [(0, _), (1, _), (2, _)] Try.func14 rfl Try.ntmps14 rfl (lac rfl (lac rfl (lac rfl lan))) ?_
  refine xw_seq (xw_region ?_)
  refine xq rfl trivial (o_as rfl) ?_
  refine xo_nil (xq_then (xw_seq (xw_seq (xw_region ?_))))
  refine xq rfl trivial (o_mv rfl) ?_
  refine xq rfl trivial (o_mv rfl) ?_
  obtain ⟨ho1, h⟩ := h
  refine xcall rfl trivial kf10 rfl (fun w1 hw1 => greach_c _ _ _ w1 (hs0.keep hw1 Fr.nil) ho1) ?_
  rintro w1 vs2 _ hw1 ⟨_, Bs2, rfl, rfl, hJs2, hcBs2⟩
  refine ⟨_, Mg.news (Cov.fresh hcBs2) (.nil _), ?_⟩
  replace hcBs2 := Cov.base (w0 := w) hcBs2 hw1.size
  refine xq rfl trivial (o_mv rfl) ?_
  obtain ⟨ho3, h⟩ := h
  refine xcallq rfl trivial kf25 rfl (fun w1 hw1 => hasI_c _ _ _ w1 (hJs2.sl hw1 (Pull.sub (.here _ _))) ho3) ?_
  refine xq rfl trivial (o_not rfl) ?_
  refine xo_nil (xq_then ?_)
  refine xw_bool 24 rfl (fun hc4 => ?_) (fun hc4 => ?_)
  · have hq4 : ((hasI_F (greach_F l0 from1) to2)) = false := (bnT hc4)
    have hp4 : ¬ (((hasI_F (greach_F l0 from1) to2)) = true) := bne' hq4
    rw [if_neg hp4] at h
    refine xw_cond_t rfl rfl (xw_seq (xw_region ?_))
    refine xq rfl trivial (o_as rfl) ?_
    refine xo_nil (xq_then (xw_ret (xq_then_ret ?_)))
    subst h
    exact con_ret1 (.inl rfl) Try.results14 rfl [] (Kp.st (Kp.segNew (Cov.fresh hcBs2) Kp.nil)) (⟨_, [], rfl, rfl, OJ.nil, Cov.refl _⟩)
  · have hq4 : ((hasI_F (greach_F l0 from1) to2)) = true := (bnF hc4)
    have hp4 : ((hasI_F (greach_F l0 from1) to2)) = true := hq4
    rw [if_pos hp4] at h
    refine xw_cond_f rfl rfl (xw_skip (xq_then (xw_seq (xw_region ?_))))
    refine xq rfl trivial (o_mv rfl) ?_
    refine xq rfl trivial (o_mv rfl) ?_
    obtain ⟨ho5, h⟩ := h
    refine xcall rfl trivial kf27 rfl (fun w1 hw1 => gfar_c _ _ _ w1 (hs0.keep hw1 (Fr.seg hcBs2 Fr.nil)) ho5) ?_
    rintro w1 vs6 _ hw1 ⟨_, Bs6, rfl, rfl, hJs6, hcBs6⟩
    refine ⟨_, Mg.news (Cov.fresh hcBs6) (.nil _), ?_⟩
    replace hcBs6 := Cov.base (w0 := w) hcBs6 hw1.size
    refine xq rfl trivial (o_as rfl) ?_
    refine xo_nil (xq_then (xw_seq (xw_region ?_)))
    refine xq rfl trivial (o_mv rfl) ?_
    refine xo rfl trivial (o_bsl el25 ze3 (cells_one rfl) rfl rfl (.int rfl rfl (.nil _))) ?_
    rintro _ _ ⟨b29, hb29, rfl, rfl⟩
    refine xo_lit fun Bs7 hEBs7 => ?_
    have hJs7 : OJ 3 1 ic Bs7 (.slice (some ⟨b29, 0, none⟩) 1 1) [from1] := by rw [hEBs7]; exact OJ.lit (l := [from1]) (List.Mem.head _) rfl (by omega) (by simp [maxLen]) (by exact (fun i hi => match i, hi with | 0, _ => rfl | q + 1, h => absurd h (by omega)))
    have hcBs7 : Cov w [] Bs7 := by rw [hEBs7]; exact Cov.new hb29
    refine xq rfl trivial (o_as rfl) ?_
    refine xo_nil (xq_then (xw_seq (xw_region ?_)))
    refine xq rfl trivial (o_mv rfl) ?_
    refine xq rfl trivial (o_as rfl) ?_
    refine xo_nil (xq_then (xw_seq ?_))
    refine xw_block ?_
    obtain ⟨out8, hx1, h⟩ := h
    refine xw_wh (fun s e H => match s with | (out8, n9) => ∃ (v8_1 : Value) (B8_1 : GH), e = [(0, v0), (2, .int .i64 to2), (7, vs6), (8, v8_1), (9, .int .i64 n9)] ∧ H = B8_1 ++ (Bs6 ++ ([])) ∧ OJ 3 1 ic B8_1 v8_1 out8 ∧ Cov w [] B8_1) (fun (out8 : (List Int)) ex e H => ∃ (v8_1o : Value) (B8_1o : GH), ex = .exit 0 ∧ e = [(8, v8_1o)] ∧ H = B8_1o ++ (Bs6 ++ ([])) ∧ OJ 3 1 ic B8_1o v8_1o out8 ∧ Cov w [] B8_1o) hx1 ⟨[(0, v0), (2, .int .i64 to2), (7, vs6), (8, (.slice (some ⟨b29, 0, none⟩) 1 1)), (9, .int .i64 from1)], Bs7 ++ (Bs6 ++ ([])), (lc rfl (lc rfl (lc rfl (lc rfl (lc rfl ln))))), Kp.st (Kp.segKeep (Kp.segKeep (Kp.segNew (Cov.fresh hcBs2) Kp.nil))), ⟨(.slice (some ⟨b29, 0, none⟩) 1 1), Bs7, rfl, rfl, hJs7, hcBs7⟩⟩ ?_ ?_
    · rintro ⟨out8, n9⟩ o _ _ ⟨v8_1, B8_1, rfl, rfl, hJ8_1, hcB8_1⟩ hb
      have h : gway_l1 l0 to2 out8 n9 o := hb
      clear hb
      unfold gway_l1 at h
      refine xw_seq (xw_seq ?_)
      refine xw_cut [(0, _), (2, _), (7, _), (8, _), (9, _)] (lc rfl (lc rfl (lc rfl (lc rfl (lc rfl ln))))) [(38, .bool ((!(decide (n9 = to2))) || (decide ((out8.length : Int) = 1))))] ?_ ?_
      · refine xw_region ?_
        refine xq rfl trivial (o_mv rfl) ?_
        refine xq rfl trivial (o_mv rfl) ?_
        refine xq rfl trivial (o_neq rfl rfl) ?_
        refine xq rfl trivial (o_mv rfl) ?_
        refine xo_bool 34 rfl (fun hg8 => ?_) (fun hg8 => ?_)
        · have hq8 : (decide (n9 = to2)) = false := (bnT hg8)
          have hp8 : ¬ (n9 = to2) := of_decide_eq_false hq8
          refine xs rfl ⟨_, _, rfl, rfl, rfl⟩ (xs rfl ⟨_, _, rfl, rfl, rfl⟩ (xs rfl ⟨_, _, rfl, rfl, rfl⟩ ?_))
          refine xq rfl trivial (o_pick_t rfl rfl) ?_
          refine xo_nil ?_
          exact xq_cut ((lce rfl (by first | rfl | (simp only [hq8, if_neg hp8, bS]; done) | (simp only [hq8, if_neg hp8, bS, reduceIte, Bool.false_eq_true]; done) | (simp [hp8]; done) | (simp_all; done)) (lc rfl (lc rfl (lc rfl (lc rfl (lc rfl ln))))))) (fun _ h => h)
        · have hq8 : (decide (n9 = to2)) = true := (bnF hg8)
          have hp8 : n9 = to2 := of_decide_eq_true hq8
          refine xq rfl ⟨_, rfl, rfl⟩ (o_mv rfl) ?_
          refine xq rfl ⟨_, rfl, rfl⟩ (o_lenL rfl Try.underlying25 rfl (OJ.val hJ8_1)) ?_
          refine xq rfl ⟨_, rfl, rfl⟩ (o_eql rfl rfl) ?_
          refine xq rfl trivial (o_pick_f rfl rfl) ?_
          refine xo_nil ?_
          exact xq_cut ((lce rfl (by first | rfl | (simp only [hq8, if_pos hp8, bS]; done) | (simp only [hq8, if_pos hp8, bS, reduceIte, Bool.false_eq_true]; done) | (simp [hp8]; done) | (simp_all; done)) (lc rfl (lc rfl (lc rfl (lc rfl (lc rfl ln))))))) (fun _ h => h)
      · refine xq_then ?_
        refine xw_bool 38 rfl (fun hc9 => ?_) (fun hc9 => ?_)
        · have hq9 : ((!(decide (n9 = to2))) || (decide ((out8.length : Int) = 1))) = true := hc9
          have hp9 : ((!(decide (n9 = to2))) || (decide ((out8.length : Int) = 1))) = true := hq9
          rw [if_pos hp9] at h
          refine xw_cond_t rfl rfl (xw_skip (xq_then ?_))
          refine xw_block ?_
          refine xw_seq (xw_region ?_)
          refine xq rfl trivial (o_as rfl) ?_
          refine xo_nil (xq_then (xw_seq (xw_seq (xw_region ?_))))
          refine xq rfl trivial (o_mv rfl) ?_
          refine xq rfl trivial (o_mv rfl) ?_
          obtain ⟨ho10, h⟩ := h
          refine xcall rfl trivial kf19 rfl (fun w1 hw1 => gnext_c _ _ _ w1 (hs0.keep hw1 (Fr.seg hcB8_1 (Fr.seg hcBs6 Fr.nil))) ho10) ?_
          rintro w1 vs11 _ hw1 ⟨_, Bs11, rfl, rfl, hJs11, hcBs11⟩
          refine ⟨_, Mg.news (Cov.fresh hcBs11) (.nil _), ?_⟩
          replace hcBs11 := Cov.base (w0 := w) hcBs11 hw1.size
          refine xq rfl trivial (o_lenL rfl Try.underlying25 rfl (OJ.val hJs11)) ?_
          refine xq rfl trivial (o_mv rfl) ?_
          refine xo_nil (xq_then ?_)
          refine xw_block ?_
          obtain ⟨best10, hx2, h⟩ := h
          refine xw_wh (fun s e H => match s with | (best10, x43) => e = [(0, v0), (2, .int .i64 to2), (7, vs6), (8, v8_1), (9, .int .i64 n9), (10, .int .i64 best10), (41, vs11), (42, .int .i64 ((gnext_F l0 n9).length : Int)), (43, .int .i64 x43)] ∧ H = Bs11 ++ (B8_1 ++ (Bs6 ++ ([])))) (fun (best10 : Int) ex e H => ex = .exit 2 ∧ e = [(0, v0), (2, .int .i64 to2), (7, vs6), (8, v8_1), (9, .int .i64 n9), (10, .int .i64 best10)] ∧ H = Bs11 ++ (B8_1 ++ (Bs6 ++ ([])))) hx2 ⟨[(0, v0), (2, .int .i64 to2), (7, vs6), (8, v8_1), (9, .int .i64 n9), (10, .int .i64 (-1)), (41, vs11), (42, .int .i64 ((gnext_F l0 n9).length : Int)), (43, .int .i64 0)], Bs11 ++ (B8_1 ++ (Bs6 ++ ([]))), (lc rfl (lc rfl (lc rfl (lc rfl (lc rfl (lc rfl (lc rfl (lc rfl (lc rfl ln))))))))), fun _ h => h, ⟨rfl, rfl⟩⟩ ?_ ?_
          · rintro ⟨best10, x43⟩ o _ _ ⟨rfl, rfl⟩ hb
            have h : gway_l2 l0 to2 n9 best10 x43 o := hb
            clear hb
            unfold gway_l2 at h
            refine xw_seq (xw_region ?_)
            refine xq rfl trivial (o_lss rfl rfl) ?_
            refine xo_nil (xq_then (xw_seq ?_))
            refine xw_bool 44 rfl (fun hc12 => ?_) (fun hc12 => ?_)
            · have hq12 : (decide (x43 < ((gnext_F l0 n9).length : Int))) = true := hc12
              have hp12 : x43 < ((gnext_F l0 n9).length : Int) := of_decide_eq_true hq12
              rw [if_pos hp12] at h
              refine xw_cond_t rfl rfl (xw_skip (xq_then (xw_seq ?_)))
              refine xw_block ?_
              refine xw_seq (xw_region ?_)
              obtain ⟨ho13, h⟩ := h
              refine xq rfl trivial (o_ixL el25 rfl rfl (fun w hw => (hJs11.sl hw (Pull.sub (.here _ _)))) rfl ho13) ?_
              refine xq rfl trivial (o_ldL1 (off := 0) (u := .int .i64 ((gnext_F l0 n9)[x43.toNat]!)) rfl ts3 rfl (fun w hw => (hJs11.sl hw (Pull.sub (.here _ _)))) (toNat_lt ho13) rfl rfl) ?_
              refine xq rfl trivial (o_as rfl) ?_
              refine xo_nil (xq_then (xw_seq (xw_region ?_)))
              refine xq rfl trivial (o_mv rfl) ?_
              refine xq rfl trivial (o_mv rfl) ?_
              refine xq rfl trivial (o_lkok (z := 0) (k := (gnext_F l0 n9)[x43.toNat]!) kt3 Try.underlying39 ze3 rfl rfl hJs6 (Pull.sub (.there _ (.there _ (.here _ _))))) ?_
              refine xq rfl trivial (o_mv rfl) ?_
              refine xq rfl trivial (o_ext rfl rfl) ?_
              refine xq rfl trivial (o_ext rfl rfl) ?_
              refine xq rfl trivial (o_as rfl) ?_
              refine xq rfl trivial (o_as rfl) ?_
              refine xo_nil (xq_then (xw_seq ?_))
              refine xw_cut [(0, _), (2, _), (7, _), (8, _), (9, _), (10, _), (13, _), (41, _), (42, _), (43, _)] (lc rfl (lc rfl (lc rfl (lc rfl (lc rfl (lc rfl (lc rfl (lc rfl (lc rfl (lc rfl ln)))))))))) [(62, .bool (((mhas ieq (gfar_F l0 to2) ((gnext_F l0 n9)[x43.toNat]!))) && ((decide (best10 < 0)) || (decide (mget ieq (gfar_F l0 to2) ((gnext_F l0 n9)[x43.toNat]!) 0 < best10)))))] ?_ ?_
              · refine xw_region ?_
                refine xq rfl trivial (o_mv rfl) ?_
                refine xq rfl trivial (o_mv rfl) ?_
                refine xo_bool 54 rfl (fun hg14 => ?_) (fun hg14 => ?_)
                · have hq14 : ((mhas ieq (gfar_F l0 to2) ((gnext_F l0 n9)[x43.toNat]!))) = true := hg14
                  have hp14 : ((mhas ieq (gfar_F l0 to2) ((gnext_F l0 n9)[x43.toNat]!))) = true := hq14
                  refine xq rfl ⟨_, rfl, rfl⟩ (o_mv rfl) ?_
                  refine xq rfl ⟨_, rfl, rfl⟩ (o_lss rfl rfl) ?_
                  refine xq rfl ⟨_, rfl, rfl⟩ (o_mv rfl) ?_
                  refine xo_bool 57 rfl (fun hg15 => ?_) (fun hg15 => ?_)
                  · have hq15 : (decide (best10 < 0)) = true := hg15
                    have hp15 : best10 < 0 := of_decide_eq_true hq15
                    refine xs rfl ⟨_, _, rfl, rfl, rfl⟩ (xs rfl ⟨_, _, rfl, rfl, rfl⟩ (xs rfl ⟨_, _, rfl, rfl, rfl⟩ ?_))
                    refine xq rfl ⟨_, rfl, rfl⟩ (o_pick_t rfl rfl) ?_
                    refine xq rfl trivial (o_pick_t rfl rfl) ?_
                    refine xo_nil ?_
                    exact xq_cut ((lce rfl (by first | rfl | (simp only [hq12, hq14, hq15, if_pos hp12, if_pos hp14, if_pos hp15, bS]; done) | (simp only [hq12, hq14, hq15, if_pos hp12, if_pos hp14, if_pos hp15, bS, reduceIte, Bool.false_eq_true]; done) | (simp [hp12, hp14, hp15]; done) | (simp_all; done)) (lc rfl (lc rfl (lc rfl (lc rfl (lc rfl (lc rfl (lc rfl (lc rfl (lc rfl (lc rfl ln)))))))))))) (fun _ h => h)
                  · have hq15 : (decide (best10 < 0)) = false := hg15
                    have hp15 : ¬ (best10 < 0) := of_decide_eq_false hq15
                    refine xq rfl ⟨_, rfl, rfl⟩ (o_mv rfl) ?_
                    refine xq rfl ⟨_, rfl, rfl⟩ (o_mv rfl) ?_
                    refine xq rfl ⟨_, rfl, rfl⟩ (o_lss rfl rfl) ?_
                    refine xq rfl ⟨_, rfl, rfl⟩ (o_pick_f rfl rfl) ?_
                    refine xq rfl trivial (o_pick_t rfl rfl) ?_
                    refine xo_nil ?_
                    exact xq_cut ((lce rfl (by first | rfl | (simp only [hq12, hq14, hq15, if_pos hp12, if_pos hp14, if_neg hp15, bS]; done) | (simp only [hq12, hq14, hq15, if_pos hp12, if_pos hp14, if_neg hp15, bS, reduceIte, Bool.false_eq_true]; done) | (simp [hp12, hp14, hp15]; done) | (simp_all; done)) (lc rfl (lc rfl (lc rfl (lc rfl (lc rfl (lc rfl (lc rfl (lc rfl (lc rfl (lc rfl ln)))))))))))) (fun _ h => h)
                · have hq14 : ((mhas ieq (gfar_F l0 to2) ((gnext_F l0 n9)[x43.toNat]!))) = false := hg14
                  have hp14 : ¬ (((mhas ieq (gfar_F l0 to2) ((gnext_F l0 n9)[x43.toNat]!))) = true) := bne' hq14
                  refine xs rfl ⟨_, _, rfl, rfl, rfl⟩ (xs rfl ⟨_, _, rfl, rfl, rfl⟩ (xs rfl ⟨_, _, rfl, rfl, rfl⟩ (xs rfl ⟨_, _, rfl, rfl, rfl⟩ (xs rfl ⟨_, _, rfl, rfl, rfl⟩ (xs rfl ⟨_, _, rfl, rfl, rfl⟩ (xs rfl ⟨_, _, rfl, rfl, rfl⟩ ?_))))))
                  refine xq rfl trivial (o_pick_f rfl rfl) ?_
                  refine xo_nil ?_
                  exact xq_cut ((lce rfl (by first | rfl | (simp only [hq12, hq14, if_pos hp12, if_neg hp14, bS]; done) | (simp only [hq12, hq14, if_pos hp12, if_neg hp14, bS, reduceIte, Bool.false_eq_true]; done) | (simp [hp12, hp14]; done) | (simp_all; done)) (lc rfl (lc rfl (lc rfl (lc rfl (lc rfl (lc rfl (lc rfl (lc rfl (lc rfl (lc rfl ln)))))))))))) (fun _ h => h)
              · refine xq_then ?_
                refine xw_cut [(0, _), (2, _), (7, _), (8, _), (9, _), (41, _), (42, _), (43, _)] (lc rfl (lc rfl (lc rfl (lc rfl (lc rfl (lc rfl (lc rfl (lc rfl ln)))))))) [(10, .int .i64 (if (((mhas ieq (gfar_F l0 to2) ((gnext_F l0 n9)[x43.toNat]!))) && ((decide (best10 < 0)) || (decide (mget ieq (gfar_F l0 to2) ((gnext_F l0 n9)[x43.toNat]!) 0 < best10)))) = true then mget ieq (gfar_F l0 to2) ((gnext_F l0 n9)[x43.toNat]!) 0 else best10))] ?_ ?_
                · refine xw_bool 62 rfl (fun hc16 => ?_) (fun hc16 => ?_)
                  · have hq16 : (((mhas ieq (gfar_F l0 to2) ((gnext_F l0 n9)[x43.toNat]!))) && ((decide (best10 < 0)) || (decide (mget ieq (gfar_F l0 to2) ((gnext_F l0 n9)[x43.toNat]!) 0 < best10)))) = true := hc16
                    have hp16 : (((mhas ieq (gfar_F l0 to2) ((gnext_F l0 n9)[x43.toNat]!))) && ((decide (best10 < 0)) || (decide (mget ieq (gfar_F l0 to2) ((gnext_F l0 n9)[x43.toNat]!) 0 < best10)))) = true := hq16
                    refine xw_cond_t rfl rfl (xw_region ?_)
                    refine xq rfl trivial (o_mv rfl) ?_
                    refine xq rfl trivial (o_as rfl) ?_
                    refine xo_nil ?_
                    exact xq_cut (lce rfl (by first | rfl | (simp only [hq12, hq16, if_pos hp12, if_pos hp16, bS]; done) | (simp only [hq12, hq16, if_pos hp12, if_pos hp16, bS, reduceIte, Bool.false_eq_true]; done) | (simp [hp12, hp16]; done) | (simp_all; done)) (lc rfl (lc rfl (lc rfl (lc rfl (lc rfl (lc rfl (lc rfl (lc rfl ln))))))))) (fun _ hh => hh)
                  · have hq16 : (((mhas ieq (gfar_F l0 to2) ((gnext_F l0 n9)[x43.toNat]!))) && ((decide (best10 < 0)) || (decide (mget ieq (gfar_F l0 to2) ((gnext_F l0 n9)[x43.toNat]!) 0 < best10)))) = false := hc16
                    have hp16 : ¬ ((((mhas ieq (gfar_F l0 to2) ((gnext_F l0 n9)[x43.toNat]!))) && ((decide (best10 < 0)) || (decide (mget ieq (gfar_F l0 to2) ((gnext_F l0 n9)[x43.toNat]!) 0 < best10)))) = true) := bne' hq16
                    refine xw_cond_f rfl rfl (xw_skip ?_)
                    exact xq_cut (lce rfl (by first | rfl | (simp only [hq12, hq16, if_pos hp12, if_neg hp16, bS]; done) | (simp only [hq12, hq16, if_pos hp12, if_neg hp16, bS, reduceIte, Bool.false_eq_true]; done) | (simp [hp12, hp16]; done) | (simp_all; done)) (lc rfl (lc rfl (lc rfl (lc rfl (lc rfl (lc rfl (lc rfl (lc rfl ln))))))))) (fun _ hh => hh)
                · refine xq_blk 3 ?_
                  refine xq_then (xw_region ?_)
                  obtain ⟨ho17, h⟩ := h
                  refine xq rfl trivial (o_add rfl rfl rfl ho17) ?_
                  refine xq rfl trivial (o_mv rfl) ?_
                  refine xo_nil ?_
                  exact xq_next (s' := (((if (((mhas ieq (gfar_F l0 to2) ((gnext_F l0 n9)[x43.toNat]!))) && ((decide (best10 < 0)) || (decide (mget ieq (gfar_F l0 to2) ((gnext_F l0 n9)[x43.toNat]!) 0 < best10)))) = true then mget ieq (gfar_F l0 to2) ((gnext_F l0 n9)[x43.toNat]!) 0 else best10), x43 + 1) : Int × Int)) (e' := [(0, v0), (2, .int .i64 to2), (7, vs6), (8, v8_1), (9, .int .i64 n9), (10, .int .i64 (if (((mhas ieq (gfar_F l0 to2) ((gnext_F l0 n9)[x43.toNat]!))) && ((decide (best10 < 0)) || (decide (mget ieq (gfar_F l0 to2) ((gnext_F l0 n9)[x43.toNat]!) 0 < best10)))) = true then mget ieq (gfar_F l0 to2) ((gnext_F l0 n9)[x43.toNat]!) 0 else best10)), (41, vs11), (42, .int .i64 ((gnext_F l0 n9).length : Int)), (43, .int .i64 (x43 + 1))]) (Bs11 ++ (B8_1 ++ (Bs6 ++ ([])))) (lc rfl (lc rfl (lc rfl (lc rfl (lc rfl (lc rfl (lc rfl (lc rfl (lc rfl ln))))))))) (fun _ h => h) h ⟨rfl, rfl⟩
            · have hq12 : (decide (x43 < ((gnext_F l0 n9).length : Int))) = false := hc12
              have hp12 : ¬ (x43 < ((gnext_F l0 n9).length : Int)) := of_decide_eq_false hq12
              rw [if_neg hp12] at h
              refine xw_cond_f rfl rfl (xw_exit (xq_then_exit ?_))
              exact xq_out (r := (best10 : Int)) (e' := [(0, v0), (2, .int .i64 to2), (7, vs6), (8, v8_1), (9, .int .i64 n9), (10, .int .i64 best10)]) (Bs11 ++ (B8_1 ++ (Bs6 ++ ([])))) (lc rfl (lc rfl (lc rfl (lc rfl (lc rfl (lc rfl ln)))))) (fun _ h => h) h (by intro hh; cases hh) ⟨rfl, rfl, rfl⟩
          · rintro _ _ _ ⟨rfl, rfl, rfl⟩
            replace h : gway_k2a l0 to2 out8 n9 best10 o := h
            unfold gway_k2a at h
            refine xq_blk_eq ?_
            refine xq_then (xw_seq (xw_seq (xw_region ?_)))
            refine xq rfl trivial (o_mv rfl) ?_
            refine xq rfl trivial (o_mv rfl) ?_
            obtain ⟨ho18, h⟩ := h
            refine xcall rfl trivial kf19 rfl (fun w1 hw1 => gnext_c _ _ _ w1 (hs0.keep hw1 (Fr.seg hcBs11 (Fr.seg hcB8_1 (Fr.seg hcBs6 Fr.nil)))) ho18) ?_
            rintro w1 vs19 _ hw1 ⟨_, Bs19, rfl, rfl, hJs19, hcBs19⟩
            refine ⟨_, Mg.news (Cov.fresh hcBs19) (.nil _), ?_⟩
            replace hcBs19 := Cov.base (w0 := w) hcBs19 hw1.size
            refine xq rfl trivial (o_lenL rfl Try.underlying25 rfl (OJ.val hJs19)) ?_
            refine xq rfl trivial (o_mv rfl) ?_
            refine xo_nil (xq_then ?_)
            refine xw_block ?_
            obtain ⟨n9a, hx3, h⟩ := h
            refine xw_wh (fun s e H => match s with | (n9a, x69) => e = [(0, v0), (2, .int .i64 to2), (7, vs6), (8, v8_1), (9, .int .i64 n9a), (10, .int .i64 best10), (67, vs19), (68, .int .i64 ((gnext_F l0 n9).length : Int)), (69, .int .i64 x69)] ∧ H = Bs19 ++ (B8_1 ++ (Bs6 ++ ([])))) (fun (n9a : Int) ex e H => ex = .exit 4 ∧ e = [(0, v0), (2, .int .i64 to2), (7, vs6), (8, v8_1), (9, .int .i64 n9a)] ∧ H = Bs19 ++ (B8_1 ++ (Bs6 ++ ([])))) hx3 ⟨[(0, v0), (2, .int .i64 to2), (7, vs6), (8, v8_1), (9, .int .i64 n9), (10, .int .i64 best10), (67, vs19), (68, .int .i64 ((gnext_F l0 n9).length : Int)), (69, .int .i64 0)], Bs19 ++ (B8_1 ++ (Bs6 ++ ([]))), (lc rfl (lc rfl (lc rfl (lc rfl (lc rfl (lc rfl (lc rfl (lc rfl (lc rfl ln))))))))), Kp.st (Kp.segKeep (Kp.segNew (Cov.fresh hcBs11) (Kp.segKeep (Kp.segKeep Kp.nil)))), ⟨rfl, rfl⟩⟩ ?_ ?_
            · rintro ⟨n9a, x69⟩ o _ _ ⟨rfl, rfl⟩ hb
              have h : gway_l3 l0 to2 n9 best10 n9a x69 o := hb
              clear hb
              unfold gway_l3 at h
              refine xw_seq (xw_region ?_)
              refine xq rfl trivial (o_lss rfl rfl) ?_
              refine xo_nil (xq_then (xw_seq ?_))
              refine xw_bool 70 rfl (fun hc20 => ?_) (fun hc20 => ?_)
              · have hq20 : (decide (x69 < ((gnext_F l0 n9).length : Int))) = true := hc20
                have hp20 : x69 < ((gnext_F l0 n9).length : Int) := of_decide_eq_true hq20
                rw [if_pos hp20] at h
                refine xw_cond_t rfl rfl (xw_skip (xq_then (xw_seq ?_)))
                refine xw_block ?_
                refine xw_seq (xw_region ?_)
                obtain ⟨ho21, h⟩ := h
                refine xq rfl trivial (o_ixL el25 rfl rfl (fun w hw => (hJs19.sl hw (Pull.sub (.here _ _)))) rfl ho21) ?_
                refine xq rfl trivial (o_ldL1 (off := 0) (u := .int .i64 ((gnext_F l0 n9)[x69.toNat]!)) rfl ts3 rfl (fun w hw => (hJs19.sl hw (Pull.sub (.here _ _)))) (toNat_lt ho21) rfl rfl) ?_
                refine xq rfl trivial (o_as rfl) ?_
                refine xo_nil (xq_then (xw_seq (xw_region ?_)))
                refine xq rfl trivial (o_mv rfl) ?_
                refine xq rfl trivial (o_mv rfl) ?_
                refine xq rfl trivial (o_lkok (z := 0) (k := (gnext_F l0 n9)[x69.toNat]!) kt3 Try.underlying39 ze3 rfl rfl hJs6 (Pull.sub (.there _ (.there _ (.here _ _))))) ?_
                refine xq rfl trivial (o_mv rfl) ?_
                refine xq rfl trivial (o_ext rfl rfl) ?_
                refine xq rfl trivial (o_ext rfl rfl) ?_
                refine xq rfl trivial (o_as rfl) ?_
                refine xq rfl trivial (o_as rfl) ?_
                refine xo_nil (xq_then (xw_seq ?_))
                refine xw_cut [(0, _), (2, _), (7, _), (8, _), (9, _), (10, _), (16, _), (67, _), (68, _), (69, _)] (lc rfl (lc rfl (lc rfl (lc rfl (lc rfl (lc rfl (lc rfl (lc rfl (lc rfl (lc rfl ln)))))))))) [(84, .bool (((mhas ieq (gfar_F l0 to2) ((gnext_F l0 n9)[x69.toNat]!))) && (decide (mget ieq (gfar_F l0 to2) ((gnext_F l0 n9)[x69.toNat]!) 0 = best10))))] ?_ ?_
                · refine xw_region ?_
                  refine xq rfl trivial (o_mv rfl) ?_
                  refine xq rfl trivial (o_mv rfl) ?_
                  refine xo_bool 80 rfl (fun hg22 => ?_) (fun hg22 => ?_)
                  · have hq22 : ((mhas ieq (gfar_F l0 to2) ((gnext_F l0 n9)[x69.toNat]!))) = true := hg22
                    have hp22 : ((mhas ieq (gfar_F l0 to2) ((gnext_F l0 n9)[x69.toNat]!))) = true := hq22
                    refine xq rfl ⟨_, rfl, rfl⟩ (o_mv rfl) ?_
                    refine xq rfl ⟨_, rfl, rfl⟩ (o_mv rfl) ?_
                    refine xq rfl ⟨_, rfl, rfl⟩ (o_eql rfl rfl) ?_
                    refine xq rfl trivial (o_pick_t rfl rfl) ?_
                    refine xo_nil ?_
                    exact xq_cut ((lce rfl (by first | rfl | (simp only [hq20, hq22, if_pos hp20, if_pos hp22, bS]; done) | (simp only [hq20, hq22, if_pos hp20, if_pos hp22, bS, reduceIte, Bool.false_eq_true]; done) | (simp [hp20, hp22]; done) | (simp_all; done)) (lc rfl (lc rfl (lc rfl (lc rfl (lc rfl (lc rfl (lc rfl (lc rfl (lc rfl (lc rfl ln)))))))))))) (fun _ h => h)
                  · have hq22 : ((mhas ieq (gfar_F l0 to2) ((gnext_F l0 n9)[x69.toNat]!))) = false := hg22
                    have hp22 : ¬ (((mhas ieq (gfar_F l0 to2) ((gnext_F l0 n9)[x69.toNat]!))) = true) := bne' hq22
                    refine xs rfl ⟨_, _, rfl, rfl, rfl⟩ (xs rfl ⟨_, _, rfl, rfl, rfl⟩ (xs rfl ⟨_, _, rfl, rfl, rfl⟩ ?_))
                    refine xq rfl trivial (o_pick_f rfl rfl) ?_
                    refine xo_nil ?_
                    exact xq_cut ((lce rfl (by first | rfl | (simp only [hq20, hq22, if_pos hp20, if_neg hp22, bS]; done) | (simp only [hq20, hq22, if_pos hp20, if_neg hp22, bS, reduceIte, Bool.false_eq_true]; done) | (simp [hp20, hp22]; done) | (simp_all; done)) (lc rfl (lc rfl (lc rfl (lc rfl (lc rfl (lc rfl (lc rfl (lc rfl (lc rfl (lc rfl ln)))))))))))) (fun _ h => h)
                · refine xq_then ?_
                  refine xw_bool 84 rfl (fun hc23 => ?_) (fun hc23 => ?_)
                  · have hq23 : (((mhas ieq (gfar_F l0 to2) ((gnext_F l0 n9)[x69.toNat]!))) && (decide (mget ieq (gfar_F l0 to2) ((gnext_F l0 n9)[x69.toNat]!) 0 = best10))) = true := hc23
                    have hp23 : (((mhas ieq (gfar_F l0 to2) ((gnext_F l0 n9)[x69.toNat]!))) && (decide (mget ieq (gfar_F l0 to2) ((gnext_F l0 n9)[x69.toNat]!) 0 = best10))) = true := hq23
                    rw [if_pos hp23] at h
                    refine xw_cond_t rfl rfl (xw_seq (xw_region ?_))
                    refine xq rfl trivial (o_mv rfl) ?_
                    refine xq rfl trivial (o_as rfl) ?_
                    refine xo_nil (xq_then (xw_exit (xq_blk_ne rfl (xq_then_exit ?_))))
                    exact xq_out (r := ((gnext_F l0 n9)[x69.toNat]! : Int)) (e' := [(0, v0), (2, .int .i64 to2), (7, vs6), (8, v8_1), (9, .int .i64 ((gnext_F l0 n9)[x69.toNat]!))]) (Bs19 ++ (B8_1 ++ (Bs6 ++ ([])))) (lc rfl (lc rfl (lc rfl (lc rfl (lc rfl ln))))) (fun _ h => h) h (by intro hh; cases hh) ⟨rfl, rfl, rfl⟩
                  · have hq23 : (((mhas ieq (gfar_F l0 to2) ((gnext_F l0 n9)[x69.toNat]!))) && (decide (mget ieq (gfar_F l0 to2) ((gnext_F l0 n9)[x69.toNat]!) 0 = best10))) = false := hc23
                    have hp23 : ¬ ((((mhas ieq (gfar_F l0 to2) ((gnext_F l0 n9)[x69.toNat]!))) && (decide (mget ieq (gfar_F l0 to2) ((gnext_F l0 n9)[x69.toNat]!) 0 = best10))) = true) := bne' hq23
                    rw [if_neg hp23] at h
                    refine xw_cond_f rfl rfl (xw_skip ?_)
                    refine xq_blk 5 ?_
                    refine xq_then (xw_region ?_)
                    obtain ⟨ho24, h⟩ := h
                    refine xq rfl trivial (o_add rfl rfl rfl ho24) ?_
                    refine xq rfl trivial (o_mv rfl) ?_
                    refine xo_nil ?_
                    exact xq_next (s' := ((n9a, x69 + 1) : Int × Int)) (e' := [(0, v0), (2, .int .i64 to2), (7, vs6), (8, v8_1), (9, .int .i64 n9a), (10, .int .i64 best10), (67, vs19), (68, .int .i64 ((gnext_F l0 n9).length : Int)), (69, .int .i64 (x69 + 1))]) (Bs19 ++ (B8_1 ++ (Bs6 ++ ([])))) (lc rfl (lc rfl (lc rfl (lc rfl (lc rfl (lc rfl (lc rfl (lc rfl (lc rfl ln))))))))) (fun _ h => h) h ⟨rfl, rfl⟩
              · have hq20 : (decide (x69 < ((gnext_F l0 n9).length : Int))) = false := hc20
                have hp20 : ¬ (x69 < ((gnext_F l0 n9).length : Int)) := of_decide_eq_false hq20
                rw [if_neg hp20] at h
                refine xw_cond_f rfl rfl (xw_exit (xq_then_exit ?_))
                exact xq_out (r := (n9a : Int)) (e' := [(0, v0), (2, .int .i64 to2), (7, vs6), (8, v8_1), (9, .int .i64 n9a)]) (Bs19 ++ (B8_1 ++ (Bs6 ++ ([])))) (lc rfl (lc rfl (lc rfl (lc rfl (lc rfl ln))))) (fun _ h => h) h (by intro hh; cases hh) ⟨rfl, rfl, rfl⟩
            · rintro _ _ _ ⟨rfl, rfl, rfl⟩
              replace h : gway_k3a out8 n9a o := h
              unfold gway_k3a at h
              refine xq_blk_eq ?_
              refine xq_then (xw_region ?_)
              refine xq rfl trivial (o_mv rfl) ?_
              refine xq rfl trivial (o_mv rfl) ?_
              refine xo rfl trivial (o_bsl el25 ze3 (cells_one rfl) rfl rfl (.int rfl rfl (.nil _))) ?_
              rintro _ _ ⟨b89, hb89, rfl, rfl⟩
              obtain ⟨ho26, h⟩ := h
              refine xo rfl trivial (OT.st (fun _ h => Pull.st (.thereC _ (.there _ (.here _ _))) h) (o_appJ (l := out8) (l' := [n9a]) (B := B8_1) ap25 rfl rfl hJ8_1 (fun w2 hw2 => (SL.lit (l := [n9a]) hw2 (List.mem_append_right _ (List.Mem.head _)) rfl (by omega) (by simp [maxLen]) (by exact (fun i hi => match i, hi with | 0, _ => rfl | q + 1, h => absurd h (by omega))))) (fun _ _ => rfl) ho26 (len_max ho26 (by decide)))) ?_
              rintro vs25 _ ⟨Bs25, rfl, hns25, hJs25⟩
              have hcBs25 := Cov.trans hcB8_1 hns25
              refine xo_st ((b89, BK 1 _ 3) :: (Bs19 ++ (Bs25 ++ (Bs6 ++ ([]))))) (fun _ h => Pull.push (.thereC _ (.there _ (.here _ _))) h) ?_
              refine xq rfl trivial (o_as rfl) ?_
              refine xo_nil ?_
              refine xq_blk 1 ?_
              exact xq_next (s' := (((out8 ++ [n9a]), n9a) : (List Int) × Int)) (e' := [(0, v0), (2, .int .i64 to2), (7, vs6), (8, vs25), (9, .int .i64 n9a)]) (Bs25 ++ (Bs6 ++ ([]))) (lc rfl (lc rfl (lc rfl (lc rfl (lc rfl ln))))) (Kp.st (Kp.new hb89 (Kp.segNew (Cov.fresh hcBs19) (Kp.segKeep (Kp.segKeep Kp.nil))))) h ⟨vs25, Bs25, rfl, rfl, hJs25, hcBs25⟩
        · have hq9 : ((!(decide (n9 = to2))) || (decide ((out8.length : Int) = 1))) = false := hc9
          have hp9 : ¬ (((!(decide (n9 = to2))) || (decide ((out8.length : Int) = 1))) = true) := bne' hq9
          rw [if_neg hp9] at h
          refine xw_cond_f rfl rfl (xw_exit (xq_then_exit ?_))
          exact xq_out (r := (out8 : (List Int))) (e' := [(8, v8_1)]) (B8_1 ++ (Bs6 ++ ([]))) (lc rfl ln) (fun _ h => h) h (by intro hh; cases hh) ⟨v8_1, B8_1, rfl, rfl, rfl, hJ8_1, hcB8_1⟩
    · rintro _ _ _ ⟨v8_1o, B8_1o, rfl, rfl, rfl, hJ8_1o, hcB8_1o⟩
      replace h : gway_k1a out8 r := h
      unfold gway_k1a at h
      refine xq_blk_eq ?_
      refine xq_then (xw_seq (xw_region ?_))
      refine xq rfl trivial (o_mv rfl) ?_
      refine xq rfl trivial (o_as rfl) ?_
      refine xo_nil (xq_then (xw_ret ?_))
      subst h
      exact con_ret1 (.inl rfl) Try.results14 rfl (B8_1o ++ []) (Kp.st (Kp.segKeep (Kp.segNew (Cov.fresh hcBs6) Kp.nil))) (⟨_, B8_1o, rfl, rfl, hJ8_1o, hcB8_1o⟩)

end Go.Proofs.Ytdmibiefinhneaa
