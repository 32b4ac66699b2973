/- The code answers as the relations say. -/
import Derived.Test.YtjmfnohbeoiddaaTab
import Derived.Test.YtjmfnohbeoiddaaH12S
import Derived.Test.YtjmfnohbeoiddaaG12W
set_option maxHeartbeats 1000000
set_option linter.unusedVariables false
set_option linter.unusedSimpArgs false
set_option maxRecDepth 100000
namespace Go.Proofs.Ytjmfnohbeoiddaa
open Go Go.E

theorem risingR_c (l0 : (List Int)) (v0 : Value) (w : World) (hs0 : SL w 1 ic v0 l0) (hP : rising_P l0) : Con Try.prog 46 #[v0] w (fun v F => ∃ (u0 : Value) (C0 : GH), v = u0 ∧ F = (C0 ++ []) ∧ OJ 3 1 ic C0 u0 (rising_F l0) ∧ Cov w [] C0) :=
  risingR_con l0 v0 w hs0 _ (risingR_ok l0 hP)

theorem hasR_c (l0 : (List Int)) (n1 : Int) (v0 : Value) (w : World) (hs0 : SL w 1 ic v0 l0) (hP : hasR_P l0 n1) : Con Try.prog 35 #[v0, .int .i64 n1] w (Is (.bool (hasR_F l0 n1)) []) :=
  hasR_con l0 n1 v0 w hs0 _ (hasR_ok l0 n1 hP)

theorem nodesR_con (l0 : (List (Nat → Int))) (v0 : Value) (w : World) (hs0 : SL w 4 iv v0 l0) (r : (List Int)) (h : nodesR_S l0 r) : Con Try.prog 34 #[v0] w (fun v F => ∃ (u0 : Value) (C0 : GH), v = u0 ∧ F = (C0 ++ []) ∧ OJ 3 1 ic C0 u0 r ∧ Cov w [] C0) := by
  unfold nodesR_S at h
  refine con_enter (n := 26) [(0, _)] Try.func34 rfl Try.ntmps34 rfl (lac rfl lan) ?_
  refine xw_seq (xw_region ?_)
  refine xq rfl trivial (o_as rfl) ?_
  refine xo_nil (xq_then (xw_seq (xw_region ?_)))
  refine xq rfl trivial (o_as rfl) ?_
  refine xo_nil (xq_then (xw_seq (xw_seq (xw_region ?_))))
  refine xq rfl trivial (o_as rfl) ?_
  refine xo_nil (xq_then ?_)
  refine xw_block ?_
  obtain ⟨out3, hx1, h⟩ := h
  refine xw_wh (fun s e H => match s with | (out3, i4) => ∃ (v3_1 : Value) (B3_1 : GH), e = [(0, v0), (3, v3_1), (4, .int .i64 i4)] ∧ H = B3_1 ++ ([]) ∧ OJ 3 1 ic B3_1 v3_1 out3 ∧ Cov w [] B3_1) (fun (out3 : (List Int)) ex e H => ∃ (v3_1o : Value) (B3_1o : GH), ex = .exit 0 ∧ e = [(3, v3_1o)] ∧ H = B3_1o ++ ([]) ∧ OJ 3 1 ic B3_1o v3_1o out3 ∧ Cov w [] B3_1o) hx1 ⟨[(0, v0), (3, .slice none 0 0), (4, .int .i64 0)], [] ++ ([]), (lc rfl (lc rfl (lc rfl ln))), fun _ h => h, ⟨_, [], rfl, rfl, OJ.nil, (Cov.refl _)⟩⟩ ?_ ?_
  · rintro ⟨out3, i4⟩ o _ _ ⟨v3_1, B3_1, rfl, rfl, hJ3_1, hcB3_1⟩ hb
    have h : nodesR_l1 l0 out3 i4 o := hb
    clear hb
    unfold nodesR_l1 at h
    refine xw_seq (xw_seq (xw_region ?_))
    refine xq rfl trivial (o_mv rfl) ?_
    refine xq rfl trivial (o_mv rfl) ?_
    refine xq rfl trivial (o_lenL rfl Try.underlying30 rfl (SL.val hs0)) ?_
    refine xq rfl trivial (o_lss rfl rfl) ?_
    refine xo_nil (xq_then ?_)
    refine xw_bool 8 rfl (fun hc1 => ?_) (fun hc1 => ?_)
    · have hq1 : (decide (i4 < (l0.length : Int))) = true := hc1
      have hp1 : i4 < (l0.length : Int) := of_decide_eq_true hq1
      rw [if_pos hp1] at h
      refine xw_cond_t rfl rfl (xw_skip (xq_then (xw_seq ?_)))
      refine xw_block ?_
      refine xd_start (by kernel_rfl) (by kernel_rfl) (fun hok => ?_)
      refine xd_b hok 0 [(3, _)] ([]) rsN rfl rfl rfl (lc rfl ln) (by kernel_rfl) trivial (fun H' hy hK => o_mv rfl) ?_
      refine xd_b hok 1 [(0, _)] ([]) rsN rfl rfl rfl (lc rfl ln) (by kernel_rfl) trivial (fun H' hy hK => o_mv rfl) ?_
      refine xd_b hok 2 [(4, _)] ([]) rsN rfl rfl rfl (lc rfl ln) (by kernel_rfl) trivial (fun H' hy hK => o_mv rfl) ?_
      obtain ⟨ho2, h⟩ := h
      refine xd_b hok 3 [(12, _), (13, _)] ([]) rsN rfl rfl rfl (lc rfl (lc rfl ln)) (by kernel_rfl) trivial (fun H' hy hK => o_ixL el30 rfl rfl (fun w hw => (hs0.keep hw (fun k hk => (hK k hk).elim (fun h => (Fr.seg hcB3_1 Fr.nil) k h) id))) rfl ho2) ?_
      refine xd_b hok 4 [(14, _)] ([]) rsN rfl rfl rfl (lc rfl ln) (by kernel_rfl) trivial (fun H' hy hK => o_faL fl54_0 rfl rfl (fun w hw => (hs0.keep hw (fun k hk => (hK k hk).elim (fun h => (Fr.seg hcB3_1 Fr.nil) k h) id))) (toNat_lt ho2)) ?_
      refine xd_b hok 5 [(15, _)] ([]) rsN rfl rfl rfl (lc rfl ln) (by kernel_rfl) trivial (fun H' hy hK => o_ldL1 (off := 0) (u := .int .i64 (l0[i4.toNat]! 0)) rfl ts3 rfl (fun w hw => (hs0.keep hw (fun k hk => (hK k hk).elim (fun h => (Fr.seg hcB3_1 Fr.nil) k h) id))) (toNat_lt ho2) rfl rfl) ?_
      refine xd_b hok 6 [(0, _)] ([]) rsN rfl rfl rfl (lc rfl ln) (by kernel_rfl) trivial (fun H' hy hK => o_mv rfl) ?_
      refine xd_b hok 7 [(4, _)] ([]) rsN rfl rfl rfl (lc rfl ln) (by kernel_rfl) trivial (fun H' hy hK => o_mv rfl) ?_
      obtain ⟨ho3, h⟩ := h
      refine xd_b hok 8 [(17, _), (18, _)] ([]) rsN rfl rfl rfl (lc rfl (lc rfl ln)) (by kernel_rfl) trivial (fun H' hy hK => o_ixL el30 rfl rfl (fun w hw => (hs0.keep hw (fun k hk => (hK k hk).elim (fun h => (Fr.seg hcB3_1 Fr.nil) k h) id))) rfl ho3) ?_
      refine xd_b hok 9 [(19, _)] ([]) rsN rfl rfl rfl (lc rfl ln) (by kernel_rfl) trivial (fun H' hy hK => o_faL fl54_2 rfl rfl (fun w hw => (hs0.keep hw (fun k hk => (hK k hk).elim (fun h => (Fr.seg hcB3_1 Fr.nil) k h) id))) (toNat_lt ho3)) ?_
      refine xd_b hok 10 [(20, _)] ([]) rsN rfl rfl rfl (lc rfl ln) (by kernel_rfl) trivial (fun H' hy hK => o_ldL1 (off := 2) (u := .int .i64 (l0[i4.toNat]! 2)) rfl ts3 rfl (fun w hw => (hs0.keep hw (fun k hk => (hK k hk).elim (fun h => (Fr.seg hcB3_1 Fr.nil) k h) id))) (toNat_lt ho3) rfl rfl) ?_
      refine xd_step hok 11 [(16, _), (21, _)] rfl rfl (by kernel_rfl) (lc rfl (lc rfl ln)) (by kernel_rfl) trivial (o_bsl el57 ze3 (cells_one rfl) rfl rfl (.int rfl rfl (.int rfl rfl (.nil _)))) ?_
      rintro _ _ ⟨b22, hb22, rfl, rfl⟩
      refine ⟨(rsA rsN (rsA rsN (rsA rsN (rsA rsN (rsA rsN (rsA rsN (rsA rsN (rsA rsN (rsA rsN (rsA rsN (rsA rsN rsN))))))))))), (Ks.consN hb22 (Ks.segK (fun k hk => by simp [hk]) Ks.nil)), ?_⟩
      obtain ⟨ho5, h⟩ := h
      refine xd_fl hok 4 12 [(11, _), (22, _)] rfl rfl (by kernel_rfl) (by kernel_rfl) (lc rfl (lc rfl ln)) (by kernel_rfl) trivial (OT.push (fun q_ => (b22, BK 2 _ 3) :: (q_ ++ ([]))) (fun _ => (.thereC _ (.here _ _))) (OT.st (fun _ h => Pull.st (.thereC _ (.here _ _)) h) (o_appJ (l := out3) (l' := [l0[i4.toNat]! 0, l0[i4.toNat]! 2]) (B := B3_1) ap57 rfl rfl hJ3_1 (fun w2 hw2 => (SL.lit (l := [l0[i4.toNat]! 0, l0[i4.toNat]! 2]) hw2 (List.mem_append_right _ (List.Mem.head _)) rfl (by omega) (by simp [maxLen]) (by exact (fun i hi => match i, hi with | 0, _ => rfl | 1, _ => rfl | q + 2, h => absurd h (by omega))))) (fun _ _ => rfl) ho5 (len_max ho5 (by decide))))) ?_
      rintro vs4 _ ⟨Bs4, rfl, hns4, hJs4⟩
      have hcBs4 := Cov.trans hcB3_1 hns4
      refine ⟨(Ks.consN hb22 (Ks.segN hcBs4 Ks.nil)), ?_⟩
      refine xd_show (H' := (b22, BK 2 _ 3) :: (Bs4 ++ ([]))) rfl ?_
      refine xd_b hok 13 [(23, _)] ([]) rsN rfl rfl rfl (lc rfl ln) (by kernel_rfl) trivial (fun H' hy hK => o_as rfl) ?_
      refine xd_end hok (by kernel_rfl) ?_
      refine xq_blk 1 ?_
      refine xq_then (xw_region ?_)
      refine xq rfl trivial (o_mv rfl) ?_
      obtain ⟨ho6, h⟩ := h
      refine xq rfl trivial (o_add rfl rfl rfl ho6) ?_
      refine xq rfl trivial (o_as rfl) ?_
      refine xo_nil ?_
      exact xq_next (s' := (((out3 ++ [l0[i4.toNat]! 0, l0[i4.toNat]! 2]), i4 + 1) : (List Int) × Int)) (e' := [(0, v0), (3, vs4), (4, .int .i64 (i4 + 1))]) (Bs4 ++ ([])) (lc rfl (lc rfl (lc rfl ln))) (Kp.st (Kp.new hb22 (Kp.segKeep Kp.nil))) h ⟨vs4, Bs4, rfl, rfl, hJs4, hcBs4⟩
    · have hq1 : (decide (i4 < (l0.length : Int))) = false := hc1
      have hp1 : ¬ (i4 < (l0.length : Int)) := of_decide_eq_false hq1
      rw [if_neg hp1] at h
      refine xw_cond_f rfl rfl (xw_exit (xq_then_exit ?_))
      exact xq_out (r := (out3 : (List Int))) (e' := [(3, v3_1)]) (B3_1 ++ ([])) (lc rfl ln) (fun _ h => h) h (by intro hh; cases hh) ⟨v3_1, B3_1, rfl, rfl, rfl, hJ3_1, hcB3_1⟩
  · rintro _ _ _ ⟨v3_1o, B3_1o, rfl, rfl, rfl, hJ3_1o, hcB3_1o⟩
    replace h : nodesR_k1a out3 r := h
    unfold nodesR_k1a at h
    refine xq_blk_eq ?_
    refine xq_then (xw_seq (xw_region ?_))
    refine xq rfl trivial (o_mv rfl) ?_
    obtain ⟨ho7, h⟩ := h
    refine xcall rfl trivial kf46 rfl (fun w1 hw1 => risingR_c _ _ w1 (hJ3_1o.sl hw1 (Pull.sub (.here _ _))) ho7) ?_
    rintro w1 vs8 _ hw1 ⟨_, Bs8, rfl, rfl, hJs8, hcBs8⟩
    refine ⟨_, Mg.news (Cov.fresh hcBs8) (.nil _), ?_⟩
    replace hcBs8 := Cov.base (w0 := w) hcBs8 hw1.size
    refine xq rfl trivial (o_as rfl) ?_
    refine xo_nil (xq_then (xw_ret ?_))
    subst h
    exact con_ret1 (.inl rfl) Try.results34 rfl (Bs8 ++ []) (Kp.st (Kp.segKeep (Kp.segNew (Cov.fresh hcB3_1o) Kp.nil))) (⟨_, Bs8, rfl, rfl, hJs8, hcBs8⟩)

theorem reachR_con (l0 : (List (Nat → Int))) (from1 : Int) (v0 : Value) (w : World) (hs0 : SL w 4 iv v0 l0) (r : (List Int)) (h : reachR_S l0 from1 r) : Con Try.prog 36 #[v0, .int .i64 from1] w (fun v F => ∃ (u0 : Value) (C0 : GH), v = u0 ∧ F = (C0 ++ []) ∧ OJ 3 1 ic C0 u0 r ∧ Cov w [] C0) := by
  unfold reachR_S at h
  refine con_enter (n := 51) [(0, _), (1, _)] Try.func36 rfl Try.ntmps36 rfl (lac rfl (lac rfl lan)) ?_
  refine xw_seq (xw_region ?_)
  refine xq rfl trivial (o_as rfl) ?_
  refine xo_nil (xq_then (xw_seq (xw_region ?_)))
  refine xq rfl trivial (o_as rfl) ?_
  refine xo_nil (xq_then (xw_seq (xw_seq (xw_region ?_))))
  refine xq rfl trivial (o_as rfl) ?_
  refine xo_nil (xq_then ?_)
  refine xw_block ?_
  obtain ⟨out5, hx1, h⟩ := h
  refine xw_wh (fun s e H => match s with | (out5, more6) => ∃ (v5_1 : Value) (B5_1 : GH), e = [(0, v0), (1, .int .i64 from1), (5, v5_1), (6, .bool (more6))] ∧ H = B5_1 ++ ([]) ∧ OJ 3 1 ic B5_1 v5_1 out5 ∧ Cov w [] B5_1) (fun (out5 : (List Int)) ex e H => ∃ (v5_1o : Value) (B5_1o : GH), ex = .exit 0 ∧ e = [(5, v5_1o)] ∧ H = B5_1o ++ ([]) ∧ OJ 3 1 ic B5_1o v5_1o out5 ∧ Cov w [] B5_1o) hx1 ⟨[(0, v0), (1, .int .i64 from1), (5, .slice none 0 0), (6, .bool true)], [] ++ ([]), (lc rfl (lc rfl (lc rfl (lc rfl ln)))), fun _ h => h, ⟨_, [], rfl, rfl, OJ.nil, (Cov.refl _)⟩⟩ ?_ ?_
  · rintro ⟨out5, more6⟩ o _ _ ⟨v5_1, B5_1, rfl, rfl, hJ5_1, hcB5_1⟩ hb
    have h : reachR_l1 l0 from1 out5 more6 o := hb
    clear hb
    unfold reachR_l1 at h
    refine xw_seq (xw_seq (xw_region ?_))
    refine xq rfl trivial (o_mv rfl) ?_
    refine xo_nil (xq_then ?_)
    refine xw_bool 8 rfl (fun hc1 => ?_) (fun hc1 => ?_)
    · have hq1 : (more6) = true := hc1
      have hp1 : (more6) = true := hq1
      rw [if_pos hp1] at h
      refine xw_cond_t rfl rfl (xw_skip (xq_then ?_))
      refine xw_block ?_
      refine xw_seq (xw_region ?_)
      refine xq rfl trivial (o_as rfl) ?_
      refine xo_nil (xq_then (xw_seq (xw_region ?_)))
      refine xq rfl trivial (o_as rfl) ?_
      refine xo_nil (xq_then ?_)
      refine xw_block ?_
      obtain ⟨x2, hx2, h⟩ := h
      refine xw_wh (fun s e H => match s with | (out5a, more6a, i7) => ∃ (v5_2 : Value) (B5_2 : GH), e = [(0, v0), (1, .int .i64 from1), (5, v5_2), (6, .bool (more6a)), (7, .int .i64 i7)] ∧ H = B5_2 ++ ([]) ∧ OJ 3 1 ic B5_2 v5_2 out5a ∧ Cov w [] B5_2) (fun s ex e H => match s with | (out5a, more6a) => ∃ (v5_2o : Value) (B5_2o : GH), ex = .exit 2 ∧ e = [(0, v0), (1, .int .i64 from1), (5, v5_2o), (6, .bool (more6a))] ∧ H = B5_2o ++ ([]) ∧ OJ 3 1 ic B5_2o v5_2o out5a ∧ Cov w [] B5_2o) hx2 ⟨[(0, v0), (1, .int .i64 from1), (5, v5_1), (6, .bool false), (7, .int .i64 0)], B5_1 ++ ([]), (lc rfl (lc rfl (lc rfl (lc rfl (lc rfl ln))))), fun _ h => h, ⟨v5_1, B5_1, rfl, rfl, hJ5_1, hcB5_1⟩⟩ ?_ ?_
      · rintro ⟨out5a, more6a, i7⟩ o _ _ ⟨v5_2, B5_2, rfl, rfl, hJ5_2, hcB5_2⟩ hb
        have h : reachR_l2 l0 from1 out5a more6a i7 o := hb
        clear hb
        unfold reachR_l2 at h
        refine xw_seq (xw_seq (xw_region ?_))
        refine xq rfl trivial (o_mv rfl) ?_
        refine xq rfl trivial (o_mv rfl) ?_
        refine xq rfl trivial (o_lenL rfl Try.underlying30 rfl (SL.val hs0)) ?_
        refine xq rfl trivial (o_lss rfl rfl) ?_
        refine xo_nil (xq_then ?_)
        refine xw_bool 12 rfl (fun hc2 => ?_) (fun hc2 => ?_)
        · have hq2 : (decide (i7 < (l0.length : Int))) = true := hc2
          have hp2 : i7 < (l0.length : Int) := of_decide_eq_true hq2
          rw [if_pos hp2] at h
          refine xw_cond_t rfl rfl (xw_skip (xq_then (xw_seq ?_)))
          refine xw_block ?_
          refine xw_seq ?_
          obtain ⟨ho3, ho4, ho5, ho6, ho7, h⟩ := h
          refine xw_cut [(0, _), (1, _), (5, _), (6, _), (7, _)] (lc rfl (lc rfl (lc rfl (lc rfl (lc rfl ln))))) [(40, .bool (((decide (l0[i7.toNat]! 0 = from1)) || ((hasR_F out5a (l0[i7.toNat]! 0)))) && (!((hasR_F out5a (l0[i7.toNat]! 2))))))] ?_ ?_
          · refine xw_region ?_
            refine xq rfl trivial (o_mv rfl) ?_
            refine xq rfl trivial (o_mv rfl) ?_
            refine xq rfl trivial (o_ixL el30 rfl rfl (fun w hw => (hs0.keep hw (Fr.seg hcB5_2 Fr.nil))) rfl (ho3)) ?_
            refine xq rfl trivial (o_faL fl54_0 rfl rfl (fun w hw => (hs0.keep hw (Fr.seg hcB5_2 Fr.nil))) (toNat_lt (ho3))) ?_
            refine xq rfl trivial (o_ldL1 (off := 0) (u := .int .i64 (l0[i7.toNat]! 0)) rfl ts3 rfl (fun w hw => (hs0.keep hw (Fr.seg hcB5_2 Fr.nil))) (toNat_lt (ho3)) rfl rfl) ?_
            refine xq rfl trivial (o_mv rfl) ?_
            refine xq rfl trivial (o_eql rfl rfl) ?_
            refine xq rfl trivial (o_mv rfl) ?_
            refine xo_bool 22 rfl (fun hg8 => ?_) (fun hg8 => ?_)
            · have hq8 : (decide (l0[i7.toNat]! 0 = from1)) = true := hg8
              have hp8 : l0[i7.toNat]! 0 = from1 := of_decide_eq_true hq8
              refine xs rfl ⟨_, _, rfl, rfl, rfl⟩ (xs rfl ⟨_, _, rfl, rfl, rfl⟩ (xs rfl ⟨_, _, rfl, rfl, rfl⟩ (xs rfl ⟨_, _, rfl, rfl, rfl⟩ (xs rfl ⟨_, _, rfl, rfl, rfl⟩ (xs rfl ⟨_, _, rfl, rfl, rfl⟩ (xs rfl ⟨_, _, rfl, rfl, rfl⟩ ?_))))))
              refine xq rfl trivial (o_pick_t rfl rfl) ?_
              refine xq rfl trivial (o_mv rfl) ?_
              refine xq rfl ⟨_, rfl, rfl⟩ (o_mv rfl) ?_
              refine xq rfl ⟨_, rfl, rfl⟩ (o_mv rfl) ?_
              refine xq rfl ⟨_, rfl, rfl⟩ (o_mv rfl) ?_
              refine xq rfl ⟨_, rfl, rfl⟩ (o_ixL el30 rfl rfl (fun w hw => (hs0.keep hw (Fr.seg hcB5_2 Fr.nil))) rfl (ho6 (by first | (simp only [hq2, hq8, if_pos hp2, if_pos hp8, bS]; done) | (simp only [hq2, hq8, if_pos hp2, if_pos hp8, bS, reduceIte, Bool.false_eq_true]; done) | (simp [hp2, hp8]; done) | (simp_all; done)))) ?_
              refine xq rfl ⟨_, rfl, rfl⟩ (o_faL fl54_2 rfl rfl (fun w hw => (hs0.keep hw (Fr.seg hcB5_2 Fr.nil))) (toNat_lt (ho6 (by first | (simp only [hq2, hq8, if_pos hp2, if_pos hp8, bS]; done) | (simp only [hq2, hq8, if_pos hp2, if_pos hp8, bS, reduceIte, Bool.false_eq_true]; done) | (simp [hp2, hp8]; done) | (simp_all; done))))) ?_
              refine xq rfl ⟨_, rfl, rfl⟩ (o_ldL1 (off := 2) (u := .int .i64 (l0[i7.toNat]! 2)) rfl ts3 rfl (fun w hw => (hs0.keep hw (Fr.seg hcB5_2 Fr.nil))) (toNat_lt (ho6 (by first | (simp only [hq2, hq8, if_pos hp2, if_pos hp8, bS]; done) | (simp only [hq2, hq8, if_pos hp2, if_pos hp8, bS, reduceIte, Bool.false_eq_true]; done) | (simp [hp2, hp8]; done) | (simp_all; done)))) rfl rfl) ?_
              refine xcallq rfl ⟨_, rfl, rfl⟩ kf35 rfl (fun w1 hw1 => hasR_c _ _ _ w1 (hJ5_2.sl hw1 (Pull.sub (.here _ _))) (ho7 (by first | (simp only [hq2, hq8, if_pos hp2, if_pos hp8, bS]; done) | (simp only [hq2, hq8, if_pos hp2, if_pos hp8, bS, reduceIte, Bool.false_eq_true]; done) | (simp [hp2, hp8]; done) | (simp_all; done)))) ?_
              refine xq rfl ⟨_, rfl, rfl⟩ (o_not rfl) ?_
              refine xq rfl trivial (o_pick_t rfl rfl) ?_
              refine xo_nil ?_
              exact xq_cut ((lce rfl (by first | rfl | (simp only [hq2, hq8, if_pos hp2, if_pos hp8, bS]; done) | (simp only [hq2, hq8, if_pos hp2, if_pos hp8, bS, reduceIte, Bool.false_eq_true]; done) | (simp [hp2, hp8]; done) | (simp_all; done)) (lc rfl (lc rfl (lc rfl (lc rfl (lc rfl ln))))))) (fun _ h => h)
            · have hq8 : (decide (l0[i7.toNat]! 0 = from1)) = false := hg8
              have hp8 : ¬ (l0[i7.toNat]! 0 = from1) := of_decide_eq_false hq8
              refine xq rfl ⟨_, rfl, rfl⟩ (o_mv rfl) ?_
              refine xq rfl ⟨_, rfl, rfl⟩ (o_mv rfl) ?_
              refine xq rfl ⟨_, rfl, rfl⟩ (o_mv rfl) ?_
              refine xq rfl ⟨_, rfl, rfl⟩ (o_ixL el30 rfl rfl (fun w hw => (hs0.keep hw (Fr.seg hcB5_2 Fr.nil))) rfl (ho4 (by first | exact hg8 | (simp only [hq2, hq8, if_pos hp2, if_neg hp8, bS]; done) | (simp only [hq2, hq8, if_pos hp2, if_neg hp8, bS, reduceIte, Bool.false_eq_true]; done) | (simp [hp2, hp8]; done) | (simp_all; done)))) ?_
              refine xq rfl ⟨_, rfl, rfl⟩ (o_faL fl54_0 rfl rfl (fun w hw => (hs0.keep hw (Fr.seg hcB5_2 Fr.nil))) (toNat_lt (ho4 (by first | exact hg8 | (simp only [hq2, hq8, if_pos hp2, if_neg hp8, bS]; done) | (simp only [hq2, hq8, if_pos hp2, if_neg hp8, bS, reduceIte, Bool.false_eq_true]; done) | (simp [hp2, hp8]; done) | (simp_all; done))))) ?_
              refine xq rfl ⟨_, rfl, rfl⟩ (o_ldL1 (off := 0) (u := .int .i64 (l0[i7.toNat]! 0)) rfl ts3 rfl (fun w hw => (hs0.keep hw (Fr.seg hcB5_2 Fr.nil))) (toNat_lt (ho4 (by first | exact hg8 | (simp only [hq2, hq8, if_pos hp2, if_neg hp8, bS]; done) | (simp only [hq2, hq8, if_pos hp2, if_neg hp8, bS, reduceIte, Bool.false_eq_true]; done) | (simp [hp2, hp8]; done) | (simp_all; done)))) rfl rfl) ?_
              refine xcallq rfl ⟨_, rfl, rfl⟩ kf35 rfl (fun w1 hw1 => hasR_c _ _ _ w1 (hJ5_2.sl hw1 (Pull.sub (.here _ _))) (ho5 (by first | exact hg8 | (simp only [hq2, hq8, if_pos hp2, if_neg hp8, bS]; done) | (simp only [hq2, hq8, if_pos hp2, if_neg hp8, bS, reduceIte, Bool.false_eq_true]; done) | (simp [hp2, hp8]; done) | (simp_all; done)))) ?_
              refine xq rfl trivial (o_pick_f rfl rfl) ?_
              refine xq rfl trivial (o_mv rfl) ?_
              refine xo_bool 31 rfl (fun hg9 => ?_) (fun hg9 => ?_)
              · have hq9 : ((hasR_F out5a (l0[i7.toNat]! 0))) = true := hg9
                have hp9 : ((hasR_F out5a (l0[i7.toNat]! 0))) = true := hq9
                refine xq rfl ⟨_, rfl, rfl⟩ (o_mv rfl) ?_
                refine xq rfl ⟨_, rfl, rfl⟩ (o_mv rfl) ?_
                refine xq rfl ⟨_, rfl, rfl⟩ (o_mv rfl) ?_
                refine xq rfl ⟨_, rfl, rfl⟩ (o_ixL el30 rfl rfl (fun w hw => (hs0.keep hw (Fr.seg hcB5_2 Fr.nil))) rfl (ho6 (by first | exact hg9 | (simp only [hq2, hq8, hq9, if_pos hp2, if_neg hp8, if_pos hp9, bS]; done) | (simp only [hq2, hq8, hq9, if_pos hp2, if_neg hp8, if_pos hp9, bS, reduceIte, Bool.false_eq_true]; done) | (simp [hp2, hp8, hp9]; done) | (simp_all; done)))) ?_
                refine xq rfl ⟨_, rfl, rfl⟩ (o_faL fl54_2 rfl rfl (fun w hw => (hs0.keep hw (Fr.seg hcB5_2 Fr.nil))) (toNat_lt (ho6 (by first | exact hg9 | (simp only [hq2, hq8, hq9, if_pos hp2, if_neg hp8, if_pos hp9, bS]; done) | (simp only [hq2, hq8, hq9, if_pos hp2, if_neg hp8, if_pos hp9, bS, reduceIte, Bool.false_eq_true]; done) | (simp [hp2, hp8, hp9]; done) | (simp_all; done))))) ?_
                refine xq rfl ⟨_, rfl, rfl⟩ (o_ldL1 (off := 2) (u := .int .i64 (l0[i7.toNat]! 2)) rfl ts3 rfl (fun w hw => (hs0.keep hw (Fr.seg hcB5_2 Fr.nil))) (toNat_lt (ho6 (by first | exact hg9 | (simp only [hq2, hq8, hq9, if_pos hp2, if_neg hp8, if_pos hp9, bS]; done) | (simp only [hq2, hq8, hq9, if_pos hp2, if_neg hp8, if_pos hp9, bS, reduceIte, Bool.false_eq_true]; done) | (simp [hp2, hp8, hp9]; done) | (simp_all; done)))) rfl rfl) ?_
                refine xcallq rfl ⟨_, rfl, rfl⟩ kf35 rfl (fun w1 hw1 => hasR_c _ _ _ w1 (hJ5_2.sl hw1 (Pull.sub (.here _ _))) (ho7 (by first | exact hg9 | (simp only [hq2, hq8, hq9, if_pos hp2, if_neg hp8, if_pos hp9, bS]; done) | (simp only [hq2, hq8, hq9, if_pos hp2, if_neg hp8, if_pos hp9, bS, reduceIte, Bool.false_eq_true]; done) | (simp [hp2, hp8, hp9]; done) | (simp_all; done)))) ?_
                refine xq rfl ⟨_, rfl, rfl⟩ (o_not rfl) ?_
                refine xq rfl trivial (o_pick_t rfl rfl) ?_
                refine xo_nil ?_
                exact xq_cut ((lce rfl (by first | rfl | (simp only [hq2, hq8, hq9, if_pos hp2, if_neg hp8, if_pos hp9, bS]; done) | (simp only [hq2, hq8, hq9, if_pos hp2, if_neg hp8, if_pos hp9, bS, reduceIte, Bool.false_eq_true]; done) | (simp [hp2, hp8, hp9]; done) | (simp_all; done)) (lc rfl (lc rfl (lc rfl (lc rfl (lc rfl ln))))))) (fun _ h => h)
              · have hq9 : ((hasR_F out5a (l0[i7.toNat]! 0))) = false := hg9
                have hp9 : ¬ (((hasR_F out5a (l0[i7.toNat]! 0))) = true) := bne' hq9
                refine xs rfl ⟨_, _, rfl, rfl, rfl⟩ (xs rfl ⟨_, _, rfl, rfl, rfl⟩ (xs rfl ⟨_, _, rfl, rfl, rfl⟩ (xs rfl ⟨_, _, rfl, rfl, rfl⟩ (xs rfl ⟨_, _, rfl, rfl, rfl⟩ (xs rfl ⟨_, _, rfl, rfl, rfl⟩ (xs rfl ⟨_, _, rfl, rfl, rfl⟩ (xs rfl ⟨_, _, rfl, rfl, rfl⟩ ?_)))))))
                refine xq rfl trivial (o_pick_f rfl rfl) ?_
                refine xo_nil ?_
                exact xq_cut ((lce rfl (by first | rfl | (simp only [hq2, hq8, hq9, if_pos hp2, if_neg hp8, if_neg hp9, bS]; done) | (simp only [hq2, hq8, hq9, if_pos hp2, if_neg hp8, if_neg hp9, bS, reduceIte, Bool.false_eq_true]; done) | (simp [hp2, hp8, hp9]; done) | (simp_all; done)) (lc rfl (lc rfl (lc rfl (lc rfl (lc rfl ln))))))) (fun _ h => h)
          · refine xq_then ?_
            refine xw_bool 40 rfl (fun hc10 => ?_) (fun hc10 => ?_)
            · have hq10 : (((decide (l0[i7.toNat]! 0 = from1)) || ((hasR_F out5a (l0[i7.toNat]! 0)))) && (!((hasR_F out5a (l0[i7.toNat]! 2))))) = true := hc10
              have hp10 : (((decide (l0[i7.toNat]! 0 = from1)) || ((hasR_F out5a (l0[i7.toNat]! 0)))) && (!((hasR_F out5a (l0[i7.toNat]! 2))))) = true := hq10
              rw [if_pos hp10] at h
              refine xw_cond_t rfl rfl (xw_seq (xw_region ?_))
              refine xq rfl trivial (o_mv rfl) ?_
              refine xq rfl trivial (o_mv rfl) ?_
              refine xq rfl trivial (o_mv rfl) ?_
              obtain ⟨ho11, h⟩ := h
              refine xq rfl trivial (o_ixL el30 rfl rfl (fun w hw => (hs0.keep hw (Fr.seg hcB5_2 Fr.nil))) rfl ho11) ?_
              refine xq rfl trivial (o_faL fl54_2 rfl rfl (fun w hw => (hs0.keep hw (Fr.seg hcB5_2 Fr.nil))) (toNat_lt ho11)) ?_
              refine xq rfl trivial (o_ldL1 (off := 2) (u := .int .i64 (l0[i7.toNat]! 2)) rfl ts3 rfl (fun w hw => (hs0.keep hw (Fr.seg hcB5_2 Fr.nil))) (toNat_lt ho11) rfl rfl) ?_
              refine xo rfl trivial (o_bsl el57 ze3 (cells_one rfl) rfl rfl (.int rfl rfl (.nil _))) ?_
              rintro _ _ ⟨b47, hb47, rfl, rfl⟩
              obtain ⟨ho13, h⟩ := h
              refine xo rfl trivial (OT.st (fun _ h => Pull.st (.thereC _ (.here _ _)) h) (o_appJ (l := out5a) (l' := [l0[i7.toNat]! 2]) (B := B5_2) ap57 rfl rfl hJ5_2 (fun w2 hw2 => (SL.lit (l := [l0[i7.toNat]! 2]) hw2 (List.mem_append_right _ (List.Mem.head _)) rfl (by omega) (by simp [maxLen]) (by exact (fun i hi => match i, hi with | 0, _ => rfl | q + 1, h => absurd h (by omega))))) (fun _ _ => rfl) ho13 (len_max ho13 (by decide)))) ?_
              rintro vs12 _ ⟨Bs12, rfl, hns12, hJs12⟩
              have hcBs12 := Cov.trans hcB5_2 hns12
              refine xo_st ((b47, BK 1 _ 3) :: (Bs12 ++ ([]))) (fun _ h => Pull.push (.thereC _ (.here _ _)) h) ?_
              refine xq rfl trivial (o_as rfl) ?_
              refine xo_nil (xq_then (xw_region ?_))
              refine xq rfl trivial (o_as rfl) ?_
              refine xo_nil ?_
              refine xq_blk 3 ?_
              refine xq_then (xw_region ?_)
              refine xq rfl trivial (o_mv rfl) ?_
              obtain ⟨ho14, h⟩ := h
              refine xq rfl trivial (o_add rfl rfl rfl ho14) ?_
              refine xq rfl trivial (o_as rfl) ?_
              refine xo_nil ?_
              exact xq_next (s' := (((out5a ++ [l0[i7.toNat]! 2]), true, i7 + 1) : (List Int) × Bool × Int)) (e' := [(0, v0), (1, .int .i64 from1), (5, vs12), (6, .bool true), (7, .int .i64 (i7 + 1))]) (Bs12 ++ ([])) (lc rfl (lc rfl (lc rfl (lc rfl (lc rfl ln))))) (Kp.st (Kp.new hb47 (Kp.segKeep Kp.nil))) h ⟨vs12, Bs12, rfl, rfl, hJs12, hcBs12⟩
            · have hq10 : (((decide (l0[i7.toNat]! 0 = from1)) || ((hasR_F out5a (l0[i7.toNat]! 0)))) && (!((hasR_F out5a (l0[i7.toNat]! 2))))) = false := hc10
              have hp10 : ¬ ((((decide (l0[i7.toNat]! 0 = from1)) || ((hasR_F out5a (l0[i7.toNat]! 0)))) && (!((hasR_F out5a (l0[i7.toNat]! 2))))) = true) := bne' hq10
              rw [if_neg hp10] at h
              refine xw_cond_f rfl rfl (xw_skip ?_)
              refine xq_blk 3 ?_
              refine xq_then (xw_region ?_)
              refine xq rfl trivial (o_mv rfl) ?_
              obtain ⟨ho15, h⟩ := h
              refine xq rfl trivial (o_add rfl rfl rfl ho15) ?_
              refine xq rfl trivial (o_as rfl) ?_
              refine xo_nil ?_
              exact xq_next (s' := ((out5a, more6a, i7 + 1) : (List Int) × Bool × Int)) (e' := [(0, v0), (1, .int .i64 from1), (5, v5_2), (6, .bool (more6a)), (7, .int .i64 (i7 + 1))]) (B5_2 ++ ([])) (lc rfl (lc rfl (lc rfl (lc rfl (lc rfl ln))))) (fun _ h => h) h ⟨v5_2, B5_2, rfl, rfl, hJ5_2, hcB5_2⟩
        · have hq2 : (decide (i7 < (l0.length : Int))) = false := hc2
          have hp2 : ¬ (i7 < (l0.length : Int)) := of_decide_eq_false hq2
          rw [if_neg hp2] at h
          refine xw_cond_f rfl rfl (xw_exit (xq_then_exit ?_))
          exact xq_out (r := ((out5a, more6a) : (List Int) × Bool)) (e' := [(0, v0), (1, .int .i64 from1), (5, v5_2), (6, .bool (more6a))]) (B5_2 ++ ([])) (lc rfl (lc rfl (lc rfl (lc rfl ln)))) (fun _ h => h) h (by intro hh; cases hh) ⟨v5_2, B5_2, rfl, rfl, rfl, hJ5_2, hcB5_2⟩
      · obtain ⟨out5a, more6a⟩ := x2
        rintro _ _ _ ⟨v5_2o, B5_2o, rfl, rfl, rfl, hJ5_2o, hcB5_2o⟩
        replace h : reachR_k2a out5a more6a o := h
        unfold reachR_k2a at h
        refine xq_blk_eq ?_
        refine xq_blk 1 ?_
        exact xq_next (s' := ((out5a, more6a) : (List Int) × Bool)) (e' := [(0, v0), (1, .int .i64 from1), (5, v5_2o), (6, .bool (more6a))]) (B5_2o ++ ([])) (lc rfl (lc rfl (lc rfl (lc rfl ln)))) (fun _ h => h) h ⟨v5_2o, B5_2o, rfl, rfl, hJ5_2o, hcB5_2o⟩
    · have hq1 : (more6) = false := hc1
      have hp1 : ¬ ((more6) = true) := bne' hq1
      rw [if_neg hp1] at h
      refine xw_cond_f rfl rfl (xw_exit (xq_then_exit ?_))
      exact xq_out (r := (out5 : (List Int))) (e' := [(5, v5_1)]) (B5_1 ++ ([])) (lc rfl ln) (fun _ h => h) h (by intro hh; cases hh) ⟨v5_1, B5_1, rfl, rfl, rfl, hJ5_1, hcB5_1⟩
  · rintro _ _ _ ⟨v5_1o, B5_1o, rfl, rfl, rfl, hJ5_1o, hcB5_1o⟩
    replace h : reachR_k1a out5 r := h
    unfold reachR_k1a at h
    refine xq_blk_eq ?_
    refine xq_then (xw_seq (xw_region ?_))
    refine xq rfl trivial (o_mv rfl) ?_
    obtain ⟨ho16, h⟩ := h
    refine xcall rfl trivial kf46 rfl (fun w1 hw1 => risingR_c _ _ w1 (hJ5_1o.sl hw1 (Pull.sub (.here _ _))) ho16) ?_
    rintro w1 vs17 _ hw1 ⟨_, Bs17, rfl, rfl, hJs17, hcBs17⟩
    refine ⟨_, Mg.news (Cov.fresh hcBs17) (.nil _), ?_⟩
    replace hcBs17 := Cov.base (w0 := w) hcBs17 hw1.size
    refine xq rfl trivial (o_as rfl) ?_
    refine xo_nil (xq_then (xw_ret ?_))
    subst h
    exact con_ret1 (.inl rfl) Try.results36 rfl (Bs17 ++ []) (Kp.st (Kp.segKeep (Kp.segNew (Cov.fresh hcB5_1o) Kp.nil))) (⟨_, Bs17, rfl, rfl, hJs17, hcBs17⟩)

end Go.Proofs.Ytjmfnohbeoiddaa
