/- The code answers as the relations say. -/
import Derived.Test.YtcnbdkkmcdjncaaTab
import Derived.Test.YtcnbdkkmcdjncaaG11S
import Derived.Test.YtcnbdkkmcdjncaaF11W
set_option maxHeartbeats 1000000
set_option linter.unusedVariables false
set_option linter.unusedSimpArgs false
set_option maxRecDepth 100000
namespace Go.Proofs.Ytcnbdkkmcdjncaa
open Go Go.E

theorem greach_c (l0 : (List (Nat → Int))) (from1 : Int) (v0 : Value) (w : World) (hs0 : SL w 4 iv v0 l0) (hP : greach_P l0 from1) : Con Try.prog 29 #[v0, .int .i64 from1] w (fun v F => ∃ (u0 : Value) (C0 : GH), v = u0 ∧ F = (C0 ++ []) ∧ OJ 3 1 ic C0 u0 (greach_F l0 from1) ∧ Cov w [] C0) :=
  greach_con l0 from1 v0 w hs0 _ (greach_ok l0 from1 hP)

theorem gfar_c (l0 : (List (Nat → Int))) (to1 : Int) (v0 : Value) (w : World) (hs0 : SL w 4 iv v0 l0) (hP : gfar_P l0 to1) : Con Try.prog 30 #[v0, .int .i64 to1] w (fun v F => ∃ (u0 : Value) (C0 : GH), v = u0 ∧ F = (C0 ++ []) ∧ MJ kI kI ieq C0 u0 (gfar_F l0 to1) ∧ Cov w [] C0) :=
  gfar_con l0 to1 v0 w hs0 _ (gfar_ok l0 to1 hP)

theorem gorder_c (l0 : (List (Nat → Int))) (v0 : Value) (w : World) (hs0 : SL w 4 iv v0 l0) (hP : gorder_P l0) : Con Try.prog 14 #[v0] w (fun v F => ∃ (u0 : Value) (C0 : GH), v = .tuple #[u0, errV 58 ((gorder_F l0).2)] ∧ F = (C0 ++ []) ∧ OJ 3 1 ic C0 u0 ((gorder_F l0).1) ∧ Cov w [] C0) :=
  gorder_con l0 v0 w hs0 _ (gorder_ok l0 hP)

theorem gway_con (l0 : (List (Nat → Int))) (from1 : Int) (to2 : Int) (v0 : Value) (w : World) (hs0 : SL w 4 iv v0 l0) (r : (List Int)) (h : gway_S l0 from1 to2 r) : Con Try.prog 16 #[v0, .int .i64 from1, .int .i64 to2] w (fun v F => ∃ (u0 : Value) (C0 : GH), v = u0 ∧ F = (C0 ++ []) ∧ OJ 3 1 ic C0 u0 r ∧ Cov w [] C0) := by
  unfold gway_S at h
  refine con_enter (n := 92) [(0, _), (1, _), (2, _)] Try.func16 rfl Try.ntmps16 rfl (lac rfl (lac rfl (lac rfl lan))) ?_
  refine xw_seq (xw_region ?_)
  refine xq rfl trivial (o_as rfl) ?_
  refine xo_nil (xq_then (xw_seq (xw_seq (xw_region ?_))))
  refine xq rfl trivial (o_mv rfl) ?_
  refine xq rfl trivial (o_mv rfl) ?_
  obtain ⟨ho1, h⟩ := h
  refine xcall rfl trivial kf29 rfl (fun w1 hw1 => greach_c _ _ _ w1 (hs0.keep hw1 Fr.nil) ho1) ?_
  rintro w1 vs2 _ hw1 ⟨_, Bs2, rfl, rfl, hJs2, hcBs2⟩
  refine ⟨_, Mg.news (Cov.fresh hcBs2) (.nil _), ?_⟩
  replace hcBs2 := Cov.base (w0 := w) hcBs2 hw1.size
  refine xq rfl trivial (o_mv rfl) ?_
  obtain ⟨ho3, h⟩ := h
  refine xcallq rfl trivial kf26 rfl (fun w1 hw1 => hasI_c _ _ _ w1 (hJs2.sl hw1 (Pull.sub (.here _ _))) ho3) ?_
  refine xq rfl trivial (o_not rfl) ?_
  refine xo_nil (xq_then ?_)
  refine xw_bool 24 rfl (fun hc4 => ?_) (fun hc4 => ?_)
  · have hq4 : ((hasI_F (greach_F l0 from1) to2)) = false := (bnT hc4)
    have hp4 : ¬ (((hasI_F (greach_F l0 from1) to2)) = true) := bne' hq4
    rw [if_neg hp4] at h
    refine xw_cond_t rfl rfl (xw_seq (xw_region ?_))
    refine xq rfl trivial (o_as rfl) ?_
    refine xo_nil (xq_then (xw_ret (xq_then_ret ?_)))
    subst h
    exact con_ret1 (.inl rfl) Try.results16 rfl [] (Kp.st (Kp.segNew (Cov.fresh hcBs2) Kp.nil)) (⟨_, [], rfl, rfl, OJ.nil, Cov.refl _⟩)
  · have hq4 : ((hasI_F (greach_F l0 from1) to2)) = true := (bnF hc4)
    have hp4 : ((hasI_F (greach_F l0 from1) to2)) = true := hq4
    rw [if_pos hp4] at h
    refine xw_cond_f rfl rfl (xw_skip (xq_then (xw_seq (xw_region ?_))))
    refine xq rfl trivial (o_mv rfl) ?_
    refine xq rfl trivial (o_mv rfl) ?_
    obtain ⟨ho5, h⟩ := h
    refine xcall rfl trivial kf30 rfl (fun w1 hw1 => gfar_c _ _ _ w1 (hs0.keep hw1 (Fr.seg hcBs2 Fr.nil)) ho5) ?_
    rintro w1 vs6 _ hw1 ⟨_, Bs6, rfl, rfl, hJs6, hcBs6⟩
    refine ⟨_, Mg.news (Cov.fresh hcBs6) (.nil _), ?_⟩
    replace hcBs6 := Cov.base (w0 := w) hcBs6 hw1.size
    refine xq rfl trivial (o_as rfl) ?_
    refine xo_nil (xq_then (xw_seq (xw_region ?_)))
    refine xq rfl trivial (o_mv rfl) ?_
    refine xo rfl trivial (o_bsl el38 ze3 (cells_one rfl) rfl rfl (.int rfl rfl (.nil _))) ?_
    rintro _ _ ⟨b29, hb29, rfl, rfl⟩
    refine xo_lit fun Bs7 hEBs7 => ?_
    have hJs7 : OJ 3 1 ic Bs7 (.slice (some ⟨b29, 0, none⟩) 1 1) [from1] := by rw [hEBs7]; exact OJ.lit (l := [from1]) (List.Mem.head _) rfl (by omega) (by simp [maxLen]) (by exact (fun i hi => match i, hi with | 0, _ => rfl | q + 1, h => absurd h (by omega)))
    have hcBs7 : Cov w [] Bs7 := by rw [hEBs7]; exact Cov.new hb29
    refine xq rfl trivial (o_as rfl) ?_
    refine xo_nil (xq_then (xw_seq (xw_region ?_)))
    refine xq rfl trivial (o_mv rfl) ?_
    refine xq rfl trivial (o_as rfl) ?_
    refine xo_nil (xq_then (xw_seq ?_))
    refine xw_block ?_
    obtain ⟨out8, hx1, h⟩ := h
    refine xw_wh (fun s e H => match s with | (out8, n9) => ∃ (v8_1 : Value) (B8_1 : GH), e = [(0, v0), (2, .int .i64 to2), (7, vs6), (8, v8_1), (9, .int .i64 n9)] ∧ H = B8_1 ++ (Bs6 ++ ([])) ∧ OJ 3 1 ic B8_1 v8_1 out8 ∧ Cov w [] B8_1) (fun (out8 : (List Int)) ex e H => ∃ (v8_1o : Value) (B8_1o : GH), ex = .exit 0 ∧ e = [(8, v8_1o)] ∧ H = B8_1o ++ (Bs6 ++ ([])) ∧ OJ 3 1 ic B8_1o v8_1o out8 ∧ Cov w [] B8_1o) hx1 ⟨[(0, v0), (2, .int .i64 to2), (7, vs6), (8, (.slice (some ⟨b29, 0, none⟩) 1 1)), (9, .int .i64 from1)], Bs7 ++ (Bs6 ++ ([])), (lc rfl (lc rfl (lc rfl (lc rfl (lc rfl ln))))), Kp.st (Kp.segKeep (Kp.segKeep (Kp.segNew (Cov.fresh hcBs2) Kp.nil))), ⟨(.slice (some ⟨b29, 0, none⟩) 1 1), Bs7, rfl, rfl, hJs7, hcBs7⟩⟩ ?_ ?_
    · rintro ⟨out8, n9⟩ o _ _ ⟨v8_1, B8_1, rfl, rfl, hJ8_1, hcB8_1⟩ hb
      have h : gway_l1 l0 to2 out8 n9 o := hb
      clear hb
      unfold gway_l1 at h
      refine xw_seq (xw_seq ?_)
      refine xw_cut [(0, _), (2, _), (7, _), (8, _), (9, _)] (lc rfl (lc rfl (lc rfl (lc rfl (lc rfl ln))))) [(38, .bool ((!(decide (n9 = to2))) || (decide ((out8.length : Int) = 1))))] ?_ ?_
      · refine xw_region ?_
        refine xq rfl trivial (o_mv rfl) ?_
        refine xq rfl trivial (o_mv rfl) ?_
        refine xq rfl trivial (o_neq rfl rfl) ?_
        refine xq rfl trivial (o_mv rfl) ?_
        refine xo_bool 34 rfl (fun hg8 => ?_) (fun hg8 => ?_)
        · have hq8 : (decide (n9 = to2)) = false := (bnT hg8)
          have hp8 : ¬ (n9 = to2) := of_decide_eq_false hq8
          refine xs rfl ⟨_, _, rfl, rfl, rfl⟩ (xs rfl ⟨_, _, rfl, rfl, rfl⟩ (xs rfl ⟨_, _, rfl, rfl, rfl⟩ ?_))
          refine xq rfl trivial (o_pick_t rfl rfl) ?_
          refine xo_nil ?_
          exact xq_cut ((lce rfl (by first | rfl | (simp only [hq8, if_neg hp8, bS]; done) | (simp only [hq8, if_neg hp8, bS, reduceIte, Bool.false_eq_true]; done) | (simp [hp8]; done) | (simp_all; done)) (lc rfl (lc rfl (lc rfl (lc rfl (lc rfl ln))))))) (fun _ h => h)
        · have hq8 : (decide (n9 = to2)) = true := (bnF hg8)
          have hp8 : n9 = to2 := of_decide_eq_true hq8
          refine xq rfl ⟨_, rfl, rfl⟩ (o_mv rfl) ?_
          refine xq rfl ⟨_, rfl, rfl⟩ (o_lenL rfl Try.underlying38 rfl (OJ.val hJ8_1)) ?_
          refine xq rfl ⟨_, rfl, rfl⟩ (o_eql rfl rfl) ?_
          refine xq rfl trivial (o_pick_f rfl rfl) ?_
          refine xo_nil ?_
          exact xq_cut ((lce rfl (by first | rfl | (simp only [hq8, if_pos hp8, bS]; done) | (simp only [hq8, if_pos hp8, bS, reduceIte, Bool.false_eq_true]; done) | (simp [hp8]; done) | (simp_all; done)) (lc rfl (lc rfl (lc rfl (lc rfl (lc rfl ln))))))) (fun _ h => h)
      · refine xq_then ?_
        refine xw_bool 38 rfl (fun hc9 => ?_) (fun hc9 => ?_)
        · have hq9 : ((!(decide (n9 = to2))) || (decide ((out8.length : Int) = 1))) = true := hc9
          have hp9 : ((!(decide (n9 = to2))) || (decide ((out8.length : Int) = 1))) = true := hq9
          rw [if_pos hp9] at h
          refine xw_cond_t rfl rfl (xw_skip (xq_then ?_))
          refine xw_block ?_
          refine xw_seq (xw_region ?_)
          refine xq rfl trivial (o_as rfl) ?_
          refine xo_nil (xq_then (xw_seq (xw_seq (xw_region ?_))))
          refine xq rfl trivial (o_mv rfl) ?_
          refine xq rfl trivial (o_mv rfl) ?_
          obtain ⟨ho10, h⟩ := h
          refine xcall rfl trivial kf31 rfl (fun w1 hw1 => gnext_c _ _ _ w1 (hs0.keep hw1 (Fr.seg hcB8_1 (Fr.seg hcBs6 Fr.nil))) ho10) ?_
          rintro w1 vs11 _ hw1 ⟨_, Bs11, rfl, rfl, hJs11, hcBs11⟩
          refine ⟨_, Mg.news (Cov.fresh hcBs11) (.nil _), ?_⟩
          replace hcBs11 := Cov.base (w0 := w) hcBs11 hw1.size
          refine xq rfl trivial (o_lenL rfl Try.underlying38 rfl (OJ.val hJs11)) ?_
          refine xq rfl trivial (o_mv rfl) ?_
          refine xo_nil (xq_then ?_)
          refine xw_block ?_
          obtain ⟨best10, hx2, h⟩ := h
          refine xw_wh (fun s e H => match s with | (best10, x43) => e = [(0, v0), (2, .int .i64 to2), (7, vs6), (8, v8_1), (9, .int .i64 n9), (10, .int .i64 best10), (41, vs11), (42, .int .i64 ((gnext_F l0 n9).length : Int)), (43, .int .i64 x43)] ∧ H = Bs11 ++ (B8_1 ++ (Bs6 ++ ([])))) (fun (best10 : Int) ex e H => ex = .exit 2 ∧ e = [(0, v0), (2, .int .i64 to2), (7, vs6), (8, v8_1), (9, .int .i64 n9), (10, .int .i64 best10)] ∧ H = Bs11 ++ (B8_1 ++ (Bs6 ++ ([])))) hx2 ⟨[(0, v0), (2, .int .i64 to2), (7, vs6), (8, v8_1), (9, .int .i64 n9), (10, .int .i64 (-1)), (41, vs11), (42, .int .i64 ((gnext_F l0 n9).length : Int)), (43, .int .i64 0)], Bs11 ++ (B8_1 ++ (Bs6 ++ ([]))), (lc rfl (lc rfl (lc rfl (lc rfl (lc rfl (lc rfl (lc rfl (lc rfl (lc rfl ln))))))))), fun _ h => h, ⟨rfl, rfl⟩⟩ ?_ ?_
          · rintro ⟨best10, x43⟩ o _ _ ⟨rfl, rfl⟩ hb
            have h : gway_l2 l0 to2 n9 best10 x43 o := hb
            clear hb
            unfold gway_l2 at h
            refine xw_seq (xw_region ?_)
            refine xq rfl trivial (o_lss rfl rfl) ?_
            refine xo_nil (xq_then (xw_seq ?_))
            refine xw_bool 44 rfl (fun hc12 => ?_) (fun hc12 => ?_)
            · have hq12 : (decide (x43 < ((gnext_F l0 n9).length : Int))) = true := hc12
              have hp12 : x43 < ((gnext_F l0 n9).length : Int) := of_decide_eq_true hq12
              rw [if_pos hp12] at h
              refine xw_cond_t rfl rfl (xw_skip (xq_then (xw_seq ?_)))
              refine xw_block ?_
              refine xw_seq (xw_region ?_)
              obtain ⟨ho13, h⟩ := h
              refine xq rfl trivial (o_ixL el38 rfl rfl (fun w hw => (hJs11.sl hw (Pull.sub (.here _ _)))) rfl ho13) ?_
              refine xq rfl trivial (o_ldL1 (off := 0) (u := .int .i64 ((gnext_F l0 n9)[x43.toNat]!)) rfl ts3 rfl (fun w hw => (hJs11.sl hw (Pull.sub (.here _ _)))) (toNat_lt ho13) rfl rfl) ?_
              refine xq rfl trivial (o_as rfl) ?_
              refine xo_nil (xq_then (xw_seq (xw_region ?_)))
              refine xq rfl trivial (o_mv rfl) ?_
              refine xq rfl trivial (o_mv rfl) ?_
              refine xq rfl trivial (o_lkok (z := 0) (k := (gnext_F l0 n9)[x43.toNat]!) kt3 Try.underlying45 ze3 rfl rfl hJs6 (Pull.sub (.there _ (.there _ (.here _ _))))) ?_
              refine xq rfl trivial (o_mv rfl) ?_
              refine xq rfl trivial (o_ext rfl rfl) ?_
              refine xq rfl trivial (o_ext rfl rfl) ?_
              refine xq rfl trivial (o_as rfl) ?_
              refine xq rfl trivial (o_as rfl) ?_
              refine xo_nil (xq_then (xw_seq ?_))
              refine xw_cut [(0, _), (2, _), (7, _), (8, _), (9, _), (10, _), (13, _), (41, _), (42, _), (43, _)] (lc rfl (lc rfl (lc rfl (lc rfl (lc rfl (lc rfl (lc rfl (lc rfl (lc rfl (lc rfl ln)))))))))) [(62, .bool (((mhas ieq (gfar_F l0 to2) ((gnext_F l0 n9)[x43.toNat]!))) && ((decide (best10 < 0)) || (decide (mget ieq (gfar_F l0 to2) ((gnext_F l0 n9)[x43.toNat]!) 0 < best10)))))] ?_ ?_
              · refine xw_region ?_
                refine xq rfl trivial (o_mv rfl) ?_
                refine xq rfl trivial (o_mv rfl) ?_
                refine xo_bool 54 rfl (fun hg14 => ?_) (fun hg14 => ?_)
                · have hq14 : ((mhas ieq (gfar_F l0 to2) ((gnext_F l0 n9)[x43.toNat]!))) = true := hg14
                  have hp14 : ((mhas ieq (gfar_F l0 to2) ((gnext_F l0 n9)[x43.toNat]!))) = true := hq14
                  refine xq rfl ⟨_, rfl, rfl⟩ (o_mv rfl) ?_
                  refine xq rfl ⟨_, rfl, rfl⟩ (o_lss rfl rfl) ?_
                  refine xq rfl ⟨_, rfl, rfl⟩ (o_mv rfl) ?_
                  refine xo_bool 57 rfl (fun hg15 => ?_) (fun hg15 => ?_)
                  · have hq15 : (decide (best10 < 0)) = true := hg15
                    have hp15 : best10 < 0 := of_decide_eq_true hq15
                    refine xs rfl ⟨_, _, rfl, rfl, rfl⟩ (xs rfl ⟨_, _, rfl, rfl, rfl⟩ (xs rfl ⟨_, _, rfl, rfl, rfl⟩ ?_))
                    refine xq rfl ⟨_, rfl, rfl⟩ (o_pick_t rfl rfl) ?_
                    refine xq rfl trivial (o_pick_t rfl rfl) ?_
                    refine xo_nil ?_
                    exact xq_cut ((lce rfl (by first | rfl | (simp only [hq12, hq14, hq15, if_pos hp12, if_pos hp14, if_pos hp15, bS]; done) | (simp only [hq12, hq14, hq15, if_pos hp12, if_pos hp14, if_pos hp15, bS, reduceIte, Bool.false_eq_true]; done) | (simp [hp12, hp14, hp15]; done) | (simp_all; done)) (lc rfl (lc rfl (lc rfl (lc rfl (lc rfl (lc rfl (lc rfl (lc rfl (lc rfl (lc rfl ln)))))))))))) (fun _ h => h)
                  · have hq15 : (decide (best10 < 0)) = false := hg15
                    have hp15 : ¬ (best10 < 0) := of_decide_eq_false hq15
                    refine xq rfl ⟨_, rfl, rfl⟩ (o_mv rfl) ?_
                    refine xq rfl ⟨_, rfl, rfl⟩ (o_mv rfl) ?_
                    refine xq rfl ⟨_, rfl, rfl⟩ (o_lss rfl rfl) ?_
                    refine xq rfl ⟨_, rfl, rfl⟩ (o_pick_f rfl rfl) ?_
                    refine xq rfl trivial (o_pick_t rfl rfl) ?_
                    refine xo_nil ?_
                    exact xq_cut ((lce rfl (by first | rfl | (simp only [hq12, hq14, hq15, if_pos hp12, if_pos hp14, if_neg hp15, bS]; done) | (simp only [hq12, hq14, hq15, if_pos hp12, if_pos hp14, if_neg hp15, bS, reduceIte, Bool.false_eq_true]; done) | (simp [hp12, hp14, hp15]; done) | (simp_all; done)) (lc rfl (lc rfl (lc rfl (lc rfl (lc rfl (lc rfl (lc rfl (lc rfl (lc rfl (lc rfl ln)))))))))))) (fun _ h => h)
                · have hq14 : ((mhas ieq (gfar_F l0 to2) ((gnext_F l0 n9)[x43.toNat]!))) = false := hg14
                  have hp14 : ¬ (((mhas ieq (gfar_F l0 to2) ((gnext_F l0 n9)[x43.toNat]!))) = true) := bne' hq14
                  refine xs rfl ⟨_, _, rfl, rfl, rfl⟩ (xs rfl ⟨_, _, rfl, rfl, rfl⟩ (xs rfl ⟨_, _, rfl, rfl, rfl⟩ (xs rfl ⟨_, _, rfl, rfl, rfl⟩ (xs rfl ⟨_, _, rfl, rfl, rfl⟩ (xs rfl ⟨_, _, rfl, rfl, rfl⟩ (xs rfl ⟨_, _, rfl, rfl, rfl⟩ ?_))))))
                  refine xq rfl trivial (o_pick_f rfl rfl) ?_
                  refine xo_nil ?_
                  exact xq_cut ((lce rfl (by first | rfl | (simp only [hq12, hq14, if_pos hp12, if_neg hp14, bS]; done) | (simp only [hq12, hq14, if_pos hp12, if_neg hp14, bS, reduceIte, Bool.false_eq_true]; done) | (simp [hp12, hp14]; done) | (simp_all; done)) (lc rfl (lc rfl (lc rfl (lc rfl (lc rfl (lc rfl (lc rfl (lc rfl (lc rfl (lc rfl ln)))))))))))) (fun _ h => h)
              · refine xq_then ?_
                refine xw_cut [(0, _), (2, _), (7, _), (8, _), (9, _), (41, _), (42, _), (43, _)] (lc rfl (lc rfl (lc rfl (lc rfl (lc rfl (lc rfl (lc rfl (lc rfl ln)))))))) [(10, .int .i64 (if (((mhas ieq (gfar_F l0 to2) ((gnext_F l0 n9)[x43.toNat]!))) && ((decide (best10 < 0)) || (decide (mget ieq (gfar_F l0 to2) ((gnext_F l0 n9)[x43.toNat]!) 0 < best10)))) = true then mget ieq (gfar_F l0 to2) ((gnext_F l0 n9)[x43.toNat]!) 0 else best10))] ?_ ?_
                · refine xw_bool 62 rfl (fun hc16 => ?_) (fun hc16 => ?_)
                  · have hq16 : (((mhas ieq (gfar_F l0 to2) ((gnext_F l0 n9)[x43.toNat]!))) && ((decide (best10 < 0)) || (decide (mget ieq (gfar_F l0 to2) ((gnext_F l0 n9)[x43.toNat]!) 0 < best10)))) = true := hc16
                    have hp16 : (((mhas ieq (gfar_F l0 to2) ((gnext_F l0 n9)[x43.toNat]!))) && ((decide (best10 < 0)) || (decide (mget ieq (gfar_F l0 to2) ((gnext_F l0 n9)[x43.toNat]!) 0 < best10)))) = true := hq16
                    refine xw_cond_t rfl rfl (xw_region ?_)
                    refine xq rfl trivial (o_mv rfl) ?_
                    refine xq rfl trivial (o_as rfl) ?_
                    refine xo_nil ?_
                    exact xq_cut (lce rfl (by first | rfl | (simp only [hq12, hq16, if_pos hp12, if_pos hp16, bS]; done) | (simp only [hq12, hq16, if_pos hp12, if_pos hp16, bS, reduceIte, Bool.false_eq_true]; done) | (simp [hp12, hp16]; done) | (simp_all; done)) (lc rfl (lc rfl (lc rfl (lc rfl (lc rfl (lc rfl (lc rfl (lc rfl ln))))))))) (fun _ hh => hh)
                  · have hq16 : (((mhas ieq (gfar_F l0 to2) ((gnext_F l0 n9)[x43.toNat]!))) && ((decide (best10 < 0)) || (decide (mget ieq (gfar_F l0 to2) ((gnext_F l0 n9)[x43.toNat]!) 0 < best10)))) = false := hc16
                    have hp16 : ¬ ((((mhas ieq (gfar_F l0 to2) ((gnext_F l0 n9)[x43.toNat]!))) && ((decide (best10 < 0)) || (decide (mget ieq (gfar_F l0 to2) ((gnext_F l0 n9)[x43.toNat]!) 0 < best10)))) = true) := bne' hq16
                    refine xw_cond_f rfl rfl (xw_skip ?_)
                    exact xq_cut (lce rfl (by first | rfl | (simp only [hq12, hq16, if_pos hp12, if_neg hp16, bS]; done) | (simp only [hq12, hq16, if_pos hp12, if_neg hp16, bS, reduceIte, Bool.false_eq_true]; done) | (simp [hp12, hp16]; done) | (simp_all; done)) (lc rfl (lc rfl (lc rfl (lc rfl (lc rfl (lc rfl (lc rfl (lc rfl ln))))))))) (fun _ hh => hh)
                · refine xq_blk 3 ?_
                  refine xq_then (xw_region ?_)
                  obtain ⟨ho17, h⟩ := h
                  refine xq rfl trivial (o_add rfl rfl rfl ho17) ?_
                  refine xq rfl trivial (o_mv rfl) ?_
                  refine xo_nil ?_
                  exact xq_next (s' := (((if (((mhas ieq (gfar_F l0 to2) ((gnext_F l0 n9)[x43.toNat]!))) && ((decide (best10 < 0)) || (decide (mget ieq (gfar_F l0 to2) ((gnext_F l0 n9)[x43.toNat]!) 0 < best10)))) = true then mget ieq (gfar_F l0 to2) ((gnext_F l0 n9)[x43.toNat]!) 0 else best10), x43 + 1) : Int × Int)) (e' := [(0, v0), (2, .int .i64 to2), (7, vs6), (8, v8_1), (9, .int .i64 n9), (10, .int .i64 (if (((mhas ieq (gfar_F l0 to2) ((gnext_F l0 n9)[x43.toNat]!))) && ((decide (best10 < 0)) || (decide (mget ieq (gfar_F l0 to2) ((gnext_F l0 n9)[x43.toNat]!) 0 < best10)))) = true then mget ieq (gfar_F l0 to2) ((gnext_F l0 n9)[x43.toNat]!) 0 else best10)), (41, vs11), (42, .int .i64 ((gnext_F l0 n9).length : Int)), (43, .int .i64 (x43 + 1))]) (Bs11 ++ (B8_1 ++ (Bs6 ++ ([])))) (lc rfl (lc rfl (lc rfl (lc rfl (lc rfl (lc rfl (lc rfl (lc rfl (lc rfl ln))))))))) (fun _ h => h) h ⟨rfl, rfl⟩
            · have hq12 : (decide (x43 < ((gnext_F l0 n9).length : Int))) = false := hc12
              have hp12 : ¬ (x43 < ((gnext_F l0 n9).length : Int)) := of_decide_eq_false hq12
              rw [if_neg hp12] at h
              refine xw_cond_f rfl rfl (xw_exit (xq_then_exit ?_))
              exact xq_out (r := (best10 : Int)) (e' := [(0, v0), (2, .int .i64 to2), (7, vs6), (8, v8_1), (9, .int .i64 n9), (10, .int .i64 best10)]) (Bs11 ++ (B8_1 ++ (Bs6 ++ ([])))) (lc rfl (lc rfl (lc rfl (lc rfl (lc rfl (lc rfl ln)))))) (fun _ h => h) h (by intro hh; cases hh) ⟨rfl, rfl, rfl⟩
          · rintro _ _ _ ⟨rfl, rfl, rfl⟩
            replace h : gway_k2a l0 to2 out8 n9 best10 o := h
            unfold gway_k2a at h
            refine xq_blk_eq ?_
            refine xq_then (xw_seq (xw_seq (xw_region ?_)))
            refine xq rfl trivial (o_mv rfl) ?_
            refine xq rfl trivial (o_mv rfl) ?_
            obtain ⟨ho18, h⟩ := h
            refine xcall rfl trivial kf31 rfl (fun w1 hw1 => gnext_c _ _ _ w1 (hs0.keep hw1 (Fr.seg hcBs11 (Fr.seg hcB8_1 (Fr.seg hcBs6 Fr.nil)))) ho18) ?_
            rintro w1 vs19 _ hw1 ⟨_, Bs19, rfl, rfl, hJs19, hcBs19⟩
            refine ⟨_, Mg.news (Cov.fresh hcBs19) (.nil _), ?_⟩
            replace hcBs19 := Cov.base (w0 := w) hcBs19 hw1.size
            refine xq rfl trivial (o_lenL rfl Try.underlying38 rfl (OJ.val hJs19)) ?_
            refine xq rfl trivial (o_mv rfl) ?_
            refine xo_nil (xq_then ?_)
            refine xw_block ?_
            obtain ⟨n9a, hx3, h⟩ := h
            refine xw_wh (fun s e H => match s with | (n9a, x69) => e = [(0, v0), (2, .int .i64 to2), (7, vs6), (8, v8_1), (9, .int .i64 n9a), (10, .int .i64 best10), (67, vs19), (68, .int .i64 ((gnext_F l0 n9).length : Int)), (69, .int .i64 x69)] ∧ H = Bs19 ++ (B8_1 ++ (Bs6 ++ ([])))) (fun (n9a : Int) ex e H => ex = .exit 4 ∧ e = [(0, v0), (2, .int .i64 to2), (7, vs6), (8, v8_1), (9, .int .i64 n9a)] ∧ H = Bs19 ++ (B8_1 ++ (Bs6 ++ ([])))) hx3 ⟨[(0, v0), (2, .int .i64 to2), (7, vs6), (8, v8_1), (9, .int .i64 n9), (10, .int .i64 best10), (67, vs19), (68, .int .i64 ((gnext_F l0 n9).length : Int)), (69, .int .i64 0)], Bs19 ++ (B8_1 ++ (Bs6 ++ ([]))), (lc rfl (lc rfl (lc rfl (lc rfl (lc rfl (lc rfl (lc rfl (lc rfl (lc rfl ln))))))))), Kp.st (Kp.segKeep (Kp.segNew (Cov.fresh hcBs11) (Kp.segKeep (Kp.segKeep Kp.nil)))), ⟨rfl, rfl⟩⟩ ?_ ?_
            · rintro ⟨n9a, x69⟩ o _ _ ⟨rfl, rfl⟩ hb
              have h : gway_l3 l0 to2 n9 best10 n9a x69 o := hb
              clear hb
              unfold gway_l3 at h
              refine xw_seq (xw_region ?_)
              refine xq rfl trivial (o_lss rfl rfl) ?_
              refine xo_nil (xq_then (xw_seq ?_))
              refine xw_bool 70 rfl (fun hc20 => ?_) (fun hc20 => ?_)
              · have hq20 : (decide (x69 < ((gnext_F l0 n9).length : Int))) = true := hc20
                have hp20 : x69 < ((gnext_F l0 n9).length : Int) := of_decide_eq_true hq20
                rw [if_pos hp20] at h
                refine xw_cond_t rfl rfl (xw_skip (xq_then (xw_seq ?_)))
                refine xw_block ?_
                refine xw_seq (xw_region ?_)
                obtain ⟨ho21, h⟩ := h
                refine xq rfl trivial (o_ixL el38 rfl rfl (fun w hw => (hJs19.sl hw (Pull.sub (.here _ _)))) rfl ho21) ?_
                refine xq rfl trivial (o_ldL1 (off := 0) (u := .int .i64 ((gnext_F l0 n9)[x69.toNat]!)) rfl ts3 rfl (fun w hw => (hJs19.sl hw (Pull.sub (.here _ _)))) (toNat_lt ho21) rfl rfl) ?_
                refine xq rfl trivial (o_as rfl) ?_
                refine xo_nil (xq_then (xw_seq (xw_region ?_)))
                refine xq rfl trivial (o_mv rfl) ?_
                refine xq rfl trivial (o_mv rfl) ?_
                refine xq rfl trivial (o_lkok (z := 0) (k := (gnext_F l0 n9)[x69.toNat]!) kt3 Try.underlying45 ze3 rfl rfl hJs6 (Pull.sub (.there _ (.there _ (.here _ _))))) ?_
                refine xq rfl trivial (o_mv rfl) ?_
                refine xq rfl trivial (o_ext rfl rfl) ?_
                refine xq rfl trivial (o_ext rfl rfl) ?_
                refine xq rfl trivial (o_as rfl) ?_
                refine xq rfl trivial (o_as rfl) ?_
                refine xo_nil (xq_then (xw_seq ?_))
                refine xw_cut [(0, _), (2, _), (7, _), (8, _), (9, _), (10, _), (16, _), (67, _), (68, _), (69, _)] (lc rfl (lc rfl (lc rfl (lc rfl (lc rfl (lc rfl (lc rfl (lc rfl (lc rfl (lc rfl ln)))))))))) [(84, .bool (((mhas ieq (gfar_F l0 to2) ((gnext_F l0 n9)[x69.toNat]!))) && (decide (mget ieq (gfar_F l0 to2) ((gnext_F l0 n9)[x69.toNat]!) 0 = best10))))] ?_ ?_
                · refine xw_region ?_
                  refine xq rfl trivial (o_mv rfl) ?_
                  refine xq rfl trivial (o_mv rfl) ?_
                  refine xo_bool 80 rfl (fun hg22 => ?_) (fun hg22 => ?_)
                  · have hq22 : ((mhas ieq (gfar_F l0 to2) ((gnext_F l0 n9)[x69.toNat]!))) = true := hg22
                    have hp22 : ((mhas ieq (gfar_F l0 to2) ((gnext_F l0 n9)[x69.toNat]!))) = true := hq22
                    refine xq rfl ⟨_, rfl, rfl⟩ (o_mv rfl) ?_
                    refine xq rfl ⟨_, rfl, rfl⟩ (o_mv rfl) ?_
                    refine xq rfl ⟨_, rfl, rfl⟩ (o_eql rfl rfl) ?_
                    refine xq rfl trivial (o_pick_t rfl rfl) ?_
                    refine xo_nil ?_
                    exact xq_cut ((lce rfl (by first | rfl | (simp only [hq20, hq22, if_pos hp20, if_pos hp22, bS]; done) | (simp only [hq20, hq22, if_pos hp20, if_pos hp22, bS, reduceIte, Bool.false_eq_true]; done) | (simp [hp20, hp22]; done) | (simp_all; done)) (lc rfl (lc rfl (lc rfl (lc rfl (lc rfl (lc rfl (lc rfl (lc rfl (lc rfl (lc rfl ln)))))))))))) (fun _ h => h)
                  · have hq22 : ((mhas ieq (gfar_F l0 to2) ((gnext_F l0 n9)[x69.toNat]!))) = false := hg22
                    have hp22 : ¬ (((mhas ieq (gfar_F l0 to2) ((gnext_F l0 n9)[x69.toNat]!))) = true) := bne' hq22
                    refine xs rfl ⟨_, _, rfl, rfl, rfl⟩ (xs rfl ⟨_, _, rfl, rfl, rfl⟩ (xs rfl ⟨_, _, rfl, rfl, rfl⟩ ?_))
                    refine xq rfl trivial (o_pick_f rfl rfl) ?_
                    refine xo_nil ?_
                    exact xq_cut ((lce rfl (by first | rfl | (simp only [hq20, hq22, if_pos hp20, if_neg hp22, bS]; done) | (simp only [hq20, hq22, if_pos hp20, if_neg hp22, bS, reduceIte, Bool.false_eq_true]; done) | (simp [hp20, hp22]; done) | (simp_all; done)) (lc rfl (lc rfl (lc rfl (lc rfl (lc rfl (lc rfl (lc rfl (lc rfl (lc rfl (lc rfl ln)))))))))))) (fun _ h => h)
                · refine xq_then ?_
                  refine xw_bool 84 rfl (fun hc23 => ?_) (fun hc23 => ?_)
                  · have hq23 : (((mhas ieq (gfar_F l0 to2) ((gnext_F l0 n9)[x69.toNat]!))) && (decide (mget ieq (gfar_F l0 to2) ((gnext_F l0 n9)[x69.toNat]!) 0 = best10))) = true := hc23
                    have hp23 : (((mhas ieq (gfar_F l0 to2) ((gnext_F l0 n9)[x69.toNat]!))) && (decide (mget ieq (gfar_F l0 to2) ((gnext_F l0 n9)[x69.toNat]!) 0 = best10))) = true := hq23
                    rw [if_pos hp23] at h
                    refine xw_cond_t rfl rfl (xw_seq (xw_region ?_))
                    refine xq rfl trivial (o_mv rfl) ?_
                    refine xq rfl trivial (o_as rfl) ?_
                    refine xo_nil (xq_then (xw_exit (xq_blk_ne rfl (xq_then_exit ?_))))
                    exact xq_out (r := ((gnext_F l0 n9)[x69.toNat]! : Int)) (e' := [(0, v0), (2, .int .i64 to2), (7, vs6), (8, v8_1), (9, .int .i64 ((gnext_F l0 n9)[x69.toNat]!))]) (Bs19 ++ (B8_1 ++ (Bs6 ++ ([])))) (lc rfl (lc rfl (lc rfl (lc rfl (lc rfl ln))))) (fun _ h => h) h (by intro hh; cases hh) ⟨rfl, rfl, rfl⟩
                  · have hq23 : (((mhas ieq (gfar_F l0 to2) ((gnext_F l0 n9)[x69.toNat]!))) && (decide (mget ieq (gfar_F l0 to2) ((gnext_F l0 n9)[x69.toNat]!) 0 = best10))) = false := hc23
                    have hp23 : ¬ ((((mhas ieq (gfar_F l0 to2) ((gnext_F l0 n9)[x69.toNat]!))) && (decide (mget ieq (gfar_F l0 to2) ((gnext_F l0 n9)[x69.toNat]!) 0 = best10))) = true) := bne' hq23
                    rw [if_neg hp23] at h
                    refine xw_cond_f rfl rfl (xw_skip ?_)
                    refine xq_blk 5 ?_
                    refine xq_then (xw_region ?_)
                    obtain ⟨ho24, h⟩ := h
                    refine xq rfl trivial (o_add rfl rfl rfl ho24) ?_
                    refine xq rfl trivial (o_mv rfl) ?_
                    refine xo_nil ?_
                    exact xq_next (s' := ((n9a, x69 + 1) : Int × Int)) (e' := [(0, v0), (2, .int .i64 to2), (7, vs6), (8, v8_1), (9, .int .i64 n9a), (10, .int .i64 best10), (67, vs19), (68, .int .i64 ((gnext_F l0 n9).length : Int)), (69, .int .i64 (x69 + 1))]) (Bs19 ++ (B8_1 ++ (Bs6 ++ ([])))) (lc rfl (lc rfl (lc rfl (lc rfl (lc rfl (lc rfl (lc rfl (lc rfl (lc rfl ln))))))))) (fun _ h => h) h ⟨rfl, rfl⟩
              · have hq20 : (decide (x69 < ((gnext_F l0 n9).length : Int))) = false := hc20
                have hp20 : ¬ (x69 < ((gnext_F l0 n9).length : Int)) := of_decide_eq_false hq20
                rw [if_neg hp20] at h
                refine xw_cond_f rfl rfl (xw_exit (xq_then_exit ?_))
                exact xq_out (r := (n9a : Int)) (e' := [(0, v0), (2, .int .i64 to2), (7, vs6), (8, v8_1), (9, .int .i64 n9a)]) (Bs19 ++ (B8_1 ++ (Bs6 ++ ([])))) (lc rfl (lc rfl (lc rfl (lc rfl (lc rfl ln))))) (fun _ h => h) h (by intro hh; cases hh) ⟨rfl, rfl, rfl⟩
            · rintro _ _ _ ⟨rfl, rfl, rfl⟩
              replace h : gway_k3a out8 n9a o := h
              unfold gway_k3a at h
              refine xq_blk_eq ?_
              refine xq_then (xw_region ?_)
              refine xq rfl trivial (o_mv rfl) ?_
              refine xq rfl trivial (o_mv rfl) ?_
              refine xo rfl trivial (o_bsl el38 ze3 (cells_one rfl) rfl rfl (.int rfl rfl (.nil _))) ?_
              rintro _ _ ⟨b89, hb89, rfl, rfl⟩
              obtain ⟨ho26, h⟩ := h
              refine xo rfl trivial (OT.st (fun _ h => Pull.st (.thereC _ (.there _ (.here _ _))) h) (o_appJ (l := out8) (l' := [n9a]) (B := B8_1) ap38 rfl rfl hJ8_1 (fun w2 hw2 => (SL.lit (l := [n9a]) hw2 (List.mem_append_right _ (List.Mem.head _)) rfl (by omega) (by simp [maxLen]) (by exact (fun i hi => match i, hi with | 0, _ => rfl | q + 1, h => absurd h (by omega))))) (fun _ _ => rfl) ho26 (len_max ho26 (by decide)))) ?_
              rintro vs25 _ ⟨Bs25, rfl, hns25, hJs25⟩
              have hcBs25 := Cov.trans hcB8_1 hns25
              refine xo_st ((b89, BK 1 _ 3) :: (Bs19 ++ (Bs25 ++ (Bs6 ++ ([]))))) (fun _ h => Pull.push (.thereC _ (.there _ (.here _ _))) h) ?_
              refine xq rfl trivial (o_as rfl) ?_
              refine xo_nil ?_
              refine xq_blk 1 ?_
              exact xq_next (s' := (((out8 ++ [n9a]), n9a) : (List Int) × Int)) (e' := [(0, v0), (2, .int .i64 to2), (7, vs6), (8, vs25), (9, .int .i64 n9a)]) (Bs25 ++ (Bs6 ++ ([]))) (lc rfl (lc rfl (lc rfl (lc rfl (lc rfl ln))))) (Kp.st (Kp.new hb89 (Kp.segNew (Cov.fresh hcBs19) (Kp.segKeep (Kp.segKeep Kp.nil))))) h ⟨vs25, Bs25, rfl, rfl, hJs25, hcBs25⟩
        · have hq9 : ((!(decide (n9 = to2))) || (decide ((out8.length : Int) = 1))) = false := hc9
          have hp9 : ¬ (((!(decide (n9 = to2))) || (decide ((out8.length : Int) = 1))) = true) := bne' hq9
          rw [if_neg hp9] at h
          refine xw_cond_f rfl rfl (xw_exit (xq_then_exit ?_))
          exact xq_out (r := (out8 : (List Int))) (e' := [(8, v8_1)]) (B8_1 ++ (Bs6 ++ ([]))) (lc rfl ln) (fun _ h => h) h (by intro hh; cases hh) ⟨v8_1, B8_1, rfl, rfl, rfl, hJ8_1, hcB8_1⟩
    · rintro _ _ _ ⟨v8_1o, B8_1o, rfl, rfl, rfl, hJ8_1o, hcB8_1o⟩
      replace h : gway_k1a out8 r := h
      unfold gway_k1a at h
      refine xq_blk_eq ?_
      refine xq_then (xw_seq (xw_region ?_))
      refine xq rfl trivial (o_mv rfl) ?_
      refine xq rfl trivial (o_as rfl) ?_
      refine xo_nil (xq_then (xw_ret ?_))
      subst h
      exact con_ret1 (.inl rfl) Try.results16 rfl (B8_1o ++ []) (Kp.st (Kp.segKeep (Kp.segNew (Cov.fresh hcBs6) Kp.nil))) (⟨_, B8_1o, rfl, rfl, hJ8_1o, hcB8_1o⟩)

end Go.Proofs.Ytcnbdkkmcdjncaa
