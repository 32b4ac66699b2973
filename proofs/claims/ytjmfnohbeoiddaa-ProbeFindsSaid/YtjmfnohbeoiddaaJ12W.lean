/- The code answers as the relations say. -/
import Derived.Test.YtjmfnohbeoiddaaTab
import Derived.Test.YtjmfnohbeoiddaaJ12S
import Derived.Test.YtjmfnohbeoiddaaI12W
set_option maxHeartbeats 1000000
set_option linter.unusedVariables false
set_option linter.unusedSimpArgs false
set_option maxRecDepth 100000
namespace Go.Proofs.Ytjmfnohbeoiddaa
open Go Go.E

theorem circR_c (l0 : (List (Nat → Int))) (v0 : Value) (w : World) (hs0 : SL w 4 iv v0 l0) (hP : circR_P l0) : Con Try.prog 19 #[v0] w (fun v F => ∃ (u0 : Value) (C0 : GH), v = u0 ∧ F = (C0 ++ []) ∧ OJ 3 1 ic C0 u0 (circR_F l0) ∧ Cov w [] C0) :=
  circR_con l0 v0 w hs0 _ (circR_ok l0 hP)

theorem finds12_con (pairs0 : (List (Nat → Int))) (from1 : Int) (v0 : Value) (w : World) (hs0 : SL w 2 (fun (m : Nat → Int) (i : Nat) => Value.int .u8 (m i)) v0 pairs0) (r : Bool) (h : finds12_S pairs0 from1 r) : Con Try.prog 5 #[v0, .int .u8 from1] w (Is (.bool r) []) := by
  unfold finds12_S at h
  refine con_enter (n := 212) [(0, _), (1, _)] Try.func5 rfl Try.ntmps5 rfl (lac rfl (lac rfl lan)) ?_
  refine xw_seq (xw_region ?_)
  refine xq rfl trivial (o_as rfl) ?_
  refine xo_nil (xq_then (xw_seq (xw_seq (xw_region ?_))))
  obtain ⟨ho1, h⟩ := h
  refine xcallq rfl trivial kf8 rfl (fun w1 hw1 => alive12_c w1 ho1) ?_
  refine xq rfl trivial (o_not rfl) ?_
  refine xo_nil (xq_then ?_)
  refine xw_bool 25 rfl (fun hc2 => ?_) (fun hc2 => ?_)
  · have hq2 : (alive12_F) = false := (bnT hc2)
    have hp2 : ¬ ((alive12_F) = true) := bne' hq2
    rw [if_neg hp2] at h
    refine xw_cond_t rfl rfl (xw_seq (xw_region ?_))
    refine xq rfl trivial (o_as rfl) ?_
    refine xo_nil (xq_then (xw_ret (xq_then_ret ?_)))
    subst h
    exact con_ret1 (.inl rfl) Try.results5 rfl [] (fun _ h => h) (⟨rfl, rfl⟩)
  · have hq2 : (alive12_F) = true := (bnF hc2)
    have hp2 : (alive12_F) = true := hq2
    rw [if_pos hp2] at h
    refine xw_cond_f rfl rfl (xw_skip (xq_then (xw_seq (xw_seq (xw_region ?_)))))
    refine xq rfl trivial (o_mv rfl) ?_
    refine xq rfl trivial (o_lenL rfl Try.underlying51 rfl (SL.val hs0)) ?_
    refine xq rfl trivial (o_gtr rfl rfl) ?_
    refine xo_nil (xq_then ?_)
    refine xw_bool 28 rfl (fun hc3 => ?_) (fun hc3 => ?_)
    · have hq3 : (decide (12 < (pairs0.length : Int))) = true := hc3
      have hp3 : 12 < (pairs0.length : Int) := of_decide_eq_true hq3
      rw [if_pos hp3] at h
      refine xw_cond_t rfl rfl (xw_seq (xw_region ?_))
      refine xq rfl trivial (o_as rfl) ?_
      refine xo_nil (xq_then (xw_ret (xq_then_ret ?_)))
      subst h
      exact con_ret1 (.inl rfl) Try.results5 rfl [] (fun _ h => h) (⟨rfl, rfl⟩)
    · have hq3 : (decide (12 < (pairs0.length : Int))) = false := hc3
      have hp3 : ¬ (12 < (pairs0.length : Int)) := of_decide_eq_false hq3
      rw [if_neg hp3] at h
      refine xw_cond_f rfl rfl (xw_skip (xq_then (xw_seq (xw_region ?_))))
      refine xq rfl trivial (o_as rfl) ?_
      refine xo_nil (xq_then (xw_seq (xw_seq (xw_region ?_))))
      refine xq rfl trivial (o_as rfl) ?_
      refine xo_nil (xq_then ?_)
      refine xw_block ?_
      obtain ⟨l5, hx1, h⟩ := h
      refine xw_wh (fun s e H => match s with | (l5, i6) => ∃ (v5_1 : Value) (B5_1 : GH), e = [(0, v0), (1, .int .u8 from1), (5, v5_1), (6, .int .i64 i6)] ∧ H = B5_1 ++ ([]) ∧ OJ 54 4 iv B5_1 v5_1 l5 ∧ Cov w [] B5_1) (fun (l5 : (List (Nat → Int))) ex e H => ∃ (v5_1o : Value) (B5_1o : GH), ex = .exit 0 ∧ e = [(1, .int .u8 from1), (5, v5_1o)] ∧ H = B5_1o ++ ([]) ∧ OJ 54 4 iv B5_1o v5_1o l5 ∧ Cov w [] B5_1o) hx1 ⟨[(0, v0), (1, .int .u8 from1), (5, .slice none 0 0), (6, .int .i64 0)], [] ++ ([]), (lc rfl (lc rfl (lc rfl (lc rfl ln)))), fun _ h => h, ⟨_, [], rfl, rfl, OJ.nil, (Cov.refl _)⟩⟩ ?_ ?_
      · rintro ⟨l5, i6⟩ o _ _ ⟨v5_1, B5_1, rfl, rfl, hJ5_1, hcB5_1⟩ hb
        have h : finds12_l1 pairs0 l5 i6 o := hb
        clear hb
        unfold finds12_l1 at h
        refine xw_seq (xw_seq (xw_region ?_))
        refine xq rfl trivial (o_mv rfl) ?_
        refine xq rfl trivial (o_mv rfl) ?_
        refine xq rfl trivial (o_lenL rfl Try.underlying51 rfl (SL.val hs0)) ?_
        refine xq rfl trivial (o_lss rfl rfl) ?_
        refine xo_nil (xq_then ?_)
        refine xw_bool 32 rfl (fun hc4 => ?_) (fun hc4 => ?_)
        · have hq4 : (decide (i6 < (pairs0.length : Int))) = true := hc4
          have hp4 : i6 < (pairs0.length : Int) := of_decide_eq_true hq4
          rw [if_pos hp4] at h
          refine xw_cond_t rfl rfl (xw_skip (xq_then (xw_seq ?_)))
          refine xw_block ?_
          refine xw_seq ?_
          refine xd_start (by kernel_rfl) (by kernel_rfl) (fun hok => ?_)
          refine xd_b hok 0 [(0, _)] ([]) rsN rfl rfl rfl (lc rfl ln) (by kernel_rfl) trivial (fun H' hy hK => o_mv rfl) ?_
          refine xd_b hok 1 [(6, _)] ([]) rsN rfl rfl rfl (lc rfl ln) (by kernel_rfl) trivial (fun H' hy hK => o_mv rfl) ?_
          obtain ⟨ho5, h⟩ := h
          refine xd_b hok 2 [(35, _), (36, _)] ([]) rsN rfl rfl rfl (lc rfl (lc rfl ln)) (by kernel_rfl) trivial (fun H' hy hK => o_ixL el51 rfl rfl (fun w hw => (hs0.keep hw (fun k hk => (hK k hk).elim (fun h => (Fr.seg hcB5_1 Fr.nil) k h) id))) rfl ho5) ?_
          refine xd_b hok 3 [(37, _)] ([]) rsN rfl rfl rfl (lc rfl ln) (by kernel_rfl) trivial (fun H' hy hK => o_ixaL (m := 0) ea52 rfl rfl (fun w hw => (hs0.keep hw (fun k hk => (hK k hk).elim (fun h => (Fr.seg hcB5_1 Fr.nil) k h) id))) (toNat_lt ho5) rfl ⟨by omega, by omega⟩ rfl) ?_
          refine xd_b hok 4 [(38, _)] ([]) rsN rfl rfl rfl (lc rfl ln) (by kernel_rfl) trivial (fun H' hy hK => o_ldL1 (off := 0) (u := .int .u8 (pairs0[i6.toNat]! 0)) rfl ts5 rfl (fun w hw => (hs0.keep hw (fun k hk => (hK k hk).elim (fun h => (Fr.seg hcB5_1 Fr.nil) k h) id))) (toNat_lt ho5) rfl rfl) ?_
          refine xd_b hok 5 [(39, _)] ([]) rsN rfl rfl rfl (lc rfl ln) (by kernel_rfl) trivial (fun H' hy hK => o_conv rfl Try.underlying5 Try.underlying3) ?_
          refine xd_b hok 6 [(40, _)] ([]) rsN rfl rfl rfl (lc rfl ln) (by kernel_rfl) trivial (fun H' hy hK => o_rem rfl rfl (by decide) rfl) ?_
          obtain ⟨ho6, h⟩ := h
          refine xd_b hok 7 [(41, _)] ([]) rsN rfl rfl rfl (lc rfl ln) (by kernel_rfl) trivial (fun H' hy hK => o_add rfl rfl rfl ho6) ?_
          refine xd_b hok 8 [(0, _)] ([]) rsN rfl rfl rfl (lc rfl ln) (by kernel_rfl) trivial (fun H' hy hK => o_mv rfl) ?_
          refine xd_b hok 9 [(6, _)] ([]) rsN rfl rfl rfl (lc rfl ln) (by kernel_rfl) trivial (fun H' hy hK => o_mv rfl) ?_
          obtain ⟨ho7, h⟩ := h
          refine xd_b hok 10 [(43, _), (44, _)] ([]) rsN rfl rfl rfl (lc rfl (lc rfl ln)) (by kernel_rfl) trivial (fun H' hy hK => o_ixL el51 rfl rfl (fun w hw => (hs0.keep hw (fun k hk => (hK k hk).elim (fun h => (Fr.seg hcB5_1 Fr.nil) k h) id))) rfl ho7) ?_
          refine xd_b hok 11 [(45, _)] ([]) rsN rfl rfl rfl (lc rfl ln) (by kernel_rfl) trivial (fun H' hy hK => o_ixaL (m := 1) ea52 rfl rfl (fun w hw => (hs0.keep hw (fun k hk => (hK k hk).elim (fun h => (Fr.seg hcB5_1 Fr.nil) k h) id))) (toNat_lt ho7) rfl ⟨by omega, by omega⟩ rfl) ?_
          refine xd_b hok 12 [(46, _)] ([]) rsN rfl rfl rfl (lc rfl ln) (by kernel_rfl) trivial (fun H' hy hK => o_ldL1 (off := 1) (u := .int .u8 (pairs0[i6.toNat]! 1)) rfl ts5 rfl (fun w hw => (hs0.keep hw (fun k hk => (hK k hk).elim (fun h => (Fr.seg hcB5_1 Fr.nil) k h) id))) (toNat_lt ho7) rfl rfl) ?_
          refine xd_b hok 13 [(47, _)] ([]) rsN rfl rfl rfl (lc rfl ln) (by kernel_rfl) trivial (fun H' hy hK => o_conv rfl Try.underlying5 Try.underlying3) ?_
          refine xd_b hok 14 [(48, _)] ([]) rsN rfl rfl rfl (lc rfl ln) (by kernel_rfl) trivial (fun H' hy hK => o_rem rfl rfl (by decide) rfl) ?_
          obtain ⟨ho8, h⟩ := h
          refine xd_b hok 15 [(49, _)] ([]) rsN rfl rfl rfl (lc rfl ln) (by kernel_rfl) trivial (fun H' hy hK => o_add rfl rfl rfl ho8) ?_
          refine xd_b hok 16 [(42, _)] ([]) rsN rfl rfl rfl (lc rfl ln) (by kernel_rfl) trivial (fun H' hy hK => o_as rfl) ?_
          refine xd_b hok 17 [(50, _)] ([]) rsN rfl rfl rfl (lc rfl ln) (by kernel_rfl) trivial (fun H' hy hK => o_as rfl) ?_
          refine xd_end hok (by kernel_rfl) ?_
          refine xq_then (xw_seq (xw_region ?_))
          refine xq rfl trivial (o_as rfl) ?_
          refine xo_nil (xq_then (xw_seq (xw_seq (xw_region ?_))))
          refine xq rfl trivial (o_mv rfl) ?_
          refine xq rfl trivial (o_mv rfl) ?_
          obtain ⟨ho9, h⟩ := h
          refine xq rfl trivial (o_ixL el51 rfl rfl (fun w hw => (hs0.keep hw (Fr.seg hcB5_1 Fr.nil))) rfl ho9) ?_
          refine xq rfl trivial (o_ixaL (m := 1) ea52 rfl rfl (fun w hw => (hs0.keep hw (Fr.seg hcB5_1 Fr.nil))) (toNat_lt ho9) rfl ⟨by omega, by omega⟩ rfl) ?_
          refine xq rfl trivial (o_ldL1 (off := 1) (u := .int .u8 (pairs0[i6.toNat]! 1)) rfl ts5 rfl (fun w hw => (hs0.keep hw (Fr.seg hcB5_1 Fr.nil))) (toNat_lt ho9) rfl rfl) ?_
          refine xq rfl trivial (o_gtr rfl rfl) ?_
          refine xo_nil (xq_then ?_)
          refine xw_cut [(0, _), (1, _), (5, _), (6, _), (7, _), (8, _)] (lc rfl (lc rfl (lc rfl (lc rfl (lc rfl (lc rfl ln)))))) [(9, .int .i64 (if 127 < pairs0[i6.toNat]! 1 then 1 + ((IntKind.i64.wrap (pairs0[i6.toNat]! 1)).tmod 6) else 0))] ?_ ?_
          · refine xw_bool 56 rfl (fun hc10 => ?_) (fun hc10 => ?_)
            · have hq10 : (decide (127 < pairs0[i6.toNat]! 1)) = true := hc10
              have hp10 : 127 < pairs0[i6.toNat]! 1 := of_decide_eq_true hq10
              refine xw_cond_t rfl rfl (xw_region ?_)
              refine xq rfl trivial (o_mv rfl) ?_
              refine xq rfl trivial (o_as rfl) ?_
              refine xo_nil ?_
              exact xq_cut (lce rfl (by first | rfl | (simp only [hq4, hq10, if_pos hp4, if_pos hp10, bS]; done) | (simp only [hq4, hq10, if_pos hp4, if_pos hp10, bS, reduceIte, Bool.false_eq_true]; done) | (simp [hp4, hp10]; done) | (simp_all; done)) (lc rfl (lc rfl (lc rfl (lc rfl (lc rfl (lc rfl ln))))))) (fun _ hh => hh)
            · have hq10 : (decide (127 < pairs0[i6.toNat]! 1)) = false := hc10
              have hp10 : ¬ (127 < pairs0[i6.toNat]! 1) := of_decide_eq_false hq10
              refine xw_cond_f rfl rfl (xw_skip ?_)
              exact xq_cut (lce rfl (by first | rfl | (simp only [hq4, hq10, if_pos hp4, if_neg hp10, bS]; done) | (simp only [hq4, hq10, if_pos hp4, if_neg hp10, bS, reduceIte, Bool.false_eq_true]; done) | (simp [hp4, hp10]; done) | (simp_all; done)) (lc rfl (lc rfl (lc rfl (lc rfl (lc rfl (lc rfl ln))))))) (fun _ hh => hh)
          · refine xq_then (xw_seq (xw_region ?_))
            refine xq rfl trivial (o_mv rfl) ?_
            refine xq rfl trivial (o_mv rfl) ?_
            refine xq rfl trivial (o_eql rfl rfl) ?_
            refine xq rfl trivial (o_as rfl) ?_
            refine xo_nil (xq_then (xw_seq (xw_seq (xw_region ?_))))
            refine xq rfl trivial (o_as rfl) ?_
            refine xo_nil (xq_then ?_)
            refine xw_block ?_
            obtain ⟨twice10, hx2, h⟩ := h
            refine xw_wh (fun s e H => match s with | (twice10, k11) => e = [(0, v0), (1, .int .u8 from1), (5, v5_1), (6, .int .i64 i6), (7, .int .i64 (1 + ((IntKind.i64.wrap (pairs0[i6.toNat]! 0)).tmod 6))), (8, .int .i64 (1 + ((IntKind.i64.wrap (pairs0[i6.toNat]! 1)).tmod 6))), (9, .int .i64 (if 127 < pairs0[i6.toNat]! 1 then 1 + ((IntKind.i64.wrap (pairs0[i6.toNat]! 1)).tmod 6) else 0)), (10, .bool (twice10)), (11, .int .i64 k11)] ∧ H = B5_1 ++ ([])) (fun (twice10 : Bool) ex e H => ex = .exit 2 ∧ e = [(0, v0), (1, .int .u8 from1), (5, v5_1), (6, .int .i64 i6), (7, .int .i64 (1 + ((IntKind.i64.wrap (pairs0[i6.toNat]! 0)).tmod 6))), (8, .int .i64 (1 + ((IntKind.i64.wrap (pairs0[i6.toNat]! 1)).tmod 6))), (9, .int .i64 (if 127 < pairs0[i6.toNat]! 1 then 1 + ((IntKind.i64.wrap (pairs0[i6.toNat]! 1)).tmod 6) else 0)), (10, .bool (twice10))] ∧ H = B5_1 ++ ([])) hx2 ⟨[(0, v0), (1, .int .u8 from1), (5, v5_1), (6, .int .i64 i6), (7, .int .i64 (1 + ((IntKind.i64.wrap (pairs0[i6.toNat]! 0)).tmod 6))), (8, .int .i64 (1 + ((IntKind.i64.wrap (pairs0[i6.toNat]! 1)).tmod 6))), (9, .int .i64 (if 127 < pairs0[i6.toNat]! 1 then 1 + ((IntKind.i64.wrap (pairs0[i6.toNat]! 1)).tmod 6) else 0)), (10, .bool (decide (1 + ((IntKind.i64.wrap (pairs0[i6.toNat]! 0)).tmod 6) = 1 + ((IntKind.i64.wrap (pairs0[i6.toNat]! 1)).tmod 6)))), (11, .int .i64 0)], B5_1 ++ ([]), (lc rfl (lc rfl (lc rfl (lc rfl (lc rfl (lc rfl (lc rfl (lc rfl (lc rfl ln))))))))), fun _ h => h, ⟨rfl, rfl⟩⟩ ?_ ?_
            · rintro ⟨twice10, k11⟩ o _ _ ⟨rfl, rfl⟩ hb
              have h : finds12_l2 pairs0 l5 i6 twice10 k11 o := hb
              clear hb
              unfold finds12_l2 at h
              refine xw_seq (xw_seq (xw_region ?_))
              refine xq rfl trivial (o_mv rfl) ?_
              refine xq rfl trivial (o_mv rfl) ?_
              refine xq rfl trivial (o_lenL rfl Try.underlying30 rfl (OJ.val hJ5_1)) ?_
              refine xq rfl trivial (o_lss rfl rfl) ?_
              refine xo_nil (xq_then ?_)
              refine xw_bool 64 rfl (fun hc11 => ?_) (fun hc11 => ?_)
              · have hq11 : (decide (k11 < (l5.length : Int))) = true := hc11
                have hp11 : k11 < (l5.length : Int) := of_decide_eq_true hq11
                rw [if_pos hp11] at h
                refine xw_cond_t rfl rfl (xw_skip (xq_then (xw_seq ?_)))
                refine xw_block ?_
                obtain ⟨ho12, ho13, h⟩ := h
                refine xw_cut [(0, _), (1, _), (5, _), (6, _), (7, _), (8, _), (9, _), (11, _)] (lc rfl (lc rfl (lc rfl (lc rfl (lc rfl (lc rfl (lc rfl (lc rfl ln)))))))) [(10, .bool ((twice10) || ((decide (l5[k11.toNat]! 0 = 1 + ((IntKind.i64.wrap (pairs0[i6.toNat]! 0)).tmod 6))) && (decide (l5[k11.toNat]! 2 = 1 + ((IntKind.i64.wrap (pairs0[i6.toNat]! 1)).tmod 6))))))] ?_ ?_
                · refine xw_region ?_
                  refine xq rfl trivial (o_mv rfl) ?_
                  refine xq rfl trivial (o_mv rfl) ?_
                  refine xo_bool 68 rfl (fun hg14 => ?_) (fun hg14 => ?_)
                  · have hq14 : (twice10) = true := hg14
                    have hp14 : (twice10) = true := hq14
                    refine xs rfl ⟨_, _, rfl, rfl, rfl⟩ (xs rfl ⟨_, _, rfl, rfl, rfl⟩ (xs rfl ⟨_, _, rfl, rfl, rfl⟩ (xs rfl ⟨_, _, rfl, rfl, rfl⟩ (xs rfl ⟨_, _, rfl, rfl, rfl⟩ (xs rfl ⟨_, _, rfl, rfl, rfl⟩ (xs rfl ⟨_, _, rfl, rfl, rfl⟩ (xs rfl ⟨_, _, rfl, rfl, rfl⟩ ?_)))))))
                    refine xs rfl ⟨_, _, rfl, rfl, rfl⟩ (xs rfl ⟨_, _, rfl, rfl, rfl⟩ (xs rfl ⟨_, _, rfl, rfl, rfl⟩ (xs rfl ⟨_, _, rfl, rfl, rfl⟩ (xs rfl ⟨_, _, rfl, rfl, rfl⟩ (xs rfl ⟨_, _, rfl, rfl, rfl⟩ (xs rfl ⟨_, _, rfl, rfl, rfl⟩ (xs rfl ⟨_, _, rfl, rfl, rfl⟩ ?_)))))))
                    refine xq rfl trivial (o_pick_t rfl rfl) ?_
                    refine xq rfl trivial (o_as rfl) ?_
                    refine xo_nil ?_
                    exact xq_cut ((lce rfl (by first | rfl | (simp only [hq11, hq14, if_pos hp11, if_pos hp14, bS]; done) | (simp only [hq11, hq14, if_pos hp11, if_pos hp14, bS, reduceIte, Bool.false_eq_true]; done) | (simp [hp11, hp14]; done) | (simp_all; done)) (lc rfl (lc rfl (lc rfl (lc rfl (lc rfl (lc rfl (lc rfl (lc rfl ln)))))))))) (fun _ h => h)
                  · have hq14 : (twice10) = false := hg14
                    have hp14 : ¬ ((twice10) = true) := bne' hq14
                    refine xq rfl ⟨_, rfl, rfl⟩ (o_mv rfl) ?_
                    refine xq rfl ⟨_, rfl, rfl⟩ (o_mv rfl) ?_
                    refine xq rfl ⟨_, rfl, rfl⟩ (o_ixL el30 rfl rfl (fun w hw => (hJ5_1.sl hw (Pull.sub (.here _ _)))) rfl (ho12 (by first | exact hg14 | (simp only [hq11, hq14, if_pos hp11, if_neg hp14, bS]; done) | (simp only [hq11, hq14, if_pos hp11, if_neg hp14, bS, reduceIte, Bool.false_eq_true]; done) | (simp [hp11, hp14]; done) | (simp_all; done)))) ?_
                    refine xq rfl ⟨_, rfl, rfl⟩ (o_faL fl54_0 rfl rfl (fun w hw => (hJ5_1.sl hw (Pull.sub (.here _ _)))) (toNat_lt (ho12 (by first | exact hg14 | (simp only [hq11, hq14, if_pos hp11, if_neg hp14, bS]; done) | (simp only [hq11, hq14, if_pos hp11, if_neg hp14, bS, reduceIte, Bool.false_eq_true]; done) | (simp [hp11, hp14]; done) | (simp_all; done))))) ?_
                    refine xq rfl ⟨_, rfl, rfl⟩ (o_ldL1 (off := 0) (u := .int .i64 (l5[k11.toNat]! 0)) rfl ts3 rfl (fun w hw => (hJ5_1.sl hw (Pull.sub (.here _ _)))) (toNat_lt (ho12 (by first | exact hg14 | (simp only [hq11, hq14, if_pos hp11, if_neg hp14, bS]; done) | (simp only [hq11, hq14, if_pos hp11, if_neg hp14, bS, reduceIte, Bool.false_eq_true]; done) | (simp [hp11, hp14]; done) | (simp_all; done)))) rfl rfl) ?_
                    refine xq rfl ⟨_, rfl, rfl⟩ (o_mv rfl) ?_
                    refine xq rfl ⟨_, rfl, rfl⟩ (o_eql rfl rfl) ?_
                    refine xq rfl ⟨_, rfl, rfl⟩ (o_mv rfl) ?_
                    refine xo_bool 76 rfl (fun hg15 => ?_) (fun hg15 => ?_)
                    · have hq15 : (decide (l5[k11.toNat]! 0 = 1 + ((IntKind.i64.wrap (pairs0[i6.toNat]! 0)).tmod 6))) = true := hg15
                      have hp15 : l5[k11.toNat]! 0 = 1 + ((IntKind.i64.wrap (pairs0[i6.toNat]! 0)).tmod 6) := of_decide_eq_true hq15
                      refine xq rfl ⟨_, rfl, rfl⟩ (o_mv rfl) ?_
                      refine xq rfl ⟨_, rfl, rfl⟩ (o_mv rfl) ?_
                      refine xq rfl ⟨_, rfl, rfl⟩ (o_ixL el30 rfl rfl (fun w hw => (hJ5_1.sl hw (Pull.sub (.here _ _)))) rfl (ho13 (by first | exact hg14 | (simp only [hq11, hq14, hq15, if_pos hp11, if_neg hp14, if_pos hp15, bS]; done) | (simp only [hq11, hq14, hq15, if_pos hp11, if_neg hp14, if_pos hp15, bS, reduceIte, Bool.false_eq_true]; done) | (simp [hp11, hp14, hp15]; done) | (simp_all; done)) (by first | exact hg15 | (simp only [hq11, hq14, hq15, if_pos hp11, if_neg hp14, if_pos hp15, bS]; done) | (simp only [hq11, hq14, hq15, if_pos hp11, if_neg hp14, if_pos hp15, bS, reduceIte, Bool.false_eq_true]; done) | (simp [hp11, hp14, hp15]; done) | (simp_all; done)))) ?_
                      refine xq rfl ⟨_, rfl, rfl⟩ (o_faL fl54_2 rfl rfl (fun w hw => (hJ5_1.sl hw (Pull.sub (.here _ _)))) (toNat_lt (ho13 (by first | exact hg14 | (simp only [hq11, hq14, hq15, if_pos hp11, if_neg hp14, if_pos hp15, bS]; done) | (simp only [hq11, hq14, hq15, if_pos hp11, if_neg hp14, if_pos hp15, bS, reduceIte, Bool.false_eq_true]; done) | (simp [hp11, hp14, hp15]; done) | (simp_all; done)) (by first | exact hg15 | (simp only [hq11, hq14, hq15, if_pos hp11, if_neg hp14, if_pos hp15, bS]; done) | (simp only [hq11, hq14, hq15, if_pos hp11, if_neg hp14, if_pos hp15, bS, reduceIte, Bool.false_eq_true]; done) | (simp [hp11, hp14, hp15]; done) | (simp_all; done))))) ?_
                      refine xq rfl ⟨_, rfl, rfl⟩ (o_ldL1 (off := 2) (u := .int .i64 (l5[k11.toNat]! 2)) rfl ts3 rfl (fun w hw => (hJ5_1.sl hw (Pull.sub (.here _ _)))) (toNat_lt (ho13 (by first | exact hg14 | (simp only [hq11, hq14, hq15, if_pos hp11, if_neg hp14, if_pos hp15, bS]; done) | (simp only [hq11, hq14, hq15, if_pos hp11, if_neg hp14, if_pos hp15, bS, reduceIte, Bool.false_eq_true]; done) | (simp [hp11, hp14, hp15]; done) | (simp_all; done)) (by first | exact hg15 | (simp only [hq11, hq14, hq15, if_pos hp11, if_neg hp14, if_pos hp15, bS]; done) | (simp only [hq11, hq14, hq15, if_pos hp11, if_neg hp14, if_pos hp15, bS, reduceIte, Bool.false_eq_true]; done) | (simp [hp11, hp14, hp15]; done) | (simp_all; done)))) rfl rfl) ?_
                      refine xq rfl ⟨_, rfl, rfl⟩ (o_mv rfl) ?_
                      refine xq rfl ⟨_, rfl, rfl⟩ (o_eql rfl rfl) ?_
                      refine xq rfl ⟨_, rfl, rfl⟩ (o_pick_t rfl rfl) ?_
                      refine xq rfl trivial (o_pick_f rfl rfl) ?_
                      refine xq rfl trivial (o_as rfl) ?_
                      refine xo_nil ?_
                      exact xq_cut ((lce rfl (by first | rfl | (simp only [hq11, hq14, hq15, if_pos hp11, if_neg hp14, if_pos hp15, bS]; done) | (simp only [hq11, hq14, hq15, if_pos hp11, if_neg hp14, if_pos hp15, bS, reduceIte, Bool.false_eq_true]; done) | (simp [hp11, hp14, hp15]; done) | (simp_all; done)) (lc rfl (lc rfl (lc rfl (lc rfl (lc rfl (lc rfl (lc rfl (lc rfl ln)))))))))) (fun _ h => h)
                    · have hq15 : (decide (l5[k11.toNat]! 0 = 1 + ((IntKind.i64.wrap (pairs0[i6.toNat]! 0)).tmod 6))) = false := hg15
                      have hp15 : ¬ (l5[k11.toNat]! 0 = 1 + ((IntKind.i64.wrap (pairs0[i6.toNat]! 0)).tmod 6)) := of_decide_eq_false hq15
                      refine xs rfl ⟨_, _, rfl, rfl, rfl⟩ (xs rfl ⟨_, _, rfl, rfl, rfl⟩ (xs rfl ⟨_, _, rfl, rfl, rfl⟩ (xs rfl ⟨_, _, rfl, rfl, rfl⟩ (xs rfl ⟨_, _, rfl, rfl, rfl⟩ (xs rfl ⟨_, _, rfl, rfl, rfl⟩ (xs rfl ⟨_, _, rfl, rfl, rfl⟩ ?_))))))
                      refine xq rfl ⟨_, rfl, rfl⟩ (o_pick_f rfl rfl) ?_
                      refine xq rfl trivial (o_pick_f rfl rfl) ?_
                      refine xq rfl trivial (o_as rfl) ?_
                      refine xo_nil ?_
                      exact xq_cut ((lce rfl (by first | rfl | (simp only [hq11, hq14, hq15, if_pos hp11, if_neg hp14, if_neg hp15, bS]; done) | (simp only [hq11, hq14, hq15, if_pos hp11, if_neg hp14, if_neg hp15, bS, reduceIte, Bool.false_eq_true]; done) | (simp [hp11, hp14, hp15]; done) | (simp_all; done)) (lc rfl (lc rfl (lc rfl (lc rfl (lc rfl (lc rfl (lc rfl (lc rfl ln)))))))))) (fun _ h => h)
                · refine xq_blk 3 ?_
                  refine xq_then (xw_region ?_)
                  refine xq rfl trivial (o_mv rfl) ?_
                  obtain ⟨ho16, h⟩ := h
                  refine xq rfl trivial (o_add rfl rfl rfl ho16) ?_
                  refine xq rfl trivial (o_as rfl) ?_
                  refine xo_nil ?_
                  exact xq_next (s' := (((twice10) || ((decide (l5[k11.toNat]! 0 = 1 + ((IntKind.i64.wrap (pairs0[i6.toNat]! 0)).tmod 6))) && (decide (l5[k11.toNat]! 2 = 1 + ((IntKind.i64.wrap (pairs0[i6.toNat]! 1)).tmod 6)))), k11 + 1) : Bool × Int)) (e' := [(0, v0), (1, .int .u8 from1), (5, v5_1), (6, .int .i64 i6), (7, .int .i64 (1 + ((IntKind.i64.wrap (pairs0[i6.toNat]! 0)).tmod 6))), (8, .int .i64 (1 + ((IntKind.i64.wrap (pairs0[i6.toNat]! 1)).tmod 6))), (9, .int .i64 (if 127 < pairs0[i6.toNat]! 1 then 1 + ((IntKind.i64.wrap (pairs0[i6.toNat]! 1)).tmod 6) else 0)), (10, .bool ((twice10) || ((decide (l5[k11.toNat]! 0 = 1 + ((IntKind.i64.wrap (pairs0[i6.toNat]! 0)).tmod 6))) && (decide (l5[k11.toNat]! 2 = 1 + ((IntKind.i64.wrap (pairs0[i6.toNat]! 1)).tmod 6)))))), (11, .int .i64 (k11 + 1))]) (B5_1 ++ ([])) (lc rfl (lc rfl (lc rfl (lc rfl (lc rfl (lc rfl (lc rfl (lc rfl (lc rfl ln))))))))) (fun _ h => h) h ⟨rfl, rfl⟩
              · have hq11 : (decide (k11 < (l5.length : Int))) = false := hc11
                have hp11 : ¬ (k11 < (l5.length : Int)) := of_decide_eq_false hq11
                rw [if_neg hp11] at h
                refine xw_cond_f rfl rfl (xw_exit (xq_then_exit ?_))
                exact xq_out (r := (twice10 : Bool)) (e' := [(0, v0), (1, .int .u8 from1), (5, v5_1), (6, .int .i64 i6), (7, .int .i64 (1 + ((IntKind.i64.wrap (pairs0[i6.toNat]! 0)).tmod 6))), (8, .int .i64 (1 + ((IntKind.i64.wrap (pairs0[i6.toNat]! 1)).tmod 6))), (9, .int .i64 (if 127 < pairs0[i6.toNat]! 1 then 1 + ((IntKind.i64.wrap (pairs0[i6.toNat]! 1)).tmod 6) else 0)), (10, .bool (twice10))]) (B5_1 ++ ([])) (lc rfl (lc rfl (lc rfl (lc rfl (lc rfl (lc rfl (lc rfl (lc rfl ln)))))))) (fun _ h => h) h (by intro hh; cases hh) ⟨rfl, rfl, rfl⟩
            · rintro _ _ _ ⟨rfl, rfl, rfl⟩
              replace h : finds12_k2a pairs0 l5 i6 twice10 o := h
              unfold finds12_k2a at h
              refine xq_blk_eq ?_
              refine xq_then (xw_seq (xw_region ?_))
              refine xq rfl trivial (o_mv rfl) ?_
              refine xq rfl trivial (o_not rfl) ?_
              refine xo_nil (xq_then ?_)
              refine xw_bool 87 rfl (fun hc17 => ?_) (fun hc17 => ?_)
              · have hq17 : (twice10) = false := (bnT hc17)
                have hp17 : ¬ ((twice10) = true) := bne' hq17
                rw [if_neg hp17] at h
                refine xw_cond_t rfl rfl (xw_region ?_)
                refine xq rfl trivial (o_mv rfl) ?_
                refine xq rfl trivial (o_mv rfl) ?_
                refine xq rfl trivial (o_mv rfl) ?_
                refine xq rfl trivial (o_mv rfl) ?_
                refine xq rfl trivial (o_mv rfl) ?_
                refine xq rfl trivial (o_build fk54 ze54 (.int fl54_0 rfl rfl (.int fl54_1 rfl rfl (.int fl54_2 rfl rfl (.int fl54_3 rfl rfl (.nil _)))))) ?_
                refine xo rfl trivial (o_bsl el30 ze54 rfl rfl rfl (.ints rfl rfl (.nil _))) ?_
                rintro _ _ ⟨b94, hb94, rfl, rfl⟩
                obtain ⟨ho19, h⟩ := h
                refine xo rfl trivial (OT.st (fun _ h => Pull.st (.thereC _ (.here _ _)) h) (o_appJ (l := l5) (l' := [(updI (updI (updI (updI (fun _ => 0) 0 (1 + ((IntKind.i64.wrap (pairs0[i6.toNat]! 0)).tmod 6))) 1 (1 + ((IntKind.i64.wrap (pairs0[i6.toNat]! 0)).tmod 6))) 2 (1 + ((IntKind.i64.wrap (pairs0[i6.toNat]! 1)).tmod 6))) 3 (if 127 < pairs0[i6.toNat]! 1 then 1 + ((IntKind.i64.wrap (pairs0[i6.toNat]! 1)).tmod 6) else 0))]) (B := B5_1) ap30 rfl rfl hJ5_1 (fun w2 hw2 => (SL.lit (l := [(updI (updI (updI (updI (fun _ => 0) 0 (1 + ((IntKind.i64.wrap (pairs0[i6.toNat]! 0)).tmod 6))) 1 (1 + ((IntKind.i64.wrap (pairs0[i6.toNat]! 0)).tmod 6))) 2 (1 + ((IntKind.i64.wrap (pairs0[i6.toNat]! 1)).tmod 6))) 3 (if 127 < pairs0[i6.toNat]! 1 then 1 + ((IntKind.i64.wrap (pairs0[i6.toNat]! 1)).tmod 6) else 0))]) hw2 (List.mem_append_right _ (List.Mem.head _)) rfl (by omega) (by simp [maxLen]) (by exact (fun i hi => match i, hi with | 0, _ => rfl | 1, _ => rfl | 2, _ => rfl | 3, _ => rfl | q + 4, h => absurd h (by omega))))) (fun _ _ => rfl) ho19 (len_max ho19 (by decide)))) ?_
                rintro vs18 _ ⟨Bs18, rfl, hns18, hJs18⟩
                have hcBs18 := Cov.trans hcB5_1 hns18
                refine xo_st ((b94, BK 4 _ 54) :: (Bs18 ++ ([]))) (fun _ h => Pull.push (.thereC _ (.here _ _)) h) ?_
                refine xq rfl trivial (o_as rfl) ?_
                refine xo_nil ?_
                refine xq_blk 1 ?_
                refine xq_then (xw_region ?_)
                refine xq rfl trivial (o_mv rfl) ?_
                obtain ⟨ho20, h⟩ := h
                refine xq rfl trivial (o_add rfl rfl rfl ho20) ?_
                refine xq rfl trivial (o_as rfl) ?_
                refine xo_nil ?_
                exact xq_next (s' := (((l5 ++ [(updI (updI (updI (updI (fun _ => 0) 0 (1 + ((IntKind.i64.wrap (pairs0[i6.toNat]! 0)).tmod 6))) 1 (1 + ((IntKind.i64.wrap (pairs0[i6.toNat]! 0)).tmod 6))) 2 (1 + ((IntKind.i64.wrap (pairs0[i6.toNat]! 1)).tmod 6))) 3 (if 127 < pairs0[i6.toNat]! 1 then 1 + ((IntKind.i64.wrap (pairs0[i6.toNat]! 1)).tmod 6) else 0))]), i6 + 1) : (List (Nat → Int)) × Int)) (e' := [(0, v0), (1, .int .u8 from1), (5, vs18), (6, .int .i64 (i6 + 1))]) (Bs18 ++ ([])) (lc rfl (lc rfl (lc rfl (lc rfl ln)))) (Kp.st (Kp.new hb94 (Kp.segKeep Kp.nil))) h ⟨vs18, Bs18, rfl, rfl, hJs18, hcBs18⟩
              · have hq17 : (twice10) = true := (bnF hc17)
                have hp17 : (twice10) = true := hq17
                rw [if_pos hp17] at h
                refine xw_cond_f rfl rfl (xw_skip ?_)
                refine xq_blk 1 ?_
                refine xq_then (xw_region ?_)
                refine xq rfl trivial (o_mv rfl) ?_
                obtain ⟨ho21, h⟩ := h
                refine xq rfl trivial (o_add rfl rfl rfl ho21) ?_
                refine xq rfl trivial (o_as rfl) ?_
                refine xo_nil ?_
                exact xq_next (s' := ((l5, i6 + 1) : (List (Nat → Int)) × Int)) (e' := [(0, v0), (1, .int .u8 from1), (5, v5_1), (6, .int .i64 (i6 + 1))]) (B5_1 ++ ([])) (lc rfl (lc rfl (lc rfl (lc rfl ln)))) (fun _ h => h) h ⟨v5_1, B5_1, rfl, rfl, hJ5_1, hcB5_1⟩
        · have hq4 : (decide (i6 < (pairs0.length : Int))) = false := hc4
          have hp4 : ¬ (i6 < (pairs0.length : Int)) := of_decide_eq_false hq4
          rw [if_neg hp4] at h
          refine xw_cond_f rfl rfl (xw_exit (xq_then_exit ?_))
          exact xq_out (r := (l5 : (List (Nat → Int)))) (e' := [(1, .int .u8 from1), (5, v5_1)]) (B5_1 ++ ([])) (lc rfl (lc rfl ln)) (fun _ h => h) h (by intro hh; cases hh) ⟨v5_1, B5_1, rfl, rfl, rfl, hJ5_1, hcB5_1⟩
      · rintro _ _ _ ⟨v5_1o, B5_1o, rfl, rfl, rfl, hJ5_1o, hcB5_1o⟩
        replace h : finds12_k1a from1 l5 r := h
        unfold finds12_k1a at h
        refine xq_blk_eq ?_
        refine xq_then (xw_seq (xw_region ?_))
        refine xq rfl trivial (o_mv rfl) ?_
        refine xq rfl trivial (o_conv rfl Try.underlying5 Try.underlying3) ?_
        refine xq rfl trivial (o_rem rfl rfl (by decide) rfl) ?_
        obtain ⟨ho22, h⟩ := h
        refine xq rfl trivial (o_add rfl rfl rfl ho22) ?_
        refine xq rfl trivial (o_as rfl) ?_
        refine xo_nil (xq_then (xw_seq (xw_region ?_)))
        refine xq rfl trivial (o_mv rfl) ?_
        refine xq rfl trivial (o_mv rfl) ?_
        refine xoR rfl trivial (ot_in (l := [(0, _), (1, _)]) kf18 rfl Try.func18 rfl Try.ntmps18 rfl (lac rfl (lac rfl lan)) ?_)
        refine xw_seq (xw_region ?_)
        refine xq rfl trivial (o_as rfl) ?_
        refine xq rfl trivial (o_as rfl) ?_
        refine xo_nil (xq_then (xw_seq (xw_region ?_)))
        refine xq rfl trivial (o_mv rfl) ?_
        refine xq rfl trivial (o_mv rfl) ?_
        refine xq rfl trivial (o_build fk26 ze26 (.int fl26_0 rfl rfl (.int fl26_1 rfl rfl (.nil _)))) ?_
        refine xq rfl trivial (o_mv rfl) ?_
        obtain ⟨ho23, h⟩ := h
        refine xcall rfl trivial kf14 rfl (fun w1 hw1 => startP_c _ _ _ _ w1 (hJ5_1o.sl hw1 (Pull.sub (.here _ _))) ho23) ?_
        rintro w1 _ _ hw1 ⟨vs24, Bs24, rfl, rfl, hJs24, hcBs24⟩
        refine ⟨_, Mg.news (Cov.fresh hcBs24) (.nil _), ?_⟩
        replace hcBs24 := Cov.base (w0 := w) hcBs24 hw1.size
        refine xq rfl trivial (o_mv rfl) ?_
        refine xq rfl trivial (o_ext rfl rfl) ?_
        refine xq rfl trivial (o_ext rfl rfl) ?_
        refine xq rfl trivial (o_as rfl) ?_
        refine xq rfl trivial (o_as rfl) ?_
        refine xo_nil (xq_then (xw_seq (xw_seq (xw_region ?_))))
        refine xq rfl trivial (o_mv rfl) ?_
        refine xq rfl trivial (o_neE Try.underlying34 rfl (fun _ => rfl) rfl rfl) ?_
        refine xo_nil (xq_then ?_)
        refine xw_bool 23 rfl (fun hc25 => ?_) (fun hc25 => ?_)
        · have hq25 : (decide ((startP_F 1 (updI (updI (fun _ => 0) 0 (1 + ((IntKind.i64.wrap from1).tmod 6))) 1 (1 + ((IntKind.i64.wrap from1).tmod 6))) l5).2 = 0)) = false := (bnT hc25)
          have hp25 : ¬ ((startP_F 1 (updI (updI (fun _ => 0) 0 (1 + ((IntKind.i64.wrap from1).tmod 6))) 1 (1 + ((IntKind.i64.wrap from1).tmod 6))) l5).2 = 0) := of_decide_eq_false hq25
          rw [if_neg hp25] at h
          refine xw_cond_t rfl rfl (xw_seq (xw_region ?_))
          refine xq rfl trivial (o_as rfl) ?_
          refine xq rfl trivial (o_as rfl) ?_
          refine xo_nil (xq_then (xw_ret (xq_then_ret ?_)))
          refine con_ret2 (.inl rfl) Try.results18 rfl rfl _ (fun _ h => h) (?_)
          refine xq rfl trivial (o_mv rfl) ?_
          refine xq rfl trivial (o_ext rfl rfl) ?_
          refine xq rfl trivial (o_ext rfl rfl) ?_
          refine xq rfl trivial (o_as rfl) ?_
          refine xq rfl trivial (o_as rfl) ?_
          refine xo_nil (xq_then (xw_seq (xw_seq (xw_region ?_))))
          refine xq rfl trivial (o_mv rfl) ?_
          refine xq rfl trivial (o_not rfl) ?_
          refine xo_nil (xq_then (xw_cond_t rfl rfl (xw_seq (xw_region ?_))))
          refine xq rfl trivial (o_as rfl) ?_
          refine xo_nil (xq_then (xw_ret (xq_then_ret ?_)))
          subst h
          exact con_ret1 (.inl rfl) Try.results5 rfl [] (Kp.st (Kp.segNew (Cov.fresh hcBs24) (Kp.segNew (Cov.fresh hcB5_1o) Kp.nil))) (⟨rfl, rfl⟩)
        · have hq25 : (decide ((startP_F 1 (updI (updI (fun _ => 0) 0 (1 + ((IntKind.i64.wrap from1).tmod 6))) 1 (1 + ((IntKind.i64.wrap from1).tmod 6))) l5).2 = 0)) = true := (bnF hc25)
          have hp25 : (startP_F 1 (updI (updI (fun _ => 0) 0 (1 + ((IntKind.i64.wrap from1).tmod 6))) 1 (1 + ((IntKind.i64.wrap from1).tmod 6))) l5).2 = 0 := of_decide_eq_true hq25
          rw [if_pos hp25] at h
          refine xw_cond_f rfl rfl (xw_skip (xq_then (xw_seq (xw_region ?_))))
          refine xq rfl trivial (o_as rfl) ?_
          refine xo_nil (xq_then (xw_seq (xw_seq (xw_region ?_))))
          refine xq rfl trivial (o_as rfl) ?_
          refine xo_nil (xq_then ?_)
          refine xw_block ?_
          obtain ⟨x3, hx3, h⟩ := h
          refine xw_wh (fun s e H => match s with | (at6, back8, n9) => ∃ (v8_3 : Value) (v6_3 : Value) (B6_3 : GH) (B8_3 : GH), e = [(1, v5_1o), (6, v6_3), (8, v8_3), (9, .int .i64 n9)] ∧ H = B8_3 ++ (B6_3 ++ (B5_1o ++ ([]))) ∧ OJ 29 28 iv B6_3 v6_3 at6 ∧ OJ 29 28 iv B8_3 v8_3 back8 ∧ Cov w [] B6_3 ∧ Cov w [] B8_3) (fun x ex e H => match x with | .inl back8 => ∃ (v8_3o : Value) (B6_3o : GH) (B8_3o : GH), ex = .exit 0 ∧ e = [(8, v8_3o)] ∧ H = B8_3o ++ (B6_3o ++ (B5_1o ++ ([]))) ∧ OJ 29 28 iv B8_3o v8_3o back8 ∧ Cov w [] B6_3o ∧ Cov w [] B8_3o | .inr _ => ∃ (B6_3o : GH) (B8_3o : GH), ex = .ret ∧ e = [(4, .slice none 0 0), (5, .bool false)] ∧ H = B8_3o ++ (B6_3o ++ (B5_1o ++ ([]))) ∧ Cov w [] B6_3o ∧ Cov w [] B8_3o) hx3 ⟨[(1, v5_1o), (6, vs24), (8, .slice none 0 0), (9, .int .i64 0)], [] ++ (Bs24 ++ (B5_1o ++ ([]))), (lc rfl (lc rfl (lc rfl (lc rfl ln)))), fun _ h => h, ⟨_, vs24, Bs24, [], rfl, rfl, hJs24, OJ.nil, hcBs24, (Cov.refl _)⟩⟩ ?_ ?_
          · rintro ⟨at6, back8, n9⟩ o _ _ ⟨v8_3, v6_3, B6_3, B8_3, rfl, rfl, hJ6_3, hJ8_3, hcB6_3, hcB8_3⟩ hb
            have h : finds12_l3 l5 at6 back8 n9 o := hb
            clear hb
            unfold finds12_l3 at h
            refine xw_seq (xw_seq ?_)
            refine xw_cut [(1, _), (6, _), (8, _), (9, _)] (lc rfl (lc rfl (lc rfl (lc rfl ln)))) [(30, .bool ((decide (0 < (at6.length : Int))) && (decide (n9 < 3000))))] ?_ ?_
            · refine xw_region ?_
              refine xq rfl trivial (o_mv rfl) ?_
              refine xq rfl trivial (o_lenL rfl Try.underlying41 rfl (OJ.val hJ6_3)) ?_
              refine xq rfl trivial (o_gtr rfl rfl) ?_
              refine xq rfl trivial (o_mv rfl) ?_
              refine xo_bool 27 rfl (fun hg26 => ?_) (fun hg26 => ?_)
              · have hq26 : (decide (0 < (at6.length : Int))) = true := hg26
                have hp26 : 0 < (at6.length : Int) := of_decide_eq_true hq26
                refine xq rfl ⟨_, rfl, rfl⟩ (o_mv rfl) ?_
                refine xq rfl ⟨_, rfl, rfl⟩ (o_lss rfl rfl) ?_
                refine xq rfl trivial (o_pick_t rfl rfl) ?_
                refine xo_nil ?_
                exact xq_cut ((lce rfl (by first | rfl | (simp only [hq26, if_pos hp26, bS]; done) | (simp only [hq26, if_pos hp26, bS, reduceIte, Bool.false_eq_true]; done) | (simp [hp26]; done) | (simp_all; done)) (lc rfl (lc rfl (lc rfl (lc rfl ln)))))) (fun _ h => h)
              · have hq26 : (decide (0 < (at6.length : Int))) = false := hg26
                have hp26 : ¬ (0 < (at6.length : Int)) := of_decide_eq_false hq26
                refine xs rfl ⟨_, _, rfl, rfl, rfl⟩ (xs rfl ⟨_, _, rfl, rfl, rfl⟩ ?_)
                refine xq rfl trivial (o_pick_f rfl rfl) ?_
                refine xo_nil ?_
                exact xq_cut ((lce rfl (by first | rfl | (simp only [hq26, if_neg hp26, bS]; done) | (simp only [hq26, if_neg hp26, bS, reduceIte, Bool.false_eq_true]; done) | (simp [hp26]; done) | (simp_all; done)) (lc rfl (lc rfl (lc rfl (lc rfl ln)))))) (fun _ h => h)
            · refine xq_then ?_
              refine xw_bool 30 rfl (fun hc27 => ?_) (fun hc27 => ?_)
              · have hq27 : ((decide (0 < (at6.length : Int))) && (decide (n9 < 3000))) = true := hc27
                have hp27 : ((decide (0 < (at6.length : Int))) && (decide (n9 < 3000))) = true := hq27
                rw [if_pos hp27] at h
                refine xw_cond_t rfl rfl (xw_skip (xq_then (xw_seq ?_)))
                refine xw_block ?_
                refine xw_seq (xw_region ?_)
                refine xq rfl trivial (o_mv rfl) ?_
                obtain ⟨ho28, h⟩ := h
                refine xq rfl trivial (o_ixL el41 rfl rfl (fun w hw => (hJ6_3.sl hw (Pull.sub (.there _ (.here _ _))))) rfl ho28) ?_
                refine xq rfl trivial (o_ldLI rfl ts29 rfl (fun w hw => (hJ6_3.sl hw (Pull.sub (.there _ (.here _ _))))) (toNat_lt ho28) rfl) ?_
                refine xo rfl trivial (o_alloc ze29 rfl) ?_
                rintro _ _ ⟨b10, hb10, rfl, rfl⟩
                refine xq0 trivial (o_stWI rfl rfl ts29 (List.Mem.head _) (.here _ _ _ _)) ?_
                refine xo_nil (xq_then (xw_seq (xw_region ?_)))
                refine xq rfl trivial (o_mv rfl) ?_
                obtain ⟨ho29, h⟩ := h
                refine xq rfl trivial (o_cutL el41 rfl (fun w hw => (hJ6_3.sl hw (Pull.sub (.thereC _ (.there _ (.here _ _)))))) rfl ho29) ?_
                refine xq rfl trivial (o_as rfl) ?_
                refine xo_nil (xq_then (xw_seq (xw_seq (xw_region ?_))))
                refine xq rfl trivial (o_ldW rfl ts29 (List.Mem.head _)) ?_
                refine xcallq rfl trivial kf11 rfl (fun w1 hw1 => back_c _ w1) ?_
                refine xo_nil (xq_then ?_)
                refine xw_bool 39 rfl (fun hc30 => ?_) (fun hc30 => ?_)
                · have hq30 : ((back_F (at6[0]!))) = true := hc30
                  have hp30 : ((back_F (at6[0]!))) = true := hq30
                  rw [if_pos hp30] at h
                  refine xw_cond_t rfl rfl (xw_seq (xw_region ?_))
                  refine xq rfl trivial (o_mv rfl) ?_
                  refine xq rfl trivial (o_ldW rfl ts29 (List.Mem.head _)) ?_
                  refine xo rfl trivial (o_bsl el41 ze29 rfl rfl rfl (.ints rfl rfl (.nil _))) ?_
                  rintro _ _ ⟨b42, hb42, rfl, rfl⟩
                  obtain ⟨ho32, h⟩ := h
                  refine xo rfl trivial (OT.st (fun _ h => Pull.st (.thereC _ (.thereC _ (.here _ _))) h) (o_appJ (l := back8) (l' := [(at6[0]!)]) (B := B8_3) ap41 rfl rfl hJ8_3 (fun w2 hw2 => (SL.lit (l := [(at6[0]!)]) hw2 (List.mem_append_right _ (List.Mem.head _)) rfl (by omega) (by simp [maxLen]) (by exact (fun i hi => match i, hi with | 0, _ => rfl | 1, _ => rfl | 2, _ => rfl | 3, _ => rfl | 4, _ => rfl | 5, _ => rfl | 6, _ => rfl | 7, _ => rfl | 8, _ => rfl | 9, _ => rfl | 10, _ => rfl | 11, _ => rfl | 12, _ => rfl | 13, _ => rfl | 14, _ => rfl | 15, _ => rfl | 16, _ => rfl | 17, _ => rfl | 18, _ => rfl | 19, _ => rfl | 20, _ => rfl | 21, _ => rfl | 22, _ => rfl | 23, _ => rfl | 24, _ => rfl | 25, _ => rfl | 26, _ => rfl | 27, _ => rfl | q + 28, h => absurd h (by omega))))) (fun _ _ => rfl) ho32 (len_max ho32 (by decide)))) ?_
                  rintro vs31 _ ⟨Bs31, rfl, hns31, hJs31⟩
                  have hcBs31 := Cov.trans hcB8_3 hns31
                  refine xo_st ((b42, BK 28 _ 29) :: ((b10, BK 28 (iv (at6[0]!)) 29) :: (Bs31 ++ (B6_3 ++ (B5_1o ++ ([])))))) (fun _ h => Pull.push (.thereC _ (.thereC _ (.here _ _))) h) ?_
                  refine xq rfl trivial (o_as rfl) ?_
                  refine xo_nil (xq_then (xw_exit (xq_then_exit ?_)))
                  refine xq_blk_eq ?_
                  refine xq_then (xw_region ?_)
                  refine xq rfl trivial (o_mv rfl) ?_
                  obtain ⟨ho33, h⟩ := h
                  refine xq rfl trivial (o_add rfl rfl rfl ho33) ?_
                  refine xq rfl trivial (o_as rfl) ?_
                  refine xo_nil ?_
                  exact xq_next (s' := (((at6.take at6.length).drop 1, (back8 ++ [(at6[0]!)]), n9 + 1) : (List (Nat → Int)) × (List (Nat → Int)) × Int)) (e' := [(1, v5_1o), (6, (cutV v6_3 28 1 at6.length)), (8, vs31), (9, .int .i64 (n9 + 1))]) (Bs31 ++ (B6_3 ++ (B5_1o ++ ([])))) (lc rfl (lc rfl (lc rfl (lc rfl ln)))) (Kp.st (Kp.new hb42 (Kp.new hb10 (Kp.segKeep (Kp.segKeep (Kp.segKeep Kp.nil)))))) h ⟨vs31, (cutV v6_3 28 1 at6.length), B6_3, Bs31, rfl, rfl, (hJ6_3.cut (toNat_le ho29) (Nat.le_refl _) (by decide)), hJs31, hcB6_3, hcBs31⟩
                · have hq30 : ((back_F (at6[0]!))) = false := hc30
                  have hp30 : ¬ (((back_F (at6[0]!))) = true) := bne' hq30
                  rw [if_neg hp30] at h
                  refine xw_cond_f rfl rfl (xw_skip (xq_then (xw_seq (xw_region ?_))))
                  refine xq rfl trivial (o_ldW rfl ts29 (List.Mem.head _)) ?_
                  first | refine xq rfl trivial (o_fa0 fl29_8 rfl) ?_ | refine xq rfl trivial (o_fa fl29_8 rfl) ?_
                  refine xq rfl trivial (o_ldI (v := (at6[0]!) 9) rfl ts3 (List.Mem.head _) (by omega) rfl) ?_
                  refine xq rfl trivial (o_mv rfl) ?_
                  obtain ⟨ho34, h⟩ := h
                  refine xcall rfl trivial kf13 rfl (fun w1 hw1 => goP_c _ _ _ _ _ w1 (hJ5_1o.sl hw1 (Pull.sub (.thereC _ (.there _ (.there _ (.here _ _)))))) ho34) ?_
                  rintro w1 _ _ hw1 ⟨vs35, Bs35, rfl, rfl, hJs35, hcBs35⟩
                  refine ⟨_, Mg.news (Cov.fresh hcBs35) (.nil _), ?_⟩
                  replace hcBs35 := Cov.base (w0 := w) hcBs35 hw1.size
                  refine xq rfl trivial (o_mv rfl) ?_
                  refine xq rfl trivial (o_ext rfl rfl) ?_
                  refine xq rfl trivial (o_ext rfl rfl) ?_
                  refine xq rfl trivial (o_as rfl) ?_
                  refine xq rfl trivial (o_as rfl) ?_
                  refine xo_nil (xq_then (xw_seq (xw_region ?_)))
                  refine xq rfl trivial (o_mv rfl) ?_
                  refine xcallq rfl trivial kf17 rfl (fun w1 hw1 => code_c _ w1) ?_
                  refine xq rfl trivial (o_as rfl) ?_
                  refine xo_nil (xq_then (xw_seq (xw_seq ?_)))
                  refine xw_cut [(1, _), (6, _), (8, _), (9, _), (11, _)] (lc rfl (lc rfl (lc rfl (lc rfl (lc rfl ln))))) [(63, .bool (((!(decide ((code_F ((goP_F 1 (at6[0]!) ((at6[0]!) 9) l5).2)) = 0))) && (!(decide ((code_F ((goP_F 1 (at6[0]!) ((at6[0]!) 9) l5).2)) = 11)))) && (!(decide ((code_F ((goP_F 1 (at6[0]!) ((at6[0]!) 9) l5).2)) = 7)))))] ?_ ?_
                  · refine xw_region ?_
                    refine xq rfl trivial (o_mv rfl) ?_
                    refine xq rfl trivial (o_neq rfl rfl) ?_
                    refine xq rfl trivial (o_mv rfl) ?_
                    refine xo_bool 56 rfl (fun hg36 => ?_) (fun hg36 => ?_)
                    · have hq36 : (decide ((code_F ((goP_F 1 (at6[0]!) ((at6[0]!) 9) l5).2)) = 0)) = false := (bnT hg36)
                      have hp36 : ¬ ((code_F ((goP_F 1 (at6[0]!) ((at6[0]!) 9) l5).2)) = 0) := of_decide_eq_false hq36
                      refine xq rfl ⟨_, rfl, rfl⟩ (o_mv rfl) ?_
                      refine xq rfl ⟨_, rfl, rfl⟩ (o_neq rfl rfl) ?_
                      refine xq rfl trivial (o_pick_t rfl rfl) ?_
                      refine xq rfl trivial (o_mv rfl) ?_
                      refine xo_bool 60 rfl (fun hg37 => ?_) (fun hg37 => ?_)
                      · have hq37 : (decide ((code_F ((goP_F 1 (at6[0]!) ((at6[0]!) 9) l5).2)) = 11)) = false := (bnT hg37)
                        have hp37 : ¬ ((code_F ((goP_F 1 (at6[0]!) ((at6[0]!) 9) l5).2)) = 11) := of_decide_eq_false hq37
                        refine xq rfl ⟨_, rfl, rfl⟩ (o_mv rfl) ?_
                        refine xq rfl ⟨_, rfl, rfl⟩ (o_neq rfl rfl) ?_
                        refine xq rfl trivial (o_pick_t rfl rfl) ?_
                        refine xo_nil ?_
                        exact xq_cut ((lce rfl (by first | rfl | (simp only [hq27, hq30, hq36, hq37, if_pos hp27, if_neg hp30, if_neg hp36, if_neg hp37, bS]; done) | (simp only [hq27, hq30, hq36, hq37, if_pos hp27, if_neg hp30, if_neg hp36, if_neg hp37, bS, reduceIte, Bool.false_eq_true]; done) | (simp [hp27, hp30, hp36, hp37]; done) | (simp_all; done)) (lc rfl (lc rfl (lc rfl (lc rfl (lc rfl ln))))))) (fun _ h => h)
                      · have hq37 : (decide ((code_F ((goP_F 1 (at6[0]!) ((at6[0]!) 9) l5).2)) = 11)) = true := (bnF hg37)
                        have hp37 : (code_F ((goP_F 1 (at6[0]!) ((at6[0]!) 9) l5).2)) = 11 := of_decide_eq_true hq37
                        refine xs rfl ⟨_, _, rfl, rfl, rfl⟩ (xs rfl ⟨_, _, rfl, rfl, rfl⟩ ?_)
                        refine xq rfl trivial (o_pick_f rfl rfl) ?_
                        refine xo_nil ?_
                        exact xq_cut ((lce rfl (by first | rfl | (simp only [hq27, hq30, hq36, hq37, if_pos hp27, if_neg hp30, if_neg hp36, if_pos hp37, bS]; done) | (simp only [hq27, hq30, hq36, hq37, if_pos hp27, if_neg hp30, if_neg hp36, if_pos hp37, bS, reduceIte, Bool.false_eq_true]; done) | (simp [hp27, hp30, hp36, hp37]; done) | (simp_all; done)) (lc rfl (lc rfl (lc rfl (lc rfl (lc rfl ln))))))) (fun _ h => h)
                    · have hq36 : (decide ((code_F ((goP_F 1 (at6[0]!) ((at6[0]!) 9) l5).2)) = 0)) = true := (bnF hg36)
                      have hp36 : (code_F ((goP_F 1 (at6[0]!) ((at6[0]!) 9) l5).2)) = 0 := of_decide_eq_true hq36
                      refine xs rfl ⟨_, _, rfl, rfl, rfl⟩ (xs rfl ⟨_, _, rfl, rfl, rfl⟩ ?_)
                      refine xq rfl trivial (o_pick_f rfl rfl) ?_
                      refine xq rfl trivial (o_mv rfl) ?_
                      refine xs rfl ⟨_, _, rfl, rfl, rfl⟩ (xs rfl ⟨_, _, rfl, rfl, rfl⟩ ?_)
                      refine xq rfl trivial (o_pick_f rfl rfl) ?_
                      refine xo_nil ?_
                      exact xq_cut ((lce rfl (by first | rfl | (simp only [hq27, hq30, hq36, if_pos hp27, if_neg hp30, if_pos hp36, bS]; done) | (simp only [hq27, hq30, hq36, if_pos hp27, if_neg hp30, if_pos hp36, bS, reduceIte, Bool.false_eq_true]; done) | (simp [hp27, hp30, hp36]; done) | (simp_all; done)) (lc rfl (lc rfl (lc rfl (lc rfl (lc rfl ln))))))) (fun _ h => h)
                  · refine xq_then ?_
                    refine xw_bool 63 rfl (fun hc38 => ?_) (fun hc38 => ?_)
                    · have hq38 : (((!(decide ((code_F ((goP_F 1 (at6[0]!) ((at6[0]!) 9) l5).2)) = 0))) && (!(decide ((code_F ((goP_F 1 (at6[0]!) ((at6[0]!) 9) l5).2)) = 11)))) && (!(decide ((code_F ((goP_F 1 (at6[0]!) ((at6[0]!) 9) l5).2)) = 7)))) = true := hc38
                      have hp38 : (((!(decide ((code_F ((goP_F 1 (at6[0]!) ((at6[0]!) 9) l5).2)) = 0))) && (!(decide ((code_F ((goP_F 1 (at6[0]!) ((at6[0]!) 9) l5).2)) = 11)))) && (!(decide ((code_F ((goP_F 1 (at6[0]!) ((at6[0]!) 9) l5).2)) = 7)))) = true := hq38
                      rw [if_pos hp38] at h
                      refine xw_cond_t rfl rfl (xw_seq (xw_region ?_))
                      refine xq rfl trivial (o_as rfl) ?_
                      refine xq rfl trivial (o_as rfl) ?_
                      refine xo_nil (xq_then (xw_ret (xq_then_ret (xq_blk_ret (xq_then_ret ?_)))))
                      exact xq_out (r := (.inr () : ((List (Nat → Int))) ⊕ (Unit))) (e' := [(4, .slice none 0 0), (5, .bool false)]) (B8_3 ++ (B6_3 ++ (B5_1o ++ ([])))) (lc rfl (lc rfl ln)) (Kp.st (Kp.segNew (Cov.fresh hcBs35) (Kp.new hb10 (Kp.segKeep (Kp.segKeep (Kp.segKeep Kp.nil)))))) h (by intro hh; cases hh) ⟨B6_3, B8_3, rfl, rfl, rfl, hcB6_3, hcB8_3⟩
                    · have hq38 : (((!(decide ((code_F ((goP_F 1 (at6[0]!) ((at6[0]!) 9) l5).2)) = 0))) && (!(decide ((code_F ((goP_F 1 (at6[0]!) ((at6[0]!) 9) l5).2)) = 11)))) && (!(decide ((code_F ((goP_F 1 (at6[0]!) ((at6[0]!) 9) l5).2)) = 7)))) = false := hc38
                      have hp38 : ¬ ((((!(decide ((code_F ((goP_F 1 (at6[0]!) ((at6[0]!) 9) l5).2)) = 0))) && (!(decide ((code_F ((goP_F 1 (at6[0]!) ((at6[0]!) 9) l5).2)) = 11)))) && (!(decide ((code_F ((goP_F 1 (at6[0]!) ((at6[0]!) 9) l5).2)) = 7)))) = true) := bne' hq38
                      rw [if_neg hp38] at h
                      refine xw_cond_f rfl rfl (xw_skip (xq_then (xw_region ?_)))
                      refine xq rfl trivial (o_mv rfl) ?_
                      refine xq rfl trivial (o_mv rfl) ?_
                      obtain ⟨ho40, h⟩ := h
                      refine xo rfl trivial (OT.st (fun _ h => Pull.st (.there _ (.thereC _ (.there _ (.here _ _)))) h) (o_appJ (l := (at6.take at6.length).drop 1) (l' := (goP_F 1 (at6[0]!) ((at6[0]!) 9) l5).1) (B := B6_3) ap41 rfl rfl (hJ6_3.cut (toNat_le ho29) (Nat.le_refl _) (by decide)) (fun w2 hw2 => (hJs35.sl hw2 (Pull.sub (.there _ (.here _ _))))) (fun _ _ => rfl) ho40 (len_max ho40 (by decide)))) ?_
                      rintro vs39 _ ⟨Bs39, rfl, hns39, hJs39⟩
                      have hcBs39 := Cov.trans hcB6_3 hns39
                      refine xo_st (Bs35 ++ ((b10, BK 28 (iv (at6[0]!)) 29) :: (B8_3 ++ (Bs39 ++ (B5_1o ++ ([])))))) (fun _ h => Pull.push (.there _ (.thereC _ (.there _ (.here _ _)))) h) ?_
                      refine xq rfl trivial (o_as rfl) ?_
                      refine xo_nil ?_
                      refine xq_blk 1 ?_
                      refine xq_then (xw_region ?_)
                      refine xq rfl trivial (o_mv rfl) ?_
                      obtain ⟨ho41, h⟩ := h
                      refine xq rfl trivial (o_add rfl rfl rfl ho41) ?_
                      refine xq rfl trivial (o_as rfl) ?_
                      refine xo_nil ?_
                      exact xq_next (s' := ((((at6.take at6.length).drop 1 ++ (goP_F 1 (at6[0]!) ((at6[0]!) 9) l5).1), back8, n9 + 1) : (List (Nat → Int)) × (List (Nat → Int)) × Int)) (e' := [(1, v5_1o), (6, vs39), (8, v8_3), (9, .int .i64 (n9 + 1))]) (B8_3 ++ (Bs39 ++ (B5_1o ++ ([])))) (lc rfl (lc rfl (lc rfl (lc rfl ln)))) (Kp.st (Kp.segNew (Cov.fresh hcBs35) (Kp.new hb10 (Kp.segKeep (Kp.segKeep (Kp.segKeep Kp.nil)))))) h ⟨v8_3, vs39, Bs39, B8_3, rfl, rfl, hJs39, hJ8_3, hcBs39, hcB8_3⟩
              · have hq27 : ((decide (0 < (at6.length : Int))) && (decide (n9 < 3000))) = false := hc27
                have hp27 : ¬ (((decide (0 < (at6.length : Int))) && (decide (n9 < 3000))) = true) := bne' hq27
                rw [if_neg hp27] at h
                refine xw_cond_f rfl rfl (xw_exit (xq_then_exit ?_))
                exact xq_out (r := (.inl back8 : ((List (Nat → Int))) ⊕ (Unit))) (e' := [(8, v8_3)]) (B8_3 ++ (B6_3 ++ (B5_1o ++ ([])))) (lc rfl ln) (fun _ h => h) h (by intro hh; cases hh) ⟨v8_3, B6_3, B8_3, rfl, rfl, rfl, hJ8_3, hcB6_3, hcB8_3⟩
          · rcases x3 with back8 | x3
            · rintro _ _ _ ⟨v8_3o, B6_3o, B8_3o, rfl, rfl, rfl, hJ8_3o, hcB6_3o, hcB8_3o⟩
              replace h : finds12_k3a from1 l5 back8 r := h
              unfold finds12_k3a at h
              refine xq_blk_eq ?_
              refine xq_then (xw_seq (xw_region ?_))
              refine xq rfl trivial (o_mv rfl) ?_
              refine xq rfl trivial (o_as rfl) ?_
              refine xq rfl trivial (o_as rfl) ?_
              refine xo_nil (xq_then (xw_ret ?_))
              refine con_ret2 (.inl rfl) Try.results18 rfl rfl _ (fun _ h => h) (?_)
              refine xq rfl trivial (o_mv rfl) ?_
              refine xq rfl trivial (o_ext rfl rfl) ?_
              refine xq rfl trivial (o_ext rfl rfl) ?_
              refine xq rfl trivial (o_as rfl) ?_
              refine xq rfl trivial (o_as rfl) ?_
              refine xo_nil (xq_then (xw_seq (xw_seq (xw_region ?_))))
              refine xq rfl trivial (o_mv rfl) ?_
              refine xq rfl trivial (o_not rfl) ?_
              refine xo_nil (xq_then (xw_cond_f rfl rfl (xw_skip (xq_then (xw_seq (xw_region ?_))))))
              refine xq rfl trivial (o_as rfl) ?_
              refine xo_nil (xq_then (xw_seq (xw_region ?_)))
              refine xq rfl trivial (o_mv rfl) ?_
              obtain ⟨ho42, h⟩ := h
              refine xcall rfl trivial kf19 rfl (fun w1 hw1 => circR_c _ _ w1 (hJ5_1o.sl hw1 (Pull.sub (.there _ (.there _ (.here _ _))))) ho42) ?_
              rintro w1 vs43 _ hw1 ⟨_, Bs43, rfl, rfl, hJs43, hcBs43⟩
              refine ⟨_, Mg.news (Cov.fresh hcBs43) (.nil _), ?_⟩
              replace hcBs43 := Cov.base (w0 := w) hcBs43 hw1.size
              refine xq rfl trivial (o_as rfl) ?_
              refine xo_nil (xq_then (xw_seq (xw_seq (xw_region ?_))))
              refine xq rfl trivial (o_as rfl) ?_
              refine xo_nil (xq_then ?_)
              refine xw_block ?_
              obtain ⟨on15, hx4, h⟩ := h
              refine xw_wh (fun s e H => match s with | (on15, i17) => e = [(5, v5_1o), (12, .int .i64 (1 + ((IntKind.i64.wrap from1).tmod 6))), (13, v8_3o), (15, .bool (on15)), (16, vs43), (17, .int .i64 i17)] ∧ H = Bs43 ++ (B8_3o ++ (B5_1o ++ ([])))) (fun (on15 : Bool) ex e H => ex = .exit 4 ∧ e = [(5, v5_1o), (12, .int .i64 (1 + ((IntKind.i64.wrap from1).tmod 6))), (13, v8_3o), (15, .bool (on15))] ∧ H = Bs43 ++ (B8_3o ++ (B5_1o ++ ([])))) hx4 ⟨[(5, v5_1o), (12, .int .i64 (1 + ((IntKind.i64.wrap from1).tmod 6))), (13, v8_3o), (15, .bool false), (16, vs43), (17, .int .i64 0)], Bs43 ++ (B8_3o ++ (B5_1o ++ ([]))), (lc rfl (lc rfl (lc rfl (lc rfl (lc rfl (lc rfl ln)))))), Kp.st (Kp.segKeep (Kp.segKeep (Kp.segNew (Cov.fresh hcB6_3o) (Kp.segKeep Kp.nil)))), ⟨rfl, rfl⟩⟩ ?_ ?_
              · rintro ⟨on15, i17⟩ o _ _ ⟨rfl, rfl⟩ hb
                have h : finds12_l4 from1 l5 on15 i17 o := hb
                clear hb
                unfold finds12_l4 at h
                refine xw_seq (xw_seq (xw_region ?_))
                refine xq rfl trivial (o_mv rfl) ?_
                refine xq rfl trivial (o_mv rfl) ?_
                refine xq rfl trivial (o_lenL rfl Try.underlying57 rfl (OJ.val hJs43)) ?_
                refine xq rfl trivial (o_lss rfl rfl) ?_
                refine xo_nil (xq_then ?_)
                refine xw_bool 113 rfl (fun hc44 => ?_) (fun hc44 => ?_)
                · have hq44 : (decide (i17 < ((circR_F l5).length : Int))) = true := hc44
                  have hp44 : i17 < ((circR_F l5).length : Int) := of_decide_eq_true hq44
                  rw [if_pos hp44] at h
                  refine xw_cond_t rfl rfl (xw_skip (xq_then (xw_seq ?_)))
                  refine xw_block ?_
                  obtain ⟨ho45, h⟩ := h
                  refine xw_cut [(5, _), (12, _), (13, _), (16, _), (17, _)] (lc rfl (lc rfl (lc rfl (lc rfl (lc rfl ln))))) [(15, .bool ((on15) || (decide ((circR_F l5)[i17.toNat]! = 1 + ((IntKind.i64.wrap from1).tmod 6)))))] ?_ ?_
                  · refine xw_region ?_
                    refine xq rfl trivial (o_mv rfl) ?_
                    refine xq rfl trivial (o_mv rfl) ?_
                    refine xo_bool 117 rfl (fun hg46 => ?_) (fun hg46 => ?_)
                    · have hq46 : (on15) = true := hg46
                      have hp46 : (on15) = true := hq46
                      refine xs rfl ⟨_, _, rfl, rfl, rfl⟩ (xs rfl ⟨_, _, rfl, rfl, rfl⟩ (xs rfl ⟨_, _, rfl, rfl, rfl⟩ (xs rfl ⟨_, _, rfl, rfl, rfl⟩ (xs rfl ⟨_, _, rfl, rfl, rfl⟩ (xs rfl ⟨_, _, rfl, rfl, rfl⟩ ?_)))))
                      refine xq rfl trivial (o_pick_t rfl rfl) ?_
                      refine xq rfl trivial (o_as rfl) ?_
                      refine xo_nil ?_
                      exact xq_cut ((lce rfl (by first | rfl | (simp only [hq44, hq46, if_pos hp44, if_pos hp46, bS]; done) | (simp only [hq44, hq46, if_pos hp44, if_pos hp46, bS, reduceIte, Bool.false_eq_true]; done) | (simp [hp44, hp46]; done) | (simp_all; done)) (lc rfl (lc rfl (lc rfl (lc rfl (lc rfl ln))))))) (fun _ h => h)
                    · have hq46 : (on15) = false := hg46
                      have hp46 : ¬ ((on15) = true) := bne' hq46
                      refine xq rfl ⟨_, rfl, rfl⟩ (o_mv rfl) ?_
                      refine xq rfl ⟨_, rfl, rfl⟩ (o_mv rfl) ?_
                      refine xq rfl ⟨_, rfl, rfl⟩ (o_ixL el57 rfl rfl (fun w hw => (hJs43.sl hw (Pull.sub (.here _ _)))) rfl (ho45 (by first | exact hg46 | (simp only [hq44, hq46, if_pos hp44, if_neg hp46, bS]; done) | (simp only [hq44, hq46, if_pos hp44, if_neg hp46, bS, reduceIte, Bool.false_eq_true]; done) | (simp [hp44, hp46]; done) | (simp_all; done)))) ?_
                      refine xq rfl ⟨_, rfl, rfl⟩ (o_ldL1 (off := 0) (u := .int .i64 ((circR_F l5)[i17.toNat]!)) rfl ts3 rfl (fun w hw => (hJs43.sl hw (Pull.sub (.here _ _)))) (toNat_lt (ho45 (by first | exact hg46 | (simp only [hq44, hq46, if_pos hp44, if_neg hp46, bS]; done) | (simp only [hq44, hq46, if_pos hp44, if_neg hp46, bS, reduceIte, Bool.false_eq_true]; done) | (simp [hp44, hp46]; done) | (simp_all; done)))) rfl rfl) ?_
                      refine xq rfl ⟨_, rfl, rfl⟩ (o_mv rfl) ?_
                      refine xq rfl ⟨_, rfl, rfl⟩ (o_eql rfl rfl) ?_
                      refine xq rfl trivial (o_pick_f rfl rfl) ?_
                      refine xq rfl trivial (o_as rfl) ?_
                      refine xo_nil ?_
                      exact xq_cut ((lce rfl (by first | rfl | (simp only [hq44, hq46, if_pos hp44, if_neg hp46, bS]; done) | (simp only [hq44, hq46, if_pos hp44, if_neg hp46, bS, reduceIte, Bool.false_eq_true]; done) | (simp [hp44, hp46]; done) | (simp_all; done)) (lc rfl (lc rfl (lc rfl (lc rfl (lc rfl ln))))))) (fun _ h => h)
                  · refine xq_blk 5 ?_
                    refine xq_then (xw_region ?_)
                    refine xq rfl trivial (o_mv rfl) ?_
                    obtain ⟨ho47, h⟩ := h
                    refine xq rfl trivial (o_add rfl rfl rfl ho47) ?_
                    refine xq rfl trivial (o_as rfl) ?_
                    refine xo_nil ?_
                    exact xq_next (s' := (((on15) || (decide ((circR_F l5)[i17.toNat]! = 1 + ((IntKind.i64.wrap from1).tmod 6))), i17 + 1) : Bool × Int)) (e' := [(5, v5_1o), (12, .int .i64 (1 + ((IntKind.i64.wrap from1).tmod 6))), (13, v8_3o), (15, .bool ((on15) || (decide ((circR_F l5)[i17.toNat]! = 1 + ((IntKind.i64.wrap from1).tmod 6))))), (16, vs43), (17, .int .i64 (i17 + 1))]) (Bs43 ++ (B8_3o ++ (B5_1o ++ ([])))) (lc rfl (lc rfl (lc rfl (lc rfl (lc rfl (lc rfl ln)))))) (fun _ h => h) h ⟨rfl, rfl⟩
                · have hq44 : (decide (i17 < ((circR_F l5).length : Int))) = false := hc44
                  have hp44 : ¬ (i17 < ((circR_F l5).length : Int)) := of_decide_eq_false hq44
                  rw [if_neg hp44] at h
                  refine xw_cond_f rfl rfl (xw_exit (xq_then_exit ?_))
                  exact xq_out (r := (on15 : Bool)) (e' := [(5, v5_1o), (12, .int .i64 (1 + ((IntKind.i64.wrap from1).tmod 6))), (13, v8_3o), (15, .bool (on15))]) (Bs43 ++ (B8_3o ++ (B5_1o ++ ([])))) (lc rfl (lc rfl (lc rfl (lc rfl ln)))) (fun _ h => h) h (by intro hh; cases hh) ⟨rfl, rfl, rfl⟩
              · rintro _ _ _ ⟨rfl, rfl, rfl⟩
                replace h : finds12_k4a from1 l5 back8 on15 r := h
                unfold finds12_k4a at h
                refine xq_blk_eq ?_
                refine xq_then (xw_seq (xw_seq (xw_region ?_)))
                refine xq rfl trivial (o_mv rfl) ?_
                refine xq rfl trivial (o_mv rfl) ?_
                refine xq rfl trivial (o_lenL rfl Try.underlying41 rfl (OJ.val hJ8_3o)) ?_
                refine xq rfl trivial (o_gtr rfl rfl) ?_
                refine xq rfl trivial (o_neqB Try.underlying4 rfl rfl) ?_
                refine xo_nil (xq_then ?_)
                refine xw_bool 129 rfl (fun hc48 => ?_) (fun hc48 => ?_)
                · have hq48 : (((on15) == (decide (0 < (back8.length : Int))))) = false := (bnT hc48)
                  have hp48 : ¬ ((((on15) == (decide (0 < (back8.length : Int))))) = true) := bne' hq48
                  rw [if_neg hp48] at h
                  refine xw_cond_t rfl rfl (xw_seq (xw_region ?_))
                  refine xq rfl trivial (o_as rfl) ?_
                  refine xo_nil (xq_then (xw_ret (xq_then_ret ?_)))
                  subst h
                  exact con_ret1 (.inl rfl) Try.results5 rfl [] (Kp.st (Kp.segNew (Cov.fresh hcBs43) (Kp.segNew (Cov.fresh hcB8_3o) (Kp.segNew (Cov.fresh hcB5_1o) Kp.nil)))) (⟨rfl, rfl⟩)
                · have hq48 : (((on15) == (decide (0 < (back8.length : Int))))) = true := (bnF hc48)
                  have hp48 : (((on15) == (decide (0 < (back8.length : Int))))) = true := hq48
                  rw [if_pos hp48] at h
                  refine xw_cond_f rfl rfl (xw_skip (xq_then (xw_seq (xw_seq (xw_region ?_)))))
                  refine xq rfl trivial (o_as rfl) ?_
                  refine xo_nil (xq_then ?_)
                  refine xw_block ?_
                  obtain ⟨x5, hx5, h⟩ := h
                  refine xw_wh (fun (i18 : Int) e H => e = [(5, v5_1o), (12, .int .i64 (1 + ((IntKind.i64.wrap from1).tmod 6))), (13, v8_3o), (18, .int .i64 i18)] ∧ H = B8_3o ++ (B5_1o ++ ([]))) (fun x ex e H => match x with | .inl _ => ex = .exit 6 ∧ e = [] ∧ H = B8_3o ++ (B5_1o ++ ([])) | .inr _ => ex = .ret ∧ e = [(4, .bool false)] ∧ H = B8_3o ++ (B5_1o ++ ([]))) hx5 ⟨[(5, v5_1o), (12, .int .i64 (1 + ((IntKind.i64.wrap from1).tmod 6))), (13, v8_3o), (18, .int .i64 0)], B8_3o ++ (B5_1o ++ ([])), (lc rfl (lc rfl (lc rfl (lc rfl ln)))), Kp.st (Kp.segNew (Cov.fresh hcBs43) (Kp.segKeep (Kp.segKeep Kp.nil))), ⟨rfl, rfl⟩⟩ ?_ ?_
                  · rintro i18 o _ _ ⟨rfl, rfl⟩ hb
                    have h : finds12_l5 from1 l5 back8 i18 o := hb
                    clear hb
                    unfold finds12_l5 at h
                    refine xw_seq (xw_seq (xw_region ?_))
                    refine xq rfl trivial (o_mv rfl) ?_
                    refine xq rfl trivial (o_mv rfl) ?_
                    refine xq rfl trivial (o_lenL rfl Try.underlying41 rfl (OJ.val hJ8_3o)) ?_
                    refine xq rfl trivial (o_lss rfl rfl) ?_
                    refine xo_nil (xq_then ?_)
                    refine xw_bool 133 rfl (fun hc49 => ?_) (fun hc49 => ?_)
                    · have hq49 : (decide (i18 < (back8.length : Int))) = true := hc49
                      have hp49 : i18 < (back8.length : Int) := of_decide_eq_true hq49
                      rw [if_pos hp49] at h
                      refine xw_cond_t rfl rfl (xw_skip (xq_then (xw_seq ?_)))
                      refine xw_block ?_
                      refine xw_seq (xw_region ?_)
                      refine xq rfl trivial (o_mv rfl) ?_
                      refine xq rfl trivial (o_mv rfl) ?_
                      obtain ⟨ho50, h⟩ := h
                      refine xq rfl trivial (o_ixL el41 rfl rfl (fun w hw => (hJ8_3o.sl hw (Pull.sub (.here _ _)))) rfl ho50) ?_
                      refine xq rfl trivial (o_ldLI rfl ts29 rfl (fun w hw => (hJ8_3o.sl hw (Pull.sub (.here _ _)))) (toNat_lt ho50) rfl) ?_
                      refine xo rfl trivial (o_alloc ze29 rfl) ?_
                      rintro _ _ ⟨b19, hb19, rfl, rfl⟩
                      refine xq0 trivial (o_stWI rfl rfl ts29 (List.Mem.head _) (.here _ _ _ _)) ?_
                      refine xo_nil (xq_then (xw_seq (xw_seq ?_)))
                      refine xw_cut [(5, _), (12, _), (13, _), (18, _), (19, _)] (lc rfl (lc rfl (lc rfl (lc rfl (lc rfl ln))))) [(161, .bool ((((decide ((back8[i18.toNat]!) 11 < 2)) || (decide (8 < (back8[i18.toNat]!) 11))) || (!(decide ((back8[i18.toNat]!) 12 = 1 + ((IntKind.i64.wrap from1).tmod 6))))) || (!(decide ((back8[i18.toNat]!) 9 = 1 + ((IntKind.i64.wrap from1).tmod 6))))))] ?_ ?_
                      · refine xw_region ?_
                        first | refine xq rfl trivial (o_fa0 fl29_10 rfl) ?_ | refine xq rfl trivial (o_fa fl29_10 rfl) ?_
                        refine xq rfl trivial (o_ldI (v := (back8[i18.toNat]!) 11) rfl ts3 (List.Mem.head _) (by omega) rfl) ?_
                        refine xq rfl trivial (o_lss rfl rfl) ?_
                        refine xq rfl trivial (o_mv rfl) ?_
                        refine xo_bool 143 rfl (fun hg51 => ?_) (fun hg51 => ?_)
                        · have hq51 : (decide ((back8[i18.toNat]!) 11 < 2)) = true := hg51
                          have hp51 : (back8[i18.toNat]!) 11 < 2 := of_decide_eq_true hq51
                          refine xs rfl ⟨_, _, rfl, rfl, rfl⟩ (xs rfl ⟨_, _, rfl, rfl, rfl⟩ (xs rfl ⟨_, _, rfl, rfl, rfl⟩ ?_))
                          refine xq rfl trivial (o_pick_t rfl rfl) ?_
                          refine xq rfl trivial (o_mv rfl) ?_
                          refine xs rfl ⟨_, _, rfl, rfl, rfl⟩ (xs rfl ⟨_, _, rfl, rfl, rfl⟩ (xs rfl ⟨_, _, rfl, rfl, rfl⟩ (xs rfl ⟨_, _, rfl, rfl, rfl⟩ (xs rfl ⟨_, _, rfl, rfl, rfl⟩ (xs rfl ⟨_, _, rfl, rfl, rfl⟩ ?_)))))
                          refine xq rfl trivial (o_pick_t rfl rfl) ?_
                          refine xq rfl trivial (o_mv rfl) ?_
                          refine xs rfl ⟨_, _, rfl, rfl, rfl⟩ (xs rfl ⟨_, _, rfl, rfl, rfl⟩ (xs rfl ⟨_, _, rfl, rfl, rfl⟩ (xs rfl ⟨_, _, rfl, rfl, rfl⟩ ?_)))
                          refine xq rfl trivial (o_pick_t rfl rfl) ?_
                          refine xo_nil ?_
                          exact xq_cut ((lce rfl (by first | rfl | (simp only [hq49, hq51, if_pos hp49, if_pos hp51, bS]; done) | (simp only [hq49, hq51, if_pos hp49, if_pos hp51, bS, reduceIte, Bool.false_eq_true]; done) | (simp [hp49, hp51]; done) | (simp_all; done)) (lc rfl (lc rfl (lc rfl (lc rfl (lc rfl ln))))))) (fun _ h => h)
                        · have hq51 : (decide ((back8[i18.toNat]!) 11 < 2)) = false := hg51
                          have hp51 : ¬ ((back8[i18.toNat]!) 11 < 2) := of_decide_eq_false hq51
                          first | refine xq rfl ⟨_, rfl, rfl⟩ (o_fa0 fl29_10 rfl) ?_ | refine xq rfl ⟨_, rfl, rfl⟩ (o_fa fl29_10 rfl) ?_
                          refine xq rfl ⟨_, rfl, rfl⟩ (o_ldI (v := (back8[i18.toNat]!) 11) rfl ts3 (List.Mem.head _) (by omega) rfl) ?_
                          refine xq rfl ⟨_, rfl, rfl⟩ (o_gtr rfl rfl) ?_
                          refine xq rfl trivial (o_pick_f rfl rfl) ?_
                          refine xq rfl trivial (o_mv rfl) ?_
                          refine xo_bool 148 rfl (fun hg52 => ?_) (fun hg52 => ?_)
                          · have hq52 : (decide (8 < (back8[i18.toNat]!) 11)) = true := hg52
                            have hp52 : 8 < (back8[i18.toNat]!) 11 := of_decide_eq_true hq52
                            refine xs rfl ⟨_, _, rfl, rfl, rfl⟩ (xs rfl ⟨_, _, rfl, rfl, rfl⟩ (xs rfl ⟨_, _, rfl, rfl, rfl⟩ (xs rfl ⟨_, _, rfl, rfl, rfl⟩ (xs rfl ⟨_, _, rfl, rfl, rfl⟩ (xs rfl ⟨_, _, rfl, rfl, rfl⟩ ?_)))))
                            refine xq rfl trivial (o_pick_t rfl rfl) ?_
                            refine xq rfl trivial (o_mv rfl) ?_
                            refine xs rfl ⟨_, _, rfl, rfl, rfl⟩ (xs rfl ⟨_, _, rfl, rfl, rfl⟩ (xs rfl ⟨_, _, rfl, rfl, rfl⟩ (xs rfl ⟨_, _, rfl, rfl, rfl⟩ ?_)))
                            refine xq rfl trivial (o_pick_t rfl rfl) ?_
                            refine xo_nil ?_
                            exact xq_cut ((lce rfl (by first | rfl | (simp only [hq49, hq51, hq52, if_pos hp49, if_neg hp51, if_pos hp52, bS]; done) | (simp only [hq49, hq51, hq52, if_pos hp49, if_neg hp51, if_pos hp52, bS, reduceIte, Bool.false_eq_true]; done) | (simp [hp49, hp51, hp52]; done) | (simp_all; done)) (lc rfl (lc rfl (lc rfl (lc rfl (lc rfl ln))))))) (fun _ h => h)
                          · have hq52 : (decide (8 < (back8[i18.toNat]!) 11)) = false := hg52
                            have hp52 : ¬ (8 < (back8[i18.toNat]!) 11) := of_decide_eq_false hq52
                            first | refine xq rfl ⟨_, rfl, rfl⟩ (o_fa0 fl29_11 rfl) ?_ | refine xq rfl ⟨_, rfl, rfl⟩ (o_fa fl29_11 rfl) ?_
                            refine xq rfl ⟨_, rfl, rfl⟩ (o_ixa (j := 0) ea27 rfl rfl ⟨by omega, by omega⟩ rfl) ?_
                            first | refine xq rfl ⟨_, rfl, rfl⟩ (o_fa0 fl26_0 rfl) ?_ | refine xq rfl ⟨_, rfl, rfl⟩ (o_fa fl26_0 rfl) ?_
                            refine xq rfl ⟨_, rfl, rfl⟩ (o_ldI (v := (back8[i18.toNat]!) 12) rfl ts3 (List.Mem.head _) (by omega) rfl) ?_
                            refine xq rfl ⟨_, rfl, rfl⟩ (o_mv rfl) ?_
                            refine xq rfl ⟨_, rfl, rfl⟩ (o_neq rfl rfl) ?_
                            refine xq rfl trivial (o_pick_f rfl rfl) ?_
                            refine xq rfl trivial (o_mv rfl) ?_
                            refine xo_bool 156 rfl (fun hg53 => ?_) (fun hg53 => ?_)
                            · have hq53 : (decide ((back8[i18.toNat]!) 12 = 1 + ((IntKind.i64.wrap from1).tmod 6))) = false := (bnT hg53)
                              have hp53 : ¬ ((back8[i18.toNat]!) 12 = 1 + ((IntKind.i64.wrap from1).tmod 6)) := of_decide_eq_false hq53
                              refine xs rfl ⟨_, _, rfl, rfl, rfl⟩ (xs rfl ⟨_, _, rfl, rfl, rfl⟩ (xs rfl ⟨_, _, rfl, rfl, rfl⟩ (xs rfl ⟨_, _, rfl, rfl, rfl⟩ ?_)))
                              refine xq rfl trivial (o_pick_t rfl rfl) ?_
                              refine xo_nil ?_
                              exact xq_cut ((lce rfl (by first | rfl | (simp only [hq49, hq51, hq52, hq53, if_pos hp49, if_neg hp51, if_neg hp52, if_neg hp53, bS]; done) | (simp only [hq49, hq51, hq52, hq53, if_pos hp49, if_neg hp51, if_neg hp52, if_neg hp53, bS, reduceIte, Bool.false_eq_true]; done) | (simp [hp49, hp51, hp52, hp53]; done) | (simp_all; done)) (lc rfl (lc rfl (lc rfl (lc rfl (lc rfl ln))))))) (fun _ h => h)
                            · have hq53 : (decide ((back8[i18.toNat]!) 12 = 1 + ((IntKind.i64.wrap from1).tmod 6))) = true := (bnF hg53)
                              have hp53 : (back8[i18.toNat]!) 12 = 1 + ((IntKind.i64.wrap from1).tmod 6) := of_decide_eq_true hq53
                              first | refine xq rfl ⟨_, rfl, rfl⟩ (o_fa0 fl29_8 rfl) ?_ | refine xq rfl ⟨_, rfl, rfl⟩ (o_fa fl29_8 rfl) ?_
                              refine xq rfl ⟨_, rfl, rfl⟩ (o_ldI (v := (back8[i18.toNat]!) 9) rfl ts3 (List.Mem.head _) (by omega) rfl) ?_
                              refine xq rfl ⟨_, rfl, rfl⟩ (o_mv rfl) ?_
                              refine xq rfl ⟨_, rfl, rfl⟩ (o_neq rfl rfl) ?_
                              refine xq rfl trivial (o_pick_f rfl rfl) ?_
                              refine xo_nil ?_
                              exact xq_cut ((lce rfl (by first | rfl | (simp only [hq49, hq51, hq52, hq53, if_pos hp49, if_neg hp51, if_neg hp52, if_pos hp53, bS]; done) | (simp only [hq49, hq51, hq52, hq53, if_pos hp49, if_neg hp51, if_neg hp52, if_pos hp53, bS, reduceIte, Bool.false_eq_true]; done) | (simp [hp49, hp51, hp52, hp53]; done) | (simp_all; done)) (lc rfl (lc rfl (lc rfl (lc rfl (lc rfl ln))))))) (fun _ h => h)
                      · refine xq_then ?_
                        refine xw_bool 161 rfl (fun hc54 => ?_) (fun hc54 => ?_)
                        · have hq54 : ((((decide ((back8[i18.toNat]!) 11 < 2)) || (decide (8 < (back8[i18.toNat]!) 11))) || (!(decide ((back8[i18.toNat]!) 12 = 1 + ((IntKind.i64.wrap from1).tmod 6))))) || (!(decide ((back8[i18.toNat]!) 9 = 1 + ((IntKind.i64.wrap from1).tmod 6))))) = true := hc54
                          have hp54 : ((((decide ((back8[i18.toNat]!) 11 < 2)) || (decide (8 < (back8[i18.toNat]!) 11))) || (!(decide ((back8[i18.toNat]!) 12 = 1 + ((IntKind.i64.wrap from1).tmod 6))))) || (!(decide ((back8[i18.toNat]!) 9 = 1 + ((IntKind.i64.wrap from1).tmod 6))))) = true := hq54
                          rw [if_pos hp54] at h
                          refine xw_cond_t rfl rfl (xw_seq (xw_region ?_))
                          refine xq rfl trivial (o_as rfl) ?_
                          refine xo_nil (xq_then (xw_ret (xq_then_ret (xq_blk_ret (xq_then_ret ?_)))))
                          exact xq_out (r := (.inr () : (Unit) ⊕ (Unit))) (e' := [(4, .bool false)]) (B8_3o ++ (B5_1o ++ ([]))) (lc rfl ln) (Kp.st (Kp.new hb19 (Kp.segKeep (Kp.segKeep Kp.nil)))) h (by intro hh; cases hh) ⟨rfl, rfl, rfl⟩
                        · have hq54 : ((((decide ((back8[i18.toNat]!) 11 < 2)) || (decide (8 < (back8[i18.toNat]!) 11))) || (!(decide ((back8[i18.toNat]!) 12 = 1 + ((IntKind.i64.wrap from1).tmod 6))))) || (!(decide ((back8[i18.toNat]!) 9 = 1 + ((IntKind.i64.wrap from1).tmod 6))))) = false := hc54
                          have hp54 : ¬ (((((decide ((back8[i18.toNat]!) 11 < 2)) || (decide (8 < (back8[i18.toNat]!) 11))) || (!(decide ((back8[i18.toNat]!) 12 = 1 + ((IntKind.i64.wrap from1).tmod 6))))) || (!(decide ((back8[i18.toNat]!) 9 = 1 + ((IntKind.i64.wrap from1).tmod 6))))) = true) := bne' hq54
                          rw [if_neg hp54] at h
                          refine xw_cond_f rfl rfl (xw_skip (xq_then (xw_seq (xw_region ?_))))
                          refine xq rfl trivial (o_as rfl) ?_
                          refine xo_nil (xq_then ?_)
                          refine xw_block ?_
                          obtain ⟨x6, hx6, h⟩ := h
                          refine xw_wh (fun (k20 : Int) e H => e = [(5, v5_1o), (12, .int .i64 (1 + ((IntKind.i64.wrap from1).tmod 6))), (13, v8_3o), (18, .int .i64 i18), (19, .pointer (some ⟨b19, 0, none⟩)), (20, .int .i64 k20)] ∧ H = (b19, BK 28 (iv (back8[i18.toNat]!)) 29) :: (B8_3o ++ (B5_1o ++ ([])))) (fun x ex e H => match x with | .inl _ => ex = .exit 8 ∧ e = [(5, v5_1o), (12, .int .i64 (1 + ((IntKind.i64.wrap from1).tmod 6))), (13, v8_3o), (18, .int .i64 i18)] ∧ H = (b19, BK 28 (iv (back8[i18.toNat]!)) 29) :: (B8_3o ++ (B5_1o ++ ([]))) | .inr _ => ex = .ret ∧ e = [(4, .bool false)] ∧ H = (b19, BK 28 (iv (back8[i18.toNat]!)) 29) :: (B8_3o ++ (B5_1o ++ ([])))) hx6 ⟨[(5, v5_1o), (12, .int .i64 (1 + ((IntKind.i64.wrap from1).tmod 6))), (13, v8_3o), (18, .int .i64 i18), (19, .pointer (some ⟨b19, 0, none⟩)), (20, .int .i64 0)], (b19, BK 28 (iv (back8[i18.toNat]!)) 29) :: (B8_3o ++ (B5_1o ++ ([]))), (lc rfl (lc rfl (lc rfl (lc rfl (lc rfl (lc rfl ln)))))), fun _ h => h, ⟨rfl, rfl⟩⟩ ?_ ?_
                          · rintro k20 o _ _ ⟨rfl, rfl⟩ hb
                            have h : finds12_l6 l5 back8 i18 k20 o := hb
                            clear hb
                            unfold finds12_l6 at h
                            refine xw_seq (xw_seq (xw_region ?_))
                            refine xq rfl trivial (o_mv rfl) ?_
                            first | refine xq rfl trivial (o_fa0 fl29_10 rfl) ?_ | refine xq rfl trivial (o_fa fl29_10 rfl) ?_
                            refine xq rfl trivial (o_ldI (v := (back8[i18.toNat]!) 11) rfl ts3 (List.Mem.head _) (by omega) rfl) ?_
                            refine xq rfl trivial (o_lss rfl rfl) ?_
                            refine xo_nil (xq_then ?_)
                            refine xw_bool 165 rfl (fun hc55 => ?_) (fun hc55 => ?_)
                            · have hq55 : (decide (k20 < (back8[i18.toNat]!) 11)) = true := hc55
                              have hp55 : k20 < (back8[i18.toNat]!) 11 := of_decide_eq_true hq55
                              rw [if_pos hp55] at h
                              refine xw_cond_t rfl rfl (xw_skip (xq_then (xw_seq ?_)))
                              refine xw_block ?_
                              refine xw_seq (xw_region ?_)
                              first | refine xq rfl trivial (o_fa0 fl29_8 rfl) ?_ | refine xq rfl trivial (o_fa fl29_8 rfl) ?_
                              refine xq rfl trivial (o_ldI (v := (back8[i18.toNat]!) 9) rfl ts3 (List.Mem.head _) (by omega) rfl) ?_
                              refine xq rfl trivial (o_as rfl) ?_
                              refine xo_nil (xq_then (xw_seq (xw_seq (xw_region ?_))))
                              refine xq rfl trivial (o_mv rfl) ?_
                              obtain ⟨ho56, h⟩ := h
                              refine xq rfl trivial (o_add rfl rfl rfl ho56) ?_
                              first | refine xq rfl trivial (o_fa0 fl29_10 rfl) ?_ | refine xq rfl trivial (o_fa fl29_10 rfl) ?_
                              refine xq rfl trivial (o_ldI (v := (back8[i18.toNat]!) 11) rfl ts3 (List.Mem.head _) (by omega) rfl) ?_
                              refine xq rfl trivial (o_lss rfl rfl) ?_
                              refine xo_nil (xq_then ?_)
                              have hk := h.2
                              replace h := h.1
                              refine xw_cut [(5, _), (12, _), (13, _), (18, _), (19, _), (20, _)] (lc rfl (lc rfl (lc rfl (lc rfl (lc rfl (lc rfl ln)))))) [(21, .int .i64 (if k20 + 1 < (back8[i18.toNat]!) 11 then (back8[i18.toNat]!) (12 + ((k20 + 1).toNat * 2)) else (back8[i18.toNat]!) 9))] ?_ ?_
                              · refine xw_bool 174 rfl (fun hc57 => ?_) (fun hc57 => ?_)
                                · have hq57 : (decide (k20 + 1 < (back8[i18.toNat]!) 11)) = true := hc57
                                  have hp57 : k20 + 1 < (back8[i18.toNat]!) 11 := of_decide_eq_true hq57
                                  rw [if_pos hp57] at h
                                  refine xw_cond_t rfl rfl (xw_region ?_)
                                  refine xq rfl trivial (o_mv rfl) ?_
                                  obtain ⟨ho58, h⟩ := h
                                  refine xq rfl trivial (o_add rfl rfl rfl ho58) ?_
                                  first | refine xq rfl trivial (o_fa0 fl29_11 rfl) ?_ | refine xq rfl trivial (o_fa fl29_11 rfl) ?_
                                  obtain ⟨ho59, h⟩ := h
                                  refine xq rfl trivial (o_ixa ea27 rfl rfl ho59 rfl) ?_
                                  first | refine xq rfl trivial (o_fa0 fl26_0 rfl) ?_ | refine xq rfl trivial (o_fa fl26_0 rfl) ?_
                                  refine xq rfl trivial (o_ldI (v := (back8[i18.toNat]!) (12 + ((k20 + 1).toNat * 2))) rfl ts3 (List.Mem.head _) (by have := ho59; omega) rfl) ?_
                                  refine xq rfl trivial (o_as rfl) ?_
                                  refine xo_nil ?_
                                  exact xq_cut (lce rfl (by first | rfl | (simp only [hq55, hq57, if_pos hp55, if_pos hp57, bS]; done) | (simp only [hq55, hq57, if_pos hp55, if_pos hp57, bS, reduceIte, Bool.false_eq_true]; done) | (simp [hp55, hp57]; done) | (simp_all; done)) (lc rfl (lc rfl (lc rfl (lc rfl (lc rfl (lc rfl ln))))))) (fun _ hh => hh)
                                · have hq57 : (decide (k20 + 1 < (back8[i18.toNat]!) 11)) = false := hc57
                                  have hp57 : ¬ (k20 + 1 < (back8[i18.toNat]!) 11) := of_decide_eq_false hq57
                                  rw [if_neg hp57] at h
                                  refine xw_cond_f rfl rfl (xw_skip ?_)
                                  exact xq_cut (lce rfl (by first | rfl | (simp only [hq55, hq57, if_pos hp55, if_neg hp57, bS]; done) | (simp only [hq55, hq57, if_pos hp55, if_neg hp57, bS, reduceIte, Bool.false_eq_true]; done) | (simp [hp55, hp57]; done) | (simp_all; done)) (lc rfl (lc rfl (lc rfl (lc rfl (lc rfl (lc rfl ln))))))) (fun _ hh => hh)
                              · replace h := hk
                                refine xq_then (xw_seq (xw_region ?_))
                                refine xq rfl trivial (o_as rfl) ?_
                                refine xo_nil (xq_then (xw_seq (xw_seq (xw_region ?_))))
                                refine xq rfl trivial (o_as rfl) ?_
                                refine xo_nil (xq_then ?_)
                                refine xw_block ?_
                                obtain ⟨leads22, hx7, h⟩ := h
                                refine xw_wh (fun s e H => match s with | (leads22, n23) => e = [(5, v5_1o), (12, .int .i64 (1 + ((IntKind.i64.wrap from1).tmod 6))), (13, v8_3o), (18, .int .i64 i18), (19, .pointer (some ⟨b19, 0, none⟩)), (20, .int .i64 k20), (21, .int .i64 (if k20 + 1 < (back8[i18.toNat]!) 11 then (back8[i18.toNat]!) (12 + ((k20 + 1).toNat * 2)) else (back8[i18.toNat]!) 9)), (22, .bool (leads22)), (23, .int .i64 n23)] ∧ H = (b19, BK 28 (iv (back8[i18.toNat]!)) 29) :: (B8_3o ++ (B5_1o ++ ([])))) (fun (leads22 : Bool) ex e H => ex = .exit 10 ∧ e = [(5, v5_1o), (12, .int .i64 (1 + ((IntKind.i64.wrap from1).tmod 6))), (13, v8_3o), (18, .int .i64 i18), (19, .pointer (some ⟨b19, 0, none⟩)), (20, .int .i64 k20), (22, .bool (leads22))] ∧ H = (b19, BK 28 (iv (back8[i18.toNat]!)) 29) :: (B8_3o ++ (B5_1o ++ ([])))) hx7 ⟨[(5, v5_1o), (12, .int .i64 (1 + ((IntKind.i64.wrap from1).tmod 6))), (13, v8_3o), (18, .int .i64 i18), (19, .pointer (some ⟨b19, 0, none⟩)), (20, .int .i64 k20), (21, .int .i64 (if k20 + 1 < (back8[i18.toNat]!) 11 then (back8[i18.toNat]!) (12 + ((k20 + 1).toNat * 2)) else (back8[i18.toNat]!) 9)), (22, .bool false), (23, .int .i64 0)], (b19, BK 28 (iv (back8[i18.toNat]!)) 29) :: (B8_3o ++ (B5_1o ++ ([]))), (lc rfl (lc rfl (lc rfl (lc rfl (lc rfl (lc rfl (lc rfl (lc rfl (lc rfl ln))))))))), fun _ h => h, ⟨rfl, rfl⟩⟩ ?_ ?_
                                · rintro ⟨leads22, n23⟩ o _ _ ⟨rfl, rfl⟩ hb
                                  have h : finds12_l7 l5 back8 i18 k20 leads22 n23 o := hb
                                  clear hb
                                  unfold finds12_l7 at h
                                  refine xw_seq (xw_seq (xw_region ?_))
                                  refine xq rfl trivial (o_mv rfl) ?_
                                  refine xq rfl trivial (o_mv rfl) ?_
                                  refine xq rfl trivial (o_lenL rfl Try.underlying30 rfl (OJ.val hJ5_1o)) ?_
                                  refine xq rfl trivial (o_lss rfl rfl) ?_
                                  refine xo_nil (xq_then ?_)
                                  refine xw_bool 184 rfl (fun hc60 => ?_) (fun hc60 => ?_)
                                  · have hq60 : (decide (n23 < (l5.length : Int))) = true := hc60
                                    have hp60 : n23 < (l5.length : Int) := of_decide_eq_true hq60
                                    rw [if_pos hp60] at h
                                    refine xw_cond_t rfl rfl (xw_skip (xq_then (xw_seq ?_)))
                                    refine xw_block ?_
                                    obtain ⟨ho61, ho62, ho63, h⟩ := h
                                    refine xw_cut [(5, _), (12, _), (13, _), (18, _), (19, _), (20, _), (21, _), (23, _)] (lc rfl (lc rfl (lc rfl (lc rfl (lc rfl (lc rfl (lc rfl (lc rfl ln)))))))) [(22, .bool ((leads22) || ((decide (l5[n23.toNat]! 0 = (back8[i18.toNat]!) (12 + (k20.toNat * 2)))) && (decide (l5[n23.toNat]! 2 = (if k20 + 1 < (back8[i18.toNat]!) 11 then (back8[i18.toNat]!) (12 + ((k20 + 1).toNat * 2)) else (back8[i18.toNat]!) 9))))))] ?_ ?_
                                    · refine xd_start (by kernel_rfl) (by kernel_rfl) (fun hok => ?_)
                                      refine xd_b hok 0 [(22, _)] ([]) rsN rfl rfl rfl (lc rfl ln) (by kernel_rfl) trivial (fun H' hy hK => o_mv rfl) ?_
                                      refine xd_b hok 1 [(187, _)] ([]) rsN rfl rfl rfl (lc rfl ln) (by kernel_rfl) trivial (fun H' hy hK => o_mv rfl) ?_
                                      refine xd_bool 188 rfl (fun hg64 => ?_) (fun hg64 => ?_)
                                      · have hq64 : (leads22) = true := hg64
                                        have hp64 : (leads22) = true := hq64
                                        refine xd_skip hok 2 [(5, _), (188, _)] rfl rfl rfl (lc rfl (lc rfl ln)) (by kernel_rfl) ⟨_, _, rfl, rfl, rfl⟩ ?_
                                        refine xd_skip hok 3 [(23, _), (188, _)] rfl rfl rfl (lc rfl (lc rfl ln)) (by kernel_rfl) ⟨_, _, rfl, rfl, rfl⟩ ?_
                                        refine xd_skip hok 4 [(189, _), (190, _), (188, _)] rfl rfl rfl (lc rfl (lc rfl (lc rfl ln))) (by kernel_rfl) ⟨_, _, rfl, rfl, rfl⟩ ?_
                                        refine xd_skip hok 5 [(191, _), (188, _)] rfl rfl rfl (lc rfl (lc rfl ln)) (by kernel_rfl) ⟨_, _, rfl, rfl, rfl⟩ ?_
                                        refine xd_skip hok 6 [(192, _), (188, _)] rfl rfl rfl (lc rfl (lc rfl ln)) (by kernel_rfl) ⟨_, _, rfl, rfl, rfl⟩ ?_
                                        refine xd_skip hok 7 [(20, _), (188, _)] rfl rfl rfl (lc rfl (lc rfl ln)) (by kernel_rfl) ⟨_, _, rfl, rfl, rfl⟩ ?_
                                        refine xd_skip hok 8 [(19, _), (188, _)] rfl rfl rfl (lc rfl (lc rfl ln)) (by kernel_rfl) ⟨_, _, rfl, rfl, rfl⟩ ?_
                                        refine xd_skip hok 9 [(195, _), (194, _), (188, _)] rfl rfl rfl (lc rfl (lc rfl (lc rfl ln))) (by kernel_rfl) ⟨_, _, rfl, rfl, rfl⟩ ?_
                                        refine xd_skip hok 10 [(196, _), (188, _)] rfl rfl rfl (lc rfl (lc rfl ln)) (by kernel_rfl) ⟨_, _, rfl, rfl, rfl⟩ ?_
                                        refine xd_skip hok 11 [(197, _), (188, _)] rfl rfl rfl (lc rfl (lc rfl ln)) (by kernel_rfl) ⟨_, _, rfl, rfl, rfl⟩ ?_
                                        refine xd_skip hok 12 [(193, _), (198, _), (188, _)] rfl rfl rfl (lc rfl (lc rfl (lc rfl ln))) (by kernel_rfl) ⟨_, _, rfl, rfl, rfl⟩ ?_
                                        refine xd_skip hok 13 [(199, _), (188, _)] rfl rfl rfl (lc rfl (lc rfl ln)) (by kernel_rfl) ⟨_, _, rfl, rfl, rfl⟩ ?_
                                        refine xd_skip hok 14 [(5, _), (200, _)] rfl rfl rfl (lc rfl (lc rfl ln)) (by kernel_rfl) ⟨_, _, rfl, rfl, rfl⟩ ?_
                                        refine xd_skip hok 15 [(23, _), (200, _)] rfl rfl rfl (lc rfl (lc rfl ln)) (by kernel_rfl) ⟨_, _, rfl, rfl, rfl⟩ ?_
                                        refine xd_skip hok 16 [(201, _), (202, _), (200, _)] rfl rfl rfl (lc rfl (lc rfl (lc rfl ln))) (by kernel_rfl) ⟨_, _, rfl, rfl, rfl⟩ ?_
                                        refine xd_skip hok 17 [(203, _), (200, _)] rfl rfl rfl (lc rfl (lc rfl ln)) (by kernel_rfl) ⟨_, _, rfl, rfl, rfl⟩ ?_
                                        refine xd_skip hok 18 [(204, _), (200, _)] rfl rfl rfl (lc rfl (lc rfl ln)) (by kernel_rfl) ⟨_, _, rfl, rfl, rfl⟩ ?_
                                        refine xd_skip hok 19 [(21, _), (200, _)] rfl rfl rfl (lc rfl (lc rfl ln)) (by kernel_rfl) ⟨_, _, rfl, rfl, rfl⟩ ?_
                                        refine xd_skip hok 20 [(205, _), (206, _), (200, _)] rfl rfl rfl (lc rfl (lc rfl (lc rfl ln))) (by kernel_rfl) ⟨_, _, rfl, rfl, rfl⟩ ?_
                                        refine xd_skip hok 21 [(200, _), (207, _), (188, _)] rfl rfl rfl (lc rfl (lc rfl (lc rfl ln))) (by kernel_rfl) ⟨_, _, rfl, rfl, rfl⟩ ?_
                                        refine xd_b hok 22 [(188, _), (208, _)] ([]) rsN rfl rfl rfl (lc rfl (lc rfl ln)) (by kernel_rfl) trivial (fun H' hy hK => o_pick_t rfl rfl) ?_
                                        refine xd_b hok 23 [(209, _)] ([]) rsN rfl rfl rfl (lc rfl ln) (by kernel_rfl) trivial (fun H' hy hK => o_as rfl) ?_
                                        refine xd_end hok (by kernel_rfl) ?_
                                        exact xq_cut ((lce rfl (by first | rfl | (simp only [hq60, hq64, if_pos hp60, if_pos hp64, bS]; done) | (simp only [hq60, hq64, if_pos hp60, if_pos hp64, bS, reduceIte, Bool.false_eq_true]; done) | (simp [hp60, hp64]; done) | (simp_all; done)) (lc rfl (lc rfl (lc rfl (lc rfl (lc rfl (lc rfl (lc rfl (lc rfl ln)))))))))) (fun _ h => h)
                                      · have hq64 : (leads22) = false := hg64
                                        have hp64 : ¬ ((leads22) = true) := bne' hq64
                                        refine xd_b hok 2 [(5, _), (188, _)] ([]) rsN rfl rfl rfl (lc rfl (lc rfl ln)) (by kernel_rfl) ⟨_, rfl, rfl⟩ (fun H' hy hK => o_mv rfl) ?_
                                        refine xd_b hok 3 [(23, _), (188, _)] ([]) rsN rfl rfl rfl (lc rfl (lc rfl ln)) (by kernel_rfl) ⟨_, rfl, rfl⟩ (fun H' hy hK => o_mv rfl) ?_
                                        refine xd_b hok 4 [(189, _), (190, _), (188, _)] (B5_1o ++ ([])) (rsA (Pull.sub (.thereC _ (.there _ (.here _ _)))) rsN) rfl rfl rfl (lc rfl (lc rfl (lc rfl ln))) (by kernel_rfl) ⟨_, rfl, rfl⟩ (fun H' hy hK => o_ixL el30 rfl rfl (fun w hw => (hJ5_1o.sl hw (fun x hx => hy x (Pull.sub (.here _ _) x hx)))) rfl (ho61 (by first | exact hg64 | (simp only [hq60, hq64, if_pos hp60, if_neg hp64, bS]; done) | (simp only [hq60, hq64, if_pos hp60, if_neg hp64, bS, reduceIte, Bool.false_eq_true]; done) | (simp [hp60, hp64]; done) | (simp_all; done)))) ?_
                                        refine xd_b hok 5 [(191, _), (188, _)] (B5_1o ++ ([])) (rsA (Pull.sub (.thereC _ (.there _ (.here _ _)))) rsN) rfl rfl rfl (lc rfl (lc rfl ln)) (by kernel_rfl) ⟨_, rfl, rfl⟩ (fun H' hy hK => o_faL fl54_0 rfl rfl (fun w hw => (hJ5_1o.sl hw (fun x hx => hy x (Pull.sub (.here _ _) x hx)))) (toNat_lt (ho61 (by first | exact hg64 | (simp only [hq60, hq64, if_pos hp60, if_neg hp64, bS]; done) | (simp only [hq60, hq64, if_pos hp60, if_neg hp64, bS, reduceIte, Bool.false_eq_true]; done) | (simp [hp60, hp64]; done) | (simp_all; done))))) ?_
                                        refine xd_b hok 6 [(192, _), (188, _)] (B5_1o ++ ([])) (rsA (Pull.sub (.thereC _ (.there _ (.here _ _)))) rsN) rfl rfl rfl (lc rfl (lc rfl ln)) (by kernel_rfl) ⟨_, rfl, rfl⟩ (fun H' hy hK => o_ldL1 (off := 0) (u := .int .i64 (l5[n23.toNat]! 0)) rfl ts3 rfl (fun w hw => (hJ5_1o.sl hw (fun x hx => hy x (Pull.sub (.here _ _) x hx)))) (toNat_lt (ho61 (by first | exact hg64 | (simp only [hq60, hq64, if_pos hp60, if_neg hp64, bS]; done) | (simp only [hq60, hq64, if_pos hp60, if_neg hp64, bS, reduceIte, Bool.false_eq_true]; done) | (simp [hp60, hp64]; done) | (simp_all; done)))) rfl rfl) ?_
                                        refine xd_b hok 7 [(20, _), (188, _)] ([]) rsN rfl rfl rfl (lc rfl (lc rfl ln)) (by kernel_rfl) ⟨_, rfl, rfl⟩ (fun H' hy hK => o_mv rfl) ?_
                                        first | refine xd_b hok 8 [(19, _), (188, _)] ([]) rsN rfl rfl rfl (lc rfl (lc rfl ln)) (by kernel_rfl) ⟨_, rfl, rfl⟩ (fun H' hy hK => o_fa0 fl29_11 rfl) ?_ | refine xd_b hok 8 [(19, _), (188, _)] ([]) rsN rfl rfl rfl (lc rfl (lc rfl ln)) (by kernel_rfl) ⟨_, rfl, rfl⟩ (fun H' hy hK => o_fa fl29_11 rfl) ?_
                                        refine xd_b hok 9 [(195, _), (194, _), (188, _)] ([]) rsN rfl rfl rfl (lc rfl (lc rfl (lc rfl ln))) (by kernel_rfl) ⟨_, rfl, rfl⟩ (fun H' hy hK => o_ixa ea27 rfl rfl (ho62 (by first | exact hg64 | (simp only [hq60, hq64, if_pos hp60, if_neg hp64, bS]; done) | (simp only [hq60, hq64, if_pos hp60, if_neg hp64, bS, reduceIte, Bool.false_eq_true]; done) | (simp [hp60, hp64]; done) | (simp_all; done))) rfl) ?_
                                        first | refine xd_b hok 10 [(196, _), (188, _)] ([]) rsN rfl rfl rfl (lc rfl (lc rfl ln)) (by kernel_rfl) ⟨_, rfl, rfl⟩ (fun H' hy hK => o_fa0 fl26_0 rfl) ?_ | refine xd_b hok 10 [(196, _), (188, _)] ([]) rsN rfl rfl rfl (lc rfl (lc rfl ln)) (by kernel_rfl) ⟨_, rfl, rfl⟩ (fun H' hy hK => o_fa fl26_0 rfl) ?_
                                        refine xd_b hok 11 [(197, _), (188, _)] ((b19, BK 28 (iv (back8[i18.toNat]!)) 29) :: ([])) (rsC (List.Mem.head _) rsN) rfl rfl rfl (lc rfl (lc rfl ln)) (by kernel_rfl) ⟨_, rfl, rfl⟩ (fun H' hy hK => o_ldI (v := (back8[i18.toNat]!) (12 + (k20.toNat * 2))) rfl ts3 (hy _ (List.Mem.head _)) (by have := (ho62 (by first | exact hg64 | (simp only [hq60, hq64, if_pos hp60, if_neg hp64, bS]; done) | (simp only [hq60, hq64, if_pos hp60, if_neg hp64, bS, reduceIte, Bool.false_eq_true]; done) | (simp [hp60, hp64]; done) | (simp_all; done))); omega) rfl) ?_
                                        refine xd_b hok 12 [(193, _), (198, _), (188, _)] ([]) rsN rfl rfl rfl (lc rfl (lc rfl (lc rfl ln))) (by kernel_rfl) ⟨_, rfl, rfl⟩ (fun H' hy hK => o_eql rfl rfl) ?_
                                        refine xd_b hok 13 [(199, _), (188, _)] ([]) rsN rfl rfl rfl (lc rfl (lc rfl ln)) (by kernel_rfl) ⟨_, rfl, rfl⟩ (fun H' hy hK => o_mv rfl) ?_
                                        refine xd_bool 200 rfl (fun hg65 => ?_) (fun hg65 => ?_)
                                        · have hq65 : (decide (l5[n23.toNat]! 0 = (back8[i18.toNat]!) (12 + (k20.toNat * 2)))) = true := hg65
                                          have hp65 : l5[n23.toNat]! 0 = (back8[i18.toNat]!) (12 + (k20.toNat * 2)) := of_decide_eq_true hq65
                                          refine xd_b hok 14 [(5, _), (200, _)] ([]) rsN rfl rfl rfl (lc rfl (lc rfl ln)) (by kernel_rfl) ⟨_, rfl, rfl⟩ (fun H' hy hK => o_mv rfl) ?_
                                          refine xd_b hok 15 [(23, _), (200, _)] ([]) rsN rfl rfl rfl (lc rfl (lc rfl ln)) (by kernel_rfl) ⟨_, rfl, rfl⟩ (fun H' hy hK => o_mv rfl) ?_
                                          refine xd_b hok 16 [(201, _), (202, _), (200, _)] (B5_1o ++ ([])) (rsA (Pull.sub (.thereC _ (.there _ (.here _ _)))) rsN) rfl rfl rfl (lc rfl (lc rfl (lc rfl ln))) (by kernel_rfl) ⟨_, rfl, rfl⟩ (fun H' hy hK => o_ixL el30 rfl rfl (fun w hw => (hJ5_1o.sl hw (fun x hx => hy x (Pull.sub (.here _ _) x hx)))) rfl (ho63 (by first | exact hg64 | (simp only [hq60, hq64, hq65, if_pos hp60, if_neg hp64, if_pos hp65, bS]; done) | (simp only [hq60, hq64, hq65, if_pos hp60, if_neg hp64, if_pos hp65, bS, reduceIte, Bool.false_eq_true]; done) | (simp [hp60, hp64, hp65]; done) | (simp_all; done)) (by first | exact hg65 | (simp only [hq60, hq64, hq65, if_pos hp60, if_neg hp64, if_pos hp65, bS]; done) | (simp only [hq60, hq64, hq65, if_pos hp60, if_neg hp64, if_pos hp65, bS, reduceIte, Bool.false_eq_true]; done) | (simp [hp60, hp64, hp65]; done) | (simp_all; done)))) ?_
                                          refine xd_b hok 17 [(203, _), (200, _)] (B5_1o ++ ([])) (rsA (Pull.sub (.thereC _ (.there _ (.here _ _)))) rsN) rfl rfl rfl (lc rfl (lc rfl ln)) (by kernel_rfl) ⟨_, rfl, rfl⟩ (fun H' hy hK => o_faL fl54_2 rfl rfl (fun w hw => (hJ5_1o.sl hw (fun x hx => hy x (Pull.sub (.here _ _) x hx)))) (toNat_lt (ho63 (by first | exact hg64 | (simp only [hq60, hq64, hq65, if_pos hp60, if_neg hp64, if_pos hp65, bS]; done) | (simp only [hq60, hq64, hq65, if_pos hp60, if_neg hp64, if_pos hp65, bS, reduceIte, Bool.false_eq_true]; done) | (simp [hp60, hp64, hp65]; done) | (simp_all; done)) (by first | exact hg65 | (simp only [hq60, hq64, hq65, if_pos hp60, if_neg hp64, if_pos hp65, bS]; done) | (simp only [hq60, hq64, hq65, if_pos hp60, if_neg hp64, if_pos hp65, bS, reduceIte, Bool.false_eq_true]; done) | (simp [hp60, hp64, hp65]; done) | (simp_all; done))))) ?_
                                          refine xd_b hok 18 [(204, _), (200, _)] (B5_1o ++ ([])) (rsA (Pull.sub (.thereC _ (.there _ (.here _ _)))) rsN) rfl rfl rfl (lc rfl (lc rfl ln)) (by kernel_rfl) ⟨_, rfl, rfl⟩ (fun H' hy hK => o_ldL1 (off := 2) (u := .int .i64 (l5[n23.toNat]! 2)) rfl ts3 rfl (fun w hw => (hJ5_1o.sl hw (fun x hx => hy x (Pull.sub (.here _ _) x hx)))) (toNat_lt (ho63 (by first | exact hg64 | (simp only [hq60, hq64, hq65, if_pos hp60, if_neg hp64, if_pos hp65, bS]; done) | (simp only [hq60, hq64, hq65, if_pos hp60, if_neg hp64, if_pos hp65, bS, reduceIte, Bool.false_eq_true]; done) | (simp [hp60, hp64, hp65]; done) | (simp_all; done)) (by first | exact hg65 | (simp only [hq60, hq64, hq65, if_pos hp60, if_neg hp64, if_pos hp65, bS]; done) | (simp only [hq60, hq64, hq65, if_pos hp60, if_neg hp64, if_pos hp65, bS, reduceIte, Bool.false_eq_true]; done) | (simp [hp60, hp64, hp65]; done) | (simp_all; done)))) rfl rfl) ?_
                                          refine xd_b hok 19 [(21, _), (200, _)] ([]) rsN rfl rfl rfl (lc rfl (lc rfl ln)) (by kernel_rfl) ⟨_, rfl, rfl⟩ (fun H' hy hK => o_mv rfl) ?_
                                          refine xd_b hok 20 [(205, _), (206, _), (200, _)] ([]) rsN rfl rfl rfl (lc rfl (lc rfl (lc rfl ln))) (by kernel_rfl) ⟨_, rfl, rfl⟩ (fun H' hy hK => o_eql rfl rfl) ?_
                                          refine xd_b hok 21 [(200, _), (207, _), (188, _)] ([]) rsN rfl rfl rfl (lc rfl (lc rfl (lc rfl ln))) (by kernel_rfl) ⟨_, rfl, rfl⟩ (fun H' hy hK => o_pick_t rfl rfl) ?_
                                          refine xd_b hok 22 [(188, _), (208, _)] ([]) rsN rfl rfl rfl (lc rfl (lc rfl ln)) (by kernel_rfl) trivial (fun H' hy hK => o_pick_f rfl rfl) ?_
                                          refine xd_b hok 23 [(209, _)] ([]) rsN rfl rfl rfl (lc rfl ln) (by kernel_rfl) trivial (fun H' hy hK => o_as rfl) ?_
                                          refine xd_end hok (by kernel_rfl) ?_
                                          exact xq_cut ((lce rfl (by first | rfl | (simp only [hq60, hq64, hq65, if_pos hp60, if_neg hp64, if_pos hp65, bS]; done) | (simp only [hq60, hq64, hq65, if_pos hp60, if_neg hp64, if_pos hp65, bS, reduceIte, Bool.false_eq_true]; done) | (simp [hp60, hp64, hp65]; done) | (simp_all; done)) (lc rfl (lc rfl (lc rfl (lc rfl (lc rfl (lc rfl (lc rfl (lc rfl ln)))))))))) (fun _ h => h)
                                        · have hq65 : (decide (l5[n23.toNat]! 0 = (back8[i18.toNat]!) (12 + (k20.toNat * 2)))) = false := hg65
                                          have hp65 : ¬ (l5[n23.toNat]! 0 = (back8[i18.toNat]!) (12 + (k20.toNat * 2))) := of_decide_eq_false hq65
                                          refine xd_skip hok 14 [(5, _), (200, _)] rfl rfl rfl (lc rfl (lc rfl ln)) (by kernel_rfl) ⟨_, _, rfl, rfl, rfl⟩ ?_
                                          refine xd_skip hok 15 [(23, _), (200, _)] rfl rfl rfl (lc rfl (lc rfl ln)) (by kernel_rfl) ⟨_, _, rfl, rfl, rfl⟩ ?_
                                          refine xd_skip hok 16 [(201, _), (202, _), (200, _)] rfl rfl rfl (lc rfl (lc rfl (lc rfl ln))) (by kernel_rfl) ⟨_, _, rfl, rfl, rfl⟩ ?_
                                          refine xd_skip hok 17 [(203, _), (200, _)] rfl rfl rfl (lc rfl (lc rfl ln)) (by kernel_rfl) ⟨_, _, rfl, rfl, rfl⟩ ?_
                                          refine xd_skip hok 18 [(204, _), (200, _)] rfl rfl rfl (lc rfl (lc rfl ln)) (by kernel_rfl) ⟨_, _, rfl, rfl, rfl⟩ ?_
                                          refine xd_skip hok 19 [(21, _), (200, _)] rfl rfl rfl (lc rfl (lc rfl ln)) (by kernel_rfl) ⟨_, _, rfl, rfl, rfl⟩ ?_
                                          refine xd_skip hok 20 [(205, _), (206, _), (200, _)] rfl rfl rfl (lc rfl (lc rfl (lc rfl ln))) (by kernel_rfl) ⟨_, _, rfl, rfl, rfl⟩ ?_
                                          refine xd_b hok 21 [(200, _), (207, _), (188, _)] ([]) rsN rfl rfl rfl (lc rfl (lc rfl (lc rfl ln))) (by kernel_rfl) ⟨_, rfl, rfl⟩ (fun H' hy hK => o_pick_f rfl rfl) ?_
                                          refine xd_b hok 22 [(188, _), (208, _)] ([]) rsN rfl rfl rfl (lc rfl (lc rfl ln)) (by kernel_rfl) trivial (fun H' hy hK => o_pick_f rfl rfl) ?_
                                          refine xd_b hok 23 [(209, _)] ([]) rsN rfl rfl rfl (lc rfl ln) (by kernel_rfl) trivial (fun H' hy hK => o_as rfl) ?_
                                          refine xd_end hok (by kernel_rfl) ?_
                                          exact xq_cut ((lce rfl (by first | rfl | (simp only [hq60, hq64, hq65, if_pos hp60, if_neg hp64, if_neg hp65, bS]; done) | (simp only [hq60, hq64, hq65, if_pos hp60, if_neg hp64, if_neg hp65, bS, reduceIte, Bool.false_eq_true]; done) | (simp [hp60, hp64, hp65]; done) | (simp_all; done)) (lc rfl (lc rfl (lc rfl (lc rfl (lc rfl (lc rfl (lc rfl (lc rfl ln)))))))))) (fun _ h => h)
                                    · refine xq_blk 11 ?_
                                      refine xq_then (xw_region ?_)
                                      refine xq rfl trivial (o_mv rfl) ?_
                                      obtain ⟨ho66, h⟩ := h
                                      refine xq rfl trivial (o_add rfl rfl rfl ho66) ?_
                                      refine xq rfl trivial (o_as rfl) ?_
                                      refine xo_nil ?_
                                      exact xq_next (s' := (((leads22) || ((decide (l5[n23.toNat]! 0 = (back8[i18.toNat]!) (12 + (k20.toNat * 2)))) && (decide (l5[n23.toNat]! 2 = (if k20 + 1 < (back8[i18.toNat]!) 11 then (back8[i18.toNat]!) (12 + ((k20 + 1).toNat * 2)) else (back8[i18.toNat]!) 9)))), n23 + 1) : Bool × Int)) (e' := [(5, v5_1o), (12, .int .i64 (1 + ((IntKind.i64.wrap from1).tmod 6))), (13, v8_3o), (18, .int .i64 i18), (19, .pointer (some ⟨b19, 0, none⟩)), (20, .int .i64 k20), (21, .int .i64 (if k20 + 1 < (back8[i18.toNat]!) 11 then (back8[i18.toNat]!) (12 + ((k20 + 1).toNat * 2)) else (back8[i18.toNat]!) 9)), (22, .bool ((leads22) || ((decide (l5[n23.toNat]! 0 = (back8[i18.toNat]!) (12 + (k20.toNat * 2)))) && (decide (l5[n23.toNat]! 2 = (if k20 + 1 < (back8[i18.toNat]!) 11 then (back8[i18.toNat]!) (12 + ((k20 + 1).toNat * 2)) else (back8[i18.toNat]!) 9)))))), (23, .int .i64 (n23 + 1))]) ((b19, BK 28 (iv (back8[i18.toNat]!)) 29) :: (B8_3o ++ (B5_1o ++ ([])))) (lc rfl (lc rfl (lc rfl (lc rfl (lc rfl (lc rfl (lc rfl (lc rfl (lc rfl ln))))))))) (fun _ h => h) h ⟨rfl, rfl⟩
                                  · have hq60 : (decide (n23 < (l5.length : Int))) = false := hc60
                                    have hp60 : ¬ (n23 < (l5.length : Int)) := of_decide_eq_false hq60
                                    rw [if_neg hp60] at h
                                    refine xw_cond_f rfl rfl (xw_exit (xq_then_exit ?_))
                                    exact xq_out (r := (leads22 : Bool)) (e' := [(5, v5_1o), (12, .int .i64 (1 + ((IntKind.i64.wrap from1).tmod 6))), (13, v8_3o), (18, .int .i64 i18), (19, .pointer (some ⟨b19, 0, none⟩)), (20, .int .i64 k20), (22, .bool (leads22))]) ((b19, BK 28 (iv (back8[i18.toNat]!)) 29) :: (B8_3o ++ (B5_1o ++ ([])))) (lc rfl (lc rfl (lc rfl (lc rfl (lc rfl (lc rfl (lc rfl ln))))))) (fun _ h => h) h (by intro hh; cases hh) ⟨rfl, rfl, rfl⟩
                                · rintro _ _ _ ⟨rfl, rfl, rfl⟩
                                  replace h : finds12_k7a k20 leads22 o := h
                                  unfold finds12_k7a at h
                                  refine xq_blk_eq ?_
                                  refine xq_then (xw_seq (xw_region ?_))
                                  refine xq rfl trivial (o_mv rfl) ?_
                                  refine xq rfl trivial (o_not rfl) ?_
                                  refine xo_nil (xq_then ?_)
                                  refine xw_bool 211 rfl (fun hc67 => ?_) (fun hc67 => ?_)
                                  · have hq67 : (leads22) = false := (bnT hc67)
                                    have hp67 : ¬ ((leads22) = true) := bne' hq67
                                    rw [if_neg hp67] at h
                                    refine xw_cond_t rfl rfl (xw_seq (xw_region ?_))
                                    refine xq rfl trivial (o_as rfl) ?_
                                    refine xo_nil (xq_then (xw_ret (xq_blk_ret (xq_then_ret ?_))))
                                    exact xq_out (r := (.inr () : (Unit) ⊕ (Unit))) (e' := [(4, .bool false)]) ((b19, BK 28 (iv (back8[i18.toNat]!)) 29) :: (B8_3o ++ (B5_1o ++ ([])))) (lc rfl ln) (fun _ h => h) h (by intro hh; cases hh) ⟨rfl, rfl, rfl⟩
                                  · have hq67 : (leads22) = true := (bnF hc67)
                                    have hp67 : (leads22) = true := hq67
                                    rw [if_pos hp67] at h
                                    refine xw_cond_f rfl rfl (xw_skip ?_)
                                    refine xq_blk 9 ?_
                                    refine xq_then (xw_region ?_)
                                    refine xq rfl trivial (o_mv rfl) ?_
                                    obtain ⟨ho68, h⟩ := h
                                    refine xq rfl trivial (o_add rfl rfl rfl ho68) ?_
                                    refine xq rfl trivial (o_as rfl) ?_
                                    refine xo_nil ?_
                                    exact xq_next (s' := (k20 + 1 : Int)) (e' := [(5, v5_1o), (12, .int .i64 (1 + ((IntKind.i64.wrap from1).tmod 6))), (13, v8_3o), (18, .int .i64 i18), (19, .pointer (some ⟨b19, 0, none⟩)), (20, .int .i64 (k20 + 1))]) ((b19, BK 28 (iv (back8[i18.toNat]!)) 29) :: (B8_3o ++ (B5_1o ++ ([])))) (lc rfl (lc rfl (lc rfl (lc rfl (lc rfl (lc rfl ln)))))) (fun _ h => h) h ⟨rfl, rfl⟩
                            · have hq55 : (decide (k20 < (back8[i18.toNat]!) 11)) = false := hc55
                              have hp55 : ¬ (k20 < (back8[i18.toNat]!) 11) := of_decide_eq_false hq55
                              rw [if_neg hp55] at h
                              refine xw_cond_f rfl rfl (xw_exit (xq_then_exit ?_))
                              exact xq_out (r := (.inl () : (Unit) ⊕ (Unit))) (e' := [(5, v5_1o), (12, .int .i64 (1 + ((IntKind.i64.wrap from1).tmod 6))), (13, v8_3o), (18, .int .i64 i18)]) ((b19, BK 28 (iv (back8[i18.toNat]!)) 29) :: (B8_3o ++ (B5_1o ++ ([])))) (lc rfl (lc rfl (lc rfl (lc rfl ln)))) (fun _ h => h) h (by intro hh; cases hh) ⟨rfl, rfl, rfl⟩
                          · rcases x6 with _ | x6
                            · rintro _ _ _ ⟨rfl, rfl, rfl⟩
                              replace h : finds12_k6a i18 o := h
                              unfold finds12_k6a at h
                              refine xq_blk_eq ?_
                              refine xq_blk 7 ?_
                              refine xq_then (xw_region ?_)
                              refine xq rfl trivial (o_mv rfl) ?_
                              obtain ⟨ho69, h⟩ := h
                              refine xq rfl trivial (o_add rfl rfl rfl ho69) ?_
                              refine xq rfl trivial (o_as rfl) ?_
                              refine xo_nil ?_
                              exact xq_next (s' := (i18 + 1 : Int)) (e' := [(5, v5_1o), (12, .int .i64 (1 + ((IntKind.i64.wrap from1).tmod 6))), (13, v8_3o), (18, .int .i64 (i18 + 1))]) (B8_3o ++ (B5_1o ++ ([]))) (lc rfl (lc rfl (lc rfl (lc rfl ln)))) (Kp.st (Kp.new hb19 (Kp.segKeep (Kp.segKeep Kp.nil)))) h ⟨rfl, rfl⟩
                            cases x6
                            rintro _ _ _ ⟨rfl, rfl, rfl⟩
                            replace h : finds12_k6b o := h
                            unfold finds12_k6b at h
                            refine xq_blk_ret (xq_blk_ret (xq_then_ret ?_))
                            exact xq_out (r := (.inr () : (Unit) ⊕ (Unit))) (e' := [(4, .bool false)]) (B8_3o ++ (B5_1o ++ ([]))) (lc rfl ln) (Kp.st (Kp.new hb19 (Kp.segKeep (Kp.segKeep Kp.nil)))) h (by intro hh; cases hh) ⟨rfl, rfl, rfl⟩
                    · have hq49 : (decide (i18 < (back8.length : Int))) = false := hc49
                      have hp49 : ¬ (i18 < (back8.length : Int)) := of_decide_eq_false hq49
                      rw [if_neg hp49] at h
                      refine xw_cond_f rfl rfl (xw_exit (xq_then_exit ?_))
                      exact xq_out (r := (.inl () : (Unit) ⊕ (Unit))) (e' := []) (B8_3o ++ (B5_1o ++ ([]))) ln (fun _ h => h) h (by intro hh; cases hh) ⟨rfl, rfl, rfl⟩
                  · rcases x5 with _ | x5
                    · rintro _ _ _ ⟨rfl, rfl, rfl⟩
                      replace h : finds12_k5a r := h
                      unfold finds12_k5a at h
                      refine xq_blk_eq ?_
                      refine xq_then (xw_seq (xw_region ?_))
                      refine xq rfl trivial (o_as rfl) ?_
                      refine xo_nil (xq_then (xw_ret ?_))
                      subst h
                      exact con_ret1 (.inl rfl) Try.results5 rfl [] (Kp.st (Kp.segNew (Cov.fresh hcB8_3o) (Kp.segNew (Cov.fresh hcB5_1o) Kp.nil))) (⟨rfl, rfl⟩)
                    cases x5
                    rintro _ _ _ ⟨rfl, rfl, rfl⟩
                    replace h : finds12_k5b r := h
                    unfold finds12_k5b at h
                    refine xq_blk_ret (xq_then_ret ?_)
                    subst h
                    exact con_ret1 (.inl rfl) Try.results5 rfl [] (Kp.st (Kp.segNew (Cov.fresh hcB8_3o) (Kp.segNew (Cov.fresh hcB5_1o) Kp.nil))) (⟨rfl, rfl⟩)
            cases x3
            rintro _ _ _ ⟨B6_3o, B8_3o, rfl, rfl, rfl, hcB6_3o, hcB8_3o⟩
            replace h : finds12_k3b r := h
            unfold finds12_k3b at h
            refine xq_blk_ret (xq_then_ret ?_)
            refine con_ret2 (.inl rfl) Try.results18 rfl rfl _ (fun _ h => h) (?_)
            refine xq rfl trivial (o_mv rfl) ?_
            refine xq rfl trivial (o_ext rfl rfl) ?_
            refine xq rfl trivial (o_ext rfl rfl) ?_
            refine xq rfl trivial (o_as rfl) ?_
            refine xq rfl trivial (o_as rfl) ?_
            refine xo_nil (xq_then (xw_seq (xw_seq (xw_region ?_))))
            refine xq rfl trivial (o_mv rfl) ?_
            refine xq rfl trivial (o_not rfl) ?_
            refine xo_nil (xq_then (xw_cond_t rfl rfl (xw_seq (xw_region ?_))))
            refine xq rfl trivial (o_as rfl) ?_
            refine xo_nil (xq_then (xw_ret (xq_then_ret ?_)))
            subst h
            exact con_ret1 (.inl rfl) Try.results5 rfl [] (Kp.st (Kp.segNew (Cov.fresh hcB8_3o) (Kp.segNew (Cov.fresh hcB6_3o) (Kp.segNew (Cov.fresh hcB5_1o) Kp.nil)))) (⟨rfl, rfl⟩)

end Go.Proofs.Ytjmfnohbeoiddaa
