/- The code answers as the relations say. -/
import Derived.Test.YtndkjhaiopcpeaaTab
import Derived.Test.YtndkjhaiopcpeaaC13S
import Derived.Test.YtndkjhaiopcpeaaB13W
set_option maxHeartbeats 1000000
set_option linter.unusedVariables false
set_option linter.unusedSimpArgs false
set_option maxRecDepth 100000
namespace Go.Proofs.Ytndkjhaiopcpeaa
open Go Go.E

theorem once_con (steps0 : (List (Nat → Int))) (v0 : Value) (w : World) (hs0 : SL w 2 iv v0 steps0) (r : Bool) (h : once_S steps0 r) : Con Try.prog 3 #[v0] w (Is (.bool r) []) := by
  unfold once_S at h
  refine con_enter (n := 120) [(0, _)] Try.func3 rfl Try.ntmps3 rfl (lac rfl lan) ?_
  refine xw_seq (xw_region ?_)
  refine xq rfl trivial (o_as rfl) ?_
  refine xo_nil (xq_then (xw_seq (xw_seq (xw_region ?_))))
  refine xcallq rfl trivial kf7 rfl (fun w1 hw1 => alive13_c w1) ?_
  refine xq rfl trivial (o_not rfl) ?_
  refine xo_nil (xq_then ?_)
  refine xw_bool 14 rfl (fun hc1 => ?_) (fun hc1 => ?_)
  · have hq1 : (alive13_F) = false := (bnT hc1)
    have hp1 : ¬ ((alive13_F) = true) := bne' hq1
    rw [if_neg hp1] at h
    refine xw_cond_t rfl rfl (xw_seq (xw_region ?_))
    refine xq rfl trivial (o_as rfl) ?_
    refine xo_nil (xq_then (xw_ret (xq_then_ret ?_)))
    subst h
    exact con_ret1 (.inl rfl) Try.results3 rfl [] (fun _ h => h) (⟨rfl, rfl⟩)
  · have hq1 : (alive13_F) = true := (bnF hc1)
    have hp1 : (alive13_F) = true := hq1
    rw [if_pos hp1] at h
    refine xw_cond_f rfl rfl (xw_skip (xq_then (xw_seq (xw_seq (xw_region ?_)))))
    refine xq rfl trivial (o_mv rfl) ?_
    refine xq rfl trivial (o_lenL rfl Try.underlying22 rfl (SL.val hs0)) ?_
    refine xq rfl trivial (o_gtr rfl rfl) ?_
    refine xo_nil (xq_then ?_)
    refine xw_bool 17 rfl (fun hc2 => ?_) (fun hc2 => ?_)
    · have hq2 : (decide (100 < (steps0.length : Int))) = true := hc2
      have hp2 : 100 < (steps0.length : Int) := of_decide_eq_true hq2
      rw [if_pos hp2] at h
      refine xw_cond_t rfl rfl (xw_seq (xw_region ?_))
      refine xq rfl trivial (o_as rfl) ?_
      refine xo_nil (xq_then (xw_ret (xq_then_ret ?_)))
      subst h
      exact con_ret1 (.inl rfl) Try.results3 rfl [] (fun _ h => h) (⟨rfl, rfl⟩)
    · have hq2 : (decide (100 < (steps0.length : Int))) = false := hc2
      have hp2 : ¬ (100 < (steps0.length : Int)) := of_decide_eq_false hq2
      rw [if_neg hp2] at h
      refine xw_cond_f rfl rfl (xw_skip (xq_then (xw_seq (xw_region ?_))))
      refine xoR rfl trivial (ot_in (l := []) kf8 rfl Try.func8 rfl Try.ntmps8 rfl lan ?_)
      refine xw_seq (xw_region ?_)
      refine xq rfl trivial (o_as rfl) ?_
      refine xo_nil (xq_then (xw_seq (xw_region ?_)))
      refine xo rfl trivial (o_mkmap (α := (Nat → Int)) (cv := (kA 29)) kt3 Try.underlying65) ?_
      rintro vs3 _ ⟨Bs3, rfl, hns3, hJs3⟩
      have hcBs3 := hns3
      refine xq rfl trivial (o_buildC [vs3] fk67 ze67 (.one fl67_0 rfl rfl (MJ.one hJs3) (.nil _)) (fun i hi => match i, hi with | 0, _ => rfl | q + 1, h => absurd h (by omega))) ?_
      refine xo rfl trivial (o_boxC [vs3] rfl (fun i hi => match i, hi with | 0, _ => rfl | q + 1, h => absurd h (by omega))) ?_
      rintro _ _ ⟨b3, hb3, rfl, rfl⟩
      refine xq rfl trivial (o_as rfl) ?_
      refine xo_nil (xq_then (xw_ret ?_))
      refine con_ret1 (.inl rfl) Try.results8 rfl _ (fun _ h => h) (?_)
      refine xq rfl trivial (o_as rfl) ?_
      refine xo_nil (xq_then (xw_seq (xw_seq (xw_region ?_))))
      refine xq rfl trivial (o_mv rfl) ?_
      refine xq rfl trivial (o_eqn Try.underlying24 rfl rfl rfl rfl) ?_
      refine xo_nil (xq_then (xw_cond_f rfl rfl (xw_skip (xq_then (xw_seq (xw_region ?_))))))
      refine xq rfl trivial (o_as rfl) ?_
      refine xo_nil (xq_then (xw_seq (xw_region ?_)))
      refine xo rfl trivial (o_mkmap (α := (Nat → Int)) (cv := (kA 28)) kt28 Try.underlying26) ?_
      rintro vs4 _ ⟨Bs4, rfl, hns4, hJs4⟩
      have hcBs4 := hns4
      refine xq rfl trivial (o_as rfl) ?_
      refine xo_nil (xq_then (xw_seq (xw_seq (xw_region ?_))))
      refine xq rfl trivial (o_as rfl) ?_
      refine xo_nil (xq_then ?_)
      refine xw_block ?_
      obtain ⟨x1, hx1, h⟩ := h
      refine xw_wh (fun s e H => match s with | (opened4, answers5, i6, fb3) => ∃ (vb3_0_1 : Value) (v5_1 : Value) (v4_1 : Value) (B4_1 : GH) (B5_1 : GH) (Bb3_0_1 : GH), e = [(0, v0), (3, .pointer (some ⟨b3, 0, none⟩)), (4, v4_1), (5, v5_1), (6, .int .i64 i6)] ∧ H = B4_1 ++ (B5_1 ++ ((b3, BK 1 (cl [vb3_0_1]) 67) :: (Bb3_0_1 ++ ([])))) ∧ OJ 28 2 iv B4_1 v4_1 opened4 ∧ MJ (kA 2) (kA 28) (eqN 2) B5_1 v5_1 answers5 ∧ MJ kI (kA 29) ieq Bb3_0_1 vb3_0_1 fb3 ∧ Cov w [] B4_1 ∧ Cov w [] B5_1 ∧ Cov w [] Bb3_0_1) (fun x ex e H => match x with | .inl fb3 => ∃ (vb3_0_1o : Value) (B4_1o : GH) (B5_1o : GH) (Bb3_0_1o : GH), ex = .exit 0 ∧ e = [] ∧ H = B4_1o ++ (B5_1o ++ ((b3, BK 1 (cl [vb3_0_1o]) 67) :: (Bb3_0_1o ++ ([])))) ∧ MJ kI (kA 29) ieq Bb3_0_1o vb3_0_1o fb3 ∧ Cov w [] B4_1o ∧ Cov w [] B5_1o ∧ Cov w [] Bb3_0_1o | .inr fb3 => ∃ (vb3_0_1o : Value) (B4_1o : GH) (B5_1o : GH) (Bb3_0_1o : GH), ex = .ret ∧ e = [(2, .bool false)] ∧ H = B4_1o ++ (B5_1o ++ ((b3, BK 1 (cl [vb3_0_1o]) 67) :: (Bb3_0_1o ++ ([])))) ∧ MJ kI (kA 29) ieq Bb3_0_1o vb3_0_1o fb3 ∧ Cov w [] B4_1o ∧ Cov w [] B5_1o ∧ Cov w [] Bb3_0_1o) hx1 ⟨[(0, v0), (3, .pointer (some ⟨b3, 0, none⟩)), (4, .slice none 0 0), (5, vs4), (6, .int .i64 0)], [] ++ (Bs4 ++ ((b3, BK 1 (cl [vs3]) 67) :: (Bs3 ++ ([])))), (lc rfl (lc rfl (lc rfl (lc rfl (lc rfl ln))))), fun _ h => h, ⟨vs3, vs4, _, [], Bs4, Bs3, rfl, rfl, OJ.nil, hJs4, hJs3, (Cov.refl _), hcBs4, hcBs3⟩⟩ ?_ ?_
      · rintro ⟨opened4, answers5, i6, fb3⟩ o _ _ ⟨vb3_0_1, v5_1, v4_1, B4_1, B5_1, Bb3_0_1, rfl, rfl, hJ4_1, hJ5_1, hJb3_0_1, hcB4_1, hcB5_1, hcBb3_0_1⟩ hb
        have h : once_l1 steps0 opened4 answers5 i6 fb3 o := hb
        clear hb
        unfold once_l1 at h
        refine xw_seq (xw_seq (xw_region ?_))
        refine xq rfl trivial (o_mv rfl) ?_
        refine xq rfl trivial (o_mv rfl) ?_
        refine xq rfl trivial (o_lenL rfl Try.underlying22 rfl (SL.val hs0)) ?_
        refine xq rfl trivial (o_lss rfl rfl) ?_
        refine xo_nil (xq_then ?_)
        refine xw_bool 25 rfl (fun hc5 => ?_) (fun hc5 => ?_)
        · have hq5 : (decide (i6 < (steps0.length : Int))) = true := hc5
          have hp5 : i6 < (steps0.length : Int) := of_decide_eq_true hq5
          rw [if_pos hp5] at h
          refine xw_cond_t rfl rfl (xw_skip (xq_then (xw_seq ?_)))
          refine xw_block ?_
          refine xw_seq (xw_region ?_)
          refine xq rfl trivial (o_mv rfl) ?_
          refine xq rfl trivial (o_mv rfl) ?_
          obtain ⟨ho6, h⟩ := h
          refine xq rfl trivial (o_ixL el22 rfl rfl (fun w hw => (hs0.keep hw (Fr.seg hcB4_1 (Fr.seg hcB5_1 (Fr.cons hb3 (Fr.seg hcBb3_0_1 Fr.nil)))))) rfl ho6) ?_
          refine xq rfl trivial (o_ldLI rfl ts28 rfl (fun w hw => (hs0.keep hw (Fr.seg hcB4_1 (Fr.seg hcB5_1 (Fr.cons hb3 (Fr.seg hcBb3_0_1 Fr.nil)))))) (toNat_lt ho6) rfl) ?_
          refine xo rfl trivial (o_alloc ze28 rfl) ?_
          rintro _ _ ⟨b7, hb7, rfl, rfl⟩
          refine xq0 trivial (o_stWI rfl rfl ts28 (List.Mem.head _) (.here _ _ _ _)) ?_
          refine xo_nil (xq_then (xw_seq (xw_region ?_)))
          refine xq rfl trivial (o_mv rfl) ?_
          first | refine xq rfl trivial (o_fa0 fl28_0 rfl) ?_ | refine xq rfl trivial (o_fa fl28_0 rfl) ?_
          refine xq rfl trivial (o_ldI (v := (steps0[i6.toNat]!) 0) rfl ts3 (List.Mem.head _) (by omega) rfl) ?_
          first | refine xq rfl trivial (o_fa0 fl28_1 rfl) ?_ | refine xq rfl trivial (o_fa fl28_1 rfl) ?_
          refine xq rfl trivial (o_ldI (v := (steps0[i6.toNat]!) 1) rfl ts3 (List.Mem.head _) (by omega) rfl) ?_
          refine xo rfl trivial (OT.st (fun _ h => St.permI [3, 4, 0, 1, 2] [[(b7, _)], B4_1, B5_1, [(b3, _)], Bb3_0_1] rfl h) (ot_callF (Cs := [[(b3, _)], Bb3_0_1]) (Rs := [[(b7, _)], B4_1, B5_1]) kf9 rfl (fun w1 hw1 => bopen_c _ _ _ _ _ _ w1 hJb3_0_1 (St.hasC hw1)) (fun _ _ _ h => h.1))) ?_
          rintro _ _ ⟨w1, _, rfl, hle, -, vg8_0, Bg8_0, rfl, rfl, hJBg8_0, hcBg8_0⟩
          replace hcBg8_0 := Cov.trans hcBb3_0_1 (Cov.base (w0 := w) hcBg8_0 hle)
          refine xo_st ((b3, BK 1 (cl [vg8_0]) 67) :: (Bg8_0 ++ ((b7, BK 2 (iv (steps0[i6.toNat]!)) 28) :: (B4_1 ++ (B5_1 ++ ([])))))) (fun _ h => h) ?_
          refine xq rfl trivial (o_mv rfl) ?_
          refine xq rfl trivial (o_ext rfl rfl) ?_
          refine xq rfl trivial (o_ext rfl rfl) ?_
          refine xo rfl trivial (o_alloc ze34 rfl) ?_
          rintro _ _ ⟨b8, hb8, rfl, rfl⟩
          refine xq0 trivial (o_stWI rfl rfl ts34 (List.Mem.head _) (.here _ _ _ _)) ?_
          refine xq rfl trivial (o_as rfl) ?_
          refine xo_nil (xq_then (xw_seq (xw_seq (xw_region ?_))))
          refine xq rfl trivial (o_mv rfl) ?_
          refine xq rfl trivial (o_eqE Try.underlying36 rfl (fun _ => rfl) rfl rfl) ?_
          refine xo_nil (xq_then ?_)
          refine xw_bool 42 rfl (fun hc9 => ?_) (fun hc9 => ?_)
          · have hq9 : (decide ((bopen_F fb3 ((steps0[i6.toNat]!) 0) ((steps0[i6.toNat]!) 1)).2.1 = 0)) = true := hc9
            have hp9 : (bopen_F fb3 ((steps0[i6.toNat]!) 0) ((steps0[i6.toNat]!) 1)).2.1 = 0 := of_decide_eq_true hq9
            rw [if_pos hp9] at h
            refine xw_cond_t rfl rfl (xw_seq (xw_seq (xw_region ?_)))
            refine xq rfl trivial (o_as rfl) ?_
            refine xo_nil (xq_then ?_)
            refine xw_block ?_
            obtain ⟨x2, hx2, h⟩ := h
            refine xw_wh (fun (k10 : Int) e H => e = [(0, v0), (3, .pointer (some ⟨b3, 0, none⟩)), (4, v4_1), (5, v5_1), (6, .int .i64 i6), (7, .pointer (some ⟨b7, 0, none⟩)), (10, .int .i64 k10)] ∧ H = (b3, BK 1 (cl [vg8_0]) 67) :: (Bg8_0 ++ ((b7, BK 2 (iv (steps0[i6.toNat]!)) 28) :: (B4_1 ++ (B5_1 ++ ([])))))) (fun x ex e H => match x with | .inl _ => ex = .exit 2 ∧ e = [(0, v0), (3, .pointer (some ⟨b3, 0, none⟩)), (4, v4_1), (5, v5_1), (6, .int .i64 i6), (7, .pointer (some ⟨b7, 0, none⟩))] ∧ H = (b3, BK 1 (cl [vg8_0]) 67) :: (Bg8_0 ++ ((b7, BK 2 (iv (steps0[i6.toNat]!)) 28) :: (B4_1 ++ (B5_1 ++ ([]))))) | .inr _ => ex = .ret ∧ e = [(2, .bool false)] ∧ H = (b3, BK 1 (cl [vg8_0]) 67) :: (Bg8_0 ++ ((b7, BK 2 (iv (steps0[i6.toNat]!)) 28) :: (B4_1 ++ (B5_1 ++ ([])))))) hx2 ⟨[(0, v0), (3, .pointer (some ⟨b3, 0, none⟩)), (4, v4_1), (5, v5_1), (6, .int .i64 i6), (7, .pointer (some ⟨b7, 0, none⟩)), (10, .int .i64 0)], (b3, BK 1 (cl [vg8_0]) 67) :: (Bg8_0 ++ ((b7, BK 2 (iv (steps0[i6.toNat]!)) 28) :: (B4_1 ++ (B5_1 ++ ([]))))), (lc rfl (lc rfl (lc rfl (lc rfl (lc rfl (lc rfl (lc rfl ln))))))), Kp.st (Kp.new hb8 (Kp.keep (Kp.segKeep (Kp.keep (Kp.segKeep (Kp.segKeep Kp.nil)))))), ⟨rfl, rfl⟩⟩ ?_ ?_
            · rintro k10 o _ _ ⟨rfl, rfl⟩ hb
              have h : once_l2 steps0 opened4 i6 k10 o := hb
              clear hb
              unfold once_l2 at h
              refine xw_seq (xw_seq (xw_region ?_))
              refine xq rfl trivial (o_mv rfl) ?_
              refine xq rfl trivial (o_mv rfl) ?_
              refine xq rfl trivial (o_lenL rfl Try.underlying22 rfl (OJ.val hJ4_1)) ?_
              refine xq rfl trivial (o_lss rfl rfl) ?_
              refine xo_nil (xq_then ?_)
              refine xw_bool 46 rfl (fun hc10 => ?_) (fun hc10 => ?_)
              · have hq10 : (decide (k10 < (opened4.length : Int))) = true := hc10
                have hp10 : k10 < (opened4.length : Int) := of_decide_eq_true hq10
                rw [if_pos hp10] at h
                refine xw_cond_t rfl rfl (xw_skip (xq_then (xw_seq ?_)))
                refine xw_block ?_
                refine xw_seq ?_
                obtain ⟨ho11, ho12, h⟩ := h
                refine xw_cut [(0, _), (3, _), (4, _), (5, _), (6, _), (7, _), (10, _)] (lc rfl (lc rfl (lc rfl (lc rfl (lc rfl (lc rfl (lc rfl ln))))))) [(66, .bool ((decide (opened4[k10.toNat]! 0 = (steps0[i6.toNat]!) 0)) && (decide ((steps0[i6.toNat]!) 1 ≤ opened4[k10.toNat]! 1))))] ?_ ?_
                · refine xd_start (by kernel_rfl) (by kernel_rfl) (fun hok => ?_)
                  refine xd_b hok 0 [(4, _)] ([]) rsN rfl rfl rfl (lc rfl ln) (by kernel_rfl) trivial (fun H' hy hK => o_mv rfl) ?_
                  refine xd_b hok 1 [(10, _)] ([]) rsN rfl rfl rfl (lc rfl ln) (by kernel_rfl) trivial (fun H' hy hK => o_mv rfl) ?_
                  refine xd_b hok 2 [(49, _), (50, _)] (B4_1 ++ ([])) (rsA (Pull.sub (.thereC _ (.there _ (.thereC _ (.here _ _))))) rsN) rfl rfl rfl (lc rfl (lc rfl ln)) (by kernel_rfl) trivial (fun H' hy hK => o_ixL el22 rfl rfl (fun w hw => (hJ4_1.sl hw (fun x hx => hy x (Pull.sub (.here _ _) x hx)))) rfl (ho11)) ?_
                  refine xd_b hok 3 [(51, _)] (B4_1 ++ ([])) (rsA (Pull.sub (.thereC _ (.there _ (.thereC _ (.here _ _))))) rsN) rfl rfl rfl (lc rfl ln) (by kernel_rfl) trivial (fun H' hy hK => o_faL fl28_0 rfl rfl (fun w hw => (hJ4_1.sl hw (fun x hx => hy x (Pull.sub (.here _ _) x hx)))) (toNat_lt (ho11))) ?_
                  refine xd_b hok 4 [(52, _)] (B4_1 ++ ([])) (rsA (Pull.sub (.thereC _ (.there _ (.thereC _ (.here _ _))))) rsN) rfl rfl rfl (lc rfl ln) (by kernel_rfl) trivial (fun H' hy hK => o_ldL1 (off := 0) (u := .int .i64 (opened4[k10.toNat]! 0)) rfl ts3 rfl (fun w hw => (hJ4_1.sl hw (fun x hx => hy x (Pull.sub (.here _ _) x hx)))) (toNat_lt (ho11)) rfl rfl) ?_
                  first | refine xd_b hok 5 [(7, _)] ([]) rsN rfl rfl rfl (lc rfl ln) (by kernel_rfl) trivial (fun H' hy hK => o_fa0 fl28_0 rfl) ?_ | refine xd_b hok 5 [(7, _)] ([]) rsN rfl rfl rfl (lc rfl ln) (by kernel_rfl) trivial (fun H' hy hK => o_fa fl28_0 rfl) ?_
                  refine xd_b hok 6 [(54, _)] ((b7, BK 2 (iv (steps0[i6.toNat]!)) 28) :: ([])) (rsC (List.Mem.tail _ (List.mem_append_right _ (List.Mem.head _))) rsN) rfl rfl rfl (lc rfl ln) (by kernel_rfl) trivial (fun H' hy hK => o_ldI (v := (steps0[i6.toNat]!) 0) rfl ts3 (hy _ (List.Mem.head _)) (by omega) rfl) ?_
                  refine xd_b hok 7 [(53, _), (55, _)] ([]) rsN rfl rfl rfl (lc rfl (lc rfl ln)) (by kernel_rfl) trivial (fun H' hy hK => o_eql rfl rfl) ?_
                  refine xd_b hok 8 [(56, _)] ([]) rsN rfl rfl rfl (lc rfl ln) (by kernel_rfl) trivial (fun H' hy hK => o_mv rfl) ?_
                  refine xd_bool 57 rfl (fun hg13 => ?_) (fun hg13 => ?_)
                  · have hq13 : (decide (opened4[k10.toNat]! 0 = (steps0[i6.toNat]!) 0)) = true := hg13
                    have hp13 : opened4[k10.toNat]! 0 = (steps0[i6.toNat]!) 0 := of_decide_eq_true hq13
                    refine xd_b hok 9 [(4, _), (57, _)] ([]) rsN rfl rfl rfl (lc rfl (lc rfl ln)) (by kernel_rfl) ⟨_, rfl, rfl⟩ (fun H' hy hK => o_mv rfl) ?_
                    refine xd_b hok 10 [(10, _), (57, _)] ([]) rsN rfl rfl rfl (lc rfl (lc rfl ln)) (by kernel_rfl) ⟨_, rfl, rfl⟩ (fun H' hy hK => o_mv rfl) ?_
                    refine xd_b hok 11 [(58, _), (59, _), (57, _)] (B4_1 ++ ([])) (rsA (Pull.sub (.thereC _ (.there _ (.thereC _ (.here _ _))))) rsN) rfl rfl rfl (lc rfl (lc rfl (lc rfl ln))) (by kernel_rfl) ⟨_, rfl, rfl⟩ (fun H' hy hK => o_ixL el22 rfl rfl (fun w hw => (hJ4_1.sl hw (fun x hx => hy x (Pull.sub (.here _ _) x hx)))) rfl (ho12 (by first | exact hg13 | (simp only [hq10, hq13, if_pos hp10, if_pos hp13, bS]; done) | (simp only [hq10, hq13, if_pos hp10, if_pos hp13, bS, reduceIte, Bool.false_eq_true]; done) | (simp [hp10, hp13]; done) | (simp_all; done)))) ?_
                    refine xd_b hok 12 [(60, _), (57, _)] (B4_1 ++ ([])) (rsA (Pull.sub (.thereC _ (.there _ (.thereC _ (.here _ _))))) rsN) rfl rfl rfl (lc rfl (lc rfl ln)) (by kernel_rfl) ⟨_, rfl, rfl⟩ (fun H' hy hK => o_faL fl28_1 rfl rfl (fun w hw => (hJ4_1.sl hw (fun x hx => hy x (Pull.sub (.here _ _) x hx)))) (toNat_lt (ho12 (by first | exact hg13 | (simp only [hq10, hq13, if_pos hp10, if_pos hp13, bS]; done) | (simp only [hq10, hq13, if_pos hp10, if_pos hp13, bS, reduceIte, Bool.false_eq_true]; done) | (simp [hp10, hp13]; done) | (simp_all; done))))) ?_
                    refine xd_b hok 13 [(61, _), (57, _)] (B4_1 ++ ([])) (rsA (Pull.sub (.thereC _ (.there _ (.thereC _ (.here _ _))))) rsN) rfl rfl rfl (lc rfl (lc rfl ln)) (by kernel_rfl) ⟨_, rfl, rfl⟩ (fun H' hy hK => o_ldL1 (off := 1) (u := .int .i64 (opened4[k10.toNat]! 1)) rfl ts3 rfl (fun w hw => (hJ4_1.sl hw (fun x hx => hy x (Pull.sub (.here _ _) x hx)))) (toNat_lt (ho12 (by first | exact hg13 | (simp only [hq10, hq13, if_pos hp10, if_pos hp13, bS]; done) | (simp only [hq10, hq13, if_pos hp10, if_pos hp13, bS, reduceIte, Bool.false_eq_true]; done) | (simp [hp10, hp13]; done) | (simp_all; done)))) rfl rfl) ?_
                    first | refine xd_b hok 14 [(7, _), (57, _)] ([]) rsN rfl rfl rfl (lc rfl (lc rfl ln)) (by kernel_rfl) ⟨_, rfl, rfl⟩ (fun H' hy hK => o_fa0 fl28_1 rfl) ?_ | refine xd_b hok 14 [(7, _), (57, _)] ([]) rsN rfl rfl rfl (lc rfl (lc rfl ln)) (by kernel_rfl) ⟨_, rfl, rfl⟩ (fun H' hy hK => o_fa fl28_1 rfl) ?_
                    refine xd_b hok 15 [(63, _), (57, _)] ((b7, BK 2 (iv (steps0[i6.toNat]!)) 28) :: ([])) (rsC (List.Mem.tail _ (List.mem_append_right _ (List.Mem.head _))) rsN) rfl rfl rfl (lc rfl (lc rfl ln)) (by kernel_rfl) ⟨_, rfl, rfl⟩ (fun H' hy hK => o_ldI (v := (steps0[i6.toNat]!) 1) rfl ts3 (hy _ (List.Mem.head _)) (by omega) rfl) ?_
                    refine xd_b hok 16 [(62, _), (64, _), (57, _)] ([]) rsN rfl rfl rfl (lc rfl (lc rfl (lc rfl ln))) (by kernel_rfl) ⟨_, rfl, rfl⟩ (fun H' hy hK => o_geq rfl rfl) ?_
                    refine xd_b hok 17 [(57, _), (65, _)] ([]) rsN rfl rfl rfl (lc rfl (lc rfl ln)) (by kernel_rfl) trivial (fun H' hy hK => o_pick_t rfl rfl) ?_
                    refine xd_end hok (by kernel_rfl) ?_
                    exact xq_cut ((lce rfl (by first | rfl | (simp only [hq10, hq13, if_pos hp10, if_pos hp13, bS]; done) | (simp only [hq10, hq13, if_pos hp10, if_pos hp13, bS, reduceIte, Bool.false_eq_true]; done) | (simp [hp10, hp13]; done) | (simp_all; done)) (lc rfl (lc rfl (lc rfl (lc rfl (lc rfl (lc rfl (lc rfl ln))))))))) (fun _ h => h)
                  · have hq13 : (decide (opened4[k10.toNat]! 0 = (steps0[i6.toNat]!) 0)) = false := hg13
                    have hp13 : ¬ (opened4[k10.toNat]! 0 = (steps0[i6.toNat]!) 0) := of_decide_eq_false hq13
                    refine xd_skip hok 9 [(4, _), (57, _)] rfl rfl rfl (lc rfl (lc rfl ln)) (by kernel_rfl) ⟨_, _, rfl, rfl, rfl⟩ ?_
                    refine xd_skip hok 10 [(10, _), (57, _)] rfl rfl rfl (lc rfl (lc rfl ln)) (by kernel_rfl) ⟨_, _, rfl, rfl, rfl⟩ ?_
                    refine xd_skip hok 11 [(58, _), (59, _), (57, _)] rfl rfl rfl (lc rfl (lc rfl (lc rfl ln))) (by kernel_rfl) ⟨_, _, rfl, rfl, rfl⟩ ?_
                    refine xd_skip hok 12 [(60, _), (57, _)] rfl rfl rfl (lc rfl (lc rfl ln)) (by kernel_rfl) ⟨_, _, rfl, rfl, rfl⟩ ?_
                    refine xd_skip hok 13 [(61, _), (57, _)] rfl rfl rfl (lc rfl (lc rfl ln)) (by kernel_rfl) ⟨_, _, rfl, rfl, rfl⟩ ?_
                    refine xd_skip hok 14 [(7, _), (57, _)] rfl rfl rfl (lc rfl (lc rfl ln)) (by kernel_rfl) ⟨_, _, rfl, rfl, rfl⟩ ?_
                    refine xd_skip hok 15 [(63, _), (57, _)] rfl rfl rfl (lc rfl (lc rfl ln)) (by kernel_rfl) ⟨_, _, rfl, rfl, rfl⟩ ?_
                    refine xd_skip hok 16 [(62, _), (64, _), (57, _)] rfl rfl rfl (lc rfl (lc rfl (lc rfl ln))) (by kernel_rfl) ⟨_, _, rfl, rfl, rfl⟩ ?_
                    refine xd_b hok 17 [(57, _), (65, _)] ([]) rsN rfl rfl rfl (lc rfl (lc rfl ln)) (by kernel_rfl) trivial (fun H' hy hK => o_pick_f rfl rfl) ?_
                    refine xd_end hok (by kernel_rfl) ?_
                    exact xq_cut ((lce rfl (by first | rfl | (simp only [hq10, hq13, if_pos hp10, if_neg hp13, bS]; done) | (simp only [hq10, hq13, if_pos hp10, if_neg hp13, bS, reduceIte, Bool.false_eq_true]; done) | (simp [hp10, hp13]; done) | (simp_all; done)) (lc rfl (lc rfl (lc rfl (lc rfl (lc rfl (lc rfl (lc rfl ln))))))))) (fun _ h => h)
                · refine xq_then ?_
                  refine xw_bool 66 rfl (fun hc14 => ?_) (fun hc14 => ?_)
                  · have hq14 : ((decide (opened4[k10.toNat]! 0 = (steps0[i6.toNat]!) 0)) && (decide ((steps0[i6.toNat]!) 1 ≤ opened4[k10.toNat]! 1))) = true := hc14
                    have hp14 : ((decide (opened4[k10.toNat]! 0 = (steps0[i6.toNat]!) 0)) && (decide ((steps0[i6.toNat]!) 1 ≤ opened4[k10.toNat]! 1))) = true := hq14
                    rw [if_pos hp14] at h
                    refine xw_cond_t rfl rfl (xw_seq (xw_region ?_))
                    refine xq rfl trivial (o_as rfl) ?_
                    refine xo_nil (xq_then (xw_ret (xq_blk_ret (xq_then_ret ?_))))
                    exact xq_out (r := (.inr () : (Unit) ⊕ (Unit))) (e' := [(2, .bool false)]) ((b3, BK 1 (cl [vg8_0]) 67) :: (Bg8_0 ++ ((b7, BK 2 (iv (steps0[i6.toNat]!)) 28) :: (B4_1 ++ (B5_1 ++ ([])))))) (lc rfl ln) (fun _ h => h) h (by intro hh; cases hh) ⟨rfl, rfl, rfl⟩
                  · have hq14 : ((decide (opened4[k10.toNat]! 0 = (steps0[i6.toNat]!) 0)) && (decide ((steps0[i6.toNat]!) 1 ≤ opened4[k10.toNat]! 1))) = false := hc14
                    have hp14 : ¬ (((decide (opened4[k10.toNat]! 0 = (steps0[i6.toNat]!) 0)) && (decide ((steps0[i6.toNat]!) 1 ≤ opened4[k10.toNat]! 1))) = true) := bne' hq14
                    rw [if_neg hp14] at h
                    refine xw_cond_f rfl rfl (xw_skip ?_)
                    refine xq_blk 3 ?_
                    refine xq_then (xw_region ?_)
                    refine xq rfl trivial (o_mv rfl) ?_
                    obtain ⟨ho15, h⟩ := h
                    refine xq rfl trivial (o_add rfl rfl rfl ho15) ?_
                    refine xq rfl trivial (o_as rfl) ?_
                    refine xo_nil ?_
                    exact xq_next (s' := (k10 + 1 : Int)) (e' := [(0, v0), (3, .pointer (some ⟨b3, 0, none⟩)), (4, v4_1), (5, v5_1), (6, .int .i64 i6), (7, .pointer (some ⟨b7, 0, none⟩)), (10, .int .i64 (k10 + 1))]) ((b3, BK 1 (cl [vg8_0]) 67) :: (Bg8_0 ++ ((b7, BK 2 (iv (steps0[i6.toNat]!)) 28) :: (B4_1 ++ (B5_1 ++ ([])))))) (lc rfl (lc rfl (lc rfl (lc rfl (lc rfl (lc rfl (lc rfl ln))))))) (fun _ h => h) h ⟨rfl, rfl⟩
              · have hq10 : (decide (k10 < (opened4.length : Int))) = false := hc10
                have hp10 : ¬ (k10 < (opened4.length : Int)) := of_decide_eq_false hq10
                rw [if_neg hp10] at h
                refine xw_cond_f rfl rfl (xw_exit (xq_then_exit ?_))
                exact xq_out (r := (.inl () : (Unit) ⊕ (Unit))) (e' := [(0, v0), (3, .pointer (some ⟨b3, 0, none⟩)), (4, v4_1), (5, v5_1), (6, .int .i64 i6), (7, .pointer (some ⟨b7, 0, none⟩))]) ((b3, BK 1 (cl [vg8_0]) 67) :: (Bg8_0 ++ ((b7, BK 2 (iv (steps0[i6.toNat]!)) 28) :: (B4_1 ++ (B5_1 ++ ([])))))) (lc rfl (lc rfl (lc rfl (lc rfl (lc rfl (lc rfl ln)))))) (fun _ h => h) h (by intro hh; cases hh) ⟨rfl, rfl, rfl⟩
            · rcases x2 with _ | x2
              · rintro _ _ _ ⟨rfl, rfl, rfl⟩
                replace h : once_k2a steps0 opened4 answers5 i6 fb3 o := h
                unfold once_k2a at h
                refine xq_blk_eq ?_
                refine xq_then (xw_seq (xw_region ?_))
                refine xq rfl trivial (o_mv rfl) ?_
                refine xq rfl trivial (o_ldW rfl ts28 (List.Mem.tail _ (List.mem_append_right _ (List.Mem.head _)))) ?_
                refine xo rfl trivial (o_bsl el22 ze28 rfl rfl rfl (.ints rfl rfl (.nil _))) ?_
                rintro _ _ ⟨b69, hb69, rfl, rfl⟩
                obtain ⟨ho17, h⟩ := h
                refine xo rfl trivial (OT.st (fun _ h => Pull.st (.thereC _ (.thereC _ (.there _ (.thereC _ (.here _ _))))) h) (o_appJ (l := opened4) (l' := [(steps0[i6.toNat]!)]) (B := B4_1) ap22 rfl rfl hJ4_1 (fun w2 hw2 => (SL.lit (l := [(steps0[i6.toNat]!)]) hw2 (List.mem_append_right _ (List.Mem.head _)) rfl (by omega) (by simp [maxLen]) (by exact (fun i hi => match i, hi with | 0, _ => rfl | 1, _ => rfl | q + 2, h => absurd h (by omega))))) (fun _ _ => rfl) ho17 (len_max ho17 (by decide)))) ?_
                rintro vs16 _ ⟨Bs16, rfl, hns16, hJs16⟩
                have hcBs16 := Cov.trans hcB4_1 hns16
                refine xo_st ((b69, BK 2 _ 28) :: ((b3, BK 1 (cl [vg8_0]) 67) :: (Bg8_0 ++ ((b7, BK 2 (iv (steps0[i6.toNat]!)) 28) :: (Bs16 ++ (B5_1 ++ ([]))))))) (fun _ h => Pull.push (.thereC _ (.thereC _ (.there _ (.thereC _ (.here _ _))))) h) ?_
                refine xq rfl trivial (o_as rfl) ?_
                refine xo_nil (xq_then (xw_exit (xq_then_exit ?_)))
                refine xq_blk_eq ?_
                refine xq_then (xw_region ?_)
                refine xq rfl trivial (o_mv rfl) ?_
                obtain ⟨ho18, h⟩ := h
                refine xq rfl trivial (o_add rfl rfl rfl ho18) ?_
                refine xq rfl trivial (o_as rfl) ?_
                refine xo_nil ?_
                exact xq_next (s' := (((opened4 ++ [(steps0[i6.toNat]!)]), answers5, i6 + 1, (bopen_F fb3 ((steps0[i6.toNat]!) 0) ((steps0[i6.toNat]!) 1)).2.2) : (List (Nat → Int)) × (List ((Nat → Int) × (Nat → Int))) × Int × (List (Int × (Nat → Int))))) (e' := [(0, v0), (3, .pointer (some ⟨b3, 0, none⟩)), (4, vs16), (5, v5_1), (6, .int .i64 (i6 + 1))]) (Bs16 ++ (B5_1 ++ ((b3, BK 1 (cl [vg8_0]) 67) :: (Bg8_0 ++ ([]))))) (lc rfl (lc rfl (lc rfl (lc rfl (lc rfl ln))))) (fun _ h => St.permI [2, 3, 0, 1] [[(b3, _)], Bg8_0, Bs16, B5_1] rfl (Kp.st (Kp.new hb69 (Kp.keep (Kp.segKeep (Kp.new hb7 (Kp.segKeep (Kp.segKeep Kp.nil)))))) _ h)) h ⟨vg8_0, v5_1, vs16, Bs16, B5_1, Bg8_0, rfl, rfl, hJs16, hJ5_1, hJBg8_0, hcBs16, hcB5_1, hcBg8_0⟩
              cases x2
              rintro _ _ _ ⟨rfl, rfl, rfl⟩
              replace h : once_k2b steps0 i6 fb3 o := h
              unfold once_k2b at h
              refine xq_blk_ret (xq_then_ret (xq_then_ret (xq_blk_ret (xq_then_ret ?_))))
              exact xq_out (r := (.inr ((bopen_F fb3 ((steps0[i6.toNat]!) 0) ((steps0[i6.toNat]!) 1)).2.2) : ((List (Int × (Nat → Int)))) ⊕ ((List (Int × (Nat → Int)))))) (e' := [(2, .bool false)]) (B4_1 ++ (B5_1 ++ ((b3, BK 1 (cl [vg8_0]) 67) :: (Bg8_0 ++ ([]))))) (lc rfl ln) (fun _ h => St.permI [2, 3, 0, 1] [[(b3, _)], Bg8_0, B4_1, B5_1] rfl (Kp.st (Kp.keep (Kp.segKeep (Kp.new hb7 (Kp.segKeep (Kp.segKeep Kp.nil))))) _ h)) h (by intro hh; cases hh) ⟨vg8_0, B4_1, B5_1, Bg8_0, rfl, rfl, rfl, hJBg8_0, hcB4_1, hcB5_1, hcBg8_0⟩
          · have hq9 : (decide ((bopen_F fb3 ((steps0[i6.toNat]!) 0) ((steps0[i6.toNat]!) 1)).2.1 = 0)) = false := hc9
            have hp9 : ¬ ((bopen_F fb3 ((steps0[i6.toNat]!) 0) ((steps0[i6.toNat]!) 1)).2.1 = 0) := of_decide_eq_false hq9
            rw [if_neg hp9] at h
            refine xw_cond_f rfl rfl (xw_skip (xq_then (xw_seq (xw_region ?_))))
            refine xq rfl trivial (o_mv rfl) ?_
            refine xq rfl trivial (o_ldW rfl ts28 (List.Mem.tail _ (List.Mem.tail _ (List.mem_append_right _ (List.Mem.head _))))) ?_
            refine xq rfl trivial (o_lkok (z := (fun _ => 0)) (k := (steps0[i6.toNat]!)) kt28 Try.underlying26 ze34 rfl rfl hJ5_1 (Pull.sub (.thereC _ (.thereC _ (.there _ (.thereC _ (.there _ (.here _ _)))))))) ?_
            refine xq rfl trivial (o_mv rfl) ?_
            refine xq rfl trivial (o_ext rfl rfl) ?_
            refine xq rfl trivial (o_ext rfl rfl) ?_
            refine xo rfl trivial (o_alloc ze34 rfl) ?_
            rintro _ _ ⟨b11, hb11, rfl, rfl⟩
            refine xq0 trivial (o_stWI rfl rfl ts34 (List.Mem.head _) (.here _ _ _ _)) ?_
            refine xq rfl trivial (o_as rfl) ?_
            refine xo_nil (xq_then (xw_seq (xw_seq ?_)))
            refine xw_cut [(0, _), (3, _), (4, _), (5, _), (6, _), (7, _), (9, _), (12, _)] (lc rfl (lc rfl (lc rfl (lc rfl (lc rfl (lc rfl (lc rfl (lc rfl ln)))))))) [(88, .bool ((decide ((code_F ((bopen_F fb3 ((steps0[i6.toNat]!) 0) ((steps0[i6.toNat]!) 1)).2.1)) = 15)) && ((!((mhas (eqN 2) answers5 (steps0[i6.toNat]!)))) || (!((eqN 28 ((bopen_F fb3 ((steps0[i6.toNat]!) 0) ((steps0[i6.toNat]!) 1)).1) (mget (eqN 2) answers5 (steps0[i6.toNat]!) (fun _ => 0))))))))] ?_ ?_
            · refine xw_region ?_
              refine xq rfl trivial (o_mv rfl) ?_
              refine xcallq rfl trivial kf10 rfl (fun w1 hw1 => code_c _ w1) ?_
              refine xq rfl trivial (o_eql rfl rfl) ?_
              refine xq rfl trivial (o_mv rfl) ?_
              refine xo_bool 80 rfl (fun hg19 => ?_) (fun hg19 => ?_)
              · have hq19 : (decide ((code_F ((bopen_F fb3 ((steps0[i6.toNat]!) 0) ((steps0[i6.toNat]!) 1)).2.1)) = 15)) = true := hg19
                have hp19 : (code_F ((bopen_F fb3 ((steps0[i6.toNat]!) 0) ((steps0[i6.toNat]!) 1)).2.1)) = 15 := of_decide_eq_true hq19
                refine xq rfl ⟨_, rfl, rfl⟩ (o_mv rfl) ?_
                refine xq rfl ⟨_, rfl, rfl⟩ (o_not rfl) ?_
                refine xq rfl ⟨_, rfl, rfl⟩ (o_mv rfl) ?_
                refine xo_bool 83 rfl (fun hg20 => ?_) (fun hg20 => ?_)
                · have hq20 : ((mhas (eqN 2) answers5 (steps0[i6.toNat]!))) = false := (bnT hg20)
                  have hp20 : ¬ (((mhas (eqN 2) answers5 (steps0[i6.toNat]!))) = true) := bne' hq20
                  refine xs rfl ⟨_, _, rfl, rfl, rfl⟩ (xs rfl ⟨_, _, rfl, rfl, rfl⟩ (xs rfl ⟨_, _, rfl, rfl, rfl⟩ ?_))
                  refine xq rfl ⟨_, rfl, rfl⟩ (o_pick_t rfl rfl) ?_
                  refine xq rfl trivial (o_pick_t rfl rfl) ?_
                  refine xo_nil ?_
                  exact xq_cut ((lce rfl (by first | rfl | (simp only [hq5, hq9, hq19, hq20, if_pos hp5, if_neg hp9, if_pos hp19, if_neg hp20, bS]; done) | (simp only [hq5, hq9, hq19, hq20, if_pos hp5, if_neg hp9, if_pos hp19, if_neg hp20, bS, reduceIte, Bool.false_eq_true]; done) | (simp [hp5, hp9, hp19, hp20]; done) | (simp_all; done)) (lc rfl (lc rfl (lc rfl (lc rfl (lc rfl (lc rfl (lc rfl (lc rfl ln)))))))))) (fun _ h => h)
                · have hq20 : ((mhas (eqN 2) answers5 (steps0[i6.toNat]!))) = true := (bnF hg20)
                  have hp20 : ((mhas (eqN 2) answers5 (steps0[i6.toNat]!))) = true := hq20
                  refine xq rfl ⟨_, rfl, rfl⟩ (o_ldW rfl ts34 (List.Mem.tail _ (List.Mem.head _))) ?_
                  refine xq rfl ⟨_, rfl, rfl⟩ (o_ldW rfl ts34 (List.Mem.head _)) ?_
                  refine xq rfl ⟨_, rfl, rfl⟩ (o_neqA eq34 rfl rfl) ?_
                  refine xq rfl ⟨_, rfl, rfl⟩ (o_pick_f rfl rfl) ?_
                  refine xq rfl trivial (o_pick_t rfl rfl) ?_
                  refine xo_nil ?_
                  exact xq_cut ((lce rfl (by first | rfl | (simp only [hq5, hq9, hq19, hq20, if_pos hp5, if_neg hp9, if_pos hp19, if_pos hp20, bS]; done) | (simp only [hq5, hq9, hq19, hq20, if_pos hp5, if_neg hp9, if_pos hp19, if_pos hp20, bS, reduceIte, Bool.false_eq_true]; done) | (simp [hp5, hp9, hp19, hp20]; done) | (simp_all; done)) (lc rfl (lc rfl (lc rfl (lc rfl (lc rfl (lc rfl (lc rfl (lc rfl ln)))))))))) (fun _ h => h)
              · have hq19 : (decide ((code_F ((bopen_F fb3 ((steps0[i6.toNat]!) 0) ((steps0[i6.toNat]!) 1)).2.1)) = 15)) = false := hg19
                have hp19 : ¬ ((code_F ((bopen_F fb3 ((steps0[i6.toNat]!) 0) ((steps0[i6.toNat]!) 1)).2.1)) = 15) := of_decide_eq_false hq19
                refine xs rfl ⟨_, _, rfl, rfl, rfl⟩ (xs rfl ⟨_, _, rfl, rfl, rfl⟩ (xs rfl ⟨_, _, rfl, rfl, rfl⟩ (xs rfl ⟨_, _, rfl, rfl, rfl⟩ (xs rfl ⟨_, _, rfl, rfl, rfl⟩ (xs rfl ⟨_, _, rfl, rfl, rfl⟩ (xs rfl ⟨_, _, rfl, rfl, rfl⟩ ?_))))))
                refine xq rfl trivial (o_pick_f rfl rfl) ?_
                refine xo_nil ?_
                exact xq_cut ((lce rfl (by first | rfl | (simp only [hq5, hq9, hq19, if_pos hp5, if_neg hp9, if_neg hp19, bS]; done) | (simp only [hq5, hq9, hq19, if_pos hp5, if_neg hp9, if_neg hp19, bS, reduceIte, Bool.false_eq_true]; done) | (simp [hp5, hp9, hp19]; done) | (simp_all; done)) (lc rfl (lc rfl (lc rfl (lc rfl (lc rfl (lc rfl (lc rfl (lc rfl ln)))))))))) (fun _ h => h)
            · refine xq_then ?_
              refine xw_bool 88 rfl (fun hc21 => ?_) (fun hc21 => ?_)
              · have hq21 : ((decide ((code_F ((bopen_F fb3 ((steps0[i6.toNat]!) 0) ((steps0[i6.toNat]!) 1)).2.1)) = 15)) && ((!((mhas (eqN 2) answers5 (steps0[i6.toNat]!)))) || (!((eqN 28 ((bopen_F fb3 ((steps0[i6.toNat]!) 0) ((steps0[i6.toNat]!) 1)).1) (mget (eqN 2) answers5 (steps0[i6.toNat]!) (fun _ => 0))))))) = true := hc21
                have hp21 : ((decide ((code_F ((bopen_F fb3 ((steps0[i6.toNat]!) 0) ((steps0[i6.toNat]!) 1)).2.1)) = 15)) && ((!((mhas (eqN 2) answers5 (steps0[i6.toNat]!)))) || (!((eqN 28 ((bopen_F fb3 ((steps0[i6.toNat]!) 0) ((steps0[i6.toNat]!) 1)).1) (mget (eqN 2) answers5 (steps0[i6.toNat]!) (fun _ => 0))))))) = true := hq21
                rw [if_pos hp21] at h
                refine xw_cond_t rfl rfl (xw_seq (xw_region ?_))
                refine xq rfl trivial (o_as rfl) ?_
                refine xo_nil (xq_then (xw_ret (xq_then_ret (xq_blk_ret (xq_then_ret ?_)))))
                exact xq_out (r := (.inr ((bopen_F fb3 ((steps0[i6.toNat]!) 0) ((steps0[i6.toNat]!) 1)).2.2) : ((List (Int × (Nat → Int)))) ⊕ ((List (Int × (Nat → Int)))))) (e' := [(2, .bool false)]) (B4_1 ++ (B5_1 ++ ((b3, BK 1 (cl [vg8_0]) 67) :: (Bg8_0 ++ ([]))))) (lc rfl ln) (fun _ h => St.permI [2, 3, 0, 1] [[(b3, _)], Bg8_0, B4_1, B5_1] rfl (Kp.st (Kp.new hb11 (Kp.new hb8 (Kp.keep (Kp.segKeep (Kp.new hb7 (Kp.segKeep (Kp.segKeep Kp.nil))))))) _ h)) h (by intro hh; cases hh) ⟨vg8_0, B4_1, B5_1, Bg8_0, rfl, rfl, rfl, hJBg8_0, hcB4_1, hcB5_1, hcBg8_0⟩
              · have hq21 : ((decide ((code_F ((bopen_F fb3 ((steps0[i6.toNat]!) 0) ((steps0[i6.toNat]!) 1)).2.1)) = 15)) && ((!((mhas (eqN 2) answers5 (steps0[i6.toNat]!)))) || (!((eqN 28 ((bopen_F fb3 ((steps0[i6.toNat]!) 0) ((steps0[i6.toNat]!) 1)).1) (mget (eqN 2) answers5 (steps0[i6.toNat]!) (fun _ => 0))))))) = false := hc21
                have hp21 : ¬ (((decide ((code_F ((bopen_F fb3 ((steps0[i6.toNat]!) 0) ((steps0[i6.toNat]!) 1)).2.1)) = 15)) && ((!((mhas (eqN 2) answers5 (steps0[i6.toNat]!)))) || (!((eqN 28 ((bopen_F fb3 ((steps0[i6.toNat]!) 0) ((steps0[i6.toNat]!) 1)).1) (mget (eqN 2) answers5 (steps0[i6.toNat]!) (fun _ => 0))))))) = true) := bne' hq21
                rw [if_neg hp21] at h
                refine xw_cond_f rfl rfl (xw_skip (xq_then (xw_seq (xw_region ?_))))
                refine xq rfl trivial (o_mv rfl) ?_
                refine xcallq rfl trivial kf10 rfl (fun w1 hw1 => code_c _ w1) ?_
                refine xq rfl trivial (o_eql rfl rfl) ?_
                refine xo_nil (xq_then ?_)
                refine xw_bool 91 rfl (fun hc22 => ?_) (fun hc22 => ?_)
                · have hq22 : (decide ((code_F ((bopen_F fb3 ((steps0[i6.toNat]!) 0) ((steps0[i6.toNat]!) 1)).2.1)) = 8)) = true := hc22
                  have hp22 : (code_F ((bopen_F fb3 ((steps0[i6.toNat]!) 0) ((steps0[i6.toNat]!) 1)).2.1)) = 8 := of_decide_eq_true hq22
                  rw [if_pos hp22] at h
                  refine xw_cond_t rfl rfl (xw_seq (xw_seq (xw_region ?_)))
                  refine xq rfl trivial (o_mv rfl) ?_
                  refine xq rfl trivial (o_mv rfl) ?_
                  refine xo_bool 93 rfl (fun hg23 => ?_) (fun hg23 => ?_)
                  · have hq23 : ((mhas (eqN 2) answers5 (steps0[i6.toNat]!))) = true := hg23
                    have hp23 : ((mhas (eqN 2) answers5 (steps0[i6.toNat]!))) = true := hq23
                    rw [if_pos hp23] at h
                    refine xs rfl ⟨_, _, rfl, rfl, rfl⟩ (xs rfl ⟨_, _, rfl, rfl, rfl⟩ (xs rfl ⟨_, _, rfl, rfl, rfl⟩ (xs rfl ⟨_, _, rfl, rfl, rfl⟩ (xs rfl ⟨_, _, rfl, rfl, rfl⟩ (xs rfl ⟨_, _, rfl, rfl, rfl⟩ (xs rfl ⟨_, _, rfl, rfl, rfl⟩ (xs rfl ⟨_, _, rfl, rfl, rfl⟩ ?_)))))))
                    refine xq rfl trivial (o_pick_t rfl rfl) ?_
                    refine xq rfl trivial (o_mv rfl) ?_
                    refine xs rfl ⟨_, _, rfl, rfl, rfl⟩ (xs rfl ⟨_, _, rfl, rfl, rfl⟩ (xs rfl ⟨_, _, rfl, rfl, rfl⟩ (xs rfl ⟨_, _, rfl, rfl, rfl⟩ (xs rfl ⟨_, _, rfl, rfl, rfl⟩ (xs rfl ⟨_, _, rfl, rfl, rfl⟩ (xs rfl ⟨_, _, rfl, rfl, rfl⟩ (xs rfl ⟨_, _, rfl, rfl, rfl⟩ ?_)))))))
                    refine xq rfl trivial (o_pick_t rfl rfl) ?_
                    refine xo_nil (xq_then (xw_cond_t rfl rfl (xw_seq (xw_region ?_))))
                    refine xq rfl trivial (o_as rfl) ?_
                    refine xo_nil (xq_then (xw_ret (xq_then_ret (xq_blk_ret (xq_then_ret ?_)))))
                    exact xq_out (r := (.inr ((bopen_F fb3 ((steps0[i6.toNat]!) 0) ((steps0[i6.toNat]!) 1)).2.2) : ((List (Int × (Nat → Int)))) ⊕ ((List (Int × (Nat → Int)))))) (e' := [(2, .bool false)]) (B4_1 ++ (B5_1 ++ ((b3, BK 1 (cl [vg8_0]) 67) :: (Bg8_0 ++ ([]))))) (lc rfl ln) (fun _ h => St.permI [2, 3, 0, 1] [[(b3, _)], Bg8_0, B4_1, B5_1] rfl (Kp.st (Kp.new hb11 (Kp.new hb8 (Kp.keep (Kp.segKeep (Kp.new hb7 (Kp.segKeep (Kp.segKeep Kp.nil))))))) _ h)) h (by intro hh; cases hh) ⟨vg8_0, B4_1, B5_1, Bg8_0, rfl, rfl, rfl, hJBg8_0, hcB4_1, hcB5_1, hcBg8_0⟩
                  · have hq23 : ((mhas (eqN 2) answers5 (steps0[i6.toNat]!))) = false := hg23
                    have hp23 : ¬ (((mhas (eqN 2) answers5 (steps0[i6.toNat]!))) = true) := bne' hq23
                    rw [if_neg hp23] at h
                    refine xq rfl ⟨_, rfl, rfl⟩ (o_mv rfl) ?_
                    first | refine xq rfl ⟨_, rfl, rfl⟩ (o_fa0 fl28_0 rfl) ?_ | refine xq rfl ⟨_, rfl, rfl⟩ (o_fa fl28_0 rfl) ?_
                    refine xq rfl ⟨_, rfl, rfl⟩ (o_ldI (v := (steps0[i6.toNat]!) 0) rfl ts3 (List.Mem.tail _ (List.Mem.tail _ (List.Mem.tail _ (List.mem_append_right _ (List.Mem.head _))))) (by omega) rfl) ?_
                    first | refine xq rfl ⟨_, rfl, rfl⟩ (o_fa0 fl28_1 rfl) ?_ | refine xq rfl ⟨_, rfl, rfl⟩ (o_fa fl28_1 rfl) ?_
                    refine xq rfl ⟨_, rfl, rfl⟩ (o_ldI (v := (steps0[i6.toNat]!) 1) rfl ts3 (List.Mem.tail _ (List.Mem.tail _ (List.Mem.tail _ (List.mem_append_right _ (List.Mem.head _))))) (by omega) rfl) ?_
                    refine xcallq rfl ⟨_, rfl, rfl⟩ kf12 rfl (fun w1 hw1 => answer_c _ _ w1) ?_
                    refine xo rfl ⟨_, rfl, rfl⟩ (OT.st (fun _ h => St.permI [2, 3, 0, 1, 4, 5, 6] [[(b11, _)], [(b8, _)], [(b3, _)], Bg8_0, [(b7, _)], B4_1, B5_1] rfl h) (ot_callF (Cs := [[(b3, _)], Bg8_0]) (Rs := [[(b11, _)], [(b8, _)], [(b7, _)], B4_1, B5_1]) kf11 rfl (fun w1 hw1 => bclose_c _ _ _ _ _ w1 hJBg8_0 (St.hasC hw1)) (fun _ _ _ h => h.1))) ?_
                    rintro _ _ ⟨w1, _, rfl, hle, -, vg25_0, Bg25_0, rfl, rfl, hJBg25_0, hcBg25_0⟩
                    replace hcBg25_0 := Cov.trans hcBg8_0 (Cov.base (w0 := w) hcBg25_0 hle)
                    refine xo_st ((b3, BK 1 (cl [vg25_0]) 67) :: (Bg25_0 ++ ((b11, BK 28 (iv (mget (eqN 2) answers5 (steps0[i6.toNat]!) (fun _ => 0))) 34) :: ((b8, BK 28 (iv ((bopen_F fb3 ((steps0[i6.toNat]!) 0) ((steps0[i6.toNat]!) 1)).1)) 34) :: ((b7, BK 2 (iv (steps0[i6.toNat]!)) 28) :: (B4_1 ++ (B5_1 ++ ([])))))))) (fun _ h => h) ?_
                    refine xq rfl ⟨_, rfl, rfl⟩ (o_neE Try.underlying36 rfl (fun _ => rfl) rfl rfl) ?_
                    refine xq rfl trivial (o_pick_f rfl rfl) ?_
                    refine xq rfl trivial (o_mv rfl) ?_
                    refine xo_bool 103 rfl (fun hg26 => ?_) (fun hg26 => ?_)
                    · have hq26 : (decide ((bclose_F ((bopen_F fb3 ((steps0[i6.toNat]!) 0) ((steps0[i6.toNat]!) 1)).2.2) (answer_F ((steps0[i6.toNat]!) 0) ((steps0[i6.toNat]!) 1))).1 = 0)) = false := (bnT hg26)
                      have hp26 : ¬ ((bclose_F ((bopen_F fb3 ((steps0[i6.toNat]!) 0) ((steps0[i6.toNat]!) 1)).2.2) (answer_F ((steps0[i6.toNat]!) 0) ((steps0[i6.toNat]!) 1))).1 = 0) := of_decide_eq_false hq26
                      rw [if_neg hp26] at h
                      refine xs rfl ⟨_, _, rfl, rfl, rfl⟩ (xs rfl ⟨_, _, rfl, rfl, rfl⟩ (xs rfl ⟨_, _, rfl, rfl, rfl⟩ (xs rfl ⟨_, _, rfl, rfl, rfl⟩ (xs rfl ⟨_, _, rfl, rfl, rfl⟩ (xs rfl ⟨_, _, rfl, rfl, rfl⟩ (xs rfl ⟨_, _, rfl, rfl, rfl⟩ (xs rfl ⟨_, _, rfl, rfl, rfl⟩ ?_)))))))
                      refine xq rfl trivial (o_pick_t rfl rfl) ?_
                      refine xo_nil (xq_then (xw_cond_t rfl rfl (xw_seq (xw_region ?_))))
                      refine xq rfl trivial (o_as rfl) ?_
                      refine xo_nil (xq_then (xw_ret (xq_then_ret (xq_blk_ret (xq_then_ret ?_)))))
                      exact xq_out (r := (.inr ((bclose_F ((bopen_F fb3 ((steps0[i6.toNat]!) 0) ((steps0[i6.toNat]!) 1)).2.2) (answer_F ((steps0[i6.toNat]!) 0) ((steps0[i6.toNat]!) 1))).2) : ((List (Int × (Nat → Int)))) ⊕ ((List (Int × (Nat → Int)))))) (e' := [(2, .bool false)]) (B4_1 ++ (B5_1 ++ ((b3, BK 1 (cl [vg25_0]) 67) :: (Bg25_0 ++ ([]))))) (lc rfl ln) (fun _ h => St.permI [2, 3, 0, 1] [[(b3, _)], Bg25_0, B4_1, B5_1] rfl (Kp.st (Kp.keep (Kp.segKeep (Kp.new hb11 (Kp.new hb8 (Kp.new hb7 (Kp.segKeep (Kp.segKeep Kp.nil))))))) _ h)) h (by intro hh; cases hh) ⟨vg25_0, B4_1, B5_1, Bg25_0, rfl, rfl, rfl, hJBg25_0, hcB4_1, hcB5_1, hcBg25_0⟩
                    · have hq26 : (decide ((bclose_F ((bopen_F fb3 ((steps0[i6.toNat]!) 0) ((steps0[i6.toNat]!) 1)).2.2) (answer_F ((steps0[i6.toNat]!) 0) ((steps0[i6.toNat]!) 1))).1 = 0)) = true := (bnF hg26)
                      have hp26 : (bclose_F ((bopen_F fb3 ((steps0[i6.toNat]!) 0) ((steps0[i6.toNat]!) 1)).2.2) (answer_F ((steps0[i6.toNat]!) 0) ((steps0[i6.toNat]!) 1))).1 = 0 := of_decide_eq_true hq26
                      rw [if_pos hp26] at h
                      refine xq rfl ⟨_, rfl, rfl⟩ (o_mv rfl) ?_
                      first | refine xq rfl ⟨_, rfl, rfl⟩ (o_fa0 fl28_0 rfl) ?_ | refine xq rfl ⟨_, rfl, rfl⟩ (o_fa fl28_0 rfl) ?_
                      refine xq rfl ⟨_, rfl, rfl⟩ (o_ldI (v := (steps0[i6.toNat]!) 0) rfl ts3 (List.Mem.tail _ (List.mem_append_right _ (List.Mem.tail _ (List.Mem.tail _ (List.Mem.head _))))) (by omega) rfl) ?_
                      first | refine xq rfl ⟨_, rfl, rfl⟩ (o_fa0 fl28_1 rfl) ?_ | refine xq rfl ⟨_, rfl, rfl⟩ (o_fa fl28_1 rfl) ?_
                      refine xq rfl ⟨_, rfl, rfl⟩ (o_ldI (v := (steps0[i6.toNat]!) 1) rfl ts3 (List.Mem.tail _ (List.mem_append_right _ (List.Mem.tail _ (List.Mem.tail _ (List.Mem.head _))))) (by omega) rfl) ?_
                      refine xq rfl ⟨_, rfl, rfl⟩ (o_build fk34 ze34 (.int fl34_0 rfl rfl (.int fl34_1 rfl rfl (.int fl34_3 rfl rfl (.int fl34_4 rfl rfl (.int fl34_7 rfl rfl (.nil _))))))) ?_
                      refine xo rfl ⟨_, rfl, rfl⟩ (OT.st (fun _ h => h) (ot_callF (Cs := [[(b3, _)], Bg25_0]) (Rs := [[(b11, _)], [(b8, _)], [(b7, _)], B4_1, B5_1]) kf11 rfl (fun w1 hw1 => bclose_c _ _ _ _ _ w1 hJBg25_0 (St.hasC hw1)) (fun _ _ _ h => h.1))) ?_
                      rintro _ _ ⟨w1, _, rfl, hle, -, vg28_0, Bg28_0, rfl, rfl, hJBg28_0, hcBg28_0⟩
                      replace hcBg28_0 := Cov.trans hcBg25_0 (Cov.base (w0 := w) hcBg28_0 hle)
                      refine xo_st ((b3, BK 1 (cl [vg28_0]) 67) :: (Bg28_0 ++ ((b11, BK 28 (iv (mget (eqN 2) answers5 (steps0[i6.toNat]!) (fun _ => 0))) 34) :: ((b8, BK 28 (iv ((bopen_F fb3 ((steps0[i6.toNat]!) 0) ((steps0[i6.toNat]!) 1)).1)) 34) :: ((b7, BK 2 (iv (steps0[i6.toNat]!)) 28) :: (B4_1 ++ (B5_1 ++ ([])))))))) (fun _ h => h) ?_
                      refine xq rfl ⟨_, rfl, rfl⟩ (o_eqE Try.underlying36 rfl (fun _ => rfl) rfl rfl) ?_
                      refine xq rfl trivial (o_pick_f rfl rfl) ?_
                      refine xo_nil (xq_then ?_)
                      refine xw_bool 112 rfl (fun hc29 => ?_) (fun hc29 => ?_)
                      · have hq29 : (decide ((bclose_F ((bclose_F ((bopen_F fb3 ((steps0[i6.toNat]!) 0) ((steps0[i6.toNat]!) 1)).2.2) (answer_F ((steps0[i6.toNat]!) 0) ((steps0[i6.toNat]!) 1))).2) (updI (updI (updI (updI (updI (fun _ => 0) 0 3) 1 2) 3 ((steps0[i6.toNat]!) 0)) 4 ((steps0[i6.toNat]!) 1)) 8 7)).1 = 0)) = true := hc29
                        have hp29 : (bclose_F ((bclose_F ((bopen_F fb3 ((steps0[i6.toNat]!) 0) ((steps0[i6.toNat]!) 1)).2.2) (answer_F ((steps0[i6.toNat]!) 0) ((steps0[i6.toNat]!) 1))).2) (updI (updI (updI (updI (updI (fun _ => 0) 0 3) 1 2) 3 ((steps0[i6.toNat]!) 0)) 4 ((steps0[i6.toNat]!) 1)) 8 7)).1 = 0 := of_decide_eq_true hq29
                        rw [if_pos hp29] at h
                        refine xw_cond_t rfl rfl (xw_seq (xw_region ?_))
                        refine xq rfl trivial (o_as rfl) ?_
                        refine xo_nil (xq_then (xw_ret (xq_then_ret (xq_blk_ret (xq_then_ret ?_)))))
                        exact xq_out (r := (.inr ((bclose_F ((bclose_F ((bopen_F fb3 ((steps0[i6.toNat]!) 0) ((steps0[i6.toNat]!) 1)).2.2) (answer_F ((steps0[i6.toNat]!) 0) ((steps0[i6.toNat]!) 1))).2) (updI (updI (updI (updI (updI (fun _ => 0) 0 3) 1 2) 3 ((steps0[i6.toNat]!) 0)) 4 ((steps0[i6.toNat]!) 1)) 8 7)).2) : ((List (Int × (Nat → Int)))) ⊕ ((List (Int × (Nat → Int)))))) (e' := [(2, .bool false)]) (B4_1 ++ (B5_1 ++ ((b3, BK 1 (cl [vg28_0]) 67) :: (Bg28_0 ++ ([]))))) (lc rfl ln) (fun _ h => St.permI [2, 3, 0, 1] [[(b3, _)], Bg28_0, B4_1, B5_1] rfl (Kp.st (Kp.keep (Kp.segKeep (Kp.new hb11 (Kp.new hb8 (Kp.new hb7 (Kp.segKeep (Kp.segKeep Kp.nil))))))) _ h)) h (by intro hh; cases hh) ⟨vg28_0, B4_1, B5_1, Bg28_0, rfl, rfl, rfl, hJBg28_0, hcB4_1, hcB5_1, hcBg28_0⟩
                      · have hq29 : (decide ((bclose_F ((bclose_F ((bopen_F fb3 ((steps0[i6.toNat]!) 0) ((steps0[i6.toNat]!) 1)).2.2) (answer_F ((steps0[i6.toNat]!) 0) ((steps0[i6.toNat]!) 1))).2) (updI (updI (updI (updI (updI (fun _ => 0) 0 3) 1 2) 3 ((steps0[i6.toNat]!) 0)) 4 ((steps0[i6.toNat]!) 1)) 8 7)).1 = 0)) = false := hc29
                        have hp29 : ¬ ((bclose_F ((bclose_F ((bopen_F fb3 ((steps0[i6.toNat]!) 0) ((steps0[i6.toNat]!) 1)).2.2) (answer_F ((steps0[i6.toNat]!) 0) ((steps0[i6.toNat]!) 1))).2) (updI (updI (updI (updI (updI (fun _ => 0) 0 3) 1 2) 3 ((steps0[i6.toNat]!) 0)) 4 ((steps0[i6.toNat]!) 1)) 8 7)).1 = 0) := of_decide_eq_false hq29
                        rw [if_neg hp29] at h
                        refine xw_cond_f rfl rfl (xw_skip (xq_then ?_))
                        refine xd_start (by kernel_rfl) (by kernel_rfl) (fun hok => ?_)
                        refine xd_b hok 0 [(5, _)] ([]) rsN rfl rfl rfl (lc rfl ln) (by kernel_rfl) trivial (fun H' hy hK => o_mv rfl) ?_
                        refine xd_b hok 1 [(7, _)] ((b7, BK 2 (iv (steps0[i6.toNat]!)) 28) :: ([])) (rsC (List.Mem.tail _ (List.mem_append_right _ (List.Mem.tail _ (List.Mem.tail _ (List.Mem.head _))))) rsN) rfl rfl rfl (lc rfl ln) (by kernel_rfl) trivial (fun H' hy hK => o_ldW rfl ts28 (hy _ (List.Mem.head _))) ?_
                        first | refine xd_b hok 2 [(7, _)] ([]) rsN rfl rfl rfl (lc rfl ln) (by kernel_rfl) trivial (fun H' hy hK => o_fa0 fl28_0 rfl) ?_ | refine xd_b hok 2 [(7, _)] ([]) rsN rfl rfl rfl (lc rfl ln) (by kernel_rfl) trivial (fun H' hy hK => o_fa fl28_0 rfl) ?_
                        refine xd_b hok 3 [(115, _)] ((b7, BK 2 (iv (steps0[i6.toNat]!)) 28) :: ([])) (rsC (List.Mem.tail _ (List.mem_append_right _ (List.Mem.tail _ (List.Mem.tail _ (List.Mem.head _))))) rsN) rfl rfl rfl (lc rfl ln) (by kernel_rfl) trivial (fun H' hy hK => o_ldI (v := (steps0[i6.toNat]!) 0) rfl ts3 (hy _ (List.Mem.head _)) (by omega) rfl) ?_
                        first | refine xd_b hok 4 [(7, _)] ([]) rsN rfl rfl rfl (lc rfl ln) (by kernel_rfl) trivial (fun H' hy hK => o_fa0 fl28_1 rfl) ?_ | refine xd_b hok 4 [(7, _)] ([]) rsN rfl rfl rfl (lc rfl ln) (by kernel_rfl) trivial (fun H' hy hK => o_fa fl28_1 rfl) ?_
                        refine xd_b hok 5 [(117, _)] ((b7, BK 2 (iv (steps0[i6.toNat]!)) 28) :: ([])) (rsC (List.Mem.tail _ (List.mem_append_right _ (List.Mem.tail _ (List.Mem.tail _ (List.Mem.head _))))) rsN) rfl rfl rfl (lc rfl ln) (by kernel_rfl) trivial (fun H' hy hK => o_ldI (v := (steps0[i6.toNat]!) 1) rfl ts3 (hy _ (List.Mem.head _)) (by omega) rfl) ?_
                        refine xd_b hok 6 [(116, _), (118, _)] ([]) rsN rfl rfl rfl (lc rfl (lc rfl ln)) (by kernel_rfl) trivial (fun H' hy hK => o_callq kf12 rfl (fun w1 hw1 => answer_c _ _ w1)) ?_
                        refine xd_fl0 hok 0 7 [(113, _), (114, _), (119, _)] rfl rfl (by kernel_rfl) (by kernel_rfl) (lc rfl (lc rfl (lc rfl ln))) (by kernel_rfl) trivial (OT.push (fun q_ => (b3, BK 1 (cl [vg28_0]) 67) :: (Bg28_0 ++ ((b11, BK 28 (iv (mget (eqN 2) answers5 (steps0[i6.toNat]!) (fun _ => 0))) 34) :: ((b8, BK 28 (iv ((bopen_F fb3 ((steps0[i6.toNat]!) 0) ((steps0[i6.toNat]!) 1)).1)) 34) :: ((b7, BK 2 (iv (steps0[i6.toNat]!)) 28) :: (B4_1 ++ (q_ ++ ([])))))))) (fun _ => (.thereC _ (.there _ (.thereC _ (.thereC _ (.thereC _ (.there _ (.here _ _)))))))) (OT.st (fun _ h => Pull.st (.thereC _ (.there _ (.thereC _ (.thereC _ (.thereC _ (.there _ (.here _ _))))))) h) (o_mset (k := (steps0[i6.toNat]!)) (e := (answer_F ((steps0[i6.toNat]!) 0) ((steps0[i6.toNat]!) 1))) kt28 Try.underlying26 rfl rfl rfl hJ5_1))) ?_
                        rintro _ _ ⟨Bs30, rfl, hns30, hJs30⟩
                        have hcBs30 := Cov.trans hcB5_1 hns30
                        refine ⟨(Ks.consK (by simp) (Ks.segK (fun k hk => by simp [hk]) (Ks.consK (by simp) (Ks.consK (by simp) (Ks.consK (by simp) (Ks.segK (fun k hk => by simp [hk]) (Ks.segN hcBs30 Ks.nil))))))), ?_⟩
                        refine xd_show (H' := (b3, BK 1 (cl [vg28_0]) 67) :: (Bg28_0 ++ ((b11, BK 28 (iv (mget (eqN 2) answers5 (steps0[i6.toNat]!) (fun _ => 0))) 34) :: ((b8, BK 28 (iv ((bopen_F fb3 ((steps0[i6.toNat]!) 0) ((steps0[i6.toNat]!) 1)).1)) 34) :: ((b7, BK 2 (iv (steps0[i6.toNat]!)) 28) :: (B4_1 ++ (Bs30 ++ ([])))))))) rfl ?_
                        refine xd_end hok (by kernel_rfl) ?_
                        refine xq_blk 1 ?_
                        refine xq_then (xw_region ?_)
                        refine xq rfl trivial (o_mv rfl) ?_
                        obtain ⟨ho31, h⟩ := h
                        refine xq rfl trivial (o_add rfl rfl rfl ho31) ?_
                        refine xq rfl trivial (o_as rfl) ?_
                        refine xo_nil ?_
                        exact xq_next (s' := ((opened4, mset (eqN 2) answers5 (steps0[i6.toNat]!) (answer_F ((steps0[i6.toNat]!) 0) ((steps0[i6.toNat]!) 1)), i6 + 1, (bclose_F ((bclose_F ((bopen_F fb3 ((steps0[i6.toNat]!) 0) ((steps0[i6.toNat]!) 1)).2.2) (answer_F ((steps0[i6.toNat]!) 0) ((steps0[i6.toNat]!) 1))).2) (updI (updI (updI (updI (updI (fun _ => 0) 0 3) 1 2) 3 ((steps0[i6.toNat]!) 0)) 4 ((steps0[i6.toNat]!) 1)) 8 7)).2) : (List (Nat → Int)) × (List ((Nat → Int) × (Nat → Int))) × Int × (List (Int × (Nat → Int))))) (e' := [(0, v0), (3, .pointer (some ⟨b3, 0, none⟩)), (4, v4_1), (5, v5_1), (6, .int .i64 (i6 + 1))]) (B4_1 ++ (Bs30 ++ ((b3, BK 1 (cl [vg28_0]) 67) :: (Bg28_0 ++ ([]))))) (lc rfl (lc rfl (lc rfl (lc rfl (lc rfl ln))))) (fun _ h => St.permI [2, 3, 0, 1] [[(b3, _)], Bg28_0, B4_1, Bs30] rfl (Kp.st (Kp.keep (Kp.segKeep (Kp.new hb11 (Kp.new hb8 (Kp.new hb7 (Kp.segKeep (Kp.segKeep Kp.nil))))))) _ h)) h ⟨vg28_0, v5_1, v4_1, B4_1, Bs30, Bg28_0, rfl, rfl, hJ4_1, hJs30, hJBg28_0, hcB4_1, hcBs30, hcBg28_0⟩
                · have hq22 : (decide ((code_F ((bopen_F fb3 ((steps0[i6.toNat]!) 0) ((steps0[i6.toNat]!) 1)).2.1)) = 8)) = false := hc22
                  have hp22 : ¬ ((code_F ((bopen_F fb3 ((steps0[i6.toNat]!) 0) ((steps0[i6.toNat]!) 1)).2.1)) = 8) := of_decide_eq_false hq22
                  rw [if_neg hp22] at h
                  refine xw_cond_f rfl rfl (xw_skip ?_)
                  refine xq_blk 1 ?_
                  refine xq_then (xw_region ?_)
                  refine xq rfl trivial (o_mv rfl) ?_
                  obtain ⟨ho32, h⟩ := h
                  refine xq rfl trivial (o_add rfl rfl rfl ho32) ?_
                  refine xq rfl trivial (o_as rfl) ?_
                  refine xo_nil ?_
                  exact xq_next (s' := ((opened4, answers5, i6 + 1, (bopen_F fb3 ((steps0[i6.toNat]!) 0) ((steps0[i6.toNat]!) 1)).2.2) : (List (Nat → Int)) × (List ((Nat → Int) × (Nat → Int))) × Int × (List (Int × (Nat → Int))))) (e' := [(0, v0), (3, .pointer (some ⟨b3, 0, none⟩)), (4, v4_1), (5, v5_1), (6, .int .i64 (i6 + 1))]) (B4_1 ++ (B5_1 ++ ((b3, BK 1 (cl [vg8_0]) 67) :: (Bg8_0 ++ ([]))))) (lc rfl (lc rfl (lc rfl (lc rfl (lc rfl ln))))) (fun _ h => St.permI [2, 3, 0, 1] [[(b3, _)], Bg8_0, B4_1, B5_1] rfl (Kp.st (Kp.new hb11 (Kp.new hb8 (Kp.keep (Kp.segKeep (Kp.new hb7 (Kp.segKeep (Kp.segKeep Kp.nil))))))) _ h)) h ⟨vg8_0, v5_1, v4_1, B4_1, B5_1, Bg8_0, rfl, rfl, hJ4_1, hJ5_1, hJBg8_0, hcB4_1, hcB5_1, hcBg8_0⟩
        · have hq5 : (decide (i6 < (steps0.length : Int))) = false := hc5
          have hp5 : ¬ (i6 < (steps0.length : Int)) := of_decide_eq_false hq5
          rw [if_neg hp5] at h
          refine xw_cond_f rfl rfl (xw_exit (xq_then_exit ?_))
          exact xq_out (r := (.inl fb3 : ((List (Int × (Nat → Int)))) ⊕ ((List (Int × (Nat → Int)))))) (e' := []) (B4_1 ++ (B5_1 ++ ((b3, BK 1 (cl [vb3_0_1]) 67) :: (Bb3_0_1 ++ ([]))))) ln (fun _ h => h) h (by intro hh; cases hh) ⟨vb3_0_1, B4_1, B5_1, Bb3_0_1, rfl, rfl, rfl, hJb3_0_1, hcB4_1, hcB5_1, hcBb3_0_1⟩
      · rcases x1 with fb3 | fb3
        · rintro _ _ _ ⟨vb3_0_1o, B4_1o, B5_1o, Bb3_0_1o, rfl, rfl, rfl, hJb3_0_1o, hcB4_1o, hcB5_1o, hcBb3_0_1o⟩
          replace h : once_k1a fb3 r := h
          unfold once_k1a at h
          refine xq_blk_eq ?_
          refine xq_then (xw_seq (xw_region ?_))
          refine xq rfl trivial (o_as rfl) ?_
          refine xo_nil (xq_then (xw_ret ?_))
          subst h
          exact con_ret1 (.inl rfl) Try.results3 rfl [] (Kp.st (Kp.segNew (Cov.fresh hcB4_1o) (Kp.segNew (Cov.fresh hcB5_1o) (Kp.new hb3 (Kp.segNew (Cov.fresh hcBb3_0_1o) Kp.nil))))) (⟨rfl, rfl⟩)
        rintro _ _ _ ⟨vb3_0_1o, B4_1o, B5_1o, Bb3_0_1o, rfl, rfl, rfl, hJb3_0_1o, hcB4_1o, hcB5_1o, hcBb3_0_1o⟩
        replace h : once_k1b fb3 r := h
        unfold once_k1b at h
        refine xq_blk_ret (xq_then_ret ?_)
        subst h
        exact con_ret1 (.inl rfl) Try.results3 rfl [] (Kp.st (Kp.segNew (Cov.fresh hcB4_1o) (Kp.segNew (Cov.fresh hcB5_1o) (Kp.new hb3 (Kp.segNew (Cov.fresh hcBb3_0_1o) Kp.nil))))) (⟨rfl, rfl⟩)

theorem apart_con (acts0 : (List (Nat → Int))) (tx1 : Int) (v0 : Value) (w : World) (hs0 : SL w 31 iv v0 acts0) (r : Bool) (h : apart_S acts0 tx1 r) : Con Try.prog 4 #[v0, .int .u8 tx1] w (Is (.bool r) []) := by
  unfold apart_S at h
  refine con_enter (n := 160) [(0, _), (1, _)] Try.func4 rfl Try.ntmps4 rfl (lac rfl (lac rfl lan)) ?_
  refine xw_seq (xw_region ?_)
  refine xq rfl trivial (o_as rfl) ?_
  refine xo_nil (xq_then (xw_seq (xw_seq (xw_region ?_))))
  refine xcallq rfl trivial kf7 rfl (fun w1 hw1 => alive13_c w1) ?_
  refine xq rfl trivial (o_not rfl) ?_
  refine xo_nil (xq_then ?_)
  refine xw_bool 24 rfl (fun hc1 => ?_) (fun hc1 => ?_)
  · have hq1 : (alive13_F) = false := (bnT hc1)
    have hp1 : ¬ ((alive13_F) = true) := bne' hq1
    rw [if_neg hp1] at h
    refine xw_cond_t rfl rfl (xw_seq (xw_region ?_))
    refine xq rfl trivial (o_as rfl) ?_
    refine xo_nil (xq_then (xw_ret (xq_then_ret ?_)))
    subst h
    exact con_ret1 (.inl rfl) Try.results4 rfl [] (fun _ h => h) (⟨rfl, rfl⟩)
  · have hq1 : (alive13_F) = true := (bnF hc1)
    have hp1 : (alive13_F) = true := hq1
    rw [if_pos hp1] at h
    refine xw_cond_f rfl rfl (xw_skip (xq_then (xw_seq (xw_seq (xw_region ?_)))))
    refine xq rfl trivial (o_mv rfl) ?_
    refine xq rfl trivial (o_lenL rfl Try.underlying44 rfl (SL.val hs0)) ?_
    refine xq rfl trivial (o_gtr rfl rfl) ?_
    refine xo_nil (xq_then ?_)
    refine xw_bool 27 rfl (fun hc2 => ?_) (fun hc2 => ?_)
    · have hq2 : (decide (60 < (acts0.length : Int))) = true := hc2
      have hp2 : 60 < (acts0.length : Int) := of_decide_eq_true hq2
      rw [if_pos hp2] at h
      refine xw_cond_t rfl rfl (xw_seq (xw_region ?_))
      refine xq rfl trivial (o_as rfl) ?_
      refine xo_nil (xq_then (xw_ret (xq_then_ret ?_)))
      subst h
      exact con_ret1 (.inl rfl) Try.results4 rfl [] (fun _ h => h) (⟨rfl, rfl⟩)
    · have hq2 : (decide (60 < (acts0.length : Int))) = false := hc2
      have hp2 : ¬ (60 < (acts0.length : Int)) := of_decide_eq_false hq2
      rw [if_neg hp2] at h
      refine xw_cond_f rfl rfl (xw_skip (xq_then (xw_seq (xw_region ?_))))
      refine xq rfl trivial (o_mv rfl) ?_
      refine xq rfl trivial (o_conv rfl Try.underlying5 Try.underlying3) ?_
      refine xq rfl trivial (o_rem rfl rfl (by decide) rfl) ?_
      obtain ⟨ho3, h⟩ := h
      refine xq rfl trivial (o_add rfl rfl rfl ho3) ?_
      refine xq rfl trivial (o_as rfl) ?_
      refine xo_nil (xq_then (xw_seq (xw_region ?_)))
      refine xoR rfl trivial (ot_in (l := []) kf8 rfl Try.func8 rfl Try.ntmps8 rfl lan ?_)
      refine xw_seq (xw_region ?_)
      refine xq rfl trivial (o_as rfl) ?_
      refine xo_nil (xq_then (xw_seq (xw_region ?_)))
      refine xo rfl trivial (o_mkmap (α := (Nat → Int)) (cv := (kA 29)) kt3 Try.underlying65) ?_
      rintro vs4 _ ⟨Bs4, rfl, hns4, hJs4⟩
      have hcBs4 := hns4
      refine xq rfl trivial (o_buildC [vs4] fk67 ze67 (.one fl67_0 rfl rfl (MJ.one hJs4) (.nil _)) (fun i hi => match i, hi with | 0, _ => rfl | q + 1, h => absurd h (by omega))) ?_
      refine xo rfl trivial (o_boxC [vs4] rfl (fun i hi => match i, hi with | 0, _ => rfl | q + 1, h => absurd h (by omega))) ?_
      rintro _ _ ⟨b3, hb3, rfl, rfl⟩
      refine xq rfl trivial (o_as rfl) ?_
      refine xo_nil (xq_then (xw_ret ?_))
      refine con_ret1 (.inl rfl) Try.results8 rfl _ (fun _ h => h) (?_)
      refine xoR rfl trivial (ot_in (l := []) kf8 rfl Try.func8 rfl Try.ntmps8 rfl lan ?_)
      refine xw_seq (xw_region ?_)
      refine xq rfl trivial (o_as rfl) ?_
      refine xo_nil (xq_then (xw_seq (xw_region ?_)))
      refine xo rfl trivial (o_mkmap (α := (Nat → Int)) (cv := (kA 29)) kt3 Try.underlying65) ?_
      rintro vs5 _ ⟨Bs5, rfl, hns5, hJs5⟩
      have hcBs5 := hns5
      refine xq rfl trivial (o_buildC [vs5] fk67 ze67 (.one fl67_0 rfl rfl (MJ.one hJs5) (.nil _)) (fun i hi => match i, hi with | 0, _ => rfl | q + 1, h => absurd h (by omega))) ?_
      refine xo rfl trivial (o_boxC [vs5] rfl (fun i hi => match i, hi with | 0, _ => rfl | q + 1, h => absurd h (by omega))) ?_
      rintro _ _ ⟨b3a, hb3a, rfl, rfl⟩
      refine xq rfl trivial (o_as rfl) ?_
      refine xo_nil (xq_then (xw_ret ?_))
      refine con_ret1 (.inl rfl) Try.results8 rfl _ (fun _ h => h) (?_)
      refine xq rfl trivial (o_as rfl) ?_
      refine xq rfl trivial (o_as rfl) ?_
      refine xo_nil (xq_then (xw_seq (xw_seq ?_)))
      refine xw_cut [(0, _), (5, _), (6, _), (7, _)] (lc rfl (lc rfl (lc rfl (lc rfl ln)))) [(39, .bool false)] ?_ ?_
      · refine xw_region ?_
        refine xq rfl trivial (o_mv rfl) ?_
        refine xq rfl trivial (o_eqn Try.underlying24 rfl rfl rfl rfl) ?_
        refine xq rfl trivial (o_mv rfl) ?_
        refine xq rfl ⟨_, rfl, rfl⟩ (o_mv rfl) ?_
        refine xq rfl ⟨_, rfl, rfl⟩ (o_eqn Try.underlying24 rfl rfl rfl rfl) ?_
        refine xq rfl trivial (o_pick_f rfl rfl) ?_
        refine xo_nil ?_
        exact xq_cut ((lce rfl (by first | rfl | (simp only [hq1, hq2, if_pos hp1, if_neg hp2, bS]; done) | (simp only [hq1, hq2, if_pos hp1, if_neg hp2, bS, reduceIte, Bool.false_eq_true]; done) | (simp [hp1, hp2]; done) | (simp_all; done)) (lc rfl (lc rfl (lc rfl (lc rfl ln)))))) (fun _ h => h)
      · refine xq_then (xw_cond_f rfl rfl (xw_skip (xq_then (xw_seq (xw_seq (xw_region ?_))))))
        refine xq rfl trivial (o_as rfl) ?_
        refine xo_nil (xq_then ?_)
        refine xw_block ?_
        obtain ⟨x1, hx1, h⟩ := h
        refine xw_wh (fun s e H => match s with | (i8, fb3a, fb3) => ∃ (vb3_0_1 : Value) (vb3a_0_1 : Value) (Bb3a_0_1 : GH) (Bb3_0_1 : GH), e = [(0, v0), (5, .int .i64 (1 + ((IntKind.i64.wrap tx1).tmod 3))), (6, .pointer (some ⟨b3, 0, none⟩)), (7, .pointer (some ⟨b3a, 0, none⟩)), (8, .int .i64 i8)] ∧ H = (b3a, BK 1 (cl [vb3a_0_1]) 67) :: (Bb3a_0_1 ++ ((b3, BK 1 (cl [vb3_0_1]) 67) :: (Bb3_0_1 ++ ([])))) ∧ MJ kI (kA 29) ieq Bb3a_0_1 vb3a_0_1 fb3a ∧ MJ kI (kA 29) ieq Bb3_0_1 vb3_0_1 fb3 ∧ Cov w [] Bb3a_0_1 ∧ Cov w [] Bb3_0_1) (fun s ex e H => match s with | (fb3a, fb3) => ∃ (vb3_0_1o : Value) (vb3a_0_1o : Value) (Bb3a_0_1o : GH) (Bb3_0_1o : GH), ex = .exit 0 ∧ e = [(5, .int .i64 (1 + ((IntKind.i64.wrap tx1).tmod 3))), (6, .pointer (some ⟨b3, 0, none⟩)), (7, .pointer (some ⟨b3a, 0, none⟩))] ∧ H = (b3a, BK 1 (cl [vb3a_0_1o]) 67) :: (Bb3a_0_1o ++ ((b3, BK 1 (cl [vb3_0_1o]) 67) :: (Bb3_0_1o ++ ([])))) ∧ MJ kI (kA 29) ieq Bb3a_0_1o vb3a_0_1o fb3a ∧ MJ kI (kA 29) ieq Bb3_0_1o vb3_0_1o fb3 ∧ Cov w [] Bb3a_0_1o ∧ Cov w [] Bb3_0_1o) hx1 ⟨[(0, v0), (5, .int .i64 (1 + ((IntKind.i64.wrap tx1).tmod 3))), (6, .pointer (some ⟨b3, 0, none⟩)), (7, .pointer (some ⟨b3a, 0, none⟩)), (8, .int .i64 0)], (b3a, BK 1 (cl [vs5]) 67) :: (Bs5 ++ ((b3, BK 1 (cl [vs4]) 67) :: (Bs4 ++ ([])))), (lc rfl (lc rfl (lc rfl (lc rfl (lc rfl ln))))), fun _ h => h, ⟨vs4, vs5, Bs5, Bs4, rfl, rfl, hJs5, hJs4, hcBs5, hcBs4⟩⟩ ?_ ?_
        · rintro ⟨i8, fb3a, fb3⟩ o _ _ ⟨vb3_0_1, vb3a_0_1, Bb3a_0_1, Bb3_0_1, rfl, rfl, hJb3a_0_1, hJb3_0_1, hcBb3a_0_1, hcBb3_0_1⟩ hb
          have h : apart_l1 acts0 tx1 i8 fb3a fb3 o := hb
          clear hb
          unfold apart_l1 at h
          refine xw_seq (xw_seq (xw_region ?_))
          refine xq rfl trivial (o_mv rfl) ?_
          refine xq rfl trivial (o_mv rfl) ?_
          refine xq rfl trivial (o_lenL rfl Try.underlying44 rfl (SL.val hs0)) ?_
          refine xq rfl trivial (o_lss rfl rfl) ?_
          refine xo_nil (xq_then ?_)
          refine xw_bool 43 rfl (fun hc6 => ?_) (fun hc6 => ?_)
          · have hq6 : (decide (i8 < (acts0.length : Int))) = true := hc6
            have hp6 : i8 < (acts0.length : Int) := of_decide_eq_true hq6
            rw [if_pos hp6] at h
            refine xw_cond_t rfl rfl (xw_skip (xq_then (xw_seq ?_)))
            refine xw_block ?_
            refine xw_seq (xw_region ?_)
            refine xq rfl trivial (o_mv rfl) ?_
            refine xq rfl trivial (o_mv rfl) ?_
            obtain ⟨ho7, h⟩ := h
            refine xq rfl trivial (o_ixL el44 rfl rfl (fun w hw => (hs0.keep hw (Fr.cons hb3a (Fr.seg hcBb3a_0_1 (Fr.cons hb3 (Fr.seg hcBb3_0_1 Fr.nil)))))) rfl ho7) ?_
            refine xq rfl trivial (o_ldLI rfl ts46 rfl (fun w hw => (hs0.keep hw (Fr.cons hb3a (Fr.seg hcBb3a_0_1 (Fr.cons hb3 (Fr.seg hcBb3_0_1 Fr.nil)))))) (toNat_lt ho7) rfl) ?_
            refine xo rfl trivial (o_alloc ze46 rfl) ?_
            rintro _ _ ⟨b9, hb9, rfl, rfl⟩
            refine xq0 trivial (o_stWI rfl rfl ts46 (List.Mem.head _) (.here _ _ _ _)) ?_
            refine xo_nil (xq_then (xw_seq (xw_region ?_)))
            first | refine xq rfl trivial (o_fa0 fl46_1 rfl) ?_ | refine xq rfl trivial (o_fa fl46_1 rfl) ?_
            refine xq rfl trivial (o_ldI (v := (acts0[i8.toNat]!) 1) rfl ts3 (List.Mem.head _) (by omega) rfl) ?_
            refine xq rfl trivial (o_as rfl) ?_
            refine xo_nil (xq_then (xw_seq (xw_seq (xw_region ?_))))
            first | refine xq rfl trivial (o_fa0 fl46_0 rfl) ?_ | refine xq rfl trivial (o_fa fl46_0 rfl) ?_
            refine xq rfl trivial (o_ldI (v := (acts0[i8.toNat]!) 0) rfl ts3 (List.Mem.head _) (by omega) rfl) ?_
            refine xq rfl trivial (o_eql rfl rfl) ?_
            refine xo_nil (xq_then ?_)
            refine xw_cut [(0, _), (5, _), (6, _), (7, _), (8, _), (9, _)] (lc rfl (lc rfl (lc rfl (lc rfl (lc rfl (lc rfl ln)))))) [(10, .int .i64 (if (acts0[i8.toNat]!) 0 = 1 then (acts0[i8.toNat]!) 6 else (acts0[i8.toNat]!) 1))] ?_ ?_
            · refine xw_bool 54 rfl (fun hc8 => ?_) (fun hc8 => ?_)
              · have hq8 : (decide ((acts0[i8.toNat]!) 0 = 1)) = true := hc8
                have hp8 : (acts0[i8.toNat]!) 0 = 1 := of_decide_eq_true hq8
                refine xw_cond_t rfl rfl (xw_region ?_)
                first | refine xq rfl trivial (o_fa0 fl46_3 rfl) ?_ | refine xq rfl trivial (o_fa fl46_3 rfl) ?_
                first | refine xq rfl trivial (o_fa0 fl34_3 rfl) ?_ | refine xq rfl trivial (o_fa fl34_3 rfl) ?_
                refine xq rfl trivial (o_ldI (v := (acts0[i8.toNat]!) 6) rfl ts3 (List.Mem.head _) (by omega) rfl) ?_
                refine xq rfl trivial (o_as rfl) ?_
                refine xo_nil ?_
                exact xq_cut (lce rfl (by first | rfl | (simp only [hq6, hq8, if_pos hp6, if_pos hp8, bS]; done) | (simp only [hq6, hq8, if_pos hp6, if_pos hp8, bS, reduceIte, Bool.false_eq_true]; done) | (simp [hp6, hp8]; done) | (simp_all; done)) (lc rfl (lc rfl (lc rfl (lc rfl (lc rfl (lc rfl ln))))))) (fun _ hh => hh)
              · have hq8 : (decide ((acts0[i8.toNat]!) 0 = 1)) = false := hc8
                have hp8 : ¬ ((acts0[i8.toNat]!) 0 = 1) := of_decide_eq_false hq8
                refine xw_cond_f rfl rfl (xw_skip ?_)
                exact xq_cut (lce rfl (by first | rfl | (simp only [hq6, hq8, if_pos hp6, if_neg hp8, bS]; done) | (simp only [hq6, hq8, if_pos hp6, if_neg hp8, bS, reduceIte, Bool.false_eq_true]; done) | (simp [hp6, hp8]; done) | (simp_all; done)) (lc rfl (lc rfl (lc rfl (lc rfl (lc rfl (lc rfl ln))))))) (fun _ hh => hh)
            · refine xq_then (xw_seq (xw_region ?_))
              refine xq rfl trivial (o_as rfl) ?_
              refine xo_nil (xq_then ?_)
              refine xw_block ?_
              obtain ⟨x2, hx2, h⟩ := h
              refine xw_wh (fun s e H => match s with | (n11, fb3aa, fb3aaa) => ∃ (vb3_0_2 : Value) (vb3a_0_2 : Value) (Bb3a_0_2 : GH) (Bb3_0_2 : GH), e = [(0, v0), (5, .int .i64 (1 + ((IntKind.i64.wrap tx1).tmod 3))), (6, .pointer (some ⟨b3, 0, none⟩)), (7, .pointer (some ⟨b3a, 0, none⟩)), (8, .int .i64 i8), (9, .pointer (some ⟨b9, 0, none⟩)), (10, .int .i64 (if (acts0[i8.toNat]!) 0 = 1 then (acts0[i8.toNat]!) 6 else (acts0[i8.toNat]!) 1)), (11, .int .i64 n11)] ∧ H = (b9, BK 31 (iv (acts0[i8.toNat]!)) 46) :: ((b3a, BK 1 (cl [vb3a_0_2]) 67) :: (Bb3a_0_2 ++ ((b3, BK 1 (cl [vb3_0_2]) 67) :: (Bb3_0_2 ++ ([]))))) ∧ MJ kI (kA 29) ieq Bb3a_0_2 vb3a_0_2 fb3aa ∧ MJ kI (kA 29) ieq Bb3_0_2 vb3_0_2 fb3aaa ∧ Cov w [] Bb3a_0_2 ∧ Cov w [] Bb3_0_2) (fun s ex e H => match s with | (fb3aa, fb3aaa) => ∃ (vb3_0_2o : Value) (vb3a_0_2o : Value) (Bb3a_0_2o : GH) (Bb3_0_2o : GH), ex = .exit 2 ∧ e = [(0, v0), (5, .int .i64 (1 + ((IntKind.i64.wrap tx1).tmod 3))), (6, .pointer (some ⟨b3, 0, none⟩)), (7, .pointer (some ⟨b3a, 0, none⟩)), (8, .int .i64 i8)] ∧ H = (b9, BK 31 (iv (acts0[i8.toNat]!)) 46) :: ((b3a, BK 1 (cl [vb3a_0_2o]) 67) :: (Bb3a_0_2o ++ ((b3, BK 1 (cl [vb3_0_2o]) 67) :: (Bb3_0_2o ++ ([]))))) ∧ MJ kI (kA 29) ieq Bb3a_0_2o vb3a_0_2o fb3aa ∧ MJ kI (kA 29) ieq Bb3_0_2o vb3_0_2o fb3aaa ∧ Cov w [] Bb3a_0_2o ∧ Cov w [] Bb3_0_2o) hx2 ⟨[(0, v0), (5, .int .i64 (1 + ((IntKind.i64.wrap tx1).tmod 3))), (6, .pointer (some ⟨b3, 0, none⟩)), (7, .pointer (some ⟨b3a, 0, none⟩)), (8, .int .i64 i8), (9, .pointer (some ⟨b9, 0, none⟩)), (10, .int .i64 (if (acts0[i8.toNat]!) 0 = 1 then (acts0[i8.toNat]!) 6 else (acts0[i8.toNat]!) 1)), (11, .int .i64 0)], (b9, BK 31 (iv (acts0[i8.toNat]!)) 46) :: ((b3a, BK 1 (cl [vb3a_0_1]) 67) :: (Bb3a_0_1 ++ ((b3, BK 1 (cl [vb3_0_1]) 67) :: (Bb3_0_1 ++ ([]))))), (lc rfl (lc rfl (lc rfl (lc rfl (lc rfl (lc rfl (lc rfl (lc rfl ln)))))))), fun _ h => h, ⟨vb3_0_1, vb3a_0_1, Bb3a_0_1, Bb3_0_1, rfl, rfl, hJb3a_0_1, hJb3_0_1, hcBb3a_0_1, hcBb3_0_1⟩⟩ ?_ ?_
              · rintro ⟨n11, fb3aa, fb3aaa⟩ o _ _ ⟨vb3_0_2, vb3a_0_2, Bb3a_0_2, Bb3_0_2, rfl, rfl, hJb3a_0_2, hJb3_0_2, hcBb3a_0_2, hcBb3_0_2⟩ hb
                have h : apart_l2 acts0 tx1 i8 n11 fb3aa fb3aaa o := hb
                clear hb
                unfold apart_l2 at h
                refine xw_seq (xw_seq (xw_region ?_))
                refine xq rfl trivial (o_mv rfl) ?_
                refine xq rfl trivial (o_lss rfl rfl) ?_
                refine xo_nil (xq_then ?_)
                refine xw_bool 59 rfl (fun hc9 => ?_) (fun hc9 => ?_)
                · have hq9 : (decide (n11 < 2)) = true := hc9
                  have hp9 : n11 < 2 := of_decide_eq_true hq9
                  rw [if_pos hp9] at h
                  refine xw_cond_t rfl rfl (xw_skip (xq_then (xw_seq ?_)))
                  refine xw_block ?_
                  refine xw_seq (xw_region ?_)
                  refine xq rfl trivial (o_mv rfl) ?_
                  refine xq rfl trivial (o_as rfl) ?_
                  refine xo_nil (xq_then (xw_seq (xw_seq (xw_region ?_))))
                  refine xq rfl trivial (o_mv rfl) ?_
                  refine xq rfl trivial (o_eql rfl rfl) ?_
                  refine xo_nil (xq_then ?_)
                  refine xw_bool 64 rfl (fun hc10 => ?_) (fun hc10 => ?_)
                  · have hq10 : (decide (n11 = 1)) = true := hc10
                    have hp10 : n11 = 1 := of_decide_eq_true hq10
                    rw [if_pos hp10] at h
                    refine xw_cond_t rfl rfl (xw_region ?_)
                    refine xq rfl trivial (o_mv rfl) ?_
                    refine xq rfl trivial (o_as rfl) ?_
                    refine xo_nil (xq_then (xw_seq (xw_seq ?_)))
                    refine xw_cut [(0, _), (5, _), (6, _), (7, _), (8, _), (9, _), (10, _), (11, _), (12, _)] (lc rfl (lc rfl (lc rfl (lc rfl (lc rfl (lc rfl (lc rfl (lc rfl (lc rfl ln))))))))) [(72, .bool ((decide (n11 = 1)) && (!(decide ((if (acts0[i8.toNat]!) 0 = 1 then (acts0[i8.toNat]!) 6 else (acts0[i8.toNat]!) 1) = 1 + ((IntKind.i64.wrap tx1).tmod 3))))))] ?_ ?_
                    · refine xw_region ?_
                      refine xq rfl trivial (o_mv rfl) ?_
                      refine xq rfl trivial (o_eql rfl rfl) ?_
                      refine xq rfl trivial (o_mv rfl) ?_
                      refine xo_val 68 rfl (v' := .bool true) (congrArg Value.bool (by simpa using hp10)) ?_
                      refine xq rfl ⟨_, rfl, rfl⟩ (o_mv rfl) ?_
                      refine xq rfl ⟨_, rfl, rfl⟩ (o_mv rfl) ?_
                      refine xq rfl ⟨_, rfl, rfl⟩ (o_neq rfl rfl) ?_
                      refine xq rfl trivial (o_pick_t rfl rfl) ?_
                      refine xo_nil ?_
                      exact xq_cut ((lce rfl (by first | rfl | (simp only [hq9, hq10, if_pos hp9, if_pos hp10, bS]; done) | (simp only [hq9, hq10, if_pos hp9, if_pos hp10, bS, reduceIte, Bool.false_eq_true]; done) | (simp [hp9, hp10]; done) | (simp_all; done)) (lc rfl (lc rfl (lc rfl (lc rfl (lc rfl (lc rfl (lc rfl (lc rfl (lc rfl ln))))))))))) (fun _ h => h)
                    · refine xq_then ?_
                      refine xw_bool 72 rfl (fun hc12 => ?_) (fun hc12 => ?_)
                      · have hq12 : ((decide (n11 = 1)) && (!(decide ((if (acts0[i8.toNat]!) 0 = 1 then (acts0[i8.toNat]!) 6 else (acts0[i8.toNat]!) 1) = 1 + ((IntKind.i64.wrap tx1).tmod 3))))) = true := hc12
                        have hp12 : ((decide (n11 = 1)) && (!(decide ((if (acts0[i8.toNat]!) 0 = 1 then (acts0[i8.toNat]!) 6 else (acts0[i8.toNat]!) 1) = 1 + ((IntKind.i64.wrap tx1).tmod 3))))) = true := hq12
                        rw [if_pos hp12] at h
                        refine xw_cond_t rfl rfl (xw_exit (xq_then_exit ?_))
                        refine xq_blk_eq ?_
                        refine xq_then (xw_region ?_)
                        refine xq rfl trivial (o_mv rfl) ?_
                        obtain ⟨ho13, h⟩ := h
                        refine xq rfl trivial (o_add rfl rfl rfl ho13) ?_
                        refine xq rfl trivial (o_as rfl) ?_
                        refine xo_nil ?_
                        exact xq_next (s' := ((n11 + 1, fb3aa, fb3aaa) : Int × (List (Int × (Nat → Int))) × (List (Int × (Nat → Int))))) (e' := [(0, v0), (5, .int .i64 (1 + ((IntKind.i64.wrap tx1).tmod 3))), (6, .pointer (some ⟨b3, 0, none⟩)), (7, .pointer (some ⟨b3a, 0, none⟩)), (8, .int .i64 i8), (9, .pointer (some ⟨b9, 0, none⟩)), (10, .int .i64 (if (acts0[i8.toNat]!) 0 = 1 then (acts0[i8.toNat]!) 6 else (acts0[i8.toNat]!) 1)), (11, .int .i64 (n11 + 1))]) ((b9, BK 31 (iv (acts0[i8.toNat]!)) 46) :: ((b3a, BK 1 (cl [vb3a_0_2]) 67) :: (Bb3a_0_2 ++ ((b3, BK 1 (cl [vb3_0_2]) 67) :: (Bb3_0_2 ++ ([])))))) (lc rfl (lc rfl (lc rfl (lc rfl (lc rfl (lc rfl (lc rfl (lc rfl ln)))))))) (fun _ h => h) h ⟨vb3_0_2, vb3a_0_2, Bb3a_0_2, Bb3_0_2, rfl, rfl, hJb3a_0_2, hJb3_0_2, hcBb3a_0_2, hcBb3_0_2⟩
                      · have hq12 : ((decide (n11 = 1)) && (!(decide ((if (acts0[i8.toNat]!) 0 = 1 then (acts0[i8.toNat]!) 6 else (acts0[i8.toNat]!) 1) = 1 + ((IntKind.i64.wrap tx1).tmod 3))))) = false := hc12
                        have hp12 : ¬ (((decide (n11 = 1)) && (!(decide ((if (acts0[i8.toNat]!) 0 = 1 then (acts0[i8.toNat]!) 6 else (acts0[i8.toNat]!) 1) = 1 + ((IntKind.i64.wrap tx1).tmod 3))))) = true) := bne' hq12
                        rw [if_neg hp12] at h
                        refine xw_cond_f rfl rfl (xw_skip (xq_then (xw_seq (xw_region ?_))))
                        first | refine xq rfl trivial (o_fa0 fl46_0 rfl) ?_ | refine xq rfl trivial (o_fa fl46_0 rfl) ?_
                        refine xq rfl trivial (o_ldI (v := (acts0[i8.toNat]!) 0) rfl ts3 (List.Mem.head _) (by omega) rfl) ?_
                        refine xo_nil (xq_then ?_)
                        refine xw_block ?_
                        refine xw_seq (xw_region ?_)
                        refine xq rfl trivial (o_eql rfl rfl) ?_
                        refine xq rfl trivial (o_as rfl) ?_
                        refine xo_nil (xq_then ?_)
                        refine xw_bool 79 rfl (fun hc14 => ?_) (fun hc14 => ?_)
                        · have hq14 : (decide ((acts0[i8.toNat]!) 0 = 0)) = true := hc14
                          have hp14 : (acts0[i8.toNat]!) 0 = 0 := of_decide_eq_true hq14
                          rw [if_pos hp14] at h
                          refine xw_cond_t rfl rfl (xw_region ?_)
                          refine xq rfl trivial (o_mv rfl) ?_
                          first | refine xq rfl trivial (o_fa0 fl46_1 rfl) ?_ | refine xq rfl trivial (o_fa fl46_1 rfl) ?_
                          refine xq rfl trivial (o_ldI (v := (acts0[i8.toNat]!) 1) rfl ts3 (List.Mem.head _) (by omega) rfl) ?_
                          first | refine xq rfl trivial (o_fa0 fl46_2 rfl) ?_ | refine xq rfl trivial (o_fa fl46_2 rfl) ?_
                          refine xq rfl trivial (o_ldI (v := (acts0[i8.toNat]!) 2) rfl ts3 (List.Mem.head _) (by omega) rfl) ?_
                          refine xo rfl trivial (OT.st (fun _ h => St.permI [1, 2, 0, 3, 4] [[(b9, _)], [(b3a, _)], Bb3a_0_2, [(b3, _)], Bb3_0_2] rfl h) (ot_callF (Cs := [[(b3a, _)], Bb3a_0_2]) (Rs := [[(b9, _)], [(b3, _)], Bb3_0_2]) kf9 rfl (fun w1 hw1 => bopen_c _ _ _ _ _ _ w1 hJb3a_0_2 (St.hasC hw1)) (fun _ _ _ h => h.1))) ?_
                          rintro _ _ ⟨w1, _, rfl, hle, -, vg16_0, Bg16_0, rfl, rfl, hJBg16_0, hcBg16_0⟩
                          replace hcBg16_0 := Cov.trans hcBb3a_0_2 (Cov.base (w0 := w) hcBg16_0 hle)
                          refine xo_st ((b3a, BK 1 (cl [vg16_0]) 67) :: (Bg16_0 ++ ((b9, BK 31 (iv (acts0[i8.toNat]!)) 46) :: ((b3, BK 1 (cl [vb3_0_2]) 67) :: (Bb3_0_2 ++ ([])))))) (fun _ h => h) ?_
                          refine xo_nil ?_
                          refine xq_blk 4 ?_
                          refine xq_blk 3 ?_
                          refine xq_then (xw_region ?_)
                          refine xq rfl trivial (o_mv rfl) ?_
                          obtain ⟨ho17, h⟩ := h
                          refine xq rfl trivial (o_add rfl rfl rfl ho17) ?_
                          refine xq rfl trivial (o_as rfl) ?_
                          refine xo_nil ?_
                          exact xq_next (s' := ((n11 + 1, (bopen_F fb3aa ((acts0[i8.toNat]!) 1) ((acts0[i8.toNat]!) 2)).2.2, fb3aaa) : Int × (List (Int × (Nat → Int))) × (List (Int × (Nat → Int))))) (e' := [(0, v0), (5, .int .i64 (1 + ((IntKind.i64.wrap tx1).tmod 3))), (6, .pointer (some ⟨b3, 0, none⟩)), (7, .pointer (some ⟨b3a, 0, none⟩)), (8, .int .i64 i8), (9, .pointer (some ⟨b9, 0, none⟩)), (10, .int .i64 (if (acts0[i8.toNat]!) 0 = 1 then (acts0[i8.toNat]!) 6 else (acts0[i8.toNat]!) 1)), (11, .int .i64 (n11 + 1))]) ((b9, BK 31 (iv (acts0[i8.toNat]!)) 46) :: ((b3a, BK 1 (cl [vg16_0]) 67) :: (Bg16_0 ++ ((b3, BK 1 (cl [vb3_0_2]) 67) :: (Bb3_0_2 ++ ([])))))) (lc rfl (lc rfl (lc rfl (lc rfl (lc rfl (lc rfl (lc rfl (lc rfl ln)))))))) (fun _ h => St.permI [2, 0, 1, 3, 4] [[(b3a, _)], Bg16_0, [(b9, _)], [(b3, _)], Bb3_0_2] rfl (h)) h ⟨vb3_0_2, vg16_0, Bg16_0, Bb3_0_2, rfl, rfl, hJBg16_0, hJb3_0_2, hcBg16_0, hcBb3_0_2⟩
                        · have hq14 : (decide ((acts0[i8.toNat]!) 0 = 0)) = false := hc14
                          have hp14 : ¬ ((acts0[i8.toNat]!) 0 = 0) := of_decide_eq_false hq14
                          rw [if_neg hp14] at h
                          refine xw_cond_f rfl rfl (xw_seq (xw_region ?_))
                          refine xq rfl trivial (o_eql rfl rfl) ?_
                          refine xq rfl trivial (o_as rfl) ?_
                          refine xo_nil (xq_then ?_)
                          refine xw_bool 87 rfl (fun hc18 => ?_) (fun hc18 => ?_)
                          · have hq18 : (decide ((acts0[i8.toNat]!) 0 = 1)) = true := hc18
                            have hp18 : (acts0[i8.toNat]!) 0 = 1 := of_decide_eq_true hq18
                            rw [if_pos hp18] at h
                            refine xw_cond_t rfl rfl (xw_region ?_)
                            refine xq rfl trivial (o_mv rfl) ?_
                            first | refine xq rfl trivial (o_fa0 fl46_3 rfl) ?_ | refine xq rfl trivial (o_fa fl46_3 rfl) ?_
                            refine xq rfl trivial (o_ldSI rfl ts34 (List.Mem.head _) (by omega) (fun _ _ => rfl)) ?_
                            refine xo rfl trivial (OT.st (fun _ h => St.permI [1, 2, 0, 3, 4] [[(b9, _)], [(b3a, _)], Bb3a_0_2, [(b3, _)], Bb3_0_2] rfl h) (ot_callF (Cs := [[(b3a, _)], Bb3a_0_2]) (Rs := [[(b9, _)], [(b3, _)], Bb3_0_2]) kf11 rfl (fun w1 hw1 => bclose_c _ _ _ _ _ w1 hJb3a_0_2 (St.hasC hw1)) (fun _ _ _ h => h.1))) ?_
                            rintro _ _ ⟨w1, _, rfl, hle, -, vg20_0, Bg20_0, rfl, rfl, hJBg20_0, hcBg20_0⟩
                            replace hcBg20_0 := Cov.trans hcBb3a_0_2 (Cov.base (w0 := w) hcBg20_0 hle)
                            refine xo_st ((b3a, BK 1 (cl [vg20_0]) 67) :: (Bg20_0 ++ ((b9, BK 31 (iv (acts0[i8.toNat]!)) 46) :: ((b3, BK 1 (cl [vb3_0_2]) 67) :: (Bb3_0_2 ++ ([])))))) (fun _ h => h) ?_
                            refine xo_nil ?_
                            refine xq_blk 4 ?_
                            refine xq_blk 3 ?_
                            refine xq_then (xw_region ?_)
                            refine xq rfl trivial (o_mv rfl) ?_
                            obtain ⟨ho21, h⟩ := h
                            refine xq rfl trivial (o_add rfl rfl rfl ho21) ?_
                            refine xq rfl trivial (o_as rfl) ?_
                            refine xo_nil ?_
                            exact xq_next (s' := ((n11 + 1, (bclose_F fb3aa (fun i => (acts0[i8.toNat]!) (3 + i))).2, fb3aaa) : Int × (List (Int × (Nat → Int))) × (List (Int × (Nat → Int))))) (e' := [(0, v0), (5, .int .i64 (1 + ((IntKind.i64.wrap tx1).tmod 3))), (6, .pointer (some ⟨b3, 0, none⟩)), (7, .pointer (some ⟨b3a, 0, none⟩)), (8, .int .i64 i8), (9, .pointer (some ⟨b9, 0, none⟩)), (10, .int .i64 (if (acts0[i8.toNat]!) 0 = 1 then (acts0[i8.toNat]!) 6 else (acts0[i8.toNat]!) 1)), (11, .int .i64 (n11 + 1))]) ((b9, BK 31 (iv (acts0[i8.toNat]!)) 46) :: ((b3a, BK 1 (cl [vg20_0]) 67) :: (Bg20_0 ++ ((b3, BK 1 (cl [vb3_0_2]) 67) :: (Bb3_0_2 ++ ([])))))) (lc rfl (lc rfl (lc rfl (lc rfl (lc rfl (lc rfl (lc rfl (lc rfl ln)))))))) (fun _ h => St.permI [2, 0, 1, 3, 4] [[(b3a, _)], Bg20_0, [(b9, _)], [(b3, _)], Bb3_0_2] rfl (h)) h ⟨vb3_0_2, vg20_0, Bg20_0, Bb3_0_2, rfl, rfl, hJBg20_0, hJb3_0_2, hcBg20_0, hcBb3_0_2⟩
                          · have hq18 : (decide ((acts0[i8.toNat]!) 0 = 1)) = false := hc18
                            have hp18 : ¬ ((acts0[i8.toNat]!) 0 = 1) := of_decide_eq_false hq18
                            rw [if_neg hp18] at h
                            refine xw_cond_f rfl rfl (xw_region ?_)
                            refine xq rfl trivial (o_mv rfl) ?_
                            first | refine xq rfl trivial (o_fa0 fl46_1 rfl) ?_ | refine xq rfl trivial (o_fa fl46_1 rfl) ?_
                            refine xq rfl trivial (o_ldI (v := (acts0[i8.toNat]!) 1) rfl ts3 (List.Mem.head _) (by omega) rfl) ?_
                            refine xo rfl trivial (OT.st (fun _ h => St.permI [1, 2, 0, 3, 4] [[(b9, _)], [(b3a, _)], Bb3a_0_2, [(b3, _)], Bb3_0_2] rfl h) (ot_callF (Cs := [[(b3a, _)], Bb3a_0_2]) (Rs := [[(b9, _)], [(b3, _)], Bb3_0_2]) kf13 rfl (fun w1 hw1 => bforget_c _ _ _ _ _ w1 hJb3a_0_2 (St.hasC hw1)) (fun _ _ _ h => h.1))) ?_
                            rintro _ _ ⟨w1, _, rfl, hle, -, vg23_0, Bg23_0, rfl, rfl, hJBg23_0, hcBg23_0⟩
                            replace hcBg23_0 := Cov.trans hcBb3a_0_2 (Cov.base (w0 := w) hcBg23_0 hle)
                            refine xo_st ((b3a, BK 1 (cl [vg23_0]) 67) :: (Bg23_0 ++ ((b9, BK 31 (iv (acts0[i8.toNat]!)) 46) :: ((b3, BK 1 (cl [vb3_0_2]) 67) :: (Bb3_0_2 ++ ([])))))) (fun _ h => h) ?_
                            refine xo_nil ?_
                            refine xq_blk 4 ?_
                            refine xq_blk 3 ?_
                            refine xq_then (xw_region ?_)
                            refine xq rfl trivial (o_mv rfl) ?_
                            obtain ⟨ho24, h⟩ := h
                            refine xq rfl trivial (o_add rfl rfl rfl ho24) ?_
                            refine xq rfl trivial (o_as rfl) ?_
                            refine xo_nil ?_
                            exact xq_next (s' := ((n11 + 1, (bforget_F fb3aa ((acts0[i8.toNat]!) 1)).2, fb3aaa) : Int × (List (Int × (Nat → Int))) × (List (Int × (Nat → Int))))) (e' := [(0, v0), (5, .int .i64 (1 + ((IntKind.i64.wrap tx1).tmod 3))), (6, .pointer (some ⟨b3, 0, none⟩)), (7, .pointer (some ⟨b3a, 0, none⟩)), (8, .int .i64 i8), (9, .pointer (some ⟨b9, 0, none⟩)), (10, .int .i64 (if (acts0[i8.toNat]!) 0 = 1 then (acts0[i8.toNat]!) 6 else (acts0[i8.toNat]!) 1)), (11, .int .i64 (n11 + 1))]) ((b9, BK 31 (iv (acts0[i8.toNat]!)) 46) :: ((b3a, BK 1 (cl [vg23_0]) 67) :: (Bg23_0 ++ ((b3, BK 1 (cl [vb3_0_2]) 67) :: (Bb3_0_2 ++ ([])))))) (lc rfl (lc rfl (lc rfl (lc rfl (lc rfl (lc rfl (lc rfl (lc rfl ln)))))))) (fun _ h => St.permI [2, 0, 1, 3, 4] [[(b3a, _)], Bg23_0, [(b9, _)], [(b3, _)], Bb3_0_2] rfl (h)) h ⟨vb3_0_2, vg23_0, Bg23_0, Bb3_0_2, rfl, rfl, hJBg23_0, hJb3_0_2, hcBg23_0, hcBb3_0_2⟩
                  · have hq10 : (decide (n11 = 1)) = false := hc10
                    have hp10 : ¬ (n11 = 1) := of_decide_eq_false hq10
                    rw [if_neg hp10] at h
                    refine xw_cond_f rfl rfl (xw_skip (xq_then (xw_seq (xw_seq ?_))))
                    refine xw_cut [(0, _), (5, _), (6, _), (7, _), (8, _), (9, _), (10, _), (11, _), (12, _)] (lc rfl (lc rfl (lc rfl (lc rfl (lc rfl (lc rfl (lc rfl (lc rfl (lc rfl ln))))))))) [(72, .bool ((decide (n11 = 1)) && (!(decide ((if (acts0[i8.toNat]!) 0 = 1 then (acts0[i8.toNat]!) 6 else (acts0[i8.toNat]!) 1) = 1 + ((IntKind.i64.wrap tx1).tmod 3))))))] ?_ ?_
                    · refine xw_region ?_
                      refine xq rfl trivial (o_mv rfl) ?_
                      refine xq rfl trivial (o_eql rfl rfl) ?_
                      refine xq rfl trivial (o_mv rfl) ?_
                      refine xo_val 68 rfl (v' := .bool false) (congrArg Value.bool (by simpa using hp10)) ?_
                      refine xs rfl ⟨_, _, rfl, rfl, rfl⟩ (xs rfl ⟨_, _, rfl, rfl, rfl⟩ (xs rfl ⟨_, _, rfl, rfl, rfl⟩ ?_))
                      refine xq rfl trivial (o_pick_f rfl rfl) ?_
                      refine xo_nil ?_
                      exact xq_cut ((lce rfl (by first | rfl | (simp only [hq9, hq10, if_pos hp9, if_neg hp10, bS]; done) | (simp only [hq9, hq10, if_pos hp9, if_neg hp10, bS, reduceIte, Bool.false_eq_true]; done) | (simp [hp9, hp10]; done) | (simp_all; done)) (lc rfl (lc rfl (lc rfl (lc rfl (lc rfl (lc rfl (lc rfl (lc rfl (lc rfl ln))))))))))) (fun _ h => h)
                    · refine xq_then ?_
                      refine xw_bool 72 rfl (fun hc26 => ?_) (fun hc26 => ?_)
                      · have hq26 : ((decide (n11 = 1)) && (!(decide ((if (acts0[i8.toNat]!) 0 = 1 then (acts0[i8.toNat]!) 6 else (acts0[i8.toNat]!) 1) = 1 + ((IntKind.i64.wrap tx1).tmod 3))))) = true := hc26
                        have hp26 : ((decide (n11 = 1)) && (!(decide ((if (acts0[i8.toNat]!) 0 = 1 then (acts0[i8.toNat]!) 6 else (acts0[i8.toNat]!) 1) = 1 + ((IntKind.i64.wrap tx1).tmod 3))))) = true := hq26
                        rw [if_pos hp26] at h
                        refine xw_cond_t rfl rfl (xw_exit (xq_then_exit ?_))
                        refine xq_blk_eq ?_
                        refine xq_then (xw_region ?_)
                        refine xq rfl trivial (o_mv rfl) ?_
                        obtain ⟨ho27, h⟩ := h
                        refine xq rfl trivial (o_add rfl rfl rfl ho27) ?_
                        refine xq rfl trivial (o_as rfl) ?_
                        refine xo_nil ?_
                        exact xq_next (s' := ((n11 + 1, fb3aa, fb3aaa) : Int × (List (Int × (Nat → Int))) × (List (Int × (Nat → Int))))) (e' := [(0, v0), (5, .int .i64 (1 + ((IntKind.i64.wrap tx1).tmod 3))), (6, .pointer (some ⟨b3, 0, none⟩)), (7, .pointer (some ⟨b3a, 0, none⟩)), (8, .int .i64 i8), (9, .pointer (some ⟨b9, 0, none⟩)), (10, .int .i64 (if (acts0[i8.toNat]!) 0 = 1 then (acts0[i8.toNat]!) 6 else (acts0[i8.toNat]!) 1)), (11, .int .i64 (n11 + 1))]) ((b9, BK 31 (iv (acts0[i8.toNat]!)) 46) :: ((b3a, BK 1 (cl [vb3a_0_2]) 67) :: (Bb3a_0_2 ++ ((b3, BK 1 (cl [vb3_0_2]) 67) :: (Bb3_0_2 ++ ([])))))) (lc rfl (lc rfl (lc rfl (lc rfl (lc rfl (lc rfl (lc rfl (lc rfl ln)))))))) (fun _ h => h) h ⟨vb3_0_2, vb3a_0_2, Bb3a_0_2, Bb3_0_2, rfl, rfl, hJb3a_0_2, hJb3_0_2, hcBb3a_0_2, hcBb3_0_2⟩
                      · have hq26 : ((decide (n11 = 1)) && (!(decide ((if (acts0[i8.toNat]!) 0 = 1 then (acts0[i8.toNat]!) 6 else (acts0[i8.toNat]!) 1) = 1 + ((IntKind.i64.wrap tx1).tmod 3))))) = false := hc26
                        have hp26 : ¬ (((decide (n11 = 1)) && (!(decide ((if (acts0[i8.toNat]!) 0 = 1 then (acts0[i8.toNat]!) 6 else (acts0[i8.toNat]!) 1) = 1 + ((IntKind.i64.wrap tx1).tmod 3))))) = true) := bne' hq26
                        rw [if_neg hp26] at h
                        refine xw_cond_f rfl rfl (xw_skip (xq_then (xw_seq (xw_region ?_))))
                        first | refine xq rfl trivial (o_fa0 fl46_0 rfl) ?_ | refine xq rfl trivial (o_fa fl46_0 rfl) ?_
                        refine xq rfl trivial (o_ldI (v := (acts0[i8.toNat]!) 0) rfl ts3 (List.Mem.head _) (by omega) rfl) ?_
                        refine xo_nil (xq_then ?_)
                        refine xw_block ?_
                        refine xw_seq (xw_region ?_)
                        refine xq rfl trivial (o_eql rfl rfl) ?_
                        refine xq rfl trivial (o_as rfl) ?_
                        refine xo_nil (xq_then ?_)
                        refine xw_bool 79 rfl (fun hc28 => ?_) (fun hc28 => ?_)
                        · have hq28 : (decide ((acts0[i8.toNat]!) 0 = 0)) = true := hc28
                          have hp28 : (acts0[i8.toNat]!) 0 = 0 := of_decide_eq_true hq28
                          rw [if_pos hp28] at h
                          refine xw_cond_t rfl rfl (xw_region ?_)
                          refine xq rfl trivial (o_mv rfl) ?_
                          first | refine xq rfl trivial (o_fa0 fl46_1 rfl) ?_ | refine xq rfl trivial (o_fa fl46_1 rfl) ?_
                          refine xq rfl trivial (o_ldI (v := (acts0[i8.toNat]!) 1) rfl ts3 (List.Mem.head _) (by omega) rfl) ?_
                          first | refine xq rfl trivial (o_fa0 fl46_2 rfl) ?_ | refine xq rfl trivial (o_fa fl46_2 rfl) ?_
                          refine xq rfl trivial (o_ldI (v := (acts0[i8.toNat]!) 2) rfl ts3 (List.Mem.head _) (by omega) rfl) ?_
                          refine xo rfl trivial (OT.st (fun _ h => St.permI [3, 4, 0, 1, 2] [[(b9, _)], [(b3a, _)], Bb3a_0_2, [(b3, _)], Bb3_0_2] rfl h) (ot_callF (Cs := [[(b3, _)], Bb3_0_2]) (Rs := [[(b9, _)], [(b3a, _)], Bb3a_0_2]) kf9 rfl (fun w1 hw1 => bopen_c _ _ _ _ _ _ w1 hJb3_0_2 (St.hasC hw1)) (fun _ _ _ h => h.1))) ?_
                          rintro _ _ ⟨w1, _, rfl, hle, -, vg30_0, Bg30_0, rfl, rfl, hJBg30_0, hcBg30_0⟩
                          replace hcBg30_0 := Cov.trans hcBb3_0_2 (Cov.base (w0 := w) hcBg30_0 hle)
                          refine xo_st ((b3, BK 1 (cl [vg30_0]) 67) :: (Bg30_0 ++ ((b9, BK 31 (iv (acts0[i8.toNat]!)) 46) :: ((b3a, BK 1 (cl [vb3a_0_2]) 67) :: (Bb3a_0_2 ++ ([])))))) (fun _ h => h) ?_
                          refine xo_nil ?_
                          refine xq_blk 4 ?_
                          refine xq_blk 3 ?_
                          refine xq_then (xw_region ?_)
                          refine xq rfl trivial (o_mv rfl) ?_
                          obtain ⟨ho31, h⟩ := h
                          refine xq rfl trivial (o_add rfl rfl rfl ho31) ?_
                          refine xq rfl trivial (o_as rfl) ?_
                          refine xo_nil ?_
                          exact xq_next (s' := ((n11 + 1, fb3aa, (bopen_F fb3aaa ((acts0[i8.toNat]!) 1) ((acts0[i8.toNat]!) 2)).2.2) : Int × (List (Int × (Nat → Int))) × (List (Int × (Nat → Int))))) (e' := [(0, v0), (5, .int .i64 (1 + ((IntKind.i64.wrap tx1).tmod 3))), (6, .pointer (some ⟨b3, 0, none⟩)), (7, .pointer (some ⟨b3a, 0, none⟩)), (8, .int .i64 i8), (9, .pointer (some ⟨b9, 0, none⟩)), (10, .int .i64 (if (acts0[i8.toNat]!) 0 = 1 then (acts0[i8.toNat]!) 6 else (acts0[i8.toNat]!) 1)), (11, .int .i64 (n11 + 1))]) ((b9, BK 31 (iv (acts0[i8.toNat]!)) 46) :: ((b3a, BK 1 (cl [vb3a_0_2]) 67) :: (Bb3a_0_2 ++ ((b3, BK 1 (cl [vg30_0]) 67) :: (Bg30_0 ++ ([])))))) (lc rfl (lc rfl (lc rfl (lc rfl (lc rfl (lc rfl (lc rfl (lc rfl ln)))))))) (fun _ h => St.permI [2, 3, 4, 0, 1] [[(b3, _)], Bg30_0, [(b9, _)], [(b3a, _)], Bb3a_0_2] rfl (h)) h ⟨vg30_0, vb3a_0_2, Bb3a_0_2, Bg30_0, rfl, rfl, hJb3a_0_2, hJBg30_0, hcBb3a_0_2, hcBg30_0⟩
                        · have hq28 : (decide ((acts0[i8.toNat]!) 0 = 0)) = false := hc28
                          have hp28 : ¬ ((acts0[i8.toNat]!) 0 = 0) := of_decide_eq_false hq28
                          rw [if_neg hp28] at h
                          refine xw_cond_f rfl rfl (xw_seq (xw_region ?_))
                          refine xq rfl trivial (o_eql rfl rfl) ?_
                          refine xq rfl trivial (o_as rfl) ?_
                          refine xo_nil (xq_then ?_)
                          refine xw_bool 87 rfl (fun hc32 => ?_) (fun hc32 => ?_)
                          · have hq32 : (decide ((acts0[i8.toNat]!) 0 = 1)) = true := hc32
                            have hp32 : (acts0[i8.toNat]!) 0 = 1 := of_decide_eq_true hq32
                            rw [if_pos hp32] at h
                            refine xw_cond_t rfl rfl (xw_region ?_)
                            refine xq rfl trivial (o_mv rfl) ?_
                            first | refine xq rfl trivial (o_fa0 fl46_3 rfl) ?_ | refine xq rfl trivial (o_fa fl46_3 rfl) ?_
                            refine xq rfl trivial (o_ldSI rfl ts34 (List.Mem.head _) (by omega) (fun _ _ => rfl)) ?_
                            refine xo rfl trivial (OT.st (fun _ h => St.permI [3, 4, 0, 1, 2] [[(b9, _)], [(b3a, _)], Bb3a_0_2, [(b3, _)], Bb3_0_2] rfl h) (ot_callF (Cs := [[(b3, _)], Bb3_0_2]) (Rs := [[(b9, _)], [(b3a, _)], Bb3a_0_2]) kf11 rfl (fun w1 hw1 => bclose_c _ _ _ _ _ w1 hJb3_0_2 (St.hasC hw1)) (fun _ _ _ h => h.1))) ?_
                            rintro _ _ ⟨w1, _, rfl, hle, -, vg34_0, Bg34_0, rfl, rfl, hJBg34_0, hcBg34_0⟩
                            replace hcBg34_0 := Cov.trans hcBb3_0_2 (Cov.base (w0 := w) hcBg34_0 hle)
                            refine xo_st ((b3, BK 1 (cl [vg34_0]) 67) :: (Bg34_0 ++ ((b9, BK 31 (iv (acts0[i8.toNat]!)) 46) :: ((b3a, BK 1 (cl [vb3a_0_2]) 67) :: (Bb3a_0_2 ++ ([])))))) (fun _ h => h) ?_
                            refine xo_nil ?_
                            refine xq_blk 4 ?_
                            refine xq_blk 3 ?_
                            refine xq_then (xw_region ?_)
                            refine xq rfl trivial (o_mv rfl) ?_
                            obtain ⟨ho35, h⟩ := h
                            refine xq rfl trivial (o_add rfl rfl rfl ho35) ?_
                            refine xq rfl trivial (o_as rfl) ?_
                            refine xo_nil ?_
                            exact xq_next (s' := ((n11 + 1, fb3aa, (bclose_F fb3aaa (fun i => (acts0[i8.toNat]!) (3 + i))).2) : Int × (List (Int × (Nat → Int))) × (List (Int × (Nat → Int))))) (e' := [(0, v0), (5, .int .i64 (1 + ((IntKind.i64.wrap tx1).tmod 3))), (6, .pointer (some ⟨b3, 0, none⟩)), (7, .pointer (some ⟨b3a, 0, none⟩)), (8, .int .i64 i8), (9, .pointer (some ⟨b9, 0, none⟩)), (10, .int .i64 (if (acts0[i8.toNat]!) 0 = 1 then (acts0[i8.toNat]!) 6 else (acts0[i8.toNat]!) 1)), (11, .int .i64 (n11 + 1))]) ((b9, BK 31 (iv (acts0[i8.toNat]!)) 46) :: ((b3a, BK 1 (cl [vb3a_0_2]) 67) :: (Bb3a_0_2 ++ ((b3, BK 1 (cl [vg34_0]) 67) :: (Bg34_0 ++ ([])))))) (lc rfl (lc rfl (lc rfl (lc rfl (lc rfl (lc rfl (lc rfl (lc rfl ln)))))))) (fun _ h => St.permI [2, 3, 4, 0, 1] [[(b3, _)], Bg34_0, [(b9, _)], [(b3a, _)], Bb3a_0_2] rfl (h)) h ⟨vg34_0, vb3a_0_2, Bb3a_0_2, Bg34_0, rfl, rfl, hJb3a_0_2, hJBg34_0, hcBb3a_0_2, hcBg34_0⟩
                          · have hq32 : (decide ((acts0[i8.toNat]!) 0 = 1)) = false := hc32
                            have hp32 : ¬ ((acts0[i8.toNat]!) 0 = 1) := of_decide_eq_false hq32
                            rw [if_neg hp32] at h
                            refine xw_cond_f rfl rfl (xw_region ?_)
                            refine xq rfl trivial (o_mv rfl) ?_
                            first | refine xq rfl trivial (o_fa0 fl46_1 rfl) ?_ | refine xq rfl trivial (o_fa fl46_1 rfl) ?_
                            refine xq rfl trivial (o_ldI (v := (acts0[i8.toNat]!) 1) rfl ts3 (List.Mem.head _) (by omega) rfl) ?_
                            refine xo rfl trivial (OT.st (fun _ h => St.permI [3, 4, 0, 1, 2] [[(b9, _)], [(b3a, _)], Bb3a_0_2, [(b3, _)], Bb3_0_2] rfl h) (ot_callF (Cs := [[(b3, _)], Bb3_0_2]) (Rs := [[(b9, _)], [(b3a, _)], Bb3a_0_2]) kf13 rfl (fun w1 hw1 => bforget_c _ _ _ _ _ w1 hJb3_0_2 (St.hasC hw1)) (fun _ _ _ h => h.1))) ?_
                            rintro _ _ ⟨w1, _, rfl, hle, -, vg37_0, Bg37_0, rfl, rfl, hJBg37_0, hcBg37_0⟩
                            replace hcBg37_0 := Cov.trans hcBb3_0_2 (Cov.base (w0 := w) hcBg37_0 hle)
                            refine xo_st ((b3, BK 1 (cl [vg37_0]) 67) :: (Bg37_0 ++ ((b9, BK 31 (iv (acts0[i8.toNat]!)) 46) :: ((b3a, BK 1 (cl [vb3a_0_2]) 67) :: (Bb3a_0_2 ++ ([])))))) (fun _ h => h) ?_
                            refine xo_nil ?_
                            refine xq_blk 4 ?_
                            refine xq_blk 3 ?_
                            refine xq_then (xw_region ?_)
                            refine xq rfl trivial (o_mv rfl) ?_
                            obtain ⟨ho38, h⟩ := h
                            refine xq rfl trivial (o_add rfl rfl rfl ho38) ?_
                            refine xq rfl trivial (o_as rfl) ?_
                            refine xo_nil ?_
                            exact xq_next (s' := ((n11 + 1, fb3aa, (bforget_F fb3aaa ((acts0[i8.toNat]!) 1)).2) : Int × (List (Int × (Nat → Int))) × (List (Int × (Nat → Int))))) (e' := [(0, v0), (5, .int .i64 (1 + ((IntKind.i64.wrap tx1).tmod 3))), (6, .pointer (some ⟨b3, 0, none⟩)), (7, .pointer (some ⟨b3a, 0, none⟩)), (8, .int .i64 i8), (9, .pointer (some ⟨b9, 0, none⟩)), (10, .int .i64 (if (acts0[i8.toNat]!) 0 = 1 then (acts0[i8.toNat]!) 6 else (acts0[i8.toNat]!) 1)), (11, .int .i64 (n11 + 1))]) ((b9, BK 31 (iv (acts0[i8.toNat]!)) 46) :: ((b3a, BK 1 (cl [vb3a_0_2]) 67) :: (Bb3a_0_2 ++ ((b3, BK 1 (cl [vg37_0]) 67) :: (Bg37_0 ++ ([])))))) (lc rfl (lc rfl (lc rfl (lc rfl (lc rfl (lc rfl (lc rfl (lc rfl ln)))))))) (fun _ h => St.permI [2, 3, 4, 0, 1] [[(b3, _)], Bg37_0, [(b9, _)], [(b3a, _)], Bb3a_0_2] rfl (h)) h ⟨vg37_0, vb3a_0_2, Bb3a_0_2, Bg37_0, rfl, rfl, hJb3a_0_2, hJBg37_0, hcBb3a_0_2, hcBg37_0⟩
                · have hq9 : (decide (n11 < 2)) = false := hc9
                  have hp9 : ¬ (n11 < 2) := of_decide_eq_false hq9
                  rw [if_neg hp9] at h
                  refine xw_cond_f rfl rfl (xw_exit (xq_then_exit ?_))
                  exact xq_out (r := ((fb3aa, fb3aaa) : (List (Int × (Nat → Int))) × (List (Int × (Nat → Int))))) (e' := [(0, v0), (5, .int .i64 (1 + ((IntKind.i64.wrap tx1).tmod 3))), (6, .pointer (some ⟨b3, 0, none⟩)), (7, .pointer (some ⟨b3a, 0, none⟩)), (8, .int .i64 i8)]) ((b9, BK 31 (iv (acts0[i8.toNat]!)) 46) :: ((b3a, BK 1 (cl [vb3a_0_2]) 67) :: (Bb3a_0_2 ++ ((b3, BK 1 (cl [vb3_0_2]) 67) :: (Bb3_0_2 ++ ([])))))) (lc rfl (lc rfl (lc rfl (lc rfl (lc rfl ln))))) (fun _ h => h) h (by intro hh; cases hh) ⟨vb3_0_2, vb3a_0_2, Bb3a_0_2, Bb3_0_2, rfl, rfl, rfl, hJb3a_0_2, hJb3_0_2, hcBb3a_0_2, hcBb3_0_2⟩
              · obtain ⟨fb3aa, fb3aaa⟩ := x2
                rintro _ _ _ ⟨vb3_0_2o, vb3a_0_2o, Bb3a_0_2o, Bb3_0_2o, rfl, rfl, rfl, hJb3a_0_2o, hJb3_0_2o, hcBb3a_0_2o, hcBb3_0_2o⟩
                replace h : apart_k2a i8 fb3aa fb3aaa o := h
                unfold apart_k2a at h
                refine xq_blk_eq ?_
                refine xq_blk 1 ?_
                refine xq_then (xw_region ?_)
                refine xq rfl trivial (o_mv rfl) ?_
                obtain ⟨ho39, h⟩ := h
                refine xq rfl trivial (o_add rfl rfl rfl ho39) ?_
                refine xq rfl trivial (o_as rfl) ?_
                refine xo_nil ?_
                exact xq_next (s' := ((i8 + 1, fb3aa, fb3aaa) : Int × (List (Int × (Nat → Int))) × (List (Int × (Nat → Int))))) (e' := [(0, v0), (5, .int .i64 (1 + ((IntKind.i64.wrap tx1).tmod 3))), (6, .pointer (some ⟨b3, 0, none⟩)), (7, .pointer (some ⟨b3a, 0, none⟩)), (8, .int .i64 (i8 + 1))]) ((b3a, BK 1 (cl [vb3a_0_2o]) 67) :: (Bb3a_0_2o ++ ((b3, BK 1 (cl [vb3_0_2o]) 67) :: (Bb3_0_2o ++ ([]))))) (lc rfl (lc rfl (lc rfl (lc rfl (lc rfl ln))))) (Kp.st (Kp.new hb9 (Kp.keep (Kp.segKeep (Kp.keep (Kp.segKeep Kp.nil)))))) h ⟨vb3_0_2o, vb3a_0_2o, Bb3a_0_2o, Bb3_0_2o, rfl, rfl, hJb3a_0_2o, hJb3_0_2o, hcBb3a_0_2o, hcBb3_0_2o⟩
          · have hq6 : (decide (i8 < (acts0.length : Int))) = false := hc6
            have hp6 : ¬ (i8 < (acts0.length : Int)) := of_decide_eq_false hq6
            rw [if_neg hp6] at h
            refine xw_cond_f rfl rfl (xw_exit (xq_then_exit ?_))
            exact xq_out (r := ((fb3a, fb3) : (List (Int × (Nat → Int))) × (List (Int × (Nat → Int))))) (e' := [(5, .int .i64 (1 + ((IntKind.i64.wrap tx1).tmod 3))), (6, .pointer (some ⟨b3, 0, none⟩)), (7, .pointer (some ⟨b3a, 0, none⟩))]) ((b3a, BK 1 (cl [vb3a_0_1]) 67) :: (Bb3a_0_1 ++ ((b3, BK 1 (cl [vb3_0_1]) 67) :: (Bb3_0_1 ++ ([]))))) (lc rfl (lc rfl (lc rfl ln))) (fun _ h => h) h (by intro hh; cases hh) ⟨vb3_0_1, vb3a_0_1, Bb3a_0_1, Bb3_0_1, rfl, rfl, rfl, hJb3a_0_1, hJb3_0_1, hcBb3a_0_1, hcBb3_0_1⟩
        · obtain ⟨fb3a, fb3⟩ := x1
          rintro _ _ _ ⟨vb3_0_1o, vb3a_0_1o, Bb3a_0_1o, Bb3_0_1o, rfl, rfl, rfl, hJb3a_0_1o, hJb3_0_1o, hcBb3a_0_1o, hcBb3_0_1o⟩
          replace h : apart_k1a tx1 fb3a fb3 r := h
          unfold apart_k1a at h
          refine xq_blk_eq ?_
          refine xq_then (xw_seq (xw_region ?_))
          refine xq rfl trivial (o_mv rfl) ?_
          refine xq rfl trivial (o_mv rfl) ?_
          refine xo rfl trivial (OT.st (fun _ h => St.permI [2, 3, 0, 1] [[(b3a, _)], Bb3a_0_1o, [(b3, _)], Bb3_0_1o] rfl h) (ot_callF (Cs := [[(b3, _)], Bb3_0_1o]) (Rs := [[(b3a, _)], Bb3a_0_1o]) kf14 rfl (fun w1 hw1 => blast_c _ _ _ _ _ w1 hJb3_0_1o (St.hasC hw1)) (fun _ _ _ h => h.1))) ?_
          rintro _ _ ⟨w1, _, rfl, hle, -, rfl, rfl⟩
          refine xo_st ((b3, BK 1 (cl [vb3_0_1o]) 67) :: (Bb3_0_1o ++ ((b3a, BK 1 (cl [vb3a_0_1o]) 67) :: (Bb3a_0_1o ++ ([]))))) (fun _ h => h) ?_
          refine xq rfl trivial (o_mv rfl) ?_
          refine xq rfl trivial (o_ext rfl rfl) ?_
          refine xq rfl trivial (o_ext rfl rfl) ?_
          refine xq rfl trivial (o_as rfl) ?_
          refine xq rfl trivial (o_as rfl) ?_
          refine xo_nil (xq_then (xw_seq (xw_region ?_)))
          refine xq rfl trivial (o_mv rfl) ?_
          refine xq rfl trivial (o_mv rfl) ?_
          refine xo rfl trivial (OT.st (fun _ h => St.permI [2, 3, 0, 1] [[(b3, _)], Bb3_0_1o, [(b3a, _)], Bb3a_0_1o] rfl h) (ot_callF (Cs := [[(b3a, _)], Bb3a_0_1o]) (Rs := [[(b3, _)], Bb3_0_1o]) kf14 rfl (fun w1 hw1 => blast_c _ _ _ _ _ w1 hJb3a_0_1o (St.hasC hw1)) (fun _ _ _ h => h.1))) ?_
          rintro _ _ ⟨w1, _, rfl, hle, -, rfl, rfl⟩
          refine xo_st ((b3a, BK 1 (cl [vb3a_0_1o]) 67) :: (Bb3a_0_1o ++ ((b3, BK 1 (cl [vb3_0_1o]) 67) :: (Bb3_0_1o ++ ([]))))) (fun _ h => h) ?_
          refine xq rfl trivial (o_mv rfl) ?_
          refine xq rfl trivial (o_ext rfl rfl) ?_
          refine xq rfl trivial (o_ext rfl rfl) ?_
          refine xq rfl trivial (o_as rfl) ?_
          refine xq rfl trivial (o_as rfl) ?_
          refine xo_nil (xq_then (xw_seq (xw_seq ?_)))
          refine xw_cut [(5, _), (6, _), (7, _), (13, _)] (lc rfl (lc rfl (lc rfl (lc rfl ln)))) [(114, .bool ((!(decide ((blast_F fb3 (1 + ((IntKind.i64.wrap tx1).tmod 3))).1 = (blast_F fb3a (1 + ((IntKind.i64.wrap tx1).tmod 3))).1))) || (!(decide ((code_F ((blast_F fb3 (1 + ((IntKind.i64.wrap tx1).tmod 3))).2)) = (code_F ((blast_F fb3a (1 + ((IntKind.i64.wrap tx1).tmod 3))).2)))))))] ?_ ?_
          · refine xw_region ?_
            refine xq rfl trivial (o_mv rfl) ?_
            refine xq rfl trivial (o_mv rfl) ?_
            refine xq rfl trivial (o_neq rfl rfl) ?_
            refine xq rfl trivial (o_mv rfl) ?_
            refine xo_bool 108 rfl (fun hg44 => ?_) (fun hg44 => ?_)
            · have hq44 : (decide ((blast_F fb3 (1 + ((IntKind.i64.wrap tx1).tmod 3))).1 = (blast_F fb3a (1 + ((IntKind.i64.wrap tx1).tmod 3))).1)) = false := (bnT hg44)
              have hp44 : ¬ ((blast_F fb3 (1 + ((IntKind.i64.wrap tx1).tmod 3))).1 = (blast_F fb3a (1 + ((IntKind.i64.wrap tx1).tmod 3))).1) := of_decide_eq_false hq44
              refine xs rfl ⟨_, _, rfl, rfl, rfl⟩ (xs rfl ⟨_, _, rfl, rfl, rfl⟩ (xs rfl ⟨_, _, rfl, rfl, rfl⟩ (xs rfl ⟨_, _, rfl, rfl, rfl⟩ (xs rfl ⟨_, _, rfl, rfl, rfl⟩ ?_))))
              refine xq rfl trivial (o_pick_t rfl rfl) ?_
              refine xo_nil ?_
              exact xq_cut ((lce rfl (by first | rfl | (simp only [hq44, if_neg hp44, bS]; done) | (simp only [hq44, if_neg hp44, bS, reduceIte, Bool.false_eq_true]; done) | (simp [hp44]; done) | (simp_all; done)) (lc rfl (lc rfl (lc rfl (lc rfl ln)))))) (fun _ h => h)
            · have hq44 : (decide ((blast_F fb3 (1 + ((IntKind.i64.wrap tx1).tmod 3))).1 = (blast_F fb3a (1 + ((IntKind.i64.wrap tx1).tmod 3))).1)) = true := (bnF hg44)
              have hp44 : (blast_F fb3 (1 + ((IntKind.i64.wrap tx1).tmod 3))).1 = (blast_F fb3a (1 + ((IntKind.i64.wrap tx1).tmod 3))).1 := of_decide_eq_true hq44
              refine xq rfl ⟨_, rfl, rfl⟩ (o_mv rfl) ?_
              refine xcallq rfl ⟨_, rfl, rfl⟩ kf10 rfl (fun w1 hw1 => code_c _ w1) ?_
              refine xq rfl ⟨_, rfl, rfl⟩ (o_mv rfl) ?_
              refine xcallq rfl ⟨_, rfl, rfl⟩ kf10 rfl (fun w1 hw1 => code_c _ w1) ?_
              refine xq rfl ⟨_, rfl, rfl⟩ (o_neq rfl rfl) ?_
              refine xq rfl trivial (o_pick_f rfl rfl) ?_
              refine xo_nil ?_
              exact xq_cut ((lce rfl (by first | rfl | (simp only [hq44, if_pos hp44, bS]; done) | (simp only [hq44, if_pos hp44, bS, reduceIte, Bool.false_eq_true]; done) | (simp [hp44]; done) | (simp_all; done)) (lc rfl (lc rfl (lc rfl (lc rfl ln)))))) (fun _ h => h)
          · refine xq_then ?_
            refine xw_bool 114 rfl (fun hc45 => ?_) (fun hc45 => ?_)
            · have hq45 : ((!(decide ((blast_F fb3 (1 + ((IntKind.i64.wrap tx1).tmod 3))).1 = (blast_F fb3a (1 + ((IntKind.i64.wrap tx1).tmod 3))).1))) || (!(decide ((code_F ((blast_F fb3 (1 + ((IntKind.i64.wrap tx1).tmod 3))).2)) = (code_F ((blast_F fb3a (1 + ((IntKind.i64.wrap tx1).tmod 3))).2)))))) = true := hc45
              have hp45 : ((!(decide ((blast_F fb3 (1 + ((IntKind.i64.wrap tx1).tmod 3))).1 = (blast_F fb3a (1 + ((IntKind.i64.wrap tx1).tmod 3))).1))) || (!(decide ((code_F ((blast_F fb3 (1 + ((IntKind.i64.wrap tx1).tmod 3))).2)) = (code_F ((blast_F fb3a (1 + ((IntKind.i64.wrap tx1).tmod 3))).2)))))) = true := hq45
              rw [if_pos hp45] at h
              refine xw_cond_t rfl rfl (xw_seq (xw_region ?_))
              refine xq rfl trivial (o_as rfl) ?_
              refine xo_nil (xq_then (xw_ret (xq_then_ret ?_)))
              subst h
              exact con_ret1 (.inl rfl) Try.results4 rfl [] (Kp.st (Kp.new hb3a (Kp.segNew (Cov.fresh hcBb3a_0_1o) (Kp.new hb3 (Kp.segNew (Cov.fresh hcBb3_0_1o) Kp.nil))))) (⟨rfl, rfl⟩)
            · have hq45 : ((!(decide ((blast_F fb3 (1 + ((IntKind.i64.wrap tx1).tmod 3))).1 = (blast_F fb3a (1 + ((IntKind.i64.wrap tx1).tmod 3))).1))) || (!(decide ((code_F ((blast_F fb3 (1 + ((IntKind.i64.wrap tx1).tmod 3))).2)) = (code_F ((blast_F fb3a (1 + ((IntKind.i64.wrap tx1).tmod 3))).2)))))) = false := hc45
              have hp45 : ¬ (((!(decide ((blast_F fb3 (1 + ((IntKind.i64.wrap tx1).tmod 3))).1 = (blast_F fb3a (1 + ((IntKind.i64.wrap tx1).tmod 3))).1))) || (!(decide ((code_F ((blast_F fb3 (1 + ((IntKind.i64.wrap tx1).tmod 3))).2)) = (code_F ((blast_F fb3a (1 + ((IntKind.i64.wrap tx1).tmod 3))).2)))))) = true) := bne' hq45
              rw [if_neg hp45] at h
              refine xw_cond_f rfl rfl (xw_skip (xq_then (xw_seq (xw_region ?_))))
              refine xq rfl trivial (o_mv rfl) ?_
              refine xq rfl trivial (o_mv rfl) ?_
              refine xq rfl trivial (o_mv rfl) ?_
              refine xq rfl trivial (o_max2 rfl) ?_
              refine xo rfl trivial (OT.st (fun _ h => St.permI [2, 3, 0, 1] [[(b3a, _)], Bb3a_0_1o, [(b3, _)], Bb3_0_1o] rfl h) (ot_callF (Cs := [[(b3, _)], Bb3_0_1o]) (Rs := [[(b3a, _)], Bb3a_0_1o]) kf9 rfl (fun w1 hw1 => bopen_c _ _ _ _ _ _ w1 hJb3_0_1o (St.hasC hw1)) (fun _ _ _ h => h.1))) ?_
              rintro _ _ ⟨w1, _, rfl, hle, -, vg47_0, Bg47_0, rfl, rfl, hJBg47_0, hcBg47_0⟩
              replace hcBg47_0 := Cov.trans hcBb3_0_1o (Cov.base (w0 := w) hcBg47_0 hle)
              refine xo_st ((b3, BK 1 (cl [vg47_0]) 67) :: (Bg47_0 ++ ((b3a, BK 1 (cl [vb3a_0_1o]) 67) :: (Bb3a_0_1o ++ ([]))))) (fun _ h => h) ?_
              refine xq rfl trivial (o_mv rfl) ?_
              refine xq rfl trivial (o_ext rfl rfl) ?_
              refine xq rfl trivial (o_ext rfl rfl) ?_
              refine xo rfl trivial (o_alloc ze34 rfl) ?_
              rintro _ _ ⟨b17, hb17, rfl, rfl⟩
              refine xq0 trivial (o_stWI rfl rfl ts34 (List.Mem.head _) (.here _ _ _ _)) ?_
              refine xq rfl trivial (o_as rfl) ?_
              refine xo_nil (xq_then (xw_seq (xw_region ?_)))
              refine xq rfl trivial (o_mv rfl) ?_
              refine xq rfl trivial (o_mv rfl) ?_
              refine xq rfl trivial (o_mv rfl) ?_
              refine xq rfl trivial (o_max2 rfl) ?_
              refine xo rfl trivial (OT.st (fun _ h => St.permI [3, 4, 0, 1, 2] [[(b17, _)], [(b3, _)], Bg47_0, [(b3a, _)], Bb3a_0_1o] rfl h) (ot_callF (Cs := [[(b3a, _)], Bb3a_0_1o]) (Rs := [[(b17, _)], [(b3, _)], Bg47_0]) kf9 rfl (fun w1 hw1 => bopen_c _ _ _ _ _ _ w1 hJb3a_0_1o (St.hasC hw1)) (fun _ _ _ h => h.1))) ?_
              rintro _ _ ⟨w1, _, rfl, hle, -, vg49_0, Bg49_0, rfl, rfl, hJBg49_0, hcBg49_0⟩
              replace hcBg49_0 := Cov.trans hcBb3a_0_1o (Cov.base (w0 := w) hcBg49_0 hle)
              refine xo_st ((b3a, BK 1 (cl [vg49_0]) 67) :: (Bg49_0 ++ ((b17, BK 28 (iv ((bopen_F fb3 (1 + ((IntKind.i64.wrap tx1).tmod 3)) (if ((blast_F fb3 (1 + ((IntKind.i64.wrap tx1).tmod 3))).1) < 1 then 1 else ((blast_F fb3 (1 + ((IntKind.i64.wrap tx1).tmod 3))).1))).1)) 34) :: ((b3, BK 1 (cl [vg47_0]) 67) :: (Bg47_0 ++ ([])))))) (fun _ h => h) ?_
              refine xq rfl trivial (o_mv rfl) ?_
              refine xq rfl trivial (o_ext rfl rfl) ?_
              refine xq rfl trivial (o_ext rfl rfl) ?_
              refine xo rfl trivial (o_alloc ze34 rfl) ?_
              rintro _ _ ⟨b19, hb19, rfl, rfl⟩
              refine xq0 trivial (o_stWI rfl rfl ts34 (List.Mem.head _) (.here _ _ _ _)) ?_
              refine xq rfl trivial (o_as rfl) ?_
              refine xo_nil (xq_then (xw_seq (xw_seq (xw_region ?_))))
              refine xq rfl trivial (o_ldW rfl ts34 (List.Mem.tail _ (List.Mem.tail _ (List.mem_append_right _ (List.Mem.head _))))) ?_
              refine xq rfl trivial (o_ldW rfl ts34 (List.Mem.head _)) ?_
              refine xq rfl trivial (o_neqA eq34 rfl rfl) ?_
              refine xq rfl trivial (o_mv rfl) ?_
              refine xo_bool 134 rfl (fun hg50 => ?_) (fun hg50 => ?_)
              · have hq50 : ((eqN 28 ((bopen_F fb3 (1 + ((IntKind.i64.wrap tx1).tmod 3)) (if ((blast_F fb3 (1 + ((IntKind.i64.wrap tx1).tmod 3))).1) < 1 then 1 else ((blast_F fb3 (1 + ((IntKind.i64.wrap tx1).tmod 3))).1))).1) ((bopen_F fb3a (1 + ((IntKind.i64.wrap tx1).tmod 3)) (if ((blast_F fb3 (1 + ((IntKind.i64.wrap tx1).tmod 3))).1) < 1 then 1 else ((blast_F fb3 (1 + ((IntKind.i64.wrap tx1).tmod 3))).1))).1))) = false := (bnT hg50)
                have hp50 : ¬ (((eqN 28 ((bopen_F fb3 (1 + ((IntKind.i64.wrap tx1).tmod 3)) (if ((blast_F fb3 (1 + ((IntKind.i64.wrap tx1).tmod 3))).1) < 1 then 1 else ((blast_F fb3 (1 + ((IntKind.i64.wrap tx1).tmod 3))).1))).1) ((bopen_F fb3a (1 + ((IntKind.i64.wrap tx1).tmod 3)) (if ((blast_F fb3 (1 + ((IntKind.i64.wrap tx1).tmod 3))).1) < 1 then 1 else ((blast_F fb3 (1 + ((IntKind.i64.wrap tx1).tmod 3))).1))).1))) = true) := bne' hq50
                rw [if_neg hp50] at h
                refine xs rfl ⟨_, _, rfl, rfl, rfl⟩ (xs rfl ⟨_, _, rfl, rfl, rfl⟩ (xs rfl ⟨_, _, rfl, rfl, rfl⟩ (xs rfl ⟨_, _, rfl, rfl, rfl⟩ (xs rfl ⟨_, _, rfl, rfl, rfl⟩ ?_))))
                refine xq rfl trivial (o_pick_t rfl rfl) ?_
                refine xq rfl trivial (o_mv rfl) ?_
                refine xs rfl ⟨_, _, rfl, rfl, rfl⟩ (xs rfl ⟨_, _, rfl, rfl, rfl⟩ (xs rfl ⟨_, _, rfl, rfl, rfl⟩ (xs rfl ⟨_, _, rfl, rfl, rfl⟩ ?_)))
                refine xq rfl trivial (o_pick_t rfl rfl) ?_
                refine xo_nil (xq_then (xw_cond_t rfl rfl (xw_seq (xw_region ?_))))
                refine xq rfl trivial (o_as rfl) ?_
                refine xo_nil (xq_then (xw_ret (xq_then_ret ?_)))
                subst h
                exact con_ret1 (.inl rfl) Try.results4 rfl [] (Kp.st (Kp.new hb19 (Kp.new hb3a (Kp.segNew (Cov.fresh hcBg49_0) (Kp.new hb17 (Kp.new hb3 (Kp.segNew (Cov.fresh hcBg47_0) Kp.nil))))))) (⟨rfl, rfl⟩)
              · have hq50 : ((eqN 28 ((bopen_F fb3 (1 + ((IntKind.i64.wrap tx1).tmod 3)) (if ((blast_F fb3 (1 + ((IntKind.i64.wrap tx1).tmod 3))).1) < 1 then 1 else ((blast_F fb3 (1 + ((IntKind.i64.wrap tx1).tmod 3))).1))).1) ((bopen_F fb3a (1 + ((IntKind.i64.wrap tx1).tmod 3)) (if ((blast_F fb3 (1 + ((IntKind.i64.wrap tx1).tmod 3))).1) < 1 then 1 else ((blast_F fb3 (1 + ((IntKind.i64.wrap tx1).tmod 3))).1))).1))) = true := (bnF hg50)
                have hp50 : ((eqN 28 ((bopen_F fb3 (1 + ((IntKind.i64.wrap tx1).tmod 3)) (if ((blast_F fb3 (1 + ((IntKind.i64.wrap tx1).tmod 3))).1) < 1 then 1 else ((blast_F fb3 (1 + ((IntKind.i64.wrap tx1).tmod 3))).1))).1) ((bopen_F fb3a (1 + ((IntKind.i64.wrap tx1).tmod 3)) (if ((blast_F fb3 (1 + ((IntKind.i64.wrap tx1).tmod 3))).1) < 1 then 1 else ((blast_F fb3 (1 + ((IntKind.i64.wrap tx1).tmod 3))).1))).1))) = true := hq50
                rw [if_pos hp50] at h
                refine xq rfl ⟨_, rfl, rfl⟩ (o_mv rfl) ?_
                refine xcallq rfl ⟨_, rfl, rfl⟩ kf10 rfl (fun w1 hw1 => code_c _ w1) ?_
                refine xq rfl ⟨_, rfl, rfl⟩ (o_mv rfl) ?_
                refine xcallq rfl ⟨_, rfl, rfl⟩ kf10 rfl (fun w1 hw1 => code_c _ w1) ?_
                refine xq rfl ⟨_, rfl, rfl⟩ (o_neq rfl rfl) ?_
                refine xq rfl trivial (o_pick_f rfl rfl) ?_
                refine xq rfl trivial (o_mv rfl) ?_
                refine xo_bool 141 rfl (fun hg51 => ?_) (fun hg51 => ?_)
                · have hq51 : (decide ((code_F ((bopen_F fb3 (1 + ((IntKind.i64.wrap tx1).tmod 3)) (if ((blast_F fb3 (1 + ((IntKind.i64.wrap tx1).tmod 3))).1) < 1 then 1 else ((blast_F fb3 (1 + ((IntKind.i64.wrap tx1).tmod 3))).1))).2.1)) = (code_F ((bopen_F fb3a (1 + ((IntKind.i64.wrap tx1).tmod 3)) (if ((blast_F fb3 (1 + ((IntKind.i64.wrap tx1).tmod 3))).1) < 1 then 1 else ((blast_F fb3 (1 + ((IntKind.i64.wrap tx1).tmod 3))).1))).2.1)))) = false := (bnT hg51)
                  have hp51 : ¬ ((code_F ((bopen_F fb3 (1 + ((IntKind.i64.wrap tx1).tmod 3)) (if ((blast_F fb3 (1 + ((IntKind.i64.wrap tx1).tmod 3))).1) < 1 then 1 else ((blast_F fb3 (1 + ((IntKind.i64.wrap tx1).tmod 3))).1))).2.1)) = (code_F ((bopen_F fb3a (1 + ((IntKind.i64.wrap tx1).tmod 3)) (if ((blast_F fb3 (1 + ((IntKind.i64.wrap tx1).tmod 3))).1) < 1 then 1 else ((blast_F fb3 (1 + ((IntKind.i64.wrap tx1).tmod 3))).1))).2.1))) := of_decide_eq_false hq51
                  rw [if_neg hp51] at h
                  refine xs rfl ⟨_, _, rfl, rfl, rfl⟩ (xs rfl ⟨_, _, rfl, rfl, rfl⟩ (xs rfl ⟨_, _, rfl, rfl, rfl⟩ (xs rfl ⟨_, _, rfl, rfl, rfl⟩ ?_)))
                  refine xq rfl trivial (o_pick_t rfl rfl) ?_
                  refine xo_nil (xq_then (xw_cond_t rfl rfl (xw_seq (xw_region ?_))))
                  refine xq rfl trivial (o_as rfl) ?_
                  refine xo_nil (xq_then (xw_ret (xq_then_ret ?_)))
                  subst h
                  exact con_ret1 (.inl rfl) Try.results4 rfl [] (Kp.st (Kp.new hb19 (Kp.new hb3a (Kp.segNew (Cov.fresh hcBg49_0) (Kp.new hb17 (Kp.new hb3 (Kp.segNew (Cov.fresh hcBg47_0) Kp.nil))))))) (⟨rfl, rfl⟩)
                · have hq51 : (decide ((code_F ((bopen_F fb3 (1 + ((IntKind.i64.wrap tx1).tmod 3)) (if ((blast_F fb3 (1 + ((IntKind.i64.wrap tx1).tmod 3))).1) < 1 then 1 else ((blast_F fb3 (1 + ((IntKind.i64.wrap tx1).tmod 3))).1))).2.1)) = (code_F ((bopen_F fb3a (1 + ((IntKind.i64.wrap tx1).tmod 3)) (if ((blast_F fb3 (1 + ((IntKind.i64.wrap tx1).tmod 3))).1) < 1 then 1 else ((blast_F fb3 (1 + ((IntKind.i64.wrap tx1).tmod 3))).1))).2.1)))) = true := (bnF hg51)
                  have hp51 : (code_F ((bopen_F fb3 (1 + ((IntKind.i64.wrap tx1).tmod 3)) (if ((blast_F fb3 (1 + ((IntKind.i64.wrap tx1).tmod 3))).1) < 1 then 1 else ((blast_F fb3 (1 + ((IntKind.i64.wrap tx1).tmod 3))).1))).2.1)) = (code_F ((bopen_F fb3a (1 + ((IntKind.i64.wrap tx1).tmod 3)) (if ((blast_F fb3 (1 + ((IntKind.i64.wrap tx1).tmod 3))).1) < 1 then 1 else ((blast_F fb3 (1 + ((IntKind.i64.wrap tx1).tmod 3))).1))).2.1)) := of_decide_eq_true hq51
                  rw [if_pos hp51] at h
                  refine xq rfl ⟨_, rfl, rfl⟩ (o_mv rfl) ?_
                  refine xq rfl ⟨_, rfl, rfl⟩ (o_mv rfl) ?_
                  refine xo rfl ⟨_, rfl, rfl⟩ (OT.st (fun _ h => St.permI [4, 5, 0, 1, 2, 3] [[(b19, _)], [(b3a, _)], Bg49_0, [(b17, _)], [(b3, _)], Bg47_0] rfl h) (ot_callF (Cs := [[(b3, _)], Bg47_0]) (Rs := [[(b19, _)], [(b3a, _)], Bg49_0, [(b17, _)]]) kf13 rfl (fun w1 hw1 => bforget_c _ _ _ _ _ w1 hJBg47_0 (St.hasC hw1)) (fun _ _ _ h => h.1))) ?_
                  rintro _ _ ⟨w1, _, rfl, hle, -, vg53_0, Bg53_0, rfl, rfl, hJBg53_0, hcBg53_0⟩
                  replace hcBg53_0 := Cov.trans hcBg47_0 (Cov.base (w0 := w) hcBg53_0 hle)
                  refine xo_st ((b3, BK 1 (cl [vg53_0]) 67) :: (Bg53_0 ++ ((b19, BK 28 (iv ((bopen_F fb3a (1 + ((IntKind.i64.wrap tx1).tmod 3)) (if ((blast_F fb3 (1 + ((IntKind.i64.wrap tx1).tmod 3))).1) < 1 then 1 else ((blast_F fb3 (1 + ((IntKind.i64.wrap tx1).tmod 3))).1))).1)) 34) :: ((b3a, BK 1 (cl [vg49_0]) 67) :: (Bg49_0 ++ ((b17, BK 28 (iv ((bopen_F fb3 (1 + ((IntKind.i64.wrap tx1).tmod 3)) (if ((blast_F fb3 (1 + ((IntKind.i64.wrap tx1).tmod 3))).1) < 1 then 1 else ((blast_F fb3 (1 + ((IntKind.i64.wrap tx1).tmod 3))).1))).1)) 34) :: ([]))))))) (fun _ h => h) ?_
                  refine xq rfl ⟨_, rfl, rfl⟩ (o_neE Try.underlying36 rfl (fun _ => rfl) rfl rfl) ?_
                  refine xq rfl trivial (o_pick_f rfl rfl) ?_
                  refine xo_nil (xq_then ?_)
                  refine xw_bool 146 rfl (fun hc54 => ?_) (fun hc54 => ?_)
                  · have hq54 : (decide ((bforget_F ((bopen_F fb3 (1 + ((IntKind.i64.wrap tx1).tmod 3)) (if ((blast_F fb3 (1 + ((IntKind.i64.wrap tx1).tmod 3))).1) < 1 then 1 else ((blast_F fb3 (1 + ((IntKind.i64.wrap tx1).tmod 3))).1))).2.2) (1 + ((IntKind.i64.wrap tx1).tmod 3))).1 = 0)) = false := (bnT hc54)
                    have hp54 : ¬ ((bforget_F ((bopen_F fb3 (1 + ((IntKind.i64.wrap tx1).tmod 3)) (if ((blast_F fb3 (1 + ((IntKind.i64.wrap tx1).tmod 3))).1) < 1 then 1 else ((blast_F fb3 (1 + ((IntKind.i64.wrap tx1).tmod 3))).1))).2.2) (1 + ((IntKind.i64.wrap tx1).tmod 3))).1 = 0) := of_decide_eq_false hq54
                    rw [if_neg hp54] at h
                    refine xw_cond_t rfl rfl (xw_seq (xw_region ?_))
                    refine xq rfl trivial (o_as rfl) ?_
                    refine xo_nil (xq_then (xw_ret (xq_then_ret ?_)))
                    subst h
                    exact con_ret1 (.inl rfl) Try.results4 rfl [] (Kp.st (Kp.new hb3 (Kp.segNew (Cov.fresh hcBg53_0) (Kp.new hb19 (Kp.new hb3a (Kp.segNew (Cov.fresh hcBg49_0) (Kp.new hb17 Kp.nil))))))) (⟨rfl, rfl⟩)
                  · have hq54 : (decide ((bforget_F ((bopen_F fb3 (1 + ((IntKind.i64.wrap tx1).tmod 3)) (if ((blast_F fb3 (1 + ((IntKind.i64.wrap tx1).tmod 3))).1) < 1 then 1 else ((blast_F fb3 (1 + ((IntKind.i64.wrap tx1).tmod 3))).1))).2.2) (1 + ((IntKind.i64.wrap tx1).tmod 3))).1 = 0)) = true := (bnF hc54)
                    have hp54 : (bforget_F ((bopen_F fb3 (1 + ((IntKind.i64.wrap tx1).tmod 3)) (if ((blast_F fb3 (1 + ((IntKind.i64.wrap tx1).tmod 3))).1) < 1 then 1 else ((blast_F fb3 (1 + ((IntKind.i64.wrap tx1).tmod 3))).1))).2.2) (1 + ((IntKind.i64.wrap tx1).tmod 3))).1 = 0 := of_decide_eq_true hq54
                    rw [if_pos hp54] at h
                    refine xw_cond_f rfl rfl (xw_skip (xq_then (xw_seq (xw_region ?_))))
                    refine xq rfl trivial (o_mv rfl) ?_
                    refine xq rfl trivial (o_mv rfl) ?_
                    refine xo rfl trivial (OT.st (fun _ h => h) (ot_callF (Cs := [[(b3, _)], Bg53_0]) (Rs := [[(b19, _)], [(b3a, _)], Bg49_0, [(b17, _)]]) kf9 rfl (fun w1 hw1 => bopen_c _ _ _ _ _ _ w1 hJBg53_0 (St.hasC hw1)) (fun _ _ _ h => h.1))) ?_
                    rintro _ _ ⟨w1, _, rfl, hle, -, vg56_0, Bg56_0, rfl, rfl, hJBg56_0, hcBg56_0⟩
                    replace hcBg56_0 := Cov.trans hcBg53_0 (Cov.base (w0 := w) hcBg56_0 hle)
                    refine xo_st ((b3, BK 1 (cl [vg56_0]) 67) :: (Bg56_0 ++ ((b19, BK 28 (iv ((bopen_F fb3a (1 + ((IntKind.i64.wrap tx1).tmod 3)) (if ((blast_F fb3 (1 + ((IntKind.i64.wrap tx1).tmod 3))).1) < 1 then 1 else ((blast_F fb3 (1 + ((IntKind.i64.wrap tx1).tmod 3))).1))).1)) 34) :: ((b3a, BK 1 (cl [vg49_0]) 67) :: (Bg49_0 ++ ((b17, BK 28 (iv ((bopen_F fb3 (1 + ((IntKind.i64.wrap tx1).tmod 3)) (if ((blast_F fb3 (1 + ((IntKind.i64.wrap tx1).tmod 3))).1) < 1 then 1 else ((blast_F fb3 (1 + ((IntKind.i64.wrap tx1).tmod 3))).1))).1)) 34) :: ([]))))))) (fun _ h => h) ?_
                    refine xq rfl trivial (o_mv rfl) ?_
                    refine xq rfl trivial (o_ext rfl rfl) ?_
                    refine xq rfl trivial (o_ext rfl rfl) ?_
                    refine xo rfl trivial (o_alloc ze34 rfl) ?_
                    rintro _ _ ⟨b21, hb21, rfl, rfl⟩
                    refine xq0 trivial (o_stWI rfl rfl ts34 (List.Mem.head _) (.here _ _ _ _)) ?_
                    refine xq rfl trivial (o_as rfl) ?_
                    refine xo_nil (xq_then (xw_seq ?_))
                    refine xw_cut [] ln [(4, .bool (((eqN 28 ((bopen_F ((bforget_F ((bopen_F fb3 (1 + ((IntKind.i64.wrap tx1).tmod 3)) (if ((blast_F fb3 (1 + ((IntKind.i64.wrap tx1).tmod 3))).1) < 1 then 1 else ((blast_F fb3 (1 + ((IntKind.i64.wrap tx1).tmod 3))).1))).2.2) (1 + ((IntKind.i64.wrap tx1).tmod 3))).2) (1 + ((IntKind.i64.wrap tx1).tmod 3)) 1).1) (fun _ => 0))) && (decide ((bopen_F ((bforget_F ((bopen_F fb3 (1 + ((IntKind.i64.wrap tx1).tmod 3)) (if ((blast_F fb3 (1 + ((IntKind.i64.wrap tx1).tmod 3))).1) < 1 then 1 else ((blast_F fb3 (1 + ((IntKind.i64.wrap tx1).tmod 3))).1))).2.2) (1 + ((IntKind.i64.wrap tx1).tmod 3))).2) (1 + ((IntKind.i64.wrap tx1).tmod 3)) 1).2.1 = 0))))] ?_ ?_
                    · refine xw_region ?_
                      refine xq rfl trivial (o_ldW rfl ts34 (List.Mem.head _)) ?_
                      refine xq rfl trivial (o_build fk34 ze34 (.nil _)) ?_
                      refine xq rfl trivial (o_eqlA eq34 rfl rfl) ?_
                      refine xq rfl trivial (o_mv rfl) ?_
                      refine xo_bool 156 rfl (fun hg57 => ?_) (fun hg57 => ?_)
                      · have hq57 : ((eqN 28 ((bopen_F ((bforget_F ((bopen_F fb3 (1 + ((IntKind.i64.wrap tx1).tmod 3)) (if ((blast_F fb3 (1 + ((IntKind.i64.wrap tx1).tmod 3))).1) < 1 then 1 else ((blast_F fb3 (1 + ((IntKind.i64.wrap tx1).tmod 3))).1))).2.2) (1 + ((IntKind.i64.wrap tx1).tmod 3))).2) (1 + ((IntKind.i64.wrap tx1).tmod 3)) 1).1) (fun _ => 0))) = true := hg57
                        have hp57 : ((eqN 28 ((bopen_F ((bforget_F ((bopen_F fb3 (1 + ((IntKind.i64.wrap tx1).tmod 3)) (if ((blast_F fb3 (1 + ((IntKind.i64.wrap tx1).tmod 3))).1) < 1 then 1 else ((blast_F fb3 (1 + ((IntKind.i64.wrap tx1).tmod 3))).1))).2.2) (1 + ((IntKind.i64.wrap tx1).tmod 3))).2) (1 + ((IntKind.i64.wrap tx1).tmod 3)) 1).1) (fun _ => 0))) = true := hq57
                        refine xq rfl ⟨_, rfl, rfl⟩ (o_mv rfl) ?_
                        refine xq rfl ⟨_, rfl, rfl⟩ (o_eqE Try.underlying36 rfl (fun _ => rfl) rfl rfl) ?_
                        refine xq rfl trivial (o_pick_t rfl rfl) ?_
                        refine xq rfl trivial (o_as rfl) ?_
                        refine xo_nil ?_
                        exact xq_cut ((lce rfl (by first | rfl | (simp only [hq45, hq50, hq51, hq54, hq57, if_neg hp45, if_pos hp50, if_pos hp51, if_pos hp54, if_pos hp57, bS]; done) | (simp only [hq45, hq50, hq51, hq54, hq57, if_neg hp45, if_pos hp50, if_pos hp51, if_pos hp54, if_pos hp57, bS, reduceIte, Bool.false_eq_true]; done) | (simp [hp45, hp50, hp51, hp54, hp57]; done) | (simp_all; done)) ln)) (fun _ h => h)
                      · have hq57 : ((eqN 28 ((bopen_F ((bforget_F ((bopen_F fb3 (1 + ((IntKind.i64.wrap tx1).tmod 3)) (if ((blast_F fb3 (1 + ((IntKind.i64.wrap tx1).tmod 3))).1) < 1 then 1 else ((blast_F fb3 (1 + ((IntKind.i64.wrap tx1).tmod 3))).1))).2.2) (1 + ((IntKind.i64.wrap tx1).tmod 3))).2) (1 + ((IntKind.i64.wrap tx1).tmod 3)) 1).1) (fun _ => 0))) = false := hg57
                        have hp57 : ¬ (((eqN 28 ((bopen_F ((bforget_F ((bopen_F fb3 (1 + ((IntKind.i64.wrap tx1).tmod 3)) (if ((blast_F fb3 (1 + ((IntKind.i64.wrap tx1).tmod 3))).1) < 1 then 1 else ((blast_F fb3 (1 + ((IntKind.i64.wrap tx1).tmod 3))).1))).2.2) (1 + ((IntKind.i64.wrap tx1).tmod 3))).2) (1 + ((IntKind.i64.wrap tx1).tmod 3)) 1).1) (fun _ => 0))) = true) := bne' hq57
                        refine xs rfl ⟨_, _, rfl, rfl, rfl⟩ (xs rfl ⟨_, _, rfl, rfl, rfl⟩ ?_)
                        refine xq rfl trivial (o_pick_f rfl rfl) ?_
                        refine xq rfl trivial (o_as rfl) ?_
                        refine xo_nil ?_
                        exact xq_cut ((lce rfl (by first | rfl | (simp only [hq45, hq50, hq51, hq54, hq57, if_neg hp45, if_pos hp50, if_pos hp51, if_pos hp54, if_neg hp57, bS]; done) | (simp only [hq45, hq50, hq51, hq54, hq57, if_neg hp45, if_pos hp50, if_pos hp51, if_pos hp54, if_neg hp57, bS, reduceIte, Bool.false_eq_true]; done) | (simp [hp45, hp50, hp51, hp54, hp57]; done) | (simp_all; done)) ln)) (fun _ h => h)
                    · refine xq_then (xw_ret ?_)
                      subst h
                      exact con_ret1 (.inl rfl) Try.results4 rfl [] (Kp.st (Kp.new hb21 (Kp.new hb3 (Kp.segNew (Cov.fresh hcBg56_0) (Kp.new hb19 (Kp.new hb3a (Kp.segNew (Cov.fresh hcBg49_0) (Kp.new hb17 Kp.nil)))))))) (⟨rfl, rfl⟩)

end Go.Proofs.Ytndkjhaiopcpeaa
