/- The code answers as the relations say. -/
import Derived.Test.YtfpilngnhkcgjaaTab
import Derived.Test.YtfpilngnhkcgjaaB06S
import Derived.Test.YtfpilngnhkcgjaaA06W
set_option maxHeartbeats 1000000
set_option linter.unusedVariables false
set_option linter.unusedSimpArgs false
set_option maxRecDepth 100000
namespace Go.Proofs.Ytfpilngnhkcgjaa
open Go Go.E

theorem due_c (l0span : Int) (l0since : (List (Int × Int))) (now1 : Int) (p0 : Nat) (v0_1 : Value) (S0_1 : GH) (w : World) (hJ0_1 : MJ kI kI ieq S0_1 v0_1 l0since) (hC : Has w (cat [[(p0, BK 2 (cl [.int .i64 l0span, v0_1]) 57)], S0_1])) (hP : due_P l0span l0since now1) : Con Try.prog 10 #[.pointer (some ⟨p0, 0, none⟩), .int .i64 now1] w (CatG fun v Ls => Cov w (cat [[(p0, BK 2 (cl [.int .i64 l0span, v0_1]) 57)], S0_1]) (cat Ls) ∧ ∃ (u0 : Value) (C0 : GH), v = u0 ∧ Ls = [[(p0, BK 2 (cl [.int .i64 l0span, v0_1]) 57)], S0_1, C0] ∧ OJ 3 1 ic C0 u0 (due_F l0span l0since now1) ∧ Cov w [] C0) :=
  due_con l0span l0since now1 p0 v0_1 S0_1 w hJ0_1 hC _ (due_ok l0span l0since now1 hP)

theorem ints_c (a0 : (List Int)) (b1 : (List Int)) (v0 : Value) (v1 : Value) (w : World) (hs0 : SL w 1 ic v0 a0) (hs1 : SL w 1 ic v1 b1) (hP : ints_P a0 b1) : Con Try.prog 11 #[v0, v1] w (Is (.bool (ints_F a0 b1)) []) :=
  ints_con a0 b1 v0 v1 w hs0 hs1 _ (ints_ok a0 b1 hP)

theorem alive06_con (w : World) (r : Bool) (h : alive06_S r) : Con Try.prog 7 #[] w (Is (.bool r) []) := by
  unfold alive06_S at h
  refine con_enter (n := 28) [] Try.func7 rfl Try.ntmps7 rfl lan ?_
  refine xw_seq (xw_region ?_)
  refine xq rfl trivial (o_as rfl) ?_
  refine xo_nil (xq_then (xw_seq (xw_region ?_)))
  refine xoR rfl trivial (ot_in (l := [(0, _)]) kf8 rfl Try.func8 rfl Try.ntmps8 rfl (lac rfl lan) ?_)
  refine xw_seq (xw_region ?_)
  refine xq rfl trivial (o_as rfl) ?_
  refine xq rfl trivial (o_as rfl) ?_
  refine xo_nil (xq_then (xw_seq (xw_seq ?_)))
  refine xw_cut [(0, _)] (lc rfl ln) [(9, .bool false)] ?_ ?_
  · refine xw_region ?_
    refine xq rfl trivial (o_mv rfl) ?_
    refine xq rfl trivial (o_lss rfl rfl) ?_
    refine xq rfl trivial (o_mv rfl) ?_
    refine xq rfl ⟨_, rfl, rfl⟩ (o_mv rfl) ?_
    refine xq rfl ⟨_, rfl, rfl⟩ (o_gtr rfl rfl) ?_
    refine xq rfl trivial (o_pick_f rfl rfl) ?_
    refine xo_nil ?_
    exact xq_cut ((lce rfl (by first | rfl | (simp only [bS]; done) | (simp []; done) | (simp_all; done)) (lc rfl ln))) (fun _ h => h)
  · refine xq_then (xw_cond_f rfl rfl (xw_skip (xq_then (xw_seq (xw_region ?_)))))
    refine xq rfl trivial (o_mv rfl) ?_
    refine xo rfl trivial (o_mkmap (α := Int) (cv := kI) kt3 Try.underlying55) ?_
    rintro vs1 _ ⟨Bs1, rfl, hns1, hJs1⟩
    have hcBs1 := hns1
    refine xq rfl trivial (o_buildC [.int .i64 3, vs1] fk57 ze57 (.one fl57_0 rfl rfl rfl (.one fl57_1 rfl rfl (MJ.one hJs1) (.nil _))) (fun i hi => match i, hi with | 0, _ => rfl | 1, _ => rfl | q + 2, h => absurd h (by omega))) ?_
    refine xo rfl trivial (o_boxC [.int .i64 3, vs1] rfl (fun i hi => match i, hi with | 0, _ => rfl | 1, _ => rfl | q + 2, h => absurd h (by omega))) ?_
    rintro _ _ ⟨b14, hb14, rfl, rfl⟩
    refine xq rfl trivial (o_as rfl) ?_
    refine xq rfl trivial (o_as rfl) ?_
    refine xo_nil (xq_then (xw_ret ?_))
    refine con_ret2 (.inl rfl) Try.results8 rfl rfl _ (fun _ h => h) (?_)
    refine xq rfl trivial (o_mv rfl) ?_
    refine xq rfl trivial (o_ext rfl rfl) ?_
    refine xq rfl trivial (o_ext rfl rfl) ?_
    refine xq rfl trivial (o_as rfl) ?_
    refine xq rfl trivial (o_as rfl) ?_
    refine xo_nil (xq_then (xw_seq (xw_seq (xw_region ?_))))
    refine xq rfl trivial (o_mv rfl) ?_
    refine xq rfl trivial (o_eqn Try.underlying25 rfl rfl rfl rfl) ?_
    refine xq rfl trivial (o_mv rfl) ?_
    refine xq rfl ⟨_, rfl, rfl⟩ (o_mv rfl) ?_
    refine xq rfl ⟨_, rfl, rfl⟩ (o_nen Try.underlying27 rfl rfl rfl rfl) ?_
    refine xq rfl trivial (o_pick_f rfl rfl) ?_
    refine xq rfl trivial (o_mv rfl) ?_
    refine xq rfl ⟨_, rfl, rfl⟩ (o_mv rfl) ?_
    refine xo rfl ⟨_, rfl, rfl⟩ (OT.st (fun _ h => h) (ot_callF (Cs := [[(b14, _)], Bs1]) (Rs := []) kf9 rfl (fun w1 hw1 => renew_c _ _ _ _ _ _ _ w1 hJs1 (St.hasC hw1)) (fun _ _ _ h => h.1))) ?_
    rintro _ _ ⟨w1, _, rfl, hle, -, vg3_0, Bg3_0, rfl, rfl, hJBg3_0, hcBg3_0⟩
    replace hcBg3_0 := Cov.trans hcBs1 (Cov.base (w0 := w) hcBg3_0 hle)
    refine xo_st ((b14, BK 2 (cl [.int .i64 3, vg3_0]) 57) :: (Bg3_0 ++ ([]))) (fun _ h => h) ?_
    refine xq rfl ⟨_, rfl, rfl⟩ (o_neE Try.underlying27 rfl (fun _ => rfl) rfl rfl) ?_
    refine xq rfl trivial (o_pick_f rfl rfl) ?_
    refine xo_nil (xq_then ?_)
    refine xw_bool 17 rfl (fun hc4 => ?_) (fun hc4 => ?_)
    · have hq4 : (decide ((renew_F 3 ([]) 7 10).1 = 0)) = false := (bnT hc4)
      have hp4 : ¬ ((renew_F 3 ([]) 7 10).1 = 0) := of_decide_eq_false hq4
      rw [if_neg hp4] at h
      refine xw_cond_t rfl rfl (xw_seq (xw_region ?_))
      refine xq rfl trivial (o_as rfl) ?_
      refine xo_nil (xq_then (xw_ret (xq_then_ret ?_)))
      subst h
      exact con_ret1 (.inl rfl) Try.results7 rfl [] (Kp.st (Kp.new hb14 (Kp.segNew (Cov.fresh hcBg3_0) Kp.nil))) (⟨rfl, rfl⟩)
    · have hq4 : (decide ((renew_F 3 ([]) 7 10).1 = 0)) = true := (bnF hc4)
      have hp4 : (renew_F 3 ([]) 7 10).1 = 0 := of_decide_eq_true hq4
      rw [if_pos hp4] at h
      refine xw_cond_f rfl rfl (xw_skip (xq_then (xw_seq (xw_region ?_))))
      refine xq rfl trivial (o_mv rfl) ?_
      obtain ⟨ho5, h⟩ := h
      refine xo rfl trivial (OT.st (fun _ h => h) (ot_callF (Cs := [[(b14, _)], Bg3_0]) (Rs := []) kf10 rfl (fun w1 hw1 => due_c _ _ _ _ _ _ w1 hJBg3_0 (St.hasC hw1) ho5) (fun _ _ _ h => h.1))) ?_
      rintro vs8 _ ⟨w1, _, rfl, hle, -, _, Bs8, rfl, rfl, hJs8, hcBs8⟩
      replace hcBs8 := Cov.base (w0 := w) hcBs8 hle
      refine xo_st ((b14, BK 2 (cl [.int .i64 3, vg3_0]) 57) :: (Bg3_0 ++ (Bs8 ++ ([])))) (fun _ h => h) ?_
      refine xq rfl trivial (o_lenL rfl Try.underlying31 rfl (OJ.val hJs8)) ?_
      refine xq rfl trivial (o_eql rfl rfl) ?_
      refine xq rfl trivial (o_mv rfl) ?_
      refine xo_bool 22 rfl (fun hg9 => ?_) (fun hg9 => ?_)
      · have hq9 : (decide (((due_F 3 ((renew_F 3 ([]) 7 10).2) 12).length : Int) = 0)) = true := hg9
        have hp9 : ((due_F 3 ((renew_F 3 ([]) 7 10).2) 12).length : Int) = 0 := of_decide_eq_true hq9
        rw [if_pos hp9] at h
        refine xq rfl ⟨_, rfl, rfl⟩ (o_mv rfl) ?_
        obtain ⟨ho10, h⟩ := h
        refine xo rfl ⟨_, rfl, rfl⟩ (OT.st (fun _ h => h) (ot_callF (Cs := [[(b14, _)], Bg3_0]) (Rs := [Bs8]) kf10 rfl (fun w1 hw1 => due_c _ _ _ _ _ _ w1 hJBg3_0 (St.hasC hw1) ho10) (fun _ _ _ h => h.1))) ?_
        rintro vs13 _ ⟨w1, _, rfl, hle, -, _, Bs13, rfl, rfl, hJs13, hcBs13⟩
        replace hcBs13 := Cov.base (w0 := w) hcBs13 hle
        refine xo_st ((b14, BK 2 (cl [.int .i64 3, vg3_0]) 57) :: (Bg3_0 ++ (Bs13 ++ (Bs8 ++ ([]))))) (fun _ h => h) ?_
        refine xo rfl ⟨_, rfl, rfl⟩ (o_bsl el31 ze3 (cells_one rfl) rfl rfl (.int rfl rfl (.nil _))) ?_
        rintro _ _ ⟨b25, hb25, rfl, rfl⟩
        obtain ⟨ho14, h⟩ := h
        refine xcallq rfl ⟨_, rfl, rfl⟩ kf11 rfl (fun w1 hw1 => ints_c _ _ _ _ w1 (hJs13.sl hw1 (Pull.sub (.thereC _ (.thereC _ (.there _ (.here _ _)))))) (SL.lit (l := [7]) hw1 (List.Mem.head _) rfl (by omega) (by simp [maxLen]) (by exact (fun i hi => match i, hi with | 0, _ => rfl | q + 1, h => absurd h (by omega)))) ho14) ?_
        refine xq rfl trivial (o_pick_t rfl rfl) ?_
        refine xq rfl trivial (o_as rfl) ?_
        refine xo_nil (xq_then (xw_ret ?_))
        subst h
        exact con_ret1 (.inl rfl) Try.results7 rfl [] (Kp.st (Kp.new hb25 (Kp.new hb14 (Kp.segNew (Cov.fresh hcBg3_0) (Kp.segNew (Cov.fresh hcBs13) (Kp.segNew (Cov.fresh hcBs8) Kp.nil)))))) (⟨rfl, rfl⟩)
      · have hq9 : (decide (((due_F 3 ((renew_F 3 ([]) 7 10).2) 12).length : Int) = 0)) = false := hg9
        have hp9 : ¬ (((due_F 3 ((renew_F 3 ([]) 7 10).2) 12).length : Int) = 0) := of_decide_eq_false hq9
        rw [if_neg hp9] at h
        refine xs rfl ⟨_, _, rfl, rfl, rfl⟩ (xs rfl ⟨_, _, rfl, rfl, rfl⟩ (xs rfl ⟨_, _, rfl, rfl, rfl⟩ (xs rfl ⟨_, _, rfl, rfl, rfl⟩ ?_)))
        refine xq rfl trivial (o_pick_f rfl rfl) ?_
        refine xq rfl trivial (o_as rfl) ?_
        refine xo_nil (xq_then (xw_ret ?_))
        subst h
        exact con_ret1 (.inl rfl) Try.results7 rfl [] (Kp.st (Kp.new hb14 (Kp.segNew (Cov.fresh hcBg3_0) (Kp.segNew (Cov.fresh hcBs8) Kp.nil)))) (⟨rfl, rfl⟩)

theorem alive06_c (w : World) (hP : alive06_P) : Con Try.prog 7 #[] w (Is (.bool alive06_F) []) :=
  alive06_con w _ (alive06_ok hP)

theorem timeR_con (now0 : Int) (w : World) (r : Bool) (h : timeR_S now0 r) : Con Try.prog 23 #[.int .i64 now0] w (Is (.bool r) []) := by
  unfold timeR_S at h
  refine con_enter (n := 9) [(0, _)] Try.func23 rfl Try.ntmps23 rfl (lac rfl lan) ?_
  refine xw_seq (xw_region ?_)
  refine xq rfl trivial (o_as rfl) ?_
  refine xo_nil (xq_then (xw_seq ?_))
  refine xw_cut [] ln [(2, .bool ((decide (0 ≤ now0)) && (decide (now0 ≤ 1099511627776))))] ?_ ?_
  · refine xw_region ?_
    refine xq rfl trivial (o_mv rfl) ?_
    refine xq rfl trivial (o_geq rfl rfl) ?_
    refine xq rfl trivial (o_mv rfl) ?_
    refine xo_bool 5 rfl (fun hg1 => ?_) (fun hg1 => ?_)
    · have hq1 : (decide (0 ≤ now0)) = true := hg1
      have hp1 : 0 ≤ now0 := of_decide_eq_true hq1
      refine xq rfl ⟨_, rfl, rfl⟩ (o_mv rfl) ?_
      refine xq rfl ⟨_, rfl, rfl⟩ (o_leq rfl rfl) ?_
      refine xq rfl trivial (o_pick_t rfl rfl) ?_
      refine xq rfl trivial (o_as rfl) ?_
      refine xo_nil ?_
      exact xq_cut ((lce rfl (by first | rfl | (simp only [hq1, if_pos hp1, bS]; done) | (simp [hp1]; done) | (simp_all; done)) ln)) (fun _ h => h)
    · have hq1 : (decide (0 ≤ now0)) = false := hg1
      have hp1 : ¬ (0 ≤ now0) := of_decide_eq_false hq1
      refine xs rfl ⟨_, _, rfl, rfl, rfl⟩ (xs rfl ⟨_, _, rfl, rfl, rfl⟩ ?_)
      refine xq rfl trivial (o_pick_f rfl rfl) ?_
      refine xq rfl trivial (o_as rfl) ?_
      refine xo_nil ?_
      exact xq_cut ((lce rfl (by first | rfl | (simp only [hq1, if_neg hp1, bS]; done) | (simp [hp1]; done) | (simp_all; done)) ln)) (fun _ h => h)
  · refine xq_then (xw_ret ?_)
    subst h
    exact con_ret1 (.inl rfl) Try.results23 rfl [] (fun _ h => h) (⟨rfl, rfl⟩)

theorem timeR_c (now0 : Int) (w : World) : Con Try.prog 23 #[.int .i64 now0] w (Is (.bool (timeR_F now0)) []) :=
  timeR_con now0 w _ (timeR_ok now0)

theorem dueR_con (l0 : (List (Nat → Int))) (span1 : Int) (now2 : Int) (v0 : Value) (w : World) (hs0 : SL w 2 iv v0 l0) (r : (List Int)) (h : dueR_S l0 span1 now2 r) : Con Try.prog 16 #[v0, .int .i64 span1, .int .i64 now2] w (fun v F => ∃ (u0 : Value) (C0 : GH), v = u0 ∧ F = (C0 ++ []) ∧ OJ 3 1 ic C0 u0 r ∧ Cov w [] C0) := by
  unfold dueR_S at h
  refine con_enter (n := 46) [(0, _), (1, _), (2, _)] Try.func16 rfl Try.ntmps16 rfl (lac rfl (lac rfl (lac rfl lan))) ?_
  refine xw_seq (xw_region ?_)
  refine xq rfl trivial (o_as rfl) ?_
  refine xo_nil (xq_then (xw_seq (xw_region ?_)))
  refine xq rfl trivial (o_as rfl) ?_
  refine xo_nil (xq_then (xw_seq (xw_seq (xw_region ?_))))
  refine xq rfl trivial (o_as rfl) ?_
  refine xo_nil (xq_then ?_)
  refine xw_block ?_
  obtain ⟨out7, hx1, h⟩ := h
  refine xw_wh (fun s e H => match s with | (out7, i8) => ∃ (v7_1 : Value) (B7_1 : GH), e = [(0, v0), (1, .int .i64 span1), (2, .int .i64 now2), (7, v7_1), (8, .int .i64 i8)] ∧ H = B7_1 ++ ([]) ∧ OJ 3 1 ic B7_1 v7_1 out7 ∧ Cov w [] B7_1) (fun (out7 : (List Int)) ex e H => ∃ (v7_1o : Value) (B7_1o : GH), ex = .exit 0 ∧ e = [(7, v7_1o)] ∧ H = B7_1o ++ ([]) ∧ OJ 3 1 ic B7_1o v7_1o out7 ∧ Cov w [] B7_1o) hx1 ⟨[(0, v0), (1, .int .i64 span1), (2, .int .i64 now2), (7, .slice none 0 0), (8, .int .i64 0)], [] ++ ([]), (lc rfl (lc rfl (lc rfl (lc rfl (lc rfl ln))))), fun _ h => h, ⟨_, [], rfl, rfl, OJ.nil, (Cov.refl _)⟩⟩ ?_ ?_
  · rintro ⟨out7, i8⟩ o _ _ ⟨v7_1, B7_1, rfl, rfl, hJ7_1, hcB7_1⟩ hb
    have h : dueR_l1 l0 span1 now2 out7 i8 o := hb
    clear hb
    unfold dueR_l1 at h
    refine xw_seq (xw_seq ?_)
    refine xw_cut [(0, _), (1, _), (2, _), (7, _), (8, _)] (lc rfl (lc rfl (lc rfl (lc rfl (lc rfl ln))))) [(16, .bool ((decide (i8 < (l0.length : Int))) && ((timeR_F now2))))] ?_ ?_
    · refine xw_region ?_
      refine xq rfl trivial (o_mv rfl) ?_
      refine xq rfl trivial (o_mv rfl) ?_
      refine xq rfl trivial (o_lenL rfl Try.underlying43 rfl (SL.val hs0)) ?_
      refine xq rfl trivial (o_lss rfl rfl) ?_
      refine xq rfl trivial (o_mv rfl) ?_
      refine xo_bool 13 rfl (fun hg1 => ?_) (fun hg1 => ?_)
      · have hq1 : (decide (i8 < (l0.length : Int))) = true := hg1
        have hp1 : i8 < (l0.length : Int) := of_decide_eq_true hq1
        refine xq rfl ⟨_, rfl, rfl⟩ (o_mv rfl) ?_
        refine xcallq rfl ⟨_, rfl, rfl⟩ kf23 rfl (fun w1 hw1 => timeR_c _ w1) ?_
        refine xq rfl trivial (o_pick_t rfl rfl) ?_
        refine xo_nil ?_
        exact xq_cut ((lce rfl (by first | rfl | (simp only [hq1, if_pos hp1, bS]; done) | (simp [hp1]; done) | (simp_all; done)) (lc rfl (lc rfl (lc rfl (lc rfl (lc rfl ln))))))) (fun _ h => h)
      · have hq1 : (decide (i8 < (l0.length : Int))) = false := hg1
        have hp1 : ¬ (i8 < (l0.length : Int)) := of_decide_eq_false hq1
        refine xs rfl ⟨_, _, rfl, rfl, rfl⟩ (xs rfl ⟨_, _, rfl, rfl, rfl⟩ ?_)
        refine xq rfl trivial (o_pick_f rfl rfl) ?_
        refine xo_nil ?_
        exact xq_cut ((lce rfl (by first | rfl | (simp only [hq1, if_neg hp1, bS]; done) | (simp [hp1]; done) | (simp_all; done)) (lc rfl (lc rfl (lc rfl (lc rfl (lc rfl ln))))))) (fun _ h => h)
    · refine xq_then ?_
      refine xw_bool 16 rfl (fun hc2 => ?_) (fun hc2 => ?_)
      · have hq2 : ((decide (i8 < (l0.length : Int))) && ((timeR_F now2))) = true := hc2
        have hp2 : ((decide (i8 < (l0.length : Int))) && ((timeR_F now2))) = true := hq2
        rw [if_pos hp2] at h
        refine xw_cond_t rfl rfl (xw_skip (xq_then (xw_seq ?_)))
        refine xw_block ?_
        refine xw_seq ?_
        obtain ⟨ho3, ho4, ho5, h⟩ := h
        refine xw_cut [(0, _), (1, _), (2, _), (7, _), (8, _)] (lc rfl (lc rfl (lc rfl (lc rfl (lc rfl ln))))) [(36, .bool ((decide (l0[i8.toNat]! 1 ≤ now2)) && (decide (span1 ≤ now2 - (l0[i8.toNat]! 1)))))] ?_ ?_
        · refine xw_region ?_
          refine xq rfl trivial (o_mv rfl) ?_
          refine xq rfl trivial (o_mv rfl) ?_
          refine xq rfl trivial (o_mv rfl) ?_
          refine xq rfl trivial (o_ixL el43 rfl rfl (fun w hw => (hs0.keep hw (Fr.seg hcB7_1 Fr.nil))) rfl (ho3)) ?_
          refine xq rfl trivial (o_faL fl45_1 rfl rfl (fun w hw => (hs0.keep hw (Fr.seg hcB7_1 Fr.nil))) (toNat_lt (ho3))) ?_
          refine xq rfl trivial (o_ldL1 (off := 1) (u := .int .i64 (l0[i8.toNat]! 1)) rfl ts3 rfl (fun w hw => (hs0.keep hw (Fr.seg hcB7_1 Fr.nil))) (toNat_lt (ho3)) rfl rfl) ?_
          refine xq rfl trivial (o_geq rfl rfl) ?_
          refine xq rfl trivial (o_mv rfl) ?_
          refine xo_bool 26 rfl (fun hg6 => ?_) (fun hg6 => ?_)
          · have hq6 : (decide (l0[i8.toNat]! 1 ≤ now2)) = true := hg6
            have hp6 : l0[i8.toNat]! 1 ≤ now2 := of_decide_eq_true hq6
            refine xq rfl ⟨_, rfl, rfl⟩ (o_mv rfl) ?_
            refine xq rfl ⟨_, rfl, rfl⟩ (o_mv rfl) ?_
            refine xq rfl ⟨_, rfl, rfl⟩ (o_mv rfl) ?_
            refine xq rfl ⟨_, rfl, rfl⟩ (o_ixL el43 rfl rfl (fun w hw => (hs0.keep hw (Fr.seg hcB7_1 Fr.nil))) rfl (ho4 (by first | exact hg6 | (simp only [hq2, hq6, if_pos hp2, if_pos hp6, bS]; done) | (simp [hp2, hp6]; done) | (simp_all; done)))) ?_
            refine xq rfl ⟨_, rfl, rfl⟩ (o_faL fl45_1 rfl rfl (fun w hw => (hs0.keep hw (Fr.seg hcB7_1 Fr.nil))) (toNat_lt (ho4 (by first | exact hg6 | (simp only [hq2, hq6, if_pos hp2, if_pos hp6, bS]; done) | (simp [hp2, hp6]; done) | (simp_all; done))))) ?_
            refine xq rfl ⟨_, rfl, rfl⟩ (o_ldL1 (off := 1) (u := .int .i64 (l0[i8.toNat]! 1)) rfl ts3 rfl (fun w hw => (hs0.keep hw (Fr.seg hcB7_1 Fr.nil))) (toNat_lt (ho4 (by first | exact hg6 | (simp only [hq2, hq6, if_pos hp2, if_pos hp6, bS]; done) | (simp [hp2, hp6]; done) | (simp_all; done)))) rfl rfl) ?_
            refine xq rfl ⟨_, rfl, rfl⟩ (o_sub rfl rfl rfl (ho5 (by first | exact hg6 | (simp only [hq2, hq6, if_pos hp2, if_pos hp6, bS]; done) | (simp [hp2, hp6]; done) | (simp_all; done)))) ?_
            refine xq rfl ⟨_, rfl, rfl⟩ (o_mv rfl) ?_
            refine xq rfl ⟨_, rfl, rfl⟩ (o_geq rfl rfl) ?_
            refine xq rfl trivial (o_pick_t rfl rfl) ?_
            refine xo_nil ?_
            exact xq_cut ((lce rfl (by first | rfl | (simp only [hq2, hq6, if_pos hp2, if_pos hp6, bS]; done) | (simp [hp2, hp6]; done) | (simp_all; done)) (lc rfl (lc rfl (lc rfl (lc rfl (lc rfl ln))))))) (fun _ h => h)
          · have hq6 : (decide (l0[i8.toNat]! 1 ≤ now2)) = false := hg6
            have hp6 : ¬ (l0[i8.toNat]! 1 ≤ now2) := of_decide_eq_false hq6
            refine xs rfl ⟨_, _, rfl, rfl, rfl⟩ (xs rfl ⟨_, _, rfl, rfl, rfl⟩ (xs rfl ⟨_, _, rfl, rfl, rfl⟩ (xs rfl ⟨_, _, rfl, rfl, rfl⟩ (xs rfl ⟨_, _, rfl, rfl, rfl⟩ (xs rfl ⟨_, _, rfl, rfl, rfl⟩ (xs rfl ⟨_, _, rfl, rfl, rfl⟩ (xs rfl ⟨_, _, rfl, rfl, rfl⟩ ?_)))))))
            refine xs rfl ⟨_, _, rfl, rfl, rfl⟩ ?_
            refine xq rfl trivial (o_pick_f rfl rfl) ?_
            refine xo_nil ?_
            exact xq_cut ((lce rfl (by first | rfl | (simp only [hq2, hq6, if_pos hp2, if_neg hp6, bS]; done) | (simp [hp2, hp6]; done) | (simp_all; done)) (lc rfl (lc rfl (lc rfl (lc rfl (lc rfl ln))))))) (fun _ h => h)
        · refine xq_then ?_
          refine xw_bool 36 rfl (fun hc7 => ?_) (fun hc7 => ?_)
          · have hq7 : ((decide (l0[i8.toNat]! 1 ≤ now2)) && (decide (span1 ≤ now2 - (l0[i8.toNat]! 1)))) = true := hc7
            have hp7 : ((decide (l0[i8.toNat]! 1 ≤ now2)) && (decide (span1 ≤ now2 - (l0[i8.toNat]! 1)))) = true := hq7
            rw [if_pos hp7] at h
            refine xw_cond_t rfl rfl (xw_region ?_)
            refine xq rfl trivial (o_mv rfl) ?_
            refine xq rfl trivial (o_mv rfl) ?_
            refine xq rfl trivial (o_mv rfl) ?_
            obtain ⟨ho8, h⟩ := h
            refine xq rfl trivial (o_ixL el43 rfl rfl (fun w hw => (hs0.keep hw (Fr.seg hcB7_1 Fr.nil))) rfl ho8) ?_
            refine xq rfl trivial (o_faL fl45_0 rfl rfl (fun w hw => (hs0.keep hw (Fr.seg hcB7_1 Fr.nil))) (toNat_lt ho8)) ?_
            refine xq rfl trivial (o_ldL1 (off := 0) (u := .int .i64 (l0[i8.toNat]! 0)) rfl ts3 rfl (fun w hw => (hs0.keep hw (Fr.seg hcB7_1 Fr.nil))) (toNat_lt ho8) rfl rfl) ?_
            refine xo rfl trivial (o_bsl el31 ze3 (cells_one rfl) rfl rfl (.int rfl rfl (.nil _))) ?_
            rintro _ _ ⟨b43, hb43, rfl, rfl⟩
            obtain ⟨ho10, h⟩ := h
            refine xo rfl trivial (OT.st (fun _ h => Pull.st (.thereC _ (.here _ _)) h) (o_appJ (l := out7) (l' := [l0[i8.toNat]! 0]) (B := B7_1) ap31 rfl rfl hJ7_1 (fun w2 hw2 => (SL.lit (l := [l0[i8.toNat]! 0]) hw2 (List.mem_append_right _ (List.Mem.head _)) rfl (by omega) (by simp [maxLen]) (by exact (fun i hi => match i, hi with | 0, _ => rfl | q + 1, h => absurd h (by omega))))) (fun _ _ => rfl) ho10 (len_max ho10 (by decide)))) ?_
            rintro vs9 _ ⟨Bs9, rfl, hns9, hJs9⟩
            have hcBs9 := Cov.trans hcB7_1 hns9
            refine xo_st ((b43, BK 1 _ 3) :: (Bs9 ++ ([]))) (fun _ h => Pull.push (.thereC _ (.here _ _)) h) ?_
            refine xq rfl trivial (o_as rfl) ?_
            refine xo_nil ?_
            refine xq_blk 1 ?_
            refine xq_then (xw_region ?_)
            refine xq rfl trivial (o_mv rfl) ?_
            obtain ⟨ho11, h⟩ := h
            refine xq rfl trivial (o_add rfl rfl rfl ho11) ?_
            refine xq rfl trivial (o_as rfl) ?_
            refine xo_nil ?_
            exact xq_next (s' := (((out7 ++ [l0[i8.toNat]! 0]), i8 + 1) : (List Int) × Int)) (e' := [(0, v0), (1, .int .i64 span1), (2, .int .i64 now2), (7, vs9), (8, .int .i64 (i8 + 1))]) (Bs9 ++ ([])) (lc rfl (lc rfl (lc rfl (lc rfl (lc rfl ln))))) (Kp.st (Kp.new hb43 (Kp.segKeep Kp.nil))) h ⟨vs9, Bs9, rfl, rfl, hJs9, hcBs9⟩
          · have hq7 : ((decide (l0[i8.toNat]! 1 ≤ now2)) && (decide (span1 ≤ now2 - (l0[i8.toNat]! 1)))) = false := hc7
            have hp7 : ¬ (((decide (l0[i8.toNat]! 1 ≤ now2)) && (decide (span1 ≤ now2 - (l0[i8.toNat]! 1)))) = true) := bne' hq7
            rw [if_neg hp7] at h
            refine xw_cond_f rfl rfl (xw_skip ?_)
            refine xq_blk 1 ?_
            refine xq_then (xw_region ?_)
            refine xq rfl trivial (o_mv rfl) ?_
            obtain ⟨ho12, h⟩ := h
            refine xq rfl trivial (o_add rfl rfl rfl ho12) ?_
            refine xq rfl trivial (o_as rfl) ?_
            refine xo_nil ?_
            exact xq_next (s' := ((out7, i8 + 1) : (List Int) × Int)) (e' := [(0, v0), (1, .int .i64 span1), (2, .int .i64 now2), (7, v7_1), (8, .int .i64 (i8 + 1))]) (B7_1 ++ ([])) (lc rfl (lc rfl (lc rfl (lc rfl (lc rfl ln))))) (fun _ h => h) h ⟨v7_1, B7_1, rfl, rfl, hJ7_1, hcB7_1⟩
      · have hq2 : ((decide (i8 < (l0.length : Int))) && ((timeR_F now2))) = false := hc2
        have hp2 : ¬ (((decide (i8 < (l0.length : Int))) && ((timeR_F now2))) = true) := bne' hq2
        rw [if_neg hp2] at h
        refine xw_cond_f rfl rfl (xw_exit (xq_then_exit ?_))
        exact xq_out (r := (out7 : (List Int))) (e' := [(7, v7_1)]) (B7_1 ++ ([])) (lc rfl ln) (fun _ h => h) h (by intro hh; cases hh) ⟨v7_1, B7_1, rfl, rfl, rfl, hJ7_1, hcB7_1⟩
  · rintro _ _ _ ⟨v7_1o, B7_1o, rfl, rfl, rfl, hJ7_1o, hcB7_1o⟩
    replace h : dueR_k1a out7 r := h
    unfold dueR_k1a at h
    refine xq_blk_eq ?_
    refine xq_then (xw_seq (xw_region ?_))
    refine xq rfl trivial (o_mv rfl) ?_
    refine xq rfl trivial (o_as rfl) ?_
    refine xo_nil (xq_then (xw_ret ?_))
    subst h
    exact con_ret1 (.inl rfl) Try.results16 rfl (B7_1o ++ []) (fun _ h => h) (⟨_, B7_1o, rfl, rfl, hJ7_1o, hcB7_1o⟩)

end Go.Proofs.Ytfpilngnhkcgjaa
