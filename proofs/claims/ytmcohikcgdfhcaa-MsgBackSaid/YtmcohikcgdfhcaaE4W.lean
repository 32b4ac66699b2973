/- The code answers as the relations say. -/
import Derived.Test.YtmcohikcgdfhcaaTab
import Derived.Test.YtmcohikcgdfhcaaE4S
import Derived.Test.YtmcohikcgdfhcaaA4bW
import Derived.Test.YtmcohikcgdfhcaaD4W
import Derived.Test.YtmcohikcgdfhcaaErr
set_option maxHeartbeats 1000000
set_option linter.unusedVariables false
set_option linter.unusedSimpArgs false
set_option maxRecDepth 100000
namespace Go.Proofs.Ytmcohikcgdfhcaa
open Go Go.E

theorem ref04Ok_c (m0 : (Nat → Int)) (w : World) : Con Try.prog 11 #[AI 28 m0] w (Is (.bool (ref04Ok_F m0)) []) :=
  ref04Ok_con m0 w _ (ref04Ok_ok m0)

theorem same_c (a0 : (List Int)) (b1 : (List Int)) (v0 : Value) (v1 : Value) (w : World) (hs0 : SL w 1 u8c v0 a0) (hs1 : SL w 1 u8c v1 b1) (hP : same_P a0 b1) : Con Try.prog 14 #[v0, v1] w (Is (.bool (same_F a0 b1)) []) :=
  same_con a0 b1 v0 v1 w hs0 hs1 _ (same_ok a0 b1 hP)

theorem encA_c (m0 : (Nat → Int)) (w : World) : Con Try.prog 10 #[AI 28 m0] w (fun v F => ∃ (u0 : Value) (C0 : GH), v = .tuple #[u0, errV 59 ((enc_F m0).2)] ∧ F = (C0 ++ []) ∧ OJ 5 1 u8c C0 u0 ((enc_F m0).1) ∧ Cov w [] C0) :=
  enc_con m0 w _ (enc_okA m0)

theorem errIs_c2 (a b : Int) (w : World) (h : errIs_P a b) : Con Try.prog 23 #[errV 59 a, errV 59 b] w (Is (.bool (errIs_F a b)) []) := errIs_c a b w h

theorem code_con (e0 : Int) (w : World) (r : Int) (h : code_S e0 r) : Con Try.prog 12 #[errV 59 e0] w (Is (.int .i64 r) []) := by
  unfold code_S at h
  refine con_enter (n := 15) [(0, _)] Try.func12 rfl Try.ntmps12 rfl (lac rfl lan) ?_
  refine xw_seq (xw_region ?_)
  refine xq rfl trivial (o_as rfl) ?_
  refine xo_nil (xq_then (xw_seq (xw_seq (xw_region ?_))))
  refine xq rfl trivial (o_mv rfl) ?_
  refine xq rfl trivial (o_eqE Try.underlying37 rfl (fun _ => rfl) rfl rfl) ?_
  refine xo_nil (xq_then ?_)
  refine xw_bool 5 rfl (fun hc1 => ?_) (fun hc1 => ?_)
  · have hq1 : (decide (e0 = 0)) = true := hc1
    have hp1 : e0 = 0 := of_decide_eq_true hq1
    rw [if_pos hp1] at h
    refine xw_cond_t rfl rfl (xw_seq (xw_region ?_))
    refine xq rfl trivial (o_as rfl) ?_
    refine xo_nil (xq_then (xw_ret (xq_then_ret ?_)))
    subst h
    exact con_ret1 (.inl rfl) Try.results12 rfl [] (fun _ h => h) (⟨rfl, rfl⟩)
  · have hq1 : (decide (e0 = 0)) = false := hc1
    have hp1 : ¬ (e0 = 0) := of_decide_eq_false hq1
    rw [if_neg hp1] at h
    refine xw_cond_f rfl rfl (xw_skip (xq_then (xw_seq (xw_seq (xw_region ?_)))))
    refine xq rfl trivial (o_as rfl) ?_
    refine xo_nil (xq_then ?_)
    refine xw_block ?_
    obtain ⟨x1, hx1, h⟩ := h
    refine xw_wh (fun (i3 : Int) e H => e = [(0, errV 59 e0), (3, .int .i64 i3)] ∧ H = []) (fun x ex e H => match x with | .inl _ => ex = .exit 0 ∧ e = [] ∧ H = [] | .inr x2 => ex = .ret ∧ e = [(2, .int .i64 x2)] ∧ H = []) hx1 ⟨[(0, errV 59 e0), (3, .int .i64 1)], [], (lc rfl (lc rfl ln)), fun _ h => h, ⟨rfl, rfl⟩⟩ ?_ ?_
    · rintro i3 o _ _ ⟨rfl, rfl⟩ hb
      have h : code_l1 e0 i3 o := hb
      clear hb
      unfold code_l1 at h
      refine xw_seq (xw_seq (xw_region ?_))
      refine xq rfl trivial (o_mv rfl) ?_
      refine xq rfl trivial (o_leq rfl rfl) ?_
      refine xo_nil (xq_then ?_)
      refine xw_bool 7 rfl (fun hc2 => ?_) (fun hc2 => ?_)
      · have hq2 : (decide (i3 ≤ 15)) = true := hc2
        have hp2 : i3 ≤ 15 := of_decide_eq_true hq2
        rw [if_pos hp2] at h
        refine xw_cond_t rfl rfl (xw_skip (xq_then (xw_seq ?_)))
        refine xw_block ?_
        refine xw_seq (xw_region ?_)
        refine xq rfl trivial (o_mv rfl) ?_
        refine xq rfl trivial (o_mv rfl) ?_
        obtain ⟨ho3, h⟩ := h
        refine xq rfl trivial (o_mkE rfl Try.underlying59 rfl ho3) ?_
        obtain ⟨ho4, h⟩ := h
        refine xcallq rfl trivial kf23 rfl (fun w1 hw1 => errIs_c2 _ _ w1 ho4) ?_
        refine xo_nil (xq_then ?_)
        refine xw_bool 13 rfl (fun hc5 => ?_) (fun hc5 => ?_)
        · have hq5 : ((errIs_F e0 i3)) = true := hc5
          have hp5 : ((errIs_F e0 i3)) = true := hq5
          rw [if_pos hp5] at h
          refine xw_cond_t rfl rfl (xw_seq (xw_region ?_))
          refine xq rfl trivial (o_mv rfl) ?_
          refine xq rfl trivial (o_as rfl) ?_
          refine xo_nil (xq_then (xw_ret (xq_blk_ret (xq_then_ret ?_))))
          exact xq_out (r := (.inr i3 : (Unit) ⊕ (Int))) (e' := [(2, .int .i64 i3)]) ([]) (lc rfl ln) (fun _ h => h) h (by intro hh; cases hh) ⟨rfl, rfl, rfl⟩
        · have hq5 : ((errIs_F e0 i3)) = false := hc5
          have hp5 : ¬ (((errIs_F e0 i3)) = true) := bne' hq5
          rw [if_neg hp5] at h
          refine xw_cond_f rfl rfl (xw_skip ?_)
          refine xq_blk 1 ?_
          refine xq_then (xw_region ?_)
          refine xq rfl trivial (o_mv rfl) ?_
          obtain ⟨ho6, h⟩ := h
          refine xq rfl trivial (o_add rfl rfl rfl ho6) ?_
          refine xq rfl trivial (o_as rfl) ?_
          refine xo_nil ?_
          exact xq_next (s' := (i3 + 1 : Int)) (e' := [(0, errV 59 e0), (3, .int .i64 (i3 + 1))]) ([]) (lc rfl (lc rfl ln)) (fun _ h => h) h ⟨rfl, rfl⟩
      · have hq2 : (decide (i3 ≤ 15)) = false := hc2
        have hp2 : ¬ (i3 ≤ 15) := of_decide_eq_false hq2
        rw [if_neg hp2] at h
        refine xw_cond_f rfl rfl (xw_exit (xq_then_exit ?_))
        exact xq_out (r := (.inl () : (Unit) ⊕ (Int))) (e' := []) ([]) ln (fun _ h => h) h (by intro hh; cases hh) ⟨rfl, rfl, rfl⟩
    · rcases x1 with _ | x2
      · rintro _ _ _ ⟨rfl, rfl, rfl⟩
        replace h : code_k1a r := h
        unfold code_k1a at h
        refine xq_blk_eq ?_
        refine xq_then (xw_seq (xw_region ?_))
        refine xq rfl trivial (o_as rfl) ?_
        refine xo_nil (xq_then (xw_ret ?_))
        subst h
        exact con_ret1 (.inl rfl) Try.results12 rfl [] (fun _ h => h) (⟨rfl, rfl⟩)
      rintro _ _ _ ⟨rfl, rfl, rfl⟩
      replace h : code_k1b x2 r := h
      unfold code_k1b at h
      refine xq_blk_ret (xq_then_ret ?_)
      subst h
      exact con_ret1 (.inl rfl) Try.results12 rfl [] (fun _ h => h) (⟨rfl, rfl⟩)

theorem refEnc_con (m0 : (Nat → Int)) (w : World) (r : (List Int)) (h : refEnc_S m0 r) : Con Try.prog 15 #[AI 28 m0] w (fun v F => ∃ (u0 : Value) (C0 : GH), v = u0 ∧ F = (C0 ++ []) ∧ OJ 5 1 u8c C0 u0 r ∧ Cov w [] C0) := by
  unfold refEnc_S at h
  refine con_enter (n := 79) [(0, _)] Try.func15 rfl Try.ntmps15 rfl (lac rfl lan) ?_
  refine xw_seq (xw_region ?_)
  refine xo rfl trivial (o_boxA rfl) ?_
  rintro _ _ ⟨b1, hb1, rfl, rfl⟩
  refine xq rfl trivial (o_as rfl) ?_
  refine xo_nil (xq_then (xw_seq (xw_region ?_)))
  first | refine xq rfl trivial (o_fa0 fl34_0 rfl) ?_ | refine xq rfl trivial (o_fa fl34_0 rfl) ?_
  refine xq rfl trivial (o_ldI (v := m0 0) rfl ts3 (List.Mem.head _) (by omega) rfl) ?_
  refine xq rfl trivial (o_conv rfl Try.underlying3 Try.underlying5) ?_
  first | refine xq rfl trivial (o_fa0 fl34_1 rfl) ?_ | refine xq rfl trivial (o_fa fl34_1 rfl) ?_
  refine xq rfl trivial (o_ldI (v := m0 1) rfl ts3 (List.Mem.head _) (by omega) rfl) ?_
  refine xq rfl trivial (o_conv rfl Try.underlying3 Try.underlying5) ?_
  first | refine xq rfl trivial (o_fa0 fl34_2 rfl) ?_ | refine xq rfl trivial (o_fa fl34_2 rfl) ?_
  refine xq rfl trivial (o_ldI (v := m0 2) rfl ts3 (List.Mem.head _) (by omega) rfl) ?_
  refine xq rfl trivial (o_conv rfl Try.underlying3 Try.underlying5) ?_
  refine xo rfl trivial (o_bsl el35 ze5 (cells_one rfl) rfl rfl (.one rfl rfl rfl rfl (.one rfl rfl rfl rfl (.one rfl rfl rfl rfl (.nil _))))) ?_
  rintro _ _ ⟨b14, hb14, rfl, rfl⟩
  refine xq rfl trivial (o_as rfl) ?_
  refine xo_nil (xq_then (xw_seq (xw_region ?_)))
  refine xq rfl trivial (o_mv rfl) ?_
  first | refine xq rfl trivial (o_fa0 fl34_3 rfl) ?_ | refine xq rfl trivial (o_fa fl34_3 rfl) ?_
  refine xq rfl trivial (o_ldI (v := m0 3) rfl ts3 (List.Mem.tail _ (List.Mem.head _)) (by omega) rfl) ?_
  obtain ⟨ho1, h⟩ := h
  refine xcall rfl trivial kf26 rfl (fun w1 hw1 => four_c _ w1 ho1) ?_
  rintro w1 vs2 _ hw1 ⟨_, Bs2, rfl, rfl, hJs2, hcBs2⟩
  refine ⟨_, Mg.news (Cov.fresh hcBs2) (.nil _), ?_⟩
  replace hcBs2 := Cov.base (w0 := w) hcBs2 hw1.size
  obtain ⟨ho4, h⟩ := h
  refine xo rfl trivial (OT.st (fun _ h => Pull.st (.there _ (.hereC _ _)) h) (o_appJ (l := [IntKind.u8.wrap (m0 0), IntKind.u8.wrap (m0 1), IntKind.u8.wrap (m0 2)]) (l' := (four_F (m0 3))) (B := [_]) ap35 rfl rfl (OJ.lit (l := [IntKind.u8.wrap (m0 0), IntKind.u8.wrap (m0 1), IntKind.u8.wrap (m0 2)]) (List.Mem.head _) rfl (by omega) (by simp [maxLen]) (by exact (fun i hi => match i, hi with | 0, _ => rfl | 1, _ => rfl | 2, _ => rfl | q + 3, h => absurd h (by omega)))) (fun w2 hw2 => (hJs2.sl hw2 (Pull.sub (.there _ (.here _ _))))) (fun _ _ => rfl) ho4 (len_max ho4 (by decide)))) ?_
  rintro vs3 _ ⟨Bs3, rfl, hns3, hJs3⟩
  have hcBs3 := Cov.trans (Cov.new hb14) hns3
  refine xo_st (Bs2 ++ (Bs3 ++ ((b1, BK 28 (iv m0) 34) :: ([])))) (fun _ h => Pull.push (.there _ (.here _ _)) h) ?_
  refine xq rfl trivial (o_as rfl) ?_
  refine xo_nil (xq_then (xw_seq (xw_region ?_)))
  refine xq rfl trivial (o_mv rfl) ?_
  first | refine xq rfl trivial (o_fa0 fl34_4 rfl) ?_ | refine xq rfl trivial (o_fa fl34_4 rfl) ?_
  refine xq rfl trivial (o_ldI (v := m0 4) rfl ts3 (List.mem_append_right _ (List.mem_append_right _ (List.Mem.head _))) (by omega) rfl) ?_
  obtain ⟨ho5, h⟩ := h
  refine xcall rfl trivial kf26 rfl (fun w1 hw1 => four_c _ w1 ho5) ?_
  rintro w1 vs6 _ hw1 ⟨_, Bs6, rfl, rfl, hJs6, hcBs6⟩
  refine ⟨_, Mg.news (Cov.fresh hcBs6) (.nil _), ?_⟩
  replace hcBs6 := Cov.base (w0 := w) hcBs6 hw1.size
  obtain ⟨ho8, h⟩ := h
  refine xo rfl trivial (OT.st (fun _ h => Pull.st (.there _ (.there _ (.here _ _))) h) (o_appJ (l := ([IntKind.u8.wrap (m0 0), IntKind.u8.wrap (m0 1), IntKind.u8.wrap (m0 2)] ++ (four_F (m0 3)))) (l' := (four_F (m0 4))) (B := Bs3) ap35 rfl rfl hJs3 (fun w2 hw2 => (hJs6.sl hw2 (Pull.sub (.there _ (.here _ _))))) (fun _ _ => rfl) ho8 (len_max ho8 (by decide)))) ?_
  rintro vs7 _ ⟨Bs7, rfl, hns7, hJs7⟩
  have hcBs7 := Cov.trans hcBs3 hns7
  refine xo_st (Bs6 ++ (Bs2 ++ (Bs7 ++ ((b1, BK 28 (iv m0) 34) :: ([]))))) (fun _ h => Pull.push (.there _ (.there _ (.here _ _))) h) ?_
  refine xq rfl trivial (o_as rfl) ?_
  refine xo_nil (xq_then (xw_seq (xw_region ?_)))
  refine xq rfl trivial (o_mv rfl) ?_
  first | refine xq rfl trivial (o_fa0 fl34_5 rfl) ?_ | refine xq rfl trivial (o_fa fl34_5 rfl) ?_
  first | refine xq rfl trivial (o_fa0 fl28_0 rfl) ?_ | refine xq rfl trivial (o_fa fl28_0 rfl) ?_
  refine xq rfl trivial (o_ldI (v := m0 5) rfl ts3 (List.mem_append_right _ (List.mem_append_right _ (List.mem_append_right _ (List.Mem.head _)))) (by omega) rfl) ?_
  refine xq rfl trivial (o_conv rfl Try.underlying3 Try.underlying5) ?_
  first | refine xq rfl trivial (o_fa0 fl34_5 rfl) ?_ | refine xq rfl trivial (o_fa fl34_5 rfl) ?_
  first | refine xq rfl trivial (o_fa0 fl28_1 rfl) ?_ | refine xq rfl trivial (o_fa fl28_1 rfl) ?_
  refine xq rfl trivial (o_ldI (v := m0 6) rfl ts3 (List.mem_append_right _ (List.mem_append_right _ (List.mem_append_right _ (List.Mem.head _)))) (by omega) rfl) ?_
  refine xq rfl trivial (o_conv rfl Try.underlying3 Try.underlying5) ?_
  first | refine xq rfl trivial (o_fa0 fl34_6 rfl) ?_ | refine xq rfl trivial (o_fa fl34_6 rfl) ?_
  refine xq rfl trivial (o_ldI (v := m0 7) rfl ts29 (List.mem_append_right _ (List.mem_append_right _ (List.mem_append_right _ (List.Mem.head _)))) (by omega) rfl) ?_
  refine xq rfl trivial (o_conv rfl Try.underlying3 Try.underlying5) ?_
  first | refine xq rfl trivial (o_fa0 fl34_7 rfl) ?_ | refine xq rfl trivial (o_fa fl34_7 rfl) ?_
  refine xq rfl trivial (o_ldI (v := m0 8) rfl ts3 (List.mem_append_right _ (List.mem_append_right _ (List.mem_append_right _ (List.Mem.head _)))) (by omega) rfl) ?_
  refine xq rfl trivial (o_conv rfl Try.underlying3 Try.underlying5) ?_
  refine xo rfl trivial (o_bsl el35 ze5 (cells_one rfl) rfl rfl (.one rfl rfl rfl rfl (.one rfl rfl rfl rfl (.one rfl rfl rfl rfl (.one rfl rfl rfl rfl (.nil _)))))) ?_
  rintro _ _ ⟨b40, hb40, rfl, rfl⟩
  obtain ⟨ho10, h⟩ := h
  refine xo rfl trivial (OT.st (fun _ h => Pull.st (.thereC _ (.there _ (.there _ (.here _ _)))) h) (o_appJ (l := (([IntKind.u8.wrap (m0 0), IntKind.u8.wrap (m0 1), IntKind.u8.wrap (m0 2)] ++ (four_F (m0 3))) ++ (four_F (m0 4)))) (l' := [IntKind.u8.wrap (m0 5), IntKind.u8.wrap (m0 6), IntKind.u8.wrap (m0 7), IntKind.u8.wrap (m0 8)]) (B := Bs7) ap35 rfl rfl hJs7 (fun w2 hw2 => (SL.lit (l := [IntKind.u8.wrap (m0 5), IntKind.u8.wrap (m0 6), IntKind.u8.wrap (m0 7), IntKind.u8.wrap (m0 8)]) hw2 (List.mem_append_right _ (List.Mem.head _)) rfl (by omega) (by simp [maxLen]) (by exact (fun i hi => match i, hi with | 0, _ => rfl | 1, _ => rfl | 2, _ => rfl | 3, _ => rfl | q + 4, h => absurd h (by omega))))) (fun _ _ => rfl) ho10 (len_max ho10 (by decide)))) ?_
  rintro vs9 _ ⟨Bs9, rfl, hns9, hJs9⟩
  have hcBs9 := Cov.trans hcBs7 hns9
  refine xo_st ((b40, BK 4 _ 5) :: (Bs6 ++ (Bs2 ++ (Bs9 ++ ((b1, BK 28 (iv m0) 34) :: ([])))))) (fun _ h => Pull.push (.thereC _ (.there _ (.there _ (.here _ _)))) h) ?_
  refine xq rfl trivial (o_as rfl) ?_
  refine xo_nil (xq_then (xw_seq (xw_region ?_)))
  refine xq rfl trivial (o_mv rfl) ?_
  first | refine xq rfl trivial (o_fa0 fl34_8 rfl) ?_ | refine xq rfl trivial (o_fa fl34_8 rfl) ?_
  refine xq rfl trivial (o_ldI (v := m0 9) rfl ts3 (List.Mem.tail _ (List.mem_append_right _ (List.mem_append_right _ (List.mem_append_right _ (List.Mem.head _))))) (by omega) rfl) ?_
  obtain ⟨ho11, h⟩ := h
  refine xcall rfl trivial kf26 rfl (fun w1 hw1 => four_c _ w1 ho11) ?_
  rintro w1 vs12 _ hw1 ⟨_, Bs12, rfl, rfl, hJs12, hcBs12⟩
  refine ⟨_, Mg.news (Cov.fresh hcBs12) (.nil _), ?_⟩
  replace hcBs12 := Cov.base (w0 := w) hcBs12 hw1.size
  obtain ⟨ho14, h⟩ := h
  refine xo rfl trivial (OT.st (fun _ h => Pull.st (.there _ (.thereC _ (.there _ (.there _ (.here _ _))))) h) (o_appJ (l := ((([IntKind.u8.wrap (m0 0), IntKind.u8.wrap (m0 1), IntKind.u8.wrap (m0 2)] ++ (four_F (m0 3))) ++ (four_F (m0 4))) ++ [IntKind.u8.wrap (m0 5), IntKind.u8.wrap (m0 6), IntKind.u8.wrap (m0 7), IntKind.u8.wrap (m0 8)])) (l' := (four_F (m0 9))) (B := Bs9) ap35 rfl rfl hJs9 (fun w2 hw2 => (hJs12.sl hw2 (Pull.sub (.there _ (.here _ _))))) (fun _ _ => rfl) ho14 (len_max ho14 (by decide)))) ?_
  rintro vs13 _ ⟨Bs13, rfl, hns13, hJs13⟩
  have hcBs13 := Cov.trans hcBs9 hns13
  refine xo_st (Bs12 ++ ((b40, BK 4 _ 5) :: (Bs6 ++ (Bs2 ++ (Bs13 ++ ((b1, BK 28 (iv m0) 34) :: ([]))))))) (fun _ h => Pull.push (.there _ (.thereC _ (.there _ (.there _ (.here _ _))))) h) ?_
  refine xq rfl trivial (o_as rfl) ?_
  refine xo_nil (xq_then (xw_seq (xw_region ?_)))
  refine xq rfl trivial (o_mv rfl) ?_
  first | refine xq rfl trivial (o_fa0 fl34_9 rfl) ?_ | refine xq rfl trivial (o_fa fl34_9 rfl) ?_
  refine xq rfl trivial (o_ldI (v := m0 10) rfl ts3 (List.mem_append_right _ (List.Mem.tail _ (List.mem_append_right _ (List.mem_append_right _ (List.mem_append_right _ (List.Mem.head _)))))) (by omega) rfl) ?_
  obtain ⟨ho15, h⟩ := h
  refine xcall rfl trivial kf26 rfl (fun w1 hw1 => four_c _ w1 ho15) ?_
  rintro w1 vs16 _ hw1 ⟨_, Bs16, rfl, rfl, hJs16, hcBs16⟩
  refine ⟨_, Mg.news (Cov.fresh hcBs16) (.nil _), ?_⟩
  replace hcBs16 := Cov.base (w0 := w) hcBs16 hw1.size
  obtain ⟨ho18, h⟩ := h
  refine xo rfl trivial (OT.st (fun _ h => Pull.st (.there _ (.there _ (.thereC _ (.there _ (.there _ (.here _ _)))))) h) (o_appJ (l := (((([IntKind.u8.wrap (m0 0), IntKind.u8.wrap (m0 1), IntKind.u8.wrap (m0 2)] ++ (four_F (m0 3))) ++ (four_F (m0 4))) ++ [IntKind.u8.wrap (m0 5), IntKind.u8.wrap (m0 6), IntKind.u8.wrap (m0 7), IntKind.u8.wrap (m0 8)]) ++ (four_F (m0 9)))) (l' := (four_F (m0 10))) (B := Bs13) ap35 rfl rfl hJs13 (fun w2 hw2 => (hJs16.sl hw2 (Pull.sub (.there _ (.here _ _))))) (fun _ _ => rfl) ho18 (len_max ho18 (by decide)))) ?_
  rintro vs17 _ ⟨Bs17, rfl, hns17, hJs17⟩
  have hcBs17 := Cov.trans hcBs13 hns17
  refine xo_st (Bs16 ++ (Bs12 ++ ((b40, BK 4 _ 5) :: (Bs6 ++ (Bs2 ++ (Bs17 ++ ((b1, BK 28 (iv m0) 34) :: ([])))))))) (fun _ h => Pull.push (.there _ (.there _ (.thereC _ (.there _ (.there _ (.here _ _)))))) h) ?_
  refine xq rfl trivial (o_as rfl) ?_
  refine xo_nil (xq_then (xw_seq (xw_region ?_)))
  refine xq rfl trivial (o_mv rfl) ?_
  first | refine xq rfl trivial (o_fa0 fl34_10 rfl) ?_ | refine xq rfl trivial (o_fa fl34_10 rfl) ?_
  refine xq rfl trivial (o_ldI (v := m0 11) rfl ts3 (List.mem_append_right _ (List.mem_append_right _ (List.Mem.tail _ (List.mem_append_right _ (List.mem_append_right _ (List.mem_append_right _ (List.Mem.head _))))))) (by omega) rfl) ?_
  refine xq rfl trivial (o_conv rfl Try.underlying3 Try.underlying5) ?_
  refine xo rfl trivial (o_bsl el35 ze5 (cells_one rfl) rfl rfl (.one rfl rfl rfl rfl (.nil _))) ?_
  rintro _ _ ⟨b56, hb56, rfl, rfl⟩
  obtain ⟨ho20, h⟩ := h
  refine xo rfl trivial (OT.st (fun _ h => Pull.st (.thereC _ (.there _ (.there _ (.thereC _ (.there _ (.there _ (.here _ _))))))) h) (o_appJ (l := ((((([IntKind.u8.wrap (m0 0), IntKind.u8.wrap (m0 1), IntKind.u8.wrap (m0 2)] ++ (four_F (m0 3))) ++ (four_F (m0 4))) ++ [IntKind.u8.wrap (m0 5), IntKind.u8.wrap (m0 6), IntKind.u8.wrap (m0 7), IntKind.u8.wrap (m0 8)]) ++ (four_F (m0 9))) ++ (four_F (m0 10)))) (l' := [IntKind.u8.wrap (m0 11)]) (B := Bs17) ap35 rfl rfl hJs17 (fun w2 hw2 => (SL.lit (l := [IntKind.u8.wrap (m0 11)]) hw2 (List.mem_append_right _ (List.Mem.head _)) rfl (by omega) (by simp [maxLen]) (by exact (fun i hi => match i, hi with | 0, _ => rfl | q + 1, h => absurd h (by omega))))) (fun _ _ => rfl) ho20 (len_max ho20 (by decide)))) ?_
  rintro vs19 _ ⟨Bs19, rfl, hns19, hJs19⟩
  have hcBs19 := Cov.trans hcBs17 hns19
  refine xo_st ((b56, BK 1 _ 5) :: (Bs16 ++ (Bs12 ++ ((b40, BK 4 _ 5) :: (Bs6 ++ (Bs2 ++ (Bs19 ++ ((b1, BK 28 (iv m0) 34) :: ([]))))))))) (fun _ h => Pull.push (.thereC _ (.there _ (.there _ (.thereC _ (.there _ (.there _ (.here _ _))))))) h) ?_
  refine xq rfl trivial (o_as rfl) ?_
  refine xo_nil (xq_then (xw_seq (xw_seq (xw_region ?_))))
  refine xq rfl trivial (o_as rfl) ?_
  refine xo_nil (xq_then ?_)
  refine xw_block ?_
  obtain ⟨b3, hx1, h⟩ := h
  refine xw_wh (fun s e H => match s with | (b3, i4) => ∃ (v3_1 : Value) (B3_1 : GH), e = [(1, .pointer (some ⟨b1, 0, none⟩)), (3, v3_1), (4, .int .i64 i4)] ∧ H = B3_1 ++ ((b1, BK 28 (iv m0) 34) :: ([])) ∧ OJ 5 1 u8c B3_1 v3_1 b3 ∧ Cov w [] B3_1) (fun (b3 : (List Int)) ex e H => ∃ (v3_1o : Value) (B3_1o : GH), ex = .exit 0 ∧ e = [(3, v3_1o)] ∧ H = B3_1o ++ ((b1, BK 28 (iv m0) 34) :: ([])) ∧ OJ 5 1 u8c B3_1o v3_1o b3 ∧ Cov w [] B3_1o) hx1 ⟨[(1, .pointer (some ⟨b1, 0, none⟩)), (3, vs19), (4, .int .i64 0)], Bs19 ++ ((b1, BK 28 (iv m0) 34) :: ([])), (lc rfl (lc rfl (lc rfl ln))), Kp.st (Kp.new hb56 (Kp.segNew (Cov.fresh hcBs16) (Kp.segNew (Cov.fresh hcBs12) (Kp.new hb40 (Kp.segNew (Cov.fresh hcBs6) (Kp.segNew (Cov.fresh hcBs2) (Kp.segKeep (Kp.keep Kp.nil)))))))), ⟨vs19, Bs19, rfl, rfl, hJs19, hcBs19⟩⟩ ?_ ?_
  · rintro ⟨b3, i4⟩ o _ _ ⟨v3_1, B3_1, rfl, rfl, hJ3_1, hcB3_1⟩ hb
    have h : refEnc_l1 m0 b3 i4 o := hb
    clear hb
    unfold refEnc_l1 at h
    refine xw_seq (xw_seq (xw_region ?_))
    refine xq rfl trivial (o_mv rfl) ?_
    refine xq rfl trivial (o_lss rfl rfl) ?_
    refine xo_nil (xq_then ?_)
    refine xw_bool 59 rfl (fun hc21 => ?_) (fun hc21 => ?_)
    · have hq21 : (decide (i4 < 8)) = true := hc21
      have hp21 : i4 < 8 := of_decide_eq_true hq21
      rw [if_pos hp21] at h
      refine xw_cond_t rfl rfl (xw_skip (xq_then (xw_seq ?_)))
      refine xw_block ?_
      refine xw_seq (xw_region ?_)
      refine xq rfl trivial (o_mv rfl) ?_
      refine xq rfl trivial (o_mv rfl) ?_
      first | refine xq rfl trivial (o_fa0 fl34_11 rfl) ?_ | refine xq rfl trivial (o_fa fl34_11 rfl) ?_
      obtain ⟨ho22, h⟩ := h
      refine xq rfl trivial (o_ixa ea32 rfl rfl ho22 rfl) ?_
      first | refine xq rfl trivial (o_fa0 fl31_0 rfl) ?_ | refine xq rfl trivial (o_fa fl31_0 rfl) ?_
      refine xq rfl trivial (o_ldI (v := m0 (12 + (i4.toNat * 2))) rfl ts3 (List.mem_append_right _ (List.Mem.head _)) (by have := ho22; omega) rfl) ?_
      obtain ⟨ho23, h⟩ := h
      refine xcall rfl trivial kf26 rfl (fun w1 hw1 => four_c _ w1 ho23) ?_
      rintro w1 vs24 _ hw1 ⟨_, Bs24, rfl, rfl, hJs24, hcBs24⟩
      refine ⟨_, Mg.news (Cov.fresh hcBs24) (.nil _), ?_⟩
      replace hcBs24 := Cov.base (w0 := w) hcBs24 hw1.size
      obtain ⟨ho26, h⟩ := h
      refine xo rfl trivial (OT.st (fun _ h => Pull.st (.there _ (.here _ _)) h) (o_appJ (l := b3) (l' := (four_F (m0 (12 + (i4.toNat * 2))))) (B := B3_1) ap35 rfl rfl hJ3_1 (fun w2 hw2 => (hJs24.sl hw2 (Pull.sub (.there _ (.here _ _))))) (fun _ _ => rfl) ho26 (len_max ho26 (by decide)))) ?_
      rintro vs25 _ ⟨Bs25, rfl, hns25, hJs25⟩
      have hcBs25 := Cov.trans hcB3_1 hns25
      refine xo_st (Bs24 ++ (Bs25 ++ ((b1, BK 28 (iv m0) 34) :: ([])))) (fun _ h => Pull.push (.there _ (.here _ _)) h) ?_
      refine xq rfl trivial (o_as rfl) ?_
      refine xo_nil (xq_then (xw_region ?_))
      refine xq rfl trivial (o_mv rfl) ?_
      refine xq rfl trivial (o_mv rfl) ?_
      first | refine xq rfl trivial (o_fa0 fl34_11 rfl) ?_ | refine xq rfl trivial (o_fa fl34_11 rfl) ?_
      obtain ⟨ho27, h⟩ := h
      refine xq rfl trivial (o_ixa ea32 rfl rfl ho27 rfl) ?_
      first | refine xq rfl trivial (o_fa0 fl31_1 rfl) ?_ | refine xq rfl trivial (o_fa fl31_1 rfl) ?_
      refine xq rfl trivial (o_ldI (v := m0 ((12 + (i4.toNat * 2)) + 1)) rfl ts3 (List.mem_append_right _ (List.mem_append_right _ (List.Mem.head _))) (by have := ho27; omega) rfl) ?_
      obtain ⟨ho28, h⟩ := h
      refine xcall rfl trivial kf26 rfl (fun w1 hw1 => four_c _ w1 ho28) ?_
      rintro w1 vs29 _ hw1 ⟨_, Bs29, rfl, rfl, hJs29, hcBs29⟩
      refine ⟨_, Mg.news (Cov.fresh hcBs29) (.nil _), ?_⟩
      replace hcBs29 := Cov.base (w0 := w) hcBs29 hw1.size
      obtain ⟨ho31, h⟩ := h
      refine xo rfl trivial (OT.st (fun _ h => Pull.st (.there _ (.there _ (.here _ _))) h) (o_appJ (l := (b3 ++ (four_F (m0 (12 + (i4.toNat * 2)))))) (l' := (four_F (m0 ((12 + (i4.toNat * 2)) + 1)))) (B := Bs25) ap35 rfl rfl hJs25 (fun w2 hw2 => (hJs29.sl hw2 (Pull.sub (.there _ (.here _ _))))) (fun _ _ => rfl) ho31 (len_max ho31 (by decide)))) ?_
      rintro vs30 _ ⟨Bs30, rfl, hns30, hJs30⟩
      have hcBs30 := Cov.trans hcBs25 hns30
      refine xo_st (Bs29 ++ (Bs24 ++ (Bs30 ++ ((b1, BK 28 (iv m0) 34) :: ([]))))) (fun _ h => Pull.push (.there _ (.there _ (.here _ _))) h) ?_
      refine xq rfl trivial (o_as rfl) ?_
      refine xo_nil ?_
      refine xq_blk 1 ?_
      refine xq_then (xw_region ?_)
      refine xq rfl trivial (o_mv rfl) ?_
      obtain ⟨ho32, h⟩ := h
      refine xq rfl trivial (o_add rfl rfl rfl ho32) ?_
      refine xq rfl trivial (o_as rfl) ?_
      refine xo_nil ?_
      exact xq_next (s' := ((((b3 ++ (four_F (m0 (12 + (i4.toNat * 2))))) ++ (four_F (m0 ((12 + (i4.toNat * 2)) + 1)))), i4 + 1) : (List Int) × Int)) (e' := [(1, .pointer (some ⟨b1, 0, none⟩)), (3, vs30), (4, .int .i64 (i4 + 1))]) (Bs30 ++ ((b1, BK 28 (iv m0) 34) :: ([]))) (lc rfl (lc rfl (lc rfl ln))) (Kp.st (Kp.segNew (Cov.fresh hcBs29) (Kp.segNew (Cov.fresh hcBs24) (Kp.segKeep (Kp.keep Kp.nil))))) h ⟨vs30, Bs30, rfl, rfl, hJs30, hcBs30⟩
    · have hq21 : (decide (i4 < 8)) = false := hc21
      have hp21 : ¬ (i4 < 8) := of_decide_eq_false hq21
      rw [if_neg hp21] at h
      refine xw_cond_f rfl rfl (xw_exit (xq_then_exit ?_))
      exact xq_out (r := (b3 : (List Int))) (e' := [(3, v3_1)]) (B3_1 ++ ((b1, BK 28 (iv m0) 34) :: ([]))) (lc rfl ln) (fun _ h => h) h (by intro hh; cases hh) ⟨v3_1, B3_1, rfl, rfl, rfl, hJ3_1, hcB3_1⟩
  · rintro _ _ _ ⟨v3_1o, B3_1o, rfl, rfl, rfl, hJ3_1o, hcB3_1o⟩
    replace h : refEnc_k1a b3 r := h
    unfold refEnc_k1a at h
    refine xq_blk_eq ?_
    refine xq_then (xw_seq (xw_region ?_))
    refine xq rfl trivial (o_mv rfl) ?_
    refine xq rfl trivial (o_as rfl) ?_
    refine xo_nil (xq_then (xw_ret ?_))
    subst h
    exact con_ret1 (.inl rfl) Try.results15 rfl (B3_1o ++ []) (Kp.st (Kp.segKeep (Kp.new hb1 Kp.nil))) (⟨_, B3_1o, rfl, rfl, hJ3_1o, hcB3_1o⟩)

theorem refDec_con (b0 : (List Int)) (v0 : Value) (w : World) (hs0 : SL w 1 u8c v0 b0) (r : (Nat → Int) × Int) (h : refDec_S b0 r) : Con Try.prog 17 #[v0] w (Is (.tuple #[AI 28 r.1, .int .i64 r.2]) []) := by
  unfold refDec_S at h
  refine con_enter (n := 81) [(0, _)] Try.func17 rfl Try.ntmps17 rfl (lac rfl lan) ?_
  refine xw_seq (xw_region ?_)
  refine xo rfl trivial (o_alloc ze34 rfl) ?_
  rintro _ _ ⟨b2, hb2, rfl, rfl⟩
  refine xq rfl trivial (o_as rfl) ?_
  refine xo_nil (xq_then (xw_seq (xw_seq (xw_region ?_))))
  refine xq rfl trivial (o_mv rfl) ?_
  refine xq rfl trivial (o_lenL rfl Try.underlying35 rfl (SL.val hs0)) ?_
  refine xq rfl trivial (o_lss rfl rfl) ?_
  refine xo_nil (xq_then ?_)
  refine xw_bool 8 rfl (fun hc1 => ?_) (fun hc1 => ?_)
  · have hq1 : (decide ((b0.length : Int) < 88)) = true := hc1
    have hp1 : (b0.length : Int) < 88 := of_decide_eq_true hq1
    rw [if_pos hp1] at h
    refine xw_cond_t rfl rfl (xw_seq (xw_region ?_))
    refine xq rfl trivial (o_build fk34 ze34 (.nil _)) ?_
    refine xq0 trivial (o_stWI rfl rfl ts34 (List.Mem.head _) (.here _ _ _ _)) ?_
    refine xq rfl trivial (o_as rfl) ?_
    refine xo_nil (xq_then (xw_ret (xq_then_ret ?_)))
    subst h
    exact con_retN (.inl rfl) (l := [.cell 2 34, .tmp 3]) Try.results17 (.cell rfl ts34 (List.Mem.head _) (.tmp rfl .nil)) rfl [] (Kp.st (Kp.new hb2 Kp.nil)) (⟨rfl, rfl⟩)
  · have hq1 : (decide ((b0.length : Int) < 88)) = false := hc1
    have hp1 : ¬ ((b0.length : Int) < 88) := of_decide_eq_false hq1
    rw [if_neg hp1] at h
    refine xw_cond_f rfl rfl (xw_skip (xq_then (xw_seq (xw_seq (xw_region ?_)))))
    refine xq rfl trivial (o_mv rfl) ?_
    refine xq rfl trivial (o_lenL rfl Try.underlying35 rfl (SL.val hs0)) ?_
    refine xq rfl trivial (o_gtr rfl rfl) ?_
    refine xo_nil (xq_then ?_)
    refine xw_bool 12 rfl (fun hc2 => ?_) (fun hc2 => ?_)
    · have hq2 : (decide (88 < (b0.length : Int))) = true := hc2
      have hp2 : 88 < (b0.length : Int) := of_decide_eq_true hq2
      rw [if_pos hp2] at h
      refine xw_cond_t rfl rfl (xw_seq (xw_region ?_))
      refine xq rfl trivial (o_build fk34 ze34 (.nil _)) ?_
      refine xq0 trivial (o_stWI rfl rfl ts34 (List.Mem.head _) (.here _ _ _ _)) ?_
      refine xq rfl trivial (o_as rfl) ?_
      refine xo_nil (xq_then (xw_ret (xq_then_ret ?_)))
      subst h
      exact con_retN (.inl rfl) (l := [.cell 2 34, .tmp 3]) Try.results17 (.cell rfl ts34 (List.Mem.head _) (.tmp rfl .nil)) rfl [] (Kp.st (Kp.new hb2 Kp.nil)) (⟨rfl, rfl⟩)
    · have hq2 : (decide (88 < (b0.length : Int))) = false := hc2
      have hp2 : ¬ (88 < (b0.length : Int)) := of_decide_eq_false hq2
      rw [if_neg hp2] at h
      refine xw_cond_f rfl rfl (xw_skip (xq_then (xw_seq ?_)))
      refine xd_start (by kernel_rfl) (by kernel_rfl) (fun hok => ?_)
      refine xd_a hok 0 [(0, _)] (fun _ h => absurd h List.not_mem_nil) rfl rfl rfl (lc rfl ln) (by kernel_rfl) trivial (fun H' hy hK => o_mv rfl) ?_
      obtain ⟨ho3, h⟩ := h
      refine xd_a hok 1 [(14, _)] (fun _ h => h) rfl rfl rfl (lc rfl ln) (by kernel_rfl) trivial (fun H' hy hK => o_ixL el35 rfl rfl (fun w hw => (hs0.keep hw (fun k hk => (hK k hk).elim (fun h => (Fr.cons hb2 Fr.nil) k h) id))) rfl ho3) ?_
      refine xd_a hok 2 [(15, _)] (fun _ h => h) rfl rfl rfl (lc rfl ln) (by kernel_rfl) trivial (fun H' hy hK => o_ldL1 (off := 0) (u := .int .u8 (b0[0]!)) rfl ts5 rfl (fun w hw => (hs0.keep hw (fun k hk => (hK k hk).elim (fun h => (Fr.cons hb2 Fr.nil) k h) id))) (toNat_lt ho3) rfl rfl) ?_
      refine xd_a hok 3 [(16, _)] (fun _ h => h) rfl rfl rfl (lc rfl ln) (by kernel_rfl) trivial (fun H' hy hK => o_conv rfl Try.underlying5 Try.underlying3) ?_
      refine xd_a hok 4 [(0, _)] (fun _ h => h) rfl rfl rfl (lc rfl ln) (by kernel_rfl) trivial (fun H' hy hK => o_mv rfl) ?_
      obtain ⟨ho4, h⟩ := h
      refine xd_a hok 5 [(18, _)] (fun _ h => h) rfl rfl rfl (lc rfl ln) (by kernel_rfl) trivial (fun H' hy hK => o_ixL el35 rfl rfl (fun w hw => (hs0.keep hw (fun k hk => (hK k hk).elim (fun h => (Fr.cons hb2 Fr.nil) k h) id))) rfl ho4) ?_
      refine xd_a hok 6 [(19, _)] (fun _ h => h) rfl rfl rfl (lc rfl ln) (by kernel_rfl) trivial (fun H' hy hK => o_ldL1 (off := 0) (u := .int .u8 (b0[1]!)) rfl ts5 rfl (fun w hw => (hs0.keep hw (fun k hk => (hK k hk).elim (fun h => (Fr.cons hb2 Fr.nil) k h) id))) (toNat_lt ho4) rfl rfl) ?_
      refine xd_a hok 7 [(20, _)] (fun _ h => h) rfl rfl rfl (lc rfl ln) (by kernel_rfl) trivial (fun H' hy hK => o_conv rfl Try.underlying5 Try.underlying3) ?_
      refine xd_a hok 8 [(0, _)] (fun _ h => h) rfl rfl rfl (lc rfl ln) (by kernel_rfl) trivial (fun H' hy hK => o_mv rfl) ?_
      obtain ⟨ho5, h⟩ := h
      refine xd_a hok 9 [(22, _)] (fun _ h => h) rfl rfl rfl (lc rfl ln) (by kernel_rfl) trivial (fun H' hy hK => o_ixL el35 rfl rfl (fun w hw => (hs0.keep hw (fun k hk => (hK k hk).elim (fun h => (Fr.cons hb2 Fr.nil) k h) id))) rfl ho5) ?_
      refine xd_a hok 10 [(23, _)] (fun _ h => h) rfl rfl rfl (lc rfl ln) (by kernel_rfl) trivial (fun H' hy hK => o_ldL1 (off := 0) (u := .int .u8 (b0[2]!)) rfl ts5 rfl (fun w hw => (hs0.keep hw (fun k hk => (hK k hk).elim (fun h => (Fr.cons hb2 Fr.nil) k h) id))) (toNat_lt ho5) rfl rfl) ?_
      refine xd_a hok 11 [(24, _)] (fun _ h => h) rfl rfl rfl (lc rfl ln) (by kernel_rfl) trivial (fun H' hy hK => o_conv rfl Try.underlying5 Try.underlying3) ?_
      refine xd_a hok 12 [(0, _)] (fun _ h => h) rfl rfl rfl (lc rfl ln) (by kernel_rfl) trivial (fun H' hy hK => o_mv rfl) ?_
      obtain ⟨ho6, h⟩ := h
      refine xd_a hok 13 [(26, _)] (fun _ h => h) rfl rfl rfl (lc rfl ln) (by kernel_rfl) trivial (fun H' hy hK => o_callq kf30 rfl (fun w1 hw1 => at4_c _ _ _ w1 (hs0.keep hw1 (fun k hk => (hK k hk).elim (fun h => (Fr.cons hb2 Fr.nil) k h) id)) ho6)) ?_
      refine xd_a hok 14 [(0, _)] (fun _ h => h) rfl rfl rfl (lc rfl ln) (by kernel_rfl) trivial (fun H' hy hK => o_mv rfl) ?_
      obtain ⟨ho7, h⟩ := h
      refine xd_a hok 15 [(28, _)] (fun _ h => h) rfl rfl rfl (lc rfl ln) (by kernel_rfl) trivial (fun H' hy hK => o_callq kf30 rfl (fun w1 hw1 => at4_c _ _ _ w1 (hs0.keep hw1 (fun k hk => (hK k hk).elim (fun h => (Fr.cons hb2 Fr.nil) k h) id)) ho7)) ?_
      refine xd_a hok 16 [(0, _)] (fun _ h => h) rfl rfl rfl (lc rfl ln) (by kernel_rfl) trivial (fun H' hy hK => o_mv rfl) ?_
      obtain ⟨ho8, h⟩ := h
      refine xd_a hok 17 [(30, _)] (fun _ h => h) rfl rfl rfl (lc rfl ln) (by kernel_rfl) trivial (fun H' hy hK => o_ixL el35 rfl rfl (fun w hw => (hs0.keep hw (fun k hk => (hK k hk).elim (fun h => (Fr.cons hb2 Fr.nil) k h) id))) rfl ho8) ?_
      refine xd_a hok 18 [(31, _)] (fun _ h => h) rfl rfl rfl (lc rfl ln) (by kernel_rfl) trivial (fun H' hy hK => o_ldL1 (off := 0) (u := .int .u8 (b0[14]!)) rfl ts5 rfl (fun w hw => (hs0.keep hw (fun k hk => (hK k hk).elim (fun h => (Fr.cons hb2 Fr.nil) k h) id))) (toNat_lt ho8) rfl rfl) ?_
      refine xd_a hok 19 [(32, _)] (fun _ h => h) rfl rfl rfl (lc rfl ln) (by kernel_rfl) trivial (fun H' hy hK => o_conv rfl Try.underlying5 Try.underlying3) ?_
      refine xd_a hok 20 [(0, _)] (fun _ h => h) rfl rfl rfl (lc rfl ln) (by kernel_rfl) trivial (fun H' hy hK => o_mv rfl) ?_
      obtain ⟨ho9, h⟩ := h
      refine xd_a hok 21 [(34, _)] (fun _ h => h) rfl rfl rfl (lc rfl ln) (by kernel_rfl) trivial (fun H' hy hK => o_callq kf30 rfl (fun w1 hw1 => at4_c _ _ _ w1 (hs0.keep hw1 (fun k hk => (hK k hk).elim (fun h => (Fr.cons hb2 Fr.nil) k h) id)) ho9)) ?_
      refine xd_a hok 22 [(0, _)] (fun _ h => h) rfl rfl rfl (lc rfl ln) (by kernel_rfl) trivial (fun H' hy hK => o_mv rfl) ?_
      obtain ⟨ho10, h⟩ := h
      refine xd_a hok 23 [(36, _)] (fun _ h => h) rfl rfl rfl (lc rfl ln) (by kernel_rfl) trivial (fun H' hy hK => o_callq kf30 rfl (fun w1 hw1 => at4_c _ _ _ w1 (hs0.keep hw1 (fun k hk => (hK k hk).elim (fun h => (Fr.cons hb2 Fr.nil) k h) id)) ho10)) ?_
      refine xd_a hok 24 [(0, _)] (fun _ h => h) rfl rfl rfl (lc rfl ln) (by kernel_rfl) trivial (fun H' hy hK => o_mv rfl) ?_
      obtain ⟨ho11, h⟩ := h
      refine xd_a hok 25 [(38, _)] (fun _ h => h) rfl rfl rfl (lc rfl ln) (by kernel_rfl) trivial (fun H' hy hK => o_ixL el35 rfl rfl (fun w hw => (hs0.keep hw (fun k hk => (hK k hk).elim (fun h => (Fr.cons hb2 Fr.nil) k h) id))) rfl ho11) ?_
      refine xd_a hok 26 [(39, _)] (fun _ h => h) rfl rfl rfl (lc rfl ln) (by kernel_rfl) trivial (fun H' hy hK => o_ldL1 (off := 0) (u := .int .u8 (b0[23]!)) rfl ts5 rfl (fun w hw => (hs0.keep hw (fun k hk => (hK k hk).elim (fun h => (Fr.cons hb2 Fr.nil) k h) id))) (toNat_lt ho11) rfl rfl) ?_
      refine xd_a hok 27 [(40, _)] (fun _ h => h) rfl rfl rfl (lc rfl ln) (by kernel_rfl) trivial (fun H' hy hK => o_conv rfl Try.underlying5 Try.underlying3) ?_
      refine xd_a hok 28 [(17, _), (21, _), (25, _), (27, _), (29, _), (33, _), (35, _), (37, _), (41, _)] (fun _ h => h) rfl rfl rfl (lc rfl (lc rfl (lc rfl (lc rfl (lc rfl (lc rfl (lc rfl (lc rfl (lc rfl ln))))))))) (by kernel_rfl) trivial (fun H' hy hK => o_build fk34 ze34 (.int fl34_0 rfl rfl (.int fl34_1 rfl rfl (.int fl34_2 rfl rfl (.int fl34_3 rfl rfl (.int fl34_4 rfl rfl (.int fl34_7 rfl rfl (.int fl34_8 rfl rfl (.int fl34_9 rfl rfl (.int fl34_10 rfl rfl (.nil _))))))))))) ?_
      refine xd_step hok 29 [] rfl rfl (by kernel_rfl) ln (by kernel_rfl) trivial (o_alloc ze34 rfl) ?_
      rintro _ _ ⟨b4, hb4, rfl, rfl⟩
      refine ⟨(fun _ h => .tail _ (h)), (Ks.consN hb4 (Ks.consK (by simp) Ks.nil)), ?_⟩
      refine xd_fl0 hok 0 30 [(4, _), (42, _)] rfl rfl (by kernel_rfl) (by kernel_rfl) (lc rfl (lc rfl ln)) (by kernel_rfl) trivial (o_stWI rfl rfl ts34 (List.Mem.head _) (.here _ _ _ _)) ?_
      rintro _ _ ⟨rfl, rfl⟩
      refine ⟨(Ks.consN hb4 (Ks.consK (by simp) Ks.nil)), ?_⟩
      refine xd_end hok (by kernel_rfl) ?_
      refine xq_then (xw_seq ?_)
      refine xd_start (by kernel_rfl) (by kernel_rfl) (fun hok => ?_)
      refine xd_a hok 0 [(0, _)] (fun _ h => absurd h List.not_mem_nil) rfl rfl rfl (lc rfl ln) (by kernel_rfl) trivial (fun H' hy hK => o_mv rfl) ?_
      obtain ⟨ho12, h⟩ := h
      refine xd_a hok 1 [(43, _)] (fun _ h => h) rfl rfl rfl (lc rfl ln) (by kernel_rfl) trivial (fun H' hy hK => o_ixL el35 rfl rfl (fun w hw => (hs0.keep hw (fun k hk => (hK k hk).elim (fun h => (Fr.cons hb4 (Fr.cons hb2 Fr.nil)) k h) id))) rfl ho12) ?_
      refine xd_a hok 2 [(44, _)] (fun _ h => h) rfl rfl rfl (lc rfl ln) (by kernel_rfl) trivial (fun H' hy hK => o_ldL1 (off := 0) (u := .int .u8 (b0[11]!)) rfl ts5 rfl (fun w hw => (hs0.keep hw (fun k hk => (hK k hk).elim (fun h => (Fr.cons hb4 (Fr.cons hb2 Fr.nil)) k h) id))) (toNat_lt ho12) rfl rfl) ?_
      refine xd_a hok 3 [(45, _)] (fun _ h => h) rfl rfl rfl (lc rfl ln) (by kernel_rfl) trivial (fun H' hy hK => o_conv rfl Try.underlying5 Try.underlying3) ?_
      refine xd_a hok 4 [(0, _)] (fun _ h => h) rfl rfl rfl (lc rfl ln) (by kernel_rfl) trivial (fun H' hy hK => o_mv rfl) ?_
      obtain ⟨ho13, h⟩ := h
      refine xd_a hok 5 [(47, _)] (fun _ h => h) rfl rfl rfl (lc rfl ln) (by kernel_rfl) trivial (fun H' hy hK => o_ixL el35 rfl rfl (fun w hw => (hs0.keep hw (fun k hk => (hK k hk).elim (fun h => (Fr.cons hb4 (Fr.cons hb2 Fr.nil)) k h) id))) rfl ho13) ?_
      refine xd_a hok 6 [(48, _)] (fun _ h => h) rfl rfl rfl (lc rfl ln) (by kernel_rfl) trivial (fun H' hy hK => o_ldL1 (off := 0) (u := .int .u8 (b0[12]!)) rfl ts5 rfl (fun w hw => (hs0.keep hw (fun k hk => (hK k hk).elim (fun h => (Fr.cons hb4 (Fr.cons hb2 Fr.nil)) k h) id))) (toNat_lt ho13) rfl rfl) ?_
      refine xd_a hok 7 [(49, _)] (fun _ h => h) rfl rfl rfl (lc rfl ln) (by kernel_rfl) trivial (fun H' hy hK => o_conv rfl Try.underlying5 Try.underlying3) ?_
      refine xd_a hok 8 [(46, _), (50, _)] (fun _ h => h) rfl rfl rfl (lc rfl (lc rfl ln)) (by kernel_rfl) trivial (fun H' hy hK => o_build fk28 ze28 (.int fl28_0 rfl rfl (.int fl28_1 rfl rfl (.nil _)))) ?_
      first | refine xd_a hok 9 [(4, _)] (fun _ h => h) rfl rfl rfl (lc rfl ln) (by kernel_rfl) trivial (fun H' hy hK => o_fa0 fl34_5 rfl) ?_ | refine xd_a hok 9 [(4, _)] (fun _ h => h) rfl rfl rfl (lc rfl ln) (by kernel_rfl) trivial (fun H' hy hK => o_fa fl34_5 rfl) ?_
      refine xd_fl0 hok 0 10 [(52, _), (51, _)] rfl rfl (by kernel_rfl) (by kernel_rfl) (lc rfl (lc rfl ln)) (by kernel_rfl) trivial (o_stSI rfl rfl ts28 (List.Mem.head _) (by omega) (.here _ _ _ _)) ?_
      rintro _ _ ⟨rfl, rfl⟩
      refine ⟨(Ks.consK (by simp) (Ks.consK (by simp) Ks.nil)), ?_⟩
      refine xd_end hok (by kernel_rfl) ?_
      refine xq_then (xw_seq (xw_region ?_))
      refine xq rfl trivial (o_mv rfl) ?_
      obtain ⟨ho14, h⟩ := h
      refine xq rfl trivial (o_ixL el35 rfl rfl (fun w hw => (hs0.keep hw (Fr.cons hb4 (Fr.cons hb2 Fr.nil)))) rfl ho14) ?_
      refine xq rfl trivial (o_ldL1 (off := 0) (u := .int .u8 (b0[13]!)) rfl ts5 rfl (fun w hw => (hs0.keep hw (Fr.cons hb4 (Fr.cons hb2 Fr.nil)))) (toNat_lt ho14) rfl rfl) ?_
      refine xq rfl trivial (o_conv rfl Try.underlying5 Try.underlying3) ?_
      first | refine xq rfl trivial (o_fa0 fl34_6 rfl) ?_ | refine xq rfl trivial (o_fa fl34_6 rfl) ?_
      refine xq0 trivial (o_stI rfl rfl ts29 (List.Mem.head _) (by omega) (.here _ _ _ _)) ?_
      refine xo_nil (xq_then (xw_seq (xw_seq (xw_region ?_))))
      refine xq rfl trivial (o_as rfl) ?_
      refine xo_nil (xq_then ?_)
      refine xw_block ?_
      refine xw_rounds 60 ?_
      refine xr_succ ?_
      refine xw_seq (xw_seq (xw_region ?_))
      refine xq rfl trivial (o_mv rfl) ?_
      refine xq rfl trivial (o_lss rfl rfl) ?_
      refine xo_nil (xq_then (xw_cond_t rfl rfl (xw_skip (xq_then (xw_seq ?_)))))
      refine xw_block ?_
      refine xw_region ?_
      refine xq rfl trivial (o_mv rfl) ?_
      refine xq rfl trivial (o_mv rfl) ?_
      refine xq rfl trivial (o_mv rfl) ?_
      refine xq rfl trivial (o_mul rfl rfl rfl ⟨by omega, by omega⟩) ?_
      refine xq rfl trivial (o_add rfl rfl rfl ⟨by omega, by omega⟩) ?_
      obtain ⟨ho15, h⟩ := h
      refine xcallq rfl trivial kf30 rfl (fun w1 hw1 => at4_c _ _ _ w1 (hs0.keep hw1 (Fr.cons hb4 (Fr.cons hb2 Fr.nil))) ho15) ?_
      refine xq rfl trivial (o_mv rfl) ?_
      refine xq rfl trivial (o_mv rfl) ?_
      refine xq rfl trivial (o_mul rfl rfl rfl ⟨by omega, by omega⟩) ?_
      refine xq rfl trivial (o_add rfl rfl rfl ⟨by omega, by omega⟩) ?_
      obtain ⟨ho16, h⟩ := h
      refine xcallq rfl trivial kf30 rfl (fun w1 hw1 => at4_c _ _ _ w1 (hs0.keep hw1 (Fr.cons hb4 (Fr.cons hb2 Fr.nil))) ho16) ?_
      refine xq rfl trivial (o_build fk31 ze31 (.int fl31_0 rfl rfl (.int fl31_1 rfl rfl (.nil _)))) ?_
      first | refine xq rfl trivial (o_fa0 fl34_11 rfl) ?_ | refine xq rfl trivial (o_fa fl34_11 rfl) ?_
      refine xq rfl trivial (o_ixa (j := 0) ea32 rfl rfl ⟨by omega, by omega⟩ rfl) ?_
      refine xq0 trivial (o_stSI rfl rfl ts31 (List.Mem.head _) (by omega) (.here _ _ _ _)) ?_
      refine xo_nil ?_
      refine xq_blk 1 ?_
      refine xq_then (xw_region ?_)
      refine xq rfl trivial (o_mv rfl) ?_
      refine xq rfl trivial (o_add rfl rfl rfl ⟨by omega, by omega⟩) ?_
      refine xq rfl trivial (o_as rfl) ?_
      refine xo_nil ?_
      refine xq_rounds ?_
      refine xr_succ ?_
      refine xw_seq (xw_seq (xw_region ?_))
      refine xq rfl trivial (o_mv rfl) ?_
      refine xq rfl trivial (o_lss rfl rfl) ?_
      refine xo_nil (xq_then (xw_cond_t rfl rfl (xw_skip (xq_then (xw_seq ?_)))))
      refine xw_block ?_
      refine xw_region ?_
      refine xq rfl trivial (o_mv rfl) ?_
      refine xq rfl trivial (o_mv rfl) ?_
      refine xq rfl trivial (o_mv rfl) ?_
      refine xq rfl trivial (o_mul rfl rfl rfl ⟨by omega, by omega⟩) ?_
      refine xq rfl trivial (o_add rfl rfl rfl ⟨by omega, by omega⟩) ?_
      obtain ⟨ho17, h⟩ := h
      refine xcallq rfl trivial kf30 rfl (fun w1 hw1 => at4_c _ _ _ w1 (hs0.keep hw1 (Fr.cons hb4 (Fr.cons hb2 Fr.nil))) ho17) ?_
      refine xq rfl trivial (o_mv rfl) ?_
      refine xq rfl trivial (o_mv rfl) ?_
      refine xq rfl trivial (o_mul rfl rfl rfl ⟨by omega, by omega⟩) ?_
      refine xq rfl trivial (o_add rfl rfl rfl ⟨by omega, by omega⟩) ?_
      obtain ⟨ho18, h⟩ := h
      refine xcallq rfl trivial kf30 rfl (fun w1 hw1 => at4_c _ _ _ w1 (hs0.keep hw1 (Fr.cons hb4 (Fr.cons hb2 Fr.nil))) ho18) ?_
      refine xq rfl trivial (o_build fk31 ze31 (.int fl31_0 rfl rfl (.int fl31_1 rfl rfl (.nil _)))) ?_
      first | refine xq rfl trivial (o_fa0 fl34_11 rfl) ?_ | refine xq rfl trivial (o_fa fl34_11 rfl) ?_
      refine xq rfl trivial (o_ixa (j := 1) ea32 rfl rfl ⟨by omega, by omega⟩ rfl) ?_
      refine xq0 trivial (o_stSI rfl rfl ts31 (List.Mem.head _) (by omega) (.here _ _ _ _)) ?_
      refine xo_nil ?_
      refine xq_blk 1 ?_
      refine xq_then (xw_region ?_)
      refine xq rfl trivial (o_mv rfl) ?_
      refine xq rfl trivial (o_add rfl rfl rfl ⟨by omega, by omega⟩) ?_
      refine xq rfl trivial (o_as rfl) ?_
      refine xo_nil ?_
      refine xq_rounds ?_
      refine xr_succ ?_
      refine xw_seq (xw_seq (xw_region ?_))
      refine xq rfl trivial (o_mv rfl) ?_
      refine xq rfl trivial (o_lss rfl rfl) ?_
      refine xo_nil (xq_then (xw_cond_t rfl rfl (xw_skip (xq_then (xw_seq ?_)))))
      refine xw_block ?_
      refine xw_region ?_
      refine xq rfl trivial (o_mv rfl) ?_
      refine xq rfl trivial (o_mv rfl) ?_
      refine xq rfl trivial (o_mv rfl) ?_
      refine xq rfl trivial (o_mul rfl rfl rfl ⟨by omega, by omega⟩) ?_
      refine xq rfl trivial (o_add rfl rfl rfl ⟨by omega, by omega⟩) ?_
      obtain ⟨ho19, h⟩ := h
      refine xcallq rfl trivial kf30 rfl (fun w1 hw1 => at4_c _ _ _ w1 (hs0.keep hw1 (Fr.cons hb4 (Fr.cons hb2 Fr.nil))) ho19) ?_
      refine xq rfl trivial (o_mv rfl) ?_
      refine xq rfl trivial (o_mv rfl) ?_
      refine xq rfl trivial (o_mul rfl rfl rfl ⟨by omega, by omega⟩) ?_
      refine xq rfl trivial (o_add rfl rfl rfl ⟨by omega, by omega⟩) ?_
      obtain ⟨ho20, h⟩ := h
      refine xcallq rfl trivial kf30 rfl (fun w1 hw1 => at4_c _ _ _ w1 (hs0.keep hw1 (Fr.cons hb4 (Fr.cons hb2 Fr.nil))) ho20) ?_
      refine xq rfl trivial (o_build fk31 ze31 (.int fl31_0 rfl rfl (.int fl31_1 rfl rfl (.nil _)))) ?_
      first | refine xq rfl trivial (o_fa0 fl34_11 rfl) ?_ | refine xq rfl trivial (o_fa fl34_11 rfl) ?_
      refine xq rfl trivial (o_ixa (j := 2) ea32 rfl rfl ⟨by omega, by omega⟩ rfl) ?_
      refine xq0 trivial (o_stSI rfl rfl ts31 (List.Mem.head _) (by omega) (.here _ _ _ _)) ?_
      refine xo_nil ?_
      refine xq_blk 1 ?_
      refine xq_then (xw_region ?_)
      refine xq rfl trivial (o_mv rfl) ?_
      refine xq rfl trivial (o_add rfl rfl rfl ⟨by omega, by omega⟩) ?_
      refine xq rfl trivial (o_as rfl) ?_
      refine xo_nil ?_
      refine xq_rounds ?_
      refine xr_succ ?_
      refine xw_seq (xw_seq (xw_region ?_))
      refine xq rfl trivial (o_mv rfl) ?_
      refine xq rfl trivial (o_lss rfl rfl) ?_
      refine xo_nil (xq_then (xw_cond_t rfl rfl (xw_skip (xq_then (xw_seq ?_)))))
      refine xw_block ?_
      refine xw_region ?_
      refine xq rfl trivial (o_mv rfl) ?_
      refine xq rfl trivial (o_mv rfl) ?_
      refine xq rfl trivial (o_mv rfl) ?_
      refine xq rfl trivial (o_mul rfl rfl rfl ⟨by omega, by omega⟩) ?_
      refine xq rfl trivial (o_add rfl rfl rfl ⟨by omega, by omega⟩) ?_
      obtain ⟨ho21, h⟩ := h
      refine xcallq rfl trivial kf30 rfl (fun w1 hw1 => at4_c _ _ _ w1 (hs0.keep hw1 (Fr.cons hb4 (Fr.cons hb2 Fr.nil))) ho21) ?_
      refine xq rfl trivial (o_mv rfl) ?_
      refine xq rfl trivial (o_mv rfl) ?_
      refine xq rfl trivial (o_mul rfl rfl rfl ⟨by omega, by omega⟩) ?_
      refine xq rfl trivial (o_add rfl rfl rfl ⟨by omega, by omega⟩) ?_
      obtain ⟨ho22, h⟩ := h
      refine xcallq rfl trivial kf30 rfl (fun w1 hw1 => at4_c _ _ _ w1 (hs0.keep hw1 (Fr.cons hb4 (Fr.cons hb2 Fr.nil))) ho22) ?_
      refine xq rfl trivial (o_build fk31 ze31 (.int fl31_0 rfl rfl (.int fl31_1 rfl rfl (.nil _)))) ?_
      first | refine xq rfl trivial (o_fa0 fl34_11 rfl) ?_ | refine xq rfl trivial (o_fa fl34_11 rfl) ?_
      refine xq rfl trivial (o_ixa (j := 3) ea32 rfl rfl ⟨by omega, by omega⟩ rfl) ?_
      refine xq0 trivial (o_stSI rfl rfl ts31 (List.Mem.head _) (by omega) (.here _ _ _ _)) ?_
      refine xo_nil ?_
      refine xq_blk 1 ?_
      refine xq_then (xw_region ?_)
      refine xq rfl trivial (o_mv rfl) ?_
      refine xq rfl trivial (o_add rfl rfl rfl ⟨by omega, by omega⟩) ?_
      refine xq rfl trivial (o_as rfl) ?_
      refine xo_nil ?_
      refine xq_rounds ?_
      refine xr_succ ?_
      refine xw_seq (xw_seq (xw_region ?_))
      refine xq rfl trivial (o_mv rfl) ?_
      refine xq rfl trivial (o_lss rfl rfl) ?_
      refine xo_nil (xq_then (xw_cond_t rfl rfl (xw_skip (xq_then (xw_seq ?_)))))
      refine xw_block ?_
      refine xw_region ?_
      refine xq rfl trivial (o_mv rfl) ?_
      refine xq rfl trivial (o_mv rfl) ?_
      refine xq rfl trivial (o_mv rfl) ?_
      refine xq rfl trivial (o_mul rfl rfl rfl ⟨by omega, by omega⟩) ?_
      refine xq rfl trivial (o_add rfl rfl rfl ⟨by omega, by omega⟩) ?_
      obtain ⟨ho23, h⟩ := h
      refine xcallq rfl trivial kf30 rfl (fun w1 hw1 => at4_c _ _ _ w1 (hs0.keep hw1 (Fr.cons hb4 (Fr.cons hb2 Fr.nil))) ho23) ?_
      refine xq rfl trivial (o_mv rfl) ?_
      refine xq rfl trivial (o_mv rfl) ?_
      refine xq rfl trivial (o_mul rfl rfl rfl ⟨by omega, by omega⟩) ?_
      refine xq rfl trivial (o_add rfl rfl rfl ⟨by omega, by omega⟩) ?_
      obtain ⟨ho24, h⟩ := h
      refine xcallq rfl trivial kf30 rfl (fun w1 hw1 => at4_c _ _ _ w1 (hs0.keep hw1 (Fr.cons hb4 (Fr.cons hb2 Fr.nil))) ho24) ?_
      refine xq rfl trivial (o_build fk31 ze31 (.int fl31_0 rfl rfl (.int fl31_1 rfl rfl (.nil _)))) ?_
      first | refine xq rfl trivial (o_fa0 fl34_11 rfl) ?_ | refine xq rfl trivial (o_fa fl34_11 rfl) ?_
      refine xq rfl trivial (o_ixa (j := 4) ea32 rfl rfl ⟨by omega, by omega⟩ rfl) ?_
      refine xq0 trivial (o_stSI rfl rfl ts31 (List.Mem.head _) (by omega) (.here _ _ _ _)) ?_
      refine xo_nil ?_
      refine xq_blk 1 ?_
      refine xq_then (xw_region ?_)
      refine xq rfl trivial (o_mv rfl) ?_
      refine xq rfl trivial (o_add rfl rfl rfl ⟨by omega, by omega⟩) ?_
      refine xq rfl trivial (o_as rfl) ?_
      refine xo_nil ?_
      refine xq_rounds ?_
      refine xr_succ ?_
      refine xw_seq (xw_seq (xw_region ?_))
      refine xq rfl trivial (o_mv rfl) ?_
      refine xq rfl trivial (o_lss rfl rfl) ?_
      refine xo_nil (xq_then (xw_cond_t rfl rfl (xw_skip (xq_then (xw_seq ?_)))))
      refine xw_block ?_
      refine xw_region ?_
      refine xq rfl trivial (o_mv rfl) ?_
      refine xq rfl trivial (o_mv rfl) ?_
      refine xq rfl trivial (o_mv rfl) ?_
      refine xq rfl trivial (o_mul rfl rfl rfl ⟨by omega, by omega⟩) ?_
      refine xq rfl trivial (o_add rfl rfl rfl ⟨by omega, by omega⟩) ?_
      obtain ⟨ho25, h⟩ := h
      refine xcallq rfl trivial kf30 rfl (fun w1 hw1 => at4_c _ _ _ w1 (hs0.keep hw1 (Fr.cons hb4 (Fr.cons hb2 Fr.nil))) ho25) ?_
      refine xq rfl trivial (o_mv rfl) ?_
      refine xq rfl trivial (o_mv rfl) ?_
      refine xq rfl trivial (o_mul rfl rfl rfl ⟨by omega, by omega⟩) ?_
      refine xq rfl trivial (o_add rfl rfl rfl ⟨by omega, by omega⟩) ?_
      obtain ⟨ho26, h⟩ := h
      refine xcallq rfl trivial kf30 rfl (fun w1 hw1 => at4_c _ _ _ w1 (hs0.keep hw1 (Fr.cons hb4 (Fr.cons hb2 Fr.nil))) ho26) ?_
      refine xq rfl trivial (o_build fk31 ze31 (.int fl31_0 rfl rfl (.int fl31_1 rfl rfl (.nil _)))) ?_
      first | refine xq rfl trivial (o_fa0 fl34_11 rfl) ?_ | refine xq rfl trivial (o_fa fl34_11 rfl) ?_
      refine xq rfl trivial (o_ixa (j := 5) ea32 rfl rfl ⟨by omega, by omega⟩ rfl) ?_
      refine xq0 trivial (o_stSI rfl rfl ts31 (List.Mem.head _) (by omega) (.here _ _ _ _)) ?_
      refine xo_nil ?_
      refine xq_blk 1 ?_
      refine xq_then (xw_region ?_)
      refine xq rfl trivial (o_mv rfl) ?_
      refine xq rfl trivial (o_add rfl rfl rfl ⟨by omega, by omega⟩) ?_
      refine xq rfl trivial (o_as rfl) ?_
      refine xo_nil ?_
      refine xq_rounds ?_
      refine xr_succ ?_
      refine xw_seq (xw_seq (xw_region ?_))
      refine xq rfl trivial (o_mv rfl) ?_
      refine xq rfl trivial (o_lss rfl rfl) ?_
      refine xo_nil (xq_then (xw_cond_t rfl rfl (xw_skip (xq_then (xw_seq ?_)))))
      refine xw_block ?_
      refine xw_region ?_
      refine xq rfl trivial (o_mv rfl) ?_
      refine xq rfl trivial (o_mv rfl) ?_
      refine xq rfl trivial (o_mv rfl) ?_
      refine xq rfl trivial (o_mul rfl rfl rfl ⟨by omega, by omega⟩) ?_
      refine xq rfl trivial (o_add rfl rfl rfl ⟨by omega, by omega⟩) ?_
      obtain ⟨ho27, h⟩ := h
      refine xcallq rfl trivial kf30 rfl (fun w1 hw1 => at4_c _ _ _ w1 (hs0.keep hw1 (Fr.cons hb4 (Fr.cons hb2 Fr.nil))) ho27) ?_
      refine xq rfl trivial (o_mv rfl) ?_
      refine xq rfl trivial (o_mv rfl) ?_
      refine xq rfl trivial (o_mul rfl rfl rfl ⟨by omega, by omega⟩) ?_
      refine xq rfl trivial (o_add rfl rfl rfl ⟨by omega, by omega⟩) ?_
      obtain ⟨ho28, h⟩ := h
      refine xcallq rfl trivial kf30 rfl (fun w1 hw1 => at4_c _ _ _ w1 (hs0.keep hw1 (Fr.cons hb4 (Fr.cons hb2 Fr.nil))) ho28) ?_
      refine xq rfl trivial (o_build fk31 ze31 (.int fl31_0 rfl rfl (.int fl31_1 rfl rfl (.nil _)))) ?_
      first | refine xq rfl trivial (o_fa0 fl34_11 rfl) ?_ | refine xq rfl trivial (o_fa fl34_11 rfl) ?_
      refine xq rfl trivial (o_ixa (j := 6) ea32 rfl rfl ⟨by omega, by omega⟩ rfl) ?_
      refine xq0 trivial (o_stSI rfl rfl ts31 (List.Mem.head _) (by omega) (.here _ _ _ _)) ?_
      refine xo_nil ?_
      refine xq_blk 1 ?_
      refine xq_then (xw_region ?_)
      refine xq rfl trivial (o_mv rfl) ?_
      refine xq rfl trivial (o_add rfl rfl rfl ⟨by omega, by omega⟩) ?_
      refine xq rfl trivial (o_as rfl) ?_
      refine xo_nil ?_
      refine xq_rounds ?_
      refine xr_succ ?_
      refine xw_seq (xw_seq (xw_region ?_))
      refine xq rfl trivial (o_mv rfl) ?_
      refine xq rfl trivial (o_lss rfl rfl) ?_
      refine xo_nil (xq_then (xw_cond_t rfl rfl (xw_skip (xq_then (xw_seq ?_)))))
      refine xw_block ?_
      refine xw_region ?_
      refine xq rfl trivial (o_mv rfl) ?_
      refine xq rfl trivial (o_mv rfl) ?_
      refine xq rfl trivial (o_mv rfl) ?_
      refine xq rfl trivial (o_mul rfl rfl rfl ⟨by omega, by omega⟩) ?_
      refine xq rfl trivial (o_add rfl rfl rfl ⟨by omega, by omega⟩) ?_
      obtain ⟨ho29, h⟩ := h
      refine xcallq rfl trivial kf30 rfl (fun w1 hw1 => at4_c _ _ _ w1 (hs0.keep hw1 (Fr.cons hb4 (Fr.cons hb2 Fr.nil))) ho29) ?_
      refine xq rfl trivial (o_mv rfl) ?_
      refine xq rfl trivial (o_mv rfl) ?_
      refine xq rfl trivial (o_mul rfl rfl rfl ⟨by omega, by omega⟩) ?_
      refine xq rfl trivial (o_add rfl rfl rfl ⟨by omega, by omega⟩) ?_
      obtain ⟨ho30, h⟩ := h
      refine xcallq rfl trivial kf30 rfl (fun w1 hw1 => at4_c _ _ _ w1 (hs0.keep hw1 (Fr.cons hb4 (Fr.cons hb2 Fr.nil))) ho30) ?_
      refine xq rfl trivial (o_build fk31 ze31 (.int fl31_0 rfl rfl (.int fl31_1 rfl rfl (.nil _)))) ?_
      first | refine xq rfl trivial (o_fa0 fl34_11 rfl) ?_ | refine xq rfl trivial (o_fa fl34_11 rfl) ?_
      refine xq rfl trivial (o_ixa (j := 7) ea32 rfl rfl ⟨by omega, by omega⟩ rfl) ?_
      refine xq0 trivial (o_stSI rfl rfl ts31 (List.Mem.head _) (by omega) (.here _ _ _ _)) ?_
      refine xo_nil ?_
      refine xq_blk 1 ?_
      refine xq_then (xw_region ?_)
      refine xq rfl trivial (o_mv rfl) ?_
      refine xq rfl trivial (o_add rfl rfl rfl ⟨by omega, by omega⟩) ?_
      refine xq rfl trivial (o_as rfl) ?_
      refine xo_nil ?_
      refine xq_rounds ?_
      refine xr_succ ?_
      refine xw_seq (xw_seq (xw_region ?_))
      refine xq rfl trivial (o_mv rfl) ?_
      refine xq rfl trivial (o_lss rfl rfl) ?_
      refine xo_nil (xq_then (xw_cond_f rfl rfl (xw_exit (xq_then_exit (xq_then_exit ?_)))))
      refine xq_blk_eq ?_
      refine xq_then (xw_seq (xw_seq (xw_region ?_)))
      refine xq rfl trivial (o_ldW rfl ts34 (List.Mem.head _)) ?_
      refine xcallq rfl trivial kf11 rfl (fun w1 hw1 => ref04Ok_c _ w1) ?_
      refine xq rfl trivial (o_not rfl) ?_
      refine xo_nil (xq_then ?_)
      refine xw_bool 78 rfl (fun hc31 => ?_) (fun hc31 => ?_)
      · have hq31 : ((ref04Ok_F (updRI (updRI (updRI (updRI (updRI (updRI (updRI (updRI (updI (updRI (updI (updI (updI (updI (updI (updI (updI (updI (updI (fun _ => 0) 0 (IntKind.i64.wrap (b0[0]!))) 1 (IntKind.i64.wrap (b0[1]!))) 2 (IntKind.i64.wrap (b0[2]!))) 3 (at4_F b0 3)) 4 (at4_F b0 7)) 8 (IntKind.i64.wrap (b0[14]!))) 9 (at4_F b0 15)) 10 (at4_F b0 19)) 11 (IntKind.i64.wrap (b0[23]!))) 5 2 (updI (updI (fun _ => 0) 0 (IntKind.i64.wrap (b0[11]!))) 1 (IntKind.i64.wrap (b0[12]!)))) 7 (IntKind.i64.wrap (b0[13]!))) 12 2 (updI (updI (fun _ => 0) 0 (at4_F b0 24)) 1 (at4_F b0 28))) 14 2 (updI (updI (fun _ => 0) 0 (at4_F b0 32)) 1 (at4_F b0 36))) 16 2 (updI (updI (fun _ => 0) 0 (at4_F b0 40)) 1 (at4_F b0 44))) 18 2 (updI (updI (fun _ => 0) 0 (at4_F b0 48)) 1 (at4_F b0 52))) 20 2 (updI (updI (fun _ => 0) 0 (at4_F b0 56)) 1 (at4_F b0 60))) 22 2 (updI (updI (fun _ => 0) 0 (at4_F b0 64)) 1 (at4_F b0 68))) 24 2 (updI (updI (fun _ => 0) 0 (at4_F b0 72)) 1 (at4_F b0 76))) 26 2 (updI (updI (fun _ => 0) 0 (at4_F b0 80)) 1 (at4_F b0 84))))) = false := (bnT hc31)
        have hp31 : ¬ (((ref04Ok_F (updRI (updRI (updRI (updRI (updRI (updRI (updRI (updRI (updI (updRI (updI (updI (updI (updI (updI (updI (updI (updI (updI (fun _ => 0) 0 (IntKind.i64.wrap (b0[0]!))) 1 (IntKind.i64.wrap (b0[1]!))) 2 (IntKind.i64.wrap (b0[2]!))) 3 (at4_F b0 3)) 4 (at4_F b0 7)) 8 (IntKind.i64.wrap (b0[14]!))) 9 (at4_F b0 15)) 10 (at4_F b0 19)) 11 (IntKind.i64.wrap (b0[23]!))) 5 2 (updI (updI (fun _ => 0) 0 (IntKind.i64.wrap (b0[11]!))) 1 (IntKind.i64.wrap (b0[12]!)))) 7 (IntKind.i64.wrap (b0[13]!))) 12 2 (updI (updI (fun _ => 0) 0 (at4_F b0 24)) 1 (at4_F b0 28))) 14 2 (updI (updI (fun _ => 0) 0 (at4_F b0 32)) 1 (at4_F b0 36))) 16 2 (updI (updI (fun _ => 0) 0 (at4_F b0 40)) 1 (at4_F b0 44))) 18 2 (updI (updI (fun _ => 0) 0 (at4_F b0 48)) 1 (at4_F b0 52))) 20 2 (updI (updI (fun _ => 0) 0 (at4_F b0 56)) 1 (at4_F b0 60))) 22 2 (updI (updI (fun _ => 0) 0 (at4_F b0 64)) 1 (at4_F b0 68))) 24 2 (updI (updI (fun _ => 0) 0 (at4_F b0 72)) 1 (at4_F b0 76))) 26 2 (updI (updI (fun _ => 0) 0 (at4_F b0 80)) 1 (at4_F b0 84))))) = true) := bne' hq31
        rw [if_neg hp31] at h
        refine xw_cond_t rfl rfl (xw_seq (xw_region ?_))
        refine xq rfl trivial (o_build fk34 ze34 (.nil _)) ?_
        refine xq0 trivial (o_stWI rfl rfl ts34 (List.Mem.tail _ (List.Mem.head _)) (.there _ _ _ _ _ (.here _ _ _ _))) ?_
        refine xq rfl trivial (o_as rfl) ?_
        refine xo_nil (xq_then (xw_ret (xq_then_ret ?_)))
        subst h
        exact con_retN (.inl rfl) (l := [.cell 2 34, .tmp 3]) Try.results17 (.cell rfl ts34 (List.Mem.tail _ (List.Mem.head _)) (.tmp rfl .nil)) rfl [] (Kp.st (Kp.new hb4 (Kp.new hb2 Kp.nil))) (⟨rfl, rfl⟩)
      · have hq31 : ((ref04Ok_F (updRI (updRI (updRI (updRI (updRI (updRI (updRI (updRI (updI (updRI (updI (updI (updI (updI (updI (updI (updI (updI (updI (fun _ => 0) 0 (IntKind.i64.wrap (b0[0]!))) 1 (IntKind.i64.wrap (b0[1]!))) 2 (IntKind.i64.wrap (b0[2]!))) 3 (at4_F b0 3)) 4 (at4_F b0 7)) 8 (IntKind.i64.wrap (b0[14]!))) 9 (at4_F b0 15)) 10 (at4_F b0 19)) 11 (IntKind.i64.wrap (b0[23]!))) 5 2 (updI (updI (fun _ => 0) 0 (IntKind.i64.wrap (b0[11]!))) 1 (IntKind.i64.wrap (b0[12]!)))) 7 (IntKind.i64.wrap (b0[13]!))) 12 2 (updI (updI (fun _ => 0) 0 (at4_F b0 24)) 1 (at4_F b0 28))) 14 2 (updI (updI (fun _ => 0) 0 (at4_F b0 32)) 1 (at4_F b0 36))) 16 2 (updI (updI (fun _ => 0) 0 (at4_F b0 40)) 1 (at4_F b0 44))) 18 2 (updI (updI (fun _ => 0) 0 (at4_F b0 48)) 1 (at4_F b0 52))) 20 2 (updI (updI (fun _ => 0) 0 (at4_F b0 56)) 1 (at4_F b0 60))) 22 2 (updI (updI (fun _ => 0) 0 (at4_F b0 64)) 1 (at4_F b0 68))) 24 2 (updI (updI (fun _ => 0) 0 (at4_F b0 72)) 1 (at4_F b0 76))) 26 2 (updI (updI (fun _ => 0) 0 (at4_F b0 80)) 1 (at4_F b0 84))))) = true := (bnF hc31)
        have hp31 : ((ref04Ok_F (updRI (updRI (updRI (updRI (updRI (updRI (updRI (updRI (updI (updRI (updI (updI (updI (updI (updI (updI (updI (updI (updI (fun _ => 0) 0 (IntKind.i64.wrap (b0[0]!))) 1 (IntKind.i64.wrap (b0[1]!))) 2 (IntKind.i64.wrap (b0[2]!))) 3 (at4_F b0 3)) 4 (at4_F b0 7)) 8 (IntKind.i64.wrap (b0[14]!))) 9 (at4_F b0 15)) 10 (at4_F b0 19)) 11 (IntKind.i64.wrap (b0[23]!))) 5 2 (updI (updI (fun _ => 0) 0 (IntKind.i64.wrap (b0[11]!))) 1 (IntKind.i64.wrap (b0[12]!)))) 7 (IntKind.i64.wrap (b0[13]!))) 12 2 (updI (updI (fun _ => 0) 0 (at4_F b0 24)) 1 (at4_F b0 28))) 14 2 (updI (updI (fun _ => 0) 0 (at4_F b0 32)) 1 (at4_F b0 36))) 16 2 (updI (updI (fun _ => 0) 0 (at4_F b0 40)) 1 (at4_F b0 44))) 18 2 (updI (updI (fun _ => 0) 0 (at4_F b0 48)) 1 (at4_F b0 52))) 20 2 (updI (updI (fun _ => 0) 0 (at4_F b0 56)) 1 (at4_F b0 60))) 22 2 (updI (updI (fun _ => 0) 0 (at4_F b0 64)) 1 (at4_F b0 68))) 24 2 (updI (updI (fun _ => 0) 0 (at4_F b0 72)) 1 (at4_F b0 76))) 26 2 (updI (updI (fun _ => 0) 0 (at4_F b0 80)) 1 (at4_F b0 84))))) = true := hq31
        rw [if_pos hp31] at h
        refine xw_cond_f rfl rfl (xw_skip (xq_then (xw_seq (xw_region ?_))))
        refine xq rfl trivial (o_ldW rfl ts34 (List.Mem.head _)) ?_
        refine xq0 trivial (o_stWI rfl rfl ts34 (List.Mem.tail _ (List.Mem.head _)) (.there _ _ _ _ _ (.here _ _ _ _))) ?_
        refine xq rfl trivial (o_as rfl) ?_
        refine xo_nil (xq_then (xw_ret ?_))
        subst h
        exact con_retN (.inl rfl) (l := [.cell 2 34, .tmp 3]) Try.results17 (.cell rfl ts34 (List.Mem.tail _ (List.Mem.head _)) (.tmp rfl .nil)) rfl [] (Kp.st (Kp.new hb4 (Kp.new hb2 Kp.nil))) (⟨rfl, rfl⟩)

theorem refDec_c (b0 : (List Int)) (v0 : Value) (w : World) (hs0 : SL w 1 u8c v0 b0) (hP : refDec_P b0) : Con Try.prog 17 #[v0] w (Is (.tuple #[AI 28 ((refDec_F b0).1), .int .i64 ((refDec_F b0).2)]) []) :=
  refDec_con b0 v0 w hs0 _ (refDec_ok b0 hP)

end Go.Proofs.Ytmcohikcgdfhcaa
