/- The code answers as the relations say. -/
import Derived.Test.YthikmldodgijdaaTab
import Derived.Test.YthikmldodgijdaaF05S
import Derived.Test.YthikmldodgijdaaC05W
set_option maxHeartbeats 1000000
set_option linter.unusedVariables false
set_option linter.unusedSimpArgs false
set_option maxRecDepth 100000
namespace Go.Proofs.Ythikmldodgijdaa
open Go Go.E

theorem own5_con (l0 : (List (Nat → Int))) (k1 : Int) (v0 : Value) (w : World) (hs0 : SL w 28 iv v0 l0) (r : Bool) (h : own5_S l0 k1 r) : Con Try.prog 5 #[v0, .int .i64 k1] w (Is (.bool r) []) := by
  unfold own5_S at h
  refine con_enter (n := 113) [(0, _), (1, _)] Try.func5 rfl Try.ntmps5 rfl (lac rfl (lac rfl lan)) ?_
  refine xw_seq (xw_region ?_)
  refine xq rfl trivial (o_as rfl) ?_
  refine xo_nil (xq_then (xw_seq (xw_seq (xw_region ?_))))
  obtain ⟨ho1, h⟩ := h
  refine xcallq rfl trivial kf8 rfl (fun w1 hw1 => alive05_c w1 ho1) ?_
  refine xq rfl trivial (o_not rfl) ?_
  refine xo_nil (xq_then ?_)
  refine xw_bool 15 rfl (fun hc2 => ?_) (fun hc2 => ?_)
  · have hq2 : (alive05_F) = false := (bnT hc2)
    have hp2 : ¬ ((alive05_F) = true) := bne' hq2
    rw [if_neg hp2] at h
    refine xw_cond_t rfl rfl (xw_seq (xw_region ?_))
    refine xq rfl trivial (o_as rfl) ?_
    refine xo_nil (xq_then (xw_ret (xq_then_ret ?_)))
    subst h
    exact con_ret1 (.inl rfl) Try.results5 rfl [] (fun _ h => h) (⟨rfl, rfl⟩)
  · have hq2 : (alive05_F) = true := (bnF hc2)
    have hp2 : (alive05_F) = true := hq2
    rw [if_pos hp2] at h
    refine xw_cond_f rfl rfl (xw_skip (xq_then (xw_seq (xw_seq (xw_region ?_)))))
    refine xq rfl trivial (o_mv rfl) ?_
    refine xq rfl trivial (o_lenL rfl Try.underlying30 rfl (SL.val hs0)) ?_
    refine xq rfl trivial (o_gtr rfl rfl) ?_
    refine xo_nil (xq_then ?_)
    refine xw_bool 18 rfl (fun hc3 => ?_) (fun hc3 => ?_)
    · have hq3 : (decide (200 < (l0.length : Int))) = true := hc3
      have hp3 : 200 < (l0.length : Int) := of_decide_eq_true hq3
      rw [if_pos hp3] at h
      refine xw_cond_t rfl rfl (xw_seq (xw_region ?_))
      refine xq rfl trivial (o_as rfl) ?_
      refine xo_nil (xq_then (xw_ret (xq_then_ret ?_)))
      subst h
      exact con_ret1 (.inl rfl) Try.results5 rfl [] (fun _ h => h) (⟨rfl, rfl⟩)
    · have hq3 : (decide (200 < (l0.length : Int))) = false := hc3
      have hp3 : ¬ (200 < (l0.length : Int)) := of_decide_eq_false hq3
      rw [if_neg hp3] at h
      refine xw_cond_f rfl rfl (xw_skip (xq_then (xw_seq (xw_region ?_))))
      refine xoR rfl trivial (ot_in (l := [(0, _)]) kf9 rfl Try.func9 rfl Try.ntmps9 rfl (lac rfl lan) ?_)
      refine xw_seq (xw_region ?_)
      refine xq rfl trivial (o_as rfl) ?_
      refine xq rfl trivial (o_as rfl) ?_
      refine xo_nil (xq_then (xw_seq (xw_seq ?_)))
      refine xw_cut [(0, _)] (lc rfl ln) [(9, .bool false)] ?_ ?_
      · refine xw_region ?_
        refine xq rfl trivial (o_mv rfl) ?_
        refine xq rfl trivial (o_lss rfl rfl) ?_
        refine xq rfl trivial (o_mv rfl) ?_
        refine xq rfl ⟨_, rfl, rfl⟩ (o_mv rfl) ?_
        refine xq rfl ⟨_, rfl, rfl⟩ (o_gtr rfl rfl) ?_
        refine xq rfl trivial (o_pick_f rfl rfl) ?_
        refine xo_nil ?_
        exact xq_cut ((lce rfl (by first | rfl | (simp only [hq2, hq3, if_pos hp2, if_neg hp3, bS]; done) | (simp [hp2, hp3]; done) | (simp_all; done)) (lc rfl ln))) (fun _ h => h)
      · refine xq_then (xw_cond_f rfl rfl (xw_skip (xq_then (xw_seq (xw_region ?_)))))
        refine xq rfl trivial (o_mv rfl) ?_
        refine xq rfl trivial (o_buildC [.int .i64 300, .slice none 0 0] fk64 ze64 (.one fl64_0 rfl rfl rfl (.nil _)) (fun i hi => match i, hi with | 0, _ => rfl | 1, _ => rfl | q + 2, h => absurd h (by omega))) ?_
        refine xo rfl trivial (o_boxC [.int .i64 300, .slice none 0 0] rfl (fun i hi => match i, hi with | 0, _ => rfl | 1, _ => rfl | q + 2, h => absurd h (by omega))) ?_
        rintro _ _ ⟨b13, hb13, rfl, rfl⟩
        refine xq rfl trivial (o_as rfl) ?_
        refine xq rfl trivial (o_as rfl) ?_
        refine xo_nil (xq_then (xw_ret ?_))
        refine con_ret2 (.inl rfl) Try.results9 rfl rfl _ (fun _ h => h) (?_)
        refine xq rfl trivial (o_mv rfl) ?_
        refine xq rfl trivial (o_ext rfl rfl) ?_
        refine xq rfl trivial (o_ext rfl rfl) ?_
        refine xq rfl trivial (o_as rfl) ?_
        refine xq rfl trivial (o_as rfl) ?_
        refine xo_nil (xq_then (xw_seq (xw_seq ?_)))
        refine xw_cut [(0, _), (1, _), (5, _)] (lc rfl (lc rfl (lc rfl ln))) [(28, .bool false)] ?_ ?_
        · refine xw_region ?_
          refine xq rfl trivial (o_mv rfl) ?_
          refine xq rfl trivial (o_eqn Try.underlying24 rfl rfl rfl rfl) ?_
          refine xq rfl trivial (o_mv rfl) ?_
          refine xq rfl ⟨_, rfl, rfl⟩ (o_mv rfl) ?_
          refine xq rfl ⟨_, rfl, rfl⟩ (o_nen Try.underlying26 rfl rfl rfl rfl) ?_
          refine xq rfl trivial (o_pick_f rfl rfl) ?_
          refine xo_nil ?_
          exact xq_cut ((lce rfl (by first | rfl | (simp only [hq2, hq3, if_pos hp2, if_neg hp3, bS]; done) | (simp [hp2, hp3]; done) | (simp_all; done)) (lc rfl (lc rfl (lc rfl ln))))) (fun _ h => h)
        · refine xq_then (xw_cond_f rfl rfl (xw_skip (xq_then (xw_seq (xw_region ?_)))))
          refine xq rfl trivial (o_as rfl) ?_
          refine xo_nil (xq_then (xw_seq (xw_seq (xw_region ?_))))
          refine xq rfl trivial (o_as rfl) ?_
          refine xo_nil (xq_then ?_)
          refine xw_block ?_
          obtain ⟨x1, hx1, h⟩ := h
          refine xw_wh (fun s e H => match s with | (want7, i8, fb13_1) => ∃ (vb13_1_1 : Value) (v7_1 : Value) (B7_1 : GH) (Bb13_1_1 : GH), e = [(0, v0), (1, .int .i64 k1), (5, .pointer (some ⟨b13, 0, none⟩)), (7, v7_1), (8, .int .i64 i8)] ∧ H = Bb13_1_1 ++ (B7_1 ++ ((b13, BK 2 (cl [.int .i64 300, vb13_1_1]) 64) :: ([]))) ∧ OJ 39 28 iv B7_1 v7_1 want7 ∧ OJ 39 28 iv Bb13_1_1 vb13_1_1 fb13_1 ∧ Cov w [] B7_1 ∧ Cov w [] Bb13_1_1) (fun s ex e H => match s with | (want7, fb13_1) => ∃ (vb13_1_1o : Value) (v7_1o : Value) (B7_1o : GH) (Bb13_1_1o : GH), ex = .exit 0 ∧ e = [(1, .int .i64 k1), (5, .pointer (some ⟨b13, 0, none⟩)), (7, v7_1o)] ∧ H = Bb13_1_1o ++ (B7_1o ++ ((b13, BK 2 (cl [.int .i64 300, vb13_1_1o]) 64) :: ([]))) ∧ OJ 39 28 iv B7_1o v7_1o want7 ∧ OJ 39 28 iv Bb13_1_1o vb13_1_1o fb13_1 ∧ Cov w [] B7_1o ∧ Cov w [] Bb13_1_1o) hx1 ⟨[(0, v0), (1, .int .i64 k1), (5, .pointer (some ⟨b13, 0, none⟩)), (7, .slice none 0 0), (8, .int .i64 0)], [] ++ ([] ++ ((b13, BK 2 (cl [.int .i64 300, .slice none 0 0]) 64) :: ([]))), (lc rfl (lc rfl (lc rfl (lc rfl (lc rfl ln))))), fun _ h => h, ⟨_, _, [], [], rfl, rfl, OJ.nil, OJ.nil, (Cov.refl _), (Cov.refl _)⟩⟩ ?_ ?_
          · rintro ⟨want7, i8, fb13_1⟩ o _ _ ⟨vb13_1_1, v7_1, B7_1, Bb13_1_1, rfl, rfl, hJ7_1, hJb13_1_1, hcB7_1, hcBb13_1_1⟩ hb
            have h : own5_l1 l0 want7 i8 fb13_1 o := hb
            clear hb
            unfold own5_l1 at h
            refine xw_seq (xw_seq (xw_region ?_))
            refine xq rfl trivial (o_mv rfl) ?_
            refine xq rfl trivial (o_mv rfl) ?_
            refine xq rfl trivial (o_lenL rfl Try.underlying30 rfl (SL.val hs0)) ?_
            refine xq rfl trivial (o_lss rfl rfl) ?_
            refine xo_nil (xq_then ?_)
            refine xw_bool 32 rfl (fun hc4 => ?_) (fun hc4 => ?_)
            · have hq4 : (decide (i8 < (l0.length : Int))) = true := hc4
              have hp4 : i8 < (l0.length : Int) := of_decide_eq_true hq4
              rw [if_pos hp4] at h
              refine xw_cond_t rfl rfl (xw_skip (xq_then (xw_seq ?_)))
              refine xw_block ?_
              refine xw_seq (xw_region ?_)
              refine xq rfl trivial (o_mv rfl) ?_
              refine xq rfl trivial (o_mv rfl) ?_
              refine xq rfl trivial (o_mv rfl) ?_
              obtain ⟨ho5, h⟩ := h
              refine xq rfl trivial (o_ixL el30 rfl rfl (fun w hw => (hs0.keep hw (Fr.seg hcBb13_1_1 (Fr.seg hcB7_1 (Fr.cons hb13 Fr.nil))))) rfl ho5) ?_
              refine xq rfl trivial (o_ldLI rfl ts39 rfl (fun w hw => (hs0.keep hw (Fr.seg hcBb13_1_1 (Fr.seg hcB7_1 (Fr.cons hb13 Fr.nil))))) (toNat_lt ho5) rfl) ?_
              obtain ⟨ho6, h⟩ := h
              refine xo rfl trivial (OT.st (fun _ h => St.permI [2, 0, 1] [Bb13_1_1, B7_1, [(b13, _)]] rfl h) (ot_callF (Cs := [[(b13, _)], Bb13_1_1]) (Rs := [B7_1]) kf17 rfl (fun w1 hw1 => send_c _ _ _ _ _ _ w1 hJb13_1_1 (St.hasC hw1) ho6) (fun _ _ _ h => h.1))) ?_
              rintro _ _ ⟨w1, _, rfl, hle, -, vg8_0, Bg8_0, rfl, rfl, hJBg8_0, hcBg8_0⟩
              replace hcBg8_0 := Cov.trans hcBb13_1_1 (Cov.base (w0 := w) hcBg8_0 hle)
              refine xo_st ((b13, BK 2 (cl [.int .i64 300, vg8_0]) 64) :: (Bg8_0 ++ (B7_1 ++ ([])))) (fun _ h => h) ?_
              refine xq rfl trivial (o_eqE Try.underlying26 rfl (fun _ => rfl) rfl rfl) ?_
              refine xo_nil (xq_then ?_)
              refine xw_bool 41 rfl (fun hc9 => ?_) (fun hc9 => ?_)
              · have hq9 : (decide ((send_F 300 fb13_1 (l0[i8.toNat]!)).1 = 0)) = true := hc9
                have hp9 : (send_F 300 fb13_1 (l0[i8.toNat]!)).1 = 0 := of_decide_eq_true hq9
                rw [if_pos hp9] at h
                refine xw_cond_t rfl rfl (xw_region ?_)
                refine xq rfl trivial (o_mv rfl) ?_
                refine xq rfl trivial (o_mv rfl) ?_
                refine xq rfl trivial (o_mv rfl) ?_
                obtain ⟨ho10, h⟩ := h
                refine xq rfl trivial (o_ixL el30 rfl rfl (fun w hw => (hs0.keep hw (Fr.cons hb13 (Fr.seg hcBg8_0 (Fr.seg hcB7_1 Fr.nil))))) rfl ho10) ?_
                refine xq rfl trivial (o_ldLI rfl ts39 rfl (fun w hw => (hs0.keep hw (Fr.cons hb13 (Fr.seg hcBg8_0 (Fr.seg hcB7_1 Fr.nil))))) (toNat_lt ho10) rfl) ?_
                refine xo rfl trivial (o_bsl el30 ze39 rfl rfl rfl (.ints rfl rfl (.nil _))) ?_
                rintro _ _ ⟨b47, hb47, rfl, rfl⟩
                obtain ⟨ho12, h⟩ := h
                refine xo rfl trivial (OT.st (fun _ h => Pull.st (.thereC _ (.thereC _ (.there _ (.here _ _)))) h) (o_appJ (l := want7) (l' := [(l0[i8.toNat]!)]) (B := B7_1) ap30 rfl rfl hJ7_1 (fun w2 hw2 => (SL.lit (l := [(l0[i8.toNat]!)]) hw2 (List.mem_append_right _ (List.Mem.head _)) rfl (by omega) (by simp [maxLen]) (by exact (fun i hi => match i, hi with | 0, _ => rfl | 1, _ => rfl | 2, _ => rfl | 3, _ => rfl | 4, _ => rfl | 5, _ => rfl | 6, _ => rfl | 7, _ => rfl | 8, _ => rfl | 9, _ => rfl | 10, _ => rfl | 11, _ => rfl | 12, _ => rfl | 13, _ => rfl | 14, _ => rfl | 15, _ => rfl | 16, _ => rfl | 17, _ => rfl | 18, _ => rfl | 19, _ => rfl | 20, _ => rfl | 21, _ => rfl | 22, _ => rfl | 23, _ => rfl | 24, _ => rfl | 25, _ => rfl | 26, _ => rfl | 27, _ => rfl | q + 28, h => absurd h (by omega))))) (fun _ _ => rfl) ho12 (len_max ho12 (by decide)))) ?_
                rintro vs11 _ ⟨Bs11, rfl, hns11, hJs11⟩
                have hcBs11 := Cov.trans hcB7_1 hns11
                refine xo_st ((b47, BK 28 _ 39) :: ((b13, BK 2 (cl [.int .i64 300, vg8_0]) 64) :: (Bg8_0 ++ (Bs11 ++ ([]))))) (fun _ h => Pull.push (.thereC _ (.thereC _ (.there _ (.here _ _)))) h) ?_
                refine xq rfl trivial (o_as rfl) ?_
                refine xo_nil ?_
                refine xq_blk 1 ?_
                refine xq_then (xw_region ?_)
                refine xq rfl trivial (o_mv rfl) ?_
                obtain ⟨ho13, h⟩ := h
                refine xq rfl trivial (o_add rfl rfl rfl ho13) ?_
                refine xq rfl trivial (o_as rfl) ?_
                refine xo_nil ?_
                exact xq_next (s' := (((want7 ++ [(l0[i8.toNat]!)]), i8 + 1, (send_F 300 fb13_1 (l0[i8.toNat]!)).2) : (List (Nat → Int)) × Int × (List (Nat → Int)))) (e' := [(0, v0), (1, .int .i64 k1), (5, .pointer (some ⟨b13, 0, none⟩)), (7, vs11), (8, .int .i64 (i8 + 1))]) (Bg8_0 ++ (Bs11 ++ ((b13, BK 2 (cl [.int .i64 300, vg8_0]) 64) :: ([])))) (lc rfl (lc rfl (lc rfl (lc rfl (lc rfl ln))))) (fun _ h => St.permI [1, 2, 0] [[(b13, _)], Bg8_0, Bs11] rfl (Kp.st (Kp.new hb47 (Kp.keep (Kp.segKeep (Kp.segKeep Kp.nil)))) _ h)) h ⟨vg8_0, vs11, Bs11, Bg8_0, rfl, rfl, hJs11, hJBg8_0, hcBs11, hcBg8_0⟩
              · have hq9 : (decide ((send_F 300 fb13_1 (l0[i8.toNat]!)).1 = 0)) = false := hc9
                have hp9 : ¬ ((send_F 300 fb13_1 (l0[i8.toNat]!)).1 = 0) := of_decide_eq_false hq9
                rw [if_neg hp9] at h
                refine xw_cond_f rfl rfl (xw_skip ?_)
                refine xq_blk 1 ?_
                refine xq_then (xw_region ?_)
                refine xq rfl trivial (o_mv rfl) ?_
                obtain ⟨ho14, h⟩ := h
                refine xq rfl trivial (o_add rfl rfl rfl ho14) ?_
                refine xq rfl trivial (o_as rfl) ?_
                refine xo_nil ?_
                exact xq_next (s' := ((want7, i8 + 1, (send_F 300 fb13_1 (l0[i8.toNat]!)).2) : (List (Nat → Int)) × Int × (List (Nat → Int)))) (e' := [(0, v0), (1, .int .i64 k1), (5, .pointer (some ⟨b13, 0, none⟩)), (7, v7_1), (8, .int .i64 (i8 + 1))]) (Bg8_0 ++ (B7_1 ++ ((b13, BK 2 (cl [.int .i64 300, vg8_0]) 64) :: ([])))) (lc rfl (lc rfl (lc rfl (lc rfl (lc rfl ln))))) (fun _ h => St.permI [1, 2, 0] [[(b13, _)], Bg8_0, B7_1] rfl (h)) h ⟨vg8_0, v7_1, B7_1, Bg8_0, rfl, rfl, hJ7_1, hJBg8_0, hcB7_1, hcBg8_0⟩
            · have hq4 : (decide (i8 < (l0.length : Int))) = false := hc4
              have hp4 : ¬ (i8 < (l0.length : Int)) := of_decide_eq_false hq4
              rw [if_neg hp4] at h
              refine xw_cond_f rfl rfl (xw_exit (xq_then_exit ?_))
              exact xq_out (r := ((want7, fb13_1) : (List (Nat → Int)) × (List (Nat → Int)))) (e' := [(1, .int .i64 k1), (5, .pointer (some ⟨b13, 0, none⟩)), (7, v7_1)]) (Bb13_1_1 ++ (B7_1 ++ ((b13, BK 2 (cl [.int .i64 300, vb13_1_1]) 64) :: ([])))) (lc rfl (lc rfl (lc rfl ln))) (fun _ h => h) h (by intro hh; cases hh) ⟨vb13_1_1, v7_1, B7_1, Bb13_1_1, rfl, rfl, rfl, hJ7_1, hJb13_1_1, hcB7_1, hcBb13_1_1⟩
          · obtain ⟨want7, fb13_1⟩ := x1
            rintro _ _ _ ⟨vb13_1_1o, v7_1o, B7_1o, Bb13_1_1o, rfl, rfl, rfl, hJ7_1o, hJb13_1_1o, hcB7_1o, hcBb13_1_1o⟩
            replace h : own5_k1a want7 fb13_1 r := h
            unfold own5_k1a at h
            refine xq_blk_eq ?_
            refine xq_then (xw_seq (xw_region ?_))
            refine xq rfl trivial (o_mv rfl) ?_
            obtain ⟨ho15, h⟩ := h
            refine xo rfl trivial (OT.st (fun _ h => St.permI [2, 0, 1] [Bb13_1_1o, B7_1o, [(b13, _)]] rfl h) (ot_callF (Cs := [[(b13, _)], Bb13_1_1o]) (Rs := [B7_1o]) kf10 rfl (fun w1 hw1 => nall_c _ _ _ _ _ w1 hJb13_1_1o (St.hasC hw1) ho15) (fun _ _ _ h => h.1))) ?_
            rintro vs18 _ ⟨w1, _, rfl, hle, -, _, Bs18, rfl, rfl, hJs18, hcBs18⟩
            replace hcBs18 := Cov.base (w0 := w) hcBs18 hle
            refine xo_st ((b13, BK 2 (cl [.int .i64 300, vb13_1_1o]) 64) :: (Bb13_1_1o ++ (Bs18 ++ (B7_1o ++ ([]))))) (fun _ h => h) ?_
            refine xq rfl trivial (o_as rfl) ?_
            refine xo_nil (xq_then (xw_seq (xw_seq (xw_region ?_))))
            refine xq rfl trivial (o_as rfl) ?_
            refine xo_nil (xq_then ?_)
            refine xw_block ?_
            obtain ⟨x2, hx2, h⟩ := h
            refine xw_wh (fun s e H => match s with | (a9, i10) => ∃ (v9_2 : Value) (B9_2 : GH), e = [(1, .int .i64 k1), (5, .pointer (some ⟨b13, 0, none⟩)), (7, v7_1o), (9, v9_2), (10, .int .i64 i10)] ∧ H = (b13, BK 2 (cl [.int .i64 300, vb13_1_1o]) 64) :: (Bb13_1_1o ++ (B9_2 ++ (B7_1o ++ ([])))) ∧ OJ 39 28 iv B9_2 v9_2 a9 ∧ Cov w [] B9_2) (fun (_ : Unit) ex e H => ∃ (B9_2o : GH), ex = .exit 2 ∧ e = [(1, .int .i64 k1), (5, .pointer (some ⟨b13, 0, none⟩)), (7, v7_1o)] ∧ H = (b13, BK 2 (cl [.int .i64 300, vb13_1_1o]) 64) :: (Bb13_1_1o ++ (B9_2o ++ (B7_1o ++ ([])))) ∧ Cov w [] B9_2o) hx2 ⟨[(1, .int .i64 k1), (5, .pointer (some ⟨b13, 0, none⟩)), (7, v7_1o), (9, vs18), (10, .int .i64 0)], (b13, BK 2 (cl [.int .i64 300, vb13_1_1o]) 64) :: (Bb13_1_1o ++ (Bs18 ++ (B7_1o ++ ([])))), (lc rfl (lc rfl (lc rfl (lc rfl (lc rfl ln))))), fun _ h => h, ⟨vs18, Bs18, rfl, rfl, hJs18, hcBs18⟩⟩ ?_ ?_
            · rintro ⟨a9, i10⟩ o _ _ ⟨v9_2, B9_2, rfl, rfl, hJ9_2, hcB9_2⟩ hb
              have h : own5_l2 a9 i10 o := hb
              clear hb
              unfold own5_l2 at h
              refine xw_seq (xw_seq (xw_region ?_))
              refine xq rfl trivial (o_mv rfl) ?_
              refine xq rfl trivial (o_mv rfl) ?_
              refine xq rfl trivial (o_lenL rfl Try.underlying30 rfl (OJ.val hJ9_2)) ?_
              refine xq rfl trivial (o_lss rfl rfl) ?_
              refine xo_nil (xq_then ?_)
              refine xw_bool 54 rfl (fun hc19 => ?_) (fun hc19 => ?_)
              · have hq19 : (decide (i10 < (a9.length : Int))) = true := hc19
                have hp19 : i10 < (a9.length : Int) := of_decide_eq_true hq19
                rw [if_pos hp19] at h
                refine xw_cond_t rfl rfl (xw_skip (xq_then (xw_seq ?_)))
                refine xw_block ?_
                refine xw_region ?_
                refine xq rfl trivial (o_mv rfl) ?_
                refine xq rfl trivial (o_mv rfl) ?_
                refine xq rfl trivial (o_build fk39 ze39 (.nil _)) ?_
                obtain ⟨ho20, h⟩ := h
                refine xq rfl trivial (o_ixL el30 rfl rfl (fun w hw => (hJ9_2.sl hw (Pull.sub (.thereC _ (.there _ (.here _ _)))))) rfl ho20) ?_
                refine xo0 trivial (OT.st (fun _ h => Pull.st (.thereC _ (.there _ (.here _ _))) h) (o_stLA (e := (fun _ => 0)) rfl rfl ts39 rfl (fun _ _ => rfl) hJ9_2 (toNat_lt ho20) rfl)) ?_
                rintro _ _ ⟨Bs21, rfl, hcnBs21, hJBs21⟩
                have hcBs21 := hcB9_2.trans hcnBs21
                refine xo_st ((b13, BK 2 (cl [.int .i64 300, vb13_1_1o]) 64) :: (Bb13_1_1o ++ (Bs21 ++ (B7_1o ++ ([]))))) (fun _ h => Pull.push (.thereC _ (.there _ (.here _ _))) h) ?_
                refine xo_nil ?_
                refine xq_blk 3 ?_
                refine xq_then (xw_region ?_)
                refine xq rfl trivial (o_mv rfl) ?_
                obtain ⟨ho22, h⟩ := h
                refine xq rfl trivial (o_add rfl rfl rfl ho22) ?_
                refine xq rfl trivial (o_as rfl) ?_
                refine xo_nil ?_
                exact xq_next (s' := ((a9.set (i10.toNat) ((fun _ => 0)), i10 + 1) : (List (Nat → Int)) × Int)) (e' := [(1, .int .i64 k1), (5, .pointer (some ⟨b13, 0, none⟩)), (7, v7_1o), (9, v9_2), (10, .int .i64 (i10 + 1))]) ((b13, BK 2 (cl [.int .i64 300, vb13_1_1o]) 64) :: (Bb13_1_1o ++ (Bs21 ++ (B7_1o ++ ([]))))) (lc rfl (lc rfl (lc rfl (lc rfl (lc rfl ln))))) (fun _ h => h) h ⟨v9_2, Bs21, rfl, rfl, hJBs21, hcBs21⟩
              · have hq19 : (decide (i10 < (a9.length : Int))) = false := hc19
                have hp19 : ¬ (i10 < (a9.length : Int)) := of_decide_eq_false hq19
                rw [if_neg hp19] at h
                refine xw_cond_f rfl rfl (xw_exit (xq_then_exit ?_))
                exact xq_out (r := (() : Unit)) (e' := [(1, .int .i64 k1), (5, .pointer (some ⟨b13, 0, none⟩)), (7, v7_1o)]) ((b13, BK 2 (cl [.int .i64 300, vb13_1_1o]) 64) :: (Bb13_1_1o ++ (B9_2 ++ (B7_1o ++ ([]))))) (lc rfl (lc rfl (lc rfl ln))) (fun _ h => h) h (by intro hh; cases hh) ⟨B9_2, rfl, rfl, rfl, hcB9_2⟩
            · cases x2
              rintro _ _ _ ⟨B9_2o, rfl, rfl, rfl, hcB9_2o⟩
              replace h : own5_k2a want7 fb13_1 r := h
              unfold own5_k2a at h
              refine xq_blk_eq ?_
              refine xq_then (xw_seq (xw_region ?_))
              refine xq rfl trivial (o_as rfl) ?_
              refine xo_nil (xq_then (xw_seq (xw_region ?_)))
              refine xq rfl trivial (o_mv rfl) ?_
              refine xq rfl trivial (o_mv rfl) ?_
              refine xoR rfl trivial (ot_in (l := [(0, _), (1, _)]) kf18 rfl Try.func18 rfl Try.ntmps18 rfl (lac rfl (lac rfl lan)) ?_)
              refine xw_seq (xw_region ?_)
              refine xo rfl trivial (o_box1 rfl rfl) ?_
              rintro _ _ ⟨b2, hb2, rfl, rfl⟩
              refine xo rfl trivial (o_alloc ze39 rfl) ?_
              rintro _ _ ⟨b4, hb4, rfl, rfl⟩
              refine xq rfl trivial (o_as rfl) ?_
              refine xo_nil (xq_then (xw_seq (xw_region ?_)))
              refine xq rfl trivial (o_ldV rfl ts24 (List.Mem.tail _ (List.Mem.head _))) ?_
              refine xq rfl trivial (o_mv rfl) ?_
              refine xq rfl trivial (o_mkf rfl rfl) ?_
              refine xoR rfl trivial (ot_in (l := [(0, _), (1, _), (2, _)]) kf27 rfl Try.func27 rfl Try.ntmps27 rfl (lac rfl (lac rfl (lac rfl lan))) ?_)
              refine xw_seq (xw_region ?_)
              refine xq rfl trivial (o_as rfl) ?_
              refine xo_nil (xq_then (xw_seq (xw_region ?_)))
              refine xq rfl trivial (o_mv rfl) ?_
              refine xq rfl trivial (o_mv rfl) ?_
              refine xoR rfl trivial (ot_in (l := [(0, _), (1, _)]) kf37 rfl Try.func37 rfl Try.ntmps37 rfl (lac rfl (lac rfl lan)) ?_)
              refine xw_seq (xw_region ?_)
              refine xq rfl trivial (o_as rfl) ?_
              refine xq rfl trivial (o_as rfl) ?_
              refine xo_nil (xq_then (xw_seq (xw_seq (xw_region ?_))))
              refine xq rfl trivial (o_mv rfl) ?_
              refine xq rfl trivial (o_eqn Try.underlying24 rfl rfl rfl rfl) ?_
              refine xo_nil (xq_then (xw_cond_t rfl rfl (xw_seq (xw_region ?_))))
              refine xq rfl trivial (o_mki rfl Try.underlying62 rfl) ?_
              refine xq rfl trivial (o_as rfl) ?_
              refine xq rfl trivial (o_as rfl) ?_
              refine xo_nil (xq_then (xw_ret (xq_then_ret ?_)))
              refine con_ret2 (.inl rfl) Try.results37 rfl rfl _ (fun _ h => h) (?_)
              refine xq rfl trivial (o_mv rfl) ?_
              refine xq rfl trivial (o_ext rfl rfl) ?_
              refine xq rfl trivial (o_ext rfl rfl) ?_
              refine xq rfl trivial (o_as rfl) ?_
              refine xq rfl trivial (o_as rfl) ?_
              refine xo_nil (xq_then (xw_seq (xw_seq (xw_region ?_))))
              refine xq rfl trivial (o_mv rfl) ?_
              refine xq rfl trivial (o_nen Try.underlying26 rfl rfl rfl rfl) ?_
              refine xo_nil (xq_then (xw_cond_t rfl rfl (xw_seq (xw_region ?_))))
              refine xq rfl trivial (o_mv rfl) ?_
              refine xq rfl trivial (o_as rfl) ?_
              refine xo_nil (xq_then (xw_ret (xq_then_ret ?_)))
              refine con_ret1 (.inl rfl) Try.results27 rfl _ (fun _ h => h) (?_)
              refine xq rfl trivial (o_as rfl) ?_
              refine xo_nil (xq_then (xw_seq (xw_region ?_)))
              refine xq rfl trivial (o_ldW rfl ts39 (List.Mem.head _)) ?_
              refine xq rfl trivial (o_mv rfl) ?_
              refine xq0 trivial (o_stWI rfl rfl ts39 (List.Mem.head _) (.here _ _ _ _)) ?_
              refine xq rfl trivial (o_as rfl) ?_
              refine xo_nil (xq_then (xw_ret ?_))
              refine con_retN (.inl rfl) (l := [.cell 4 39, .tmp 5]) Try.results18 (.cell rfl ts39 (List.Mem.head _) (.tmp rfl .nil)) rfl _ (fun _ h => h) (?_)
              refine xq rfl trivial (o_mv rfl) ?_
              refine xq rfl trivial (o_ext rfl rfl) ?_
              refine xq rfl trivial (o_ext rfl rfl) ?_
              refine xo rfl trivial (o_alloc ze39 rfl) ?_
              rintro _ _ ⟨b12, hb12, rfl, rfl⟩
              refine xq0 trivial (o_stWI rfl rfl ts39 (List.Mem.head _) (.here _ _ _ _)) ?_
              refine xq rfl trivial (o_as rfl) ?_
              refine xo_nil (xq_then (xw_seq (xw_seq (xw_region ?_))))
              refine xq rfl trivial (o_mv rfl) ?_
              refine xcallq rfl trivial kf12 rfl (fun w1 hw1 => code_c 1 w1) ?_
              refine xq rfl trivial (o_neq rfl rfl) ?_
              refine xq rfl trivial (o_mv rfl) ?_
              refine xo_bool 70 rfl (fun hg23 => ?_) (fun hg23 => ?_)
              · have hq23 : (decide ((code_F 1) = 1)) = false := (bnT hg23)
                have hp23 : ¬ ((code_F 1) = 1) := of_decide_eq_false hq23
                rw [if_neg hp23] at h
                refine xs rfl ⟨_, _, rfl, rfl, rfl⟩ (xs rfl ⟨_, _, rfl, rfl, rfl⟩ (xs rfl ⟨_, _, rfl, rfl, rfl⟩ (xs rfl ⟨_, _, rfl, rfl, rfl⟩ (xs rfl ⟨_, _, rfl, rfl, rfl⟩ ?_))))
                refine xq rfl trivial (o_pick_t rfl rfl) ?_
                refine xq rfl trivial (o_mv rfl) ?_
                refine xs rfl ⟨_, _, rfl, rfl, rfl⟩ (xs rfl ⟨_, _, rfl, rfl, rfl⟩ (xs rfl ⟨_, _, rfl, rfl, rfl⟩ (xs rfl ⟨_, _, rfl, rfl, rfl⟩ (xs rfl ⟨_, _, rfl, rfl, rfl⟩ ?_))))
                refine xq rfl trivial (o_pick_t rfl rfl) ?_
                refine xq rfl trivial (o_mv rfl) ?_
                refine xs rfl ⟨_, _, rfl, rfl, rfl⟩ (xs rfl ⟨_, _, rfl, rfl, rfl⟩ (xs rfl ⟨_, _, rfl, rfl, rfl⟩ (xs rfl ⟨_, _, rfl, rfl, rfl⟩ (xs rfl ⟨_, _, rfl, rfl, rfl⟩ ?_))))
                refine xq rfl trivial (o_pick_t rfl rfl) ?_
                refine xq rfl trivial (o_mv rfl) ?_
                refine xs rfl ⟨_, _, rfl, rfl, rfl⟩ (xs rfl ⟨_, _, rfl, rfl, rfl⟩ (xs rfl ⟨_, _, rfl, rfl, rfl⟩ (xs rfl ⟨_, _, rfl, rfl, rfl⟩ (xs rfl ⟨_, _, rfl, rfl, rfl⟩ (xs rfl ⟨_, _, rfl, rfl, rfl⟩ (xs rfl ⟨_, _, rfl, rfl, rfl⟩ (xs rfl ⟨_, _, rfl, rfl, rfl⟩ ?_)))))))
                refine xs rfl ⟨_, _, rfl, rfl, rfl⟩ (xs rfl ⟨_, _, rfl, rfl, rfl⟩ (xs rfl ⟨_, _, rfl, rfl, rfl⟩ ?_))
                refine xq rfl trivial (o_pick_t rfl rfl) ?_
                refine xo_nil (xq_then (xw_cond_t rfl rfl (xw_seq (xw_region ?_))))
                refine xq rfl trivial (o_as rfl) ?_
                refine xo_nil (xq_then (xw_ret (xq_then_ret ?_)))
                subst h
                exact con_ret1 (.inl rfl) Try.results5 rfl [] (Kp.st (Kp.new hb12 (Kp.new hb4 (Kp.new hb2 (Kp.new hb13 (Kp.segNew (Cov.fresh hcBb13_1_1o) (Kp.segNew (Cov.fresh hcB9_2o) (Kp.segNew (Cov.fresh hcB7_1o) Kp.nil)))))))) (⟨rfl, rfl⟩)
              · have hq23 : (decide ((code_F 1) = 1)) = true := (bnF hg23)
                have hp23 : (code_F 1) = 1 := of_decide_eq_true hq23
                rw [if_pos hp23] at h
                refine xq rfl ⟨_, rfl, rfl⟩ (o_mv rfl) ?_
                refine xq rfl ⟨_, rfl, rfl⟩ (o_mv rfl) ?_
                refine xoR rfl ⟨_, rfl, rfl⟩ (ot_in (l := [(0, _), (1, _)]) kf19 rfl Try.func19 rfl Try.ntmps19 rfl (lac rfl (lac rfl lan)) ?_)
                refine xw_seq (xw_region ?_)
                refine xq rfl trivial (o_as rfl) ?_
                refine xo_nil (xq_then (xw_seq (xw_region ?_)))
                refine xq rfl trivial (o_mv rfl) ?_
                refine xq rfl trivial (o_mv rfl) ?_
                refine xoR rfl trivial (ot_in (l := [(0, _), (1, _)]) kf18 rfl Try.func18 rfl Try.ntmps18 rfl (lac rfl (lac rfl lan)) ?_)
                refine xw_seq (xw_region ?_)
                refine xo rfl trivial (o_box1 rfl rfl) ?_
                rintro _ _ ⟨b2a, hb2a, rfl, rfl⟩
                refine xo rfl trivial (o_alloc ze39 rfl) ?_
                rintro _ _ ⟨b4a, hb4a, rfl, rfl⟩
                refine xq rfl trivial (o_as rfl) ?_
                refine xo_nil (xq_then (xw_seq (xw_region ?_)))
                refine xq rfl trivial (o_ldV rfl ts24 (List.Mem.tail _ (List.Mem.head _))) ?_
                refine xq rfl trivial (o_mv rfl) ?_
                refine xq rfl trivial (o_mkf rfl rfl) ?_
                refine xoR rfl trivial (ot_in (l := [(0, _), (1, _), (2, _)]) kf27 rfl Try.func27 rfl Try.ntmps27 rfl (lac rfl (lac rfl (lac rfl lan))) ?_)
                refine xw_seq (xw_region ?_)
                refine xq rfl trivial (o_as rfl) ?_
                refine xo_nil (xq_then (xw_seq (xw_region ?_)))
                refine xq rfl trivial (o_mv rfl) ?_
                refine xq rfl trivial (o_mv rfl) ?_
                refine xoR rfl trivial (ot_in (l := [(0, _), (1, _)]) kf37 rfl Try.func37 rfl Try.ntmps37 rfl (lac rfl (lac rfl lan)) ?_)
                refine xw_seq (xw_region ?_)
                refine xq rfl trivial (o_as rfl) ?_
                refine xq rfl trivial (o_as rfl) ?_
                refine xo_nil (xq_then (xw_seq (xw_seq (xw_region ?_))))
                refine xq rfl trivial (o_mv rfl) ?_
                refine xq rfl trivial (o_eqn Try.underlying24 rfl rfl rfl rfl) ?_
                refine xo_nil (xq_then (xw_cond_t rfl rfl (xw_seq (xw_region ?_))))
                refine xq rfl trivial (o_mki rfl Try.underlying62 rfl) ?_
                refine xq rfl trivial (o_as rfl) ?_
                refine xq rfl trivial (o_as rfl) ?_
                refine xo_nil (xq_then (xw_ret (xq_then_ret ?_)))
                refine con_ret2 (.inl rfl) Try.results37 rfl rfl _ (fun _ h => h) (?_)
                refine xq rfl trivial (o_mv rfl) ?_
                refine xq rfl trivial (o_ext rfl rfl) ?_
                refine xq rfl trivial (o_ext rfl rfl) ?_
                refine xq rfl trivial (o_as rfl) ?_
                refine xq rfl trivial (o_as rfl) ?_
                refine xo_nil (xq_then (xw_seq (xw_seq (xw_region ?_))))
                refine xq rfl trivial (o_mv rfl) ?_
                refine xq rfl trivial (o_nen Try.underlying26 rfl rfl rfl rfl) ?_
                refine xo_nil (xq_then (xw_cond_t rfl rfl (xw_seq (xw_region ?_))))
                refine xq rfl trivial (o_mv rfl) ?_
                refine xq rfl trivial (o_as rfl) ?_
                refine xo_nil (xq_then (xw_ret (xq_then_ret ?_)))
                refine con_ret1 (.inl rfl) Try.results27 rfl _ (fun _ h => h) (?_)
                refine xq rfl trivial (o_as rfl) ?_
                refine xo_nil (xq_then (xw_seq (xw_region ?_)))
                refine xq rfl trivial (o_ldW rfl ts39 (List.Mem.head _)) ?_
                refine xq rfl trivial (o_mv rfl) ?_
                refine xq0 trivial (o_stWI rfl rfl ts39 (List.Mem.head _) (.here _ _ _ _)) ?_
                refine xq rfl trivial (o_as rfl) ?_
                refine xo_nil (xq_then (xw_ret ?_))
                refine con_retN (.inl rfl) (l := [.cell 4 39, .tmp 5]) Try.results18 (.cell rfl ts39 (List.Mem.head _) (.tmp rfl .nil)) rfl _ (fun _ h => h) (?_)
                refine xq rfl trivial (o_mv rfl) ?_
                refine xq rfl trivial (o_ext rfl rfl) ?_
                refine xq rfl trivial (o_ext rfl rfl) ?_
                refine xo rfl trivial (o_alloc ze39 rfl) ?_
                rintro _ _ ⟨b5, hb5, rfl, rfl⟩
                refine xq0 trivial (o_stWI rfl rfl ts39 (List.Mem.head _) (.here _ _ _ _)) ?_
                refine xq rfl trivial (o_as rfl) ?_
                refine xo_nil (xq_then (xw_seq (xw_region ?_)))
                refine xq rfl trivial (o_mv rfl) ?_
                refine xq rfl trivial (o_as rfl) ?_
                refine xo_nil (xq_then (xw_ret ?_))
                refine con_ret1 (.inl rfl) Try.results19 rfl _ (fun _ h => h) (?_)
                refine xcallq rfl ⟨_, rfl, rfl⟩ kf12 rfl (fun w1 hw1 => code_c 1 w1) ?_
                refine xq rfl ⟨_, rfl, rfl⟩ (o_neq rfl rfl) ?_
                refine xq rfl trivial (o_pick_f rfl rfl) ?_
                refine xq rfl trivial (o_mv rfl) ?_
                refine xo_val 77 rfl (v' := .bool false) (congrArg Value.bool (by simpa using hp23)) ?_
                refine xq rfl ⟨_, rfl, rfl⟩ (o_mv rfl) ?_
                refine xq rfl ⟨_, rfl, rfl⟩ (o_mv rfl) ?_
                refine xoR rfl ⟨_, rfl, rfl⟩ (ot_in (l := [(0, _), (1, _)]) kf20 rfl Try.func20 rfl Try.ntmps20 rfl (lac rfl (lac rfl lan)) ?_)
                refine xw_seq (xw_region ?_)
                refine xo rfl trivial (o_box1 rfl rfl) ?_
                rintro _ _ ⟨b2aa, hb2aa, rfl, rfl⟩
                refine xq rfl trivial (o_as rfl) ?_
                refine xo_nil (xq_then (xw_seq (xw_region ?_)))
                refine xq rfl trivial (o_ldV rfl ts24 (List.Mem.head _)) ?_
                refine xq rfl trivial (o_mv rfl) ?_
                refine xq rfl trivial (o_mkf rfl rfl) ?_
                refine xoR rfl trivial (ot_in (l := [(0, _), (1, _), (2, _)]) kf27 rfl Try.func27 rfl Try.ntmps27 rfl (lac rfl (lac rfl (lac rfl lan))) ?_)
                refine xw_seq (xw_region ?_)
                refine xq rfl trivial (o_as rfl) ?_
                refine xo_nil (xq_then (xw_seq (xw_region ?_)))
                refine xq rfl trivial (o_mv rfl) ?_
                refine xq rfl trivial (o_mv rfl) ?_
                refine xoR rfl trivial (ot_in (l := [(0, _), (1, _)]) kf37 rfl Try.func37 rfl Try.ntmps37 rfl (lac rfl (lac rfl lan)) ?_)
                refine xw_seq (xw_region ?_)
                refine xq rfl trivial (o_as rfl) ?_
                refine xq rfl trivial (o_as rfl) ?_
                refine xo_nil (xq_then (xw_seq (xw_seq (xw_region ?_))))
                refine xq rfl trivial (o_mv rfl) ?_
                refine xq rfl trivial (o_eqn Try.underlying24 rfl rfl rfl rfl) ?_
                refine xo_nil (xq_then (xw_cond_t rfl rfl (xw_seq (xw_region ?_))))
                refine xq rfl trivial (o_mki rfl Try.underlying62 rfl) ?_
                refine xq rfl trivial (o_as rfl) ?_
                refine xq rfl trivial (o_as rfl) ?_
                refine xo_nil (xq_then (xw_ret (xq_then_ret ?_)))
                refine con_ret2 (.inl rfl) Try.results37 rfl rfl _ (fun _ h => h) (?_)
                refine xq rfl trivial (o_mv rfl) ?_
                refine xq rfl trivial (o_ext rfl rfl) ?_
                refine xq rfl trivial (o_ext rfl rfl) ?_
                refine xq rfl trivial (o_as rfl) ?_
                refine xq rfl trivial (o_as rfl) ?_
                refine xo_nil (xq_then (xw_seq (xw_seq (xw_region ?_))))
                refine xq rfl trivial (o_mv rfl) ?_
                refine xq rfl trivial (o_nen Try.underlying26 rfl rfl rfl rfl) ?_
                refine xo_nil (xq_then (xw_cond_t rfl rfl (xw_seq (xw_region ?_))))
                refine xq rfl trivial (o_mv rfl) ?_
                refine xq rfl trivial (o_as rfl) ?_
                refine xo_nil (xq_then (xw_ret (xq_then_ret ?_)))
                refine con_ret1 (.inl rfl) Try.results27 rfl _ (fun _ h => h) (?_)
                refine xq rfl trivial (o_as rfl) ?_
                refine xo_nil (xq_then (xw_ret ?_))
                refine con_ret1 (.inl rfl) Try.results20 rfl _ (fun _ h => h) (?_)
                refine xcallq rfl ⟨_, rfl, rfl⟩ kf12 rfl (fun w1 hw1 => code_c 1 w1) ?_
                refine xq rfl ⟨_, rfl, rfl⟩ (o_neq rfl rfl) ?_
                refine xq rfl trivial (o_pick_f rfl rfl) ?_
                refine xq rfl trivial (o_mv rfl) ?_
                refine xo_val 84 rfl (v' := .bool false) (congrArg Value.bool (by simpa using hp23)) ?_
                refine xq rfl ⟨_, rfl, rfl⟩ (o_mv rfl) ?_
                refine xcallq rfl ⟨_, rfl, rfl⟩ kf21 rfl (fun w1 hw1 => letter_c _ w1) ?_
                refine xoR rfl ⟨_, rfl, rfl⟩ (ot_in (l := [(0, _), (1, _)]) kf17 rfl Try.func17 rfl Try.ntmps17 rfl (lac rfl (lac rfl lan)) ?_)
                refine xw_seq (xw_region ?_)
                refine xo rfl trivial (o_boxA rfl) ?_
                rintro _ _ ⟨b3, hb3, rfl, rfl⟩
                refine xq rfl trivial (o_as rfl) ?_
                refine xo_nil (xq_then (xw_seq (xw_seq (xw_region ?_))))
                refine xq rfl trivial (o_mv rfl) ?_
                refine xq rfl trivial (o_eqn Try.underlying24 rfl rfl rfl rfl) ?_
                refine xo_nil (xq_then (xw_cond_t rfl rfl (xw_seq (xw_region ?_))))
                refine xq rfl trivial (o_mki rfl Try.underlying62 rfl) ?_
                refine xq rfl trivial (o_as rfl) ?_
                refine xo_nil (xq_then (xw_ret (xq_then_ret ?_)))
                refine con_ret1 (.inl rfl) Try.results17 rfl _ (fun _ h => h) (?_)
                refine xcallq rfl ⟨_, rfl, rfl⟩ kf12 rfl (fun w1 hw1 => code_c 1 w1) ?_
                refine xq rfl ⟨_, rfl, rfl⟩ (o_neq rfl rfl) ?_
                refine xq rfl trivial (o_pick_f rfl rfl) ?_
                refine xq rfl trivial (o_mv rfl) ?_
                refine xo_val 91 rfl (v' := .bool false) (congrArg Value.bool (by simpa using hp23)) ?_
                refine xq rfl ⟨_, rfl, rfl⟩ (o_mv rfl) ?_
                refine xoR rfl ⟨_, rfl, rfl⟩ (ot_in (l := [(0, _)]) kf10 rfl Try.func10 rfl Try.ntmps10 rfl (lac rfl lan) ?_)
                refine xw_seq (xw_region ?_)
                refine xq rfl trivial (o_as rfl) ?_
                refine xo_nil (xq_then (xw_seq (xw_seq (xw_region ?_))))
                refine xq rfl trivial (o_mv rfl) ?_
                refine xq rfl trivial (o_eqn Try.underlying24 rfl rfl rfl rfl) ?_
                refine xo_nil (xq_then (xw_cond_t rfl rfl (xw_seq (xw_region ?_))))
                refine xq rfl trivial (o_as rfl) ?_
                refine xo_nil (xq_then (xw_ret (xq_then_ret ?_)))
                refine con_ret1 (.inl rfl) Try.results10 rfl _ (fun _ h => h) (?_)
                refine xq rfl ⟨_, rfl, rfl⟩ (o_lenL (l := ([] : List Int)) rfl Try.underlying30 rfl ⟨none, 0, rfl⟩) ?_
                refine xq rfl ⟨_, rfl, rfl⟩ (o_mv rfl) ?_
                refine xoR rfl ⟨_, rfl, rfl⟩ (ot_in (l := [(0, _)]) kf14 rfl Try.func14 rfl Try.ntmps14 rfl (lac rfl lan) ?_)
                refine xw_seq (xw_region ?_)
                refine xq rfl trivial (o_as rfl) ?_
                refine xo_nil (xq_then (xw_seq (xw_region ?_)))
                refine xq rfl trivial (o_mv rfl) ?_
                refine xoR rfl trivial (ot_in (l := [(0, _)]) kf10 rfl Try.func10 rfl Try.ntmps10 rfl (lac rfl lan) ?_)
                refine xw_seq (xw_region ?_)
                refine xq rfl trivial (o_as rfl) ?_
                refine xo_nil (xq_then (xw_seq (xw_seq (xw_region ?_))))
                refine xq rfl trivial (o_mv rfl) ?_
                refine xq rfl trivial (o_eqn Try.underlying24 rfl rfl rfl rfl) ?_
                refine xo_nil (xq_then (xw_cond_t rfl rfl (xw_seq (xw_region ?_))))
                refine xq rfl trivial (o_as rfl) ?_
                refine xo_nil (xq_then (xw_ret (xq_then_ret ?_)))
                refine con_ret1 (.inl rfl) Try.results10 rfl _ (fun _ h => h) (?_)
                refine xq rfl trivial (o_as rfl) ?_
                refine xo_nil (xq_then (xw_seq (xw_seq (xw_region ?_))))
                refine xq rfl trivial (o_mv rfl) ?_
                refine xq rfl trivial (o_nen Try.underlying24 rfl rfl rfl rfl) ?_
                refine xo_nil (xq_then (xw_cond_f rfl rfl (xw_skip (xq_then (xw_seq (xw_region ?_))))))
                refine xq rfl trivial (o_mv rfl) ?_
                refine xq rfl trivial (o_as rfl) ?_
                refine xo_nil (xq_then (xw_ret ?_))
                refine con_ret1 (.inl rfl) Try.results14 rfl _ (fun _ h => h) (?_)
                refine xq rfl ⟨_, rfl, rfl⟩ (o_lenL (l := ([] : List Int)) rfl Try.underlying30 rfl ⟨none, 0, rfl⟩) ?_
                refine xq rfl ⟨_, rfl, rfl⟩ (o_add rfl rfl rfl ⟨by first | omega | simp, by first | omega | simp⟩) ?_
                refine xq rfl ⟨_, rfl, rfl⟩ (o_mv rfl) ?_
                refine xoR rfl ⟨_, rfl, rfl⟩ (ot_in (l := [(0, _)]) kf16 rfl Try.func16 rfl Try.ntmps16 rfl (lac rfl lan) ?_)
                refine xw_seq (xw_region ?_)
                refine xq rfl trivial (o_as rfl) ?_
                refine xo_nil (xq_then (xw_seq (xw_seq (xw_region ?_))))
                refine xq rfl trivial (o_mv rfl) ?_
                refine xq rfl trivial (o_eqn Try.underlying24 rfl rfl rfl rfl) ?_
                refine xo_nil (xq_then (xw_cond_t rfl rfl (xw_seq (xw_region ?_))))
                refine xq rfl trivial (o_as rfl) ?_
                refine xo_nil (xq_then (xw_ret (xq_then_ret ?_)))
                refine con_ret1 (.inl rfl) Try.results16 rfl _ (fun _ h => h) (?_)
                refine xq rfl ⟨_, rfl, rfl⟩ (o_add rfl rfl rfl ⟨by first | omega | simp, by first | omega | simp⟩) ?_
                refine xq rfl ⟨_, rfl, rfl⟩ (o_neq rfl rfl) ?_
                refine xq rfl trivial (o_pick_f rfl rfl) ?_
                refine xo_nil (xq_then (xw_cond_f rfl rfl (xw_skip (xq_then (xw_seq (xw_region ?_))))))
                refine xq rfl trivial (o_mv rfl) ?_
                obtain ⟨ho27, h⟩ := h
                refine xo rfl trivial (OT.st (fun _ h => St.permI [8, 9, 0, 1, 2, 3, 4, 5, 6, 7, 10, 11] [[(b3, _)], [(b2aa, _)], [(b5, _)], [(b4a, _)], [(b2a, _)], [(b12, _)], [(b4, _)], [(b2, _)], [(b13, _)], Bb13_1_1o, B9_2o, B7_1o] rfl h) (ot_callF (Cs := [[(b13, _)], Bb13_1_1o]) (Rs := [[(b3, _)], [(b2aa, _)], [(b5, _)], [(b4a, _)], [(b2a, _)], [(b12, _)], [(b4, _)], [(b2, _)], B9_2o, B7_1o]) kf14 rfl (fun w1 hw1 => ntake_c _ _ _ _ _ w1 hJb13_1_1o (St.hasC hw1) ho27) (fun _ _ _ h => h.1))) ?_
                rintro vs30 _ ⟨w1, _, rfl, hle, -, vg29_0, Bg29_0, _, Bs30, rfl, rfl, hJBg29_0, hpBg29_0, hcBg29_0, hJs30, hcBs30⟩
                replace hcBg29_0 := Cov.trans hcBb13_1_1o (Cov.base (w0 := w) hcBg29_0 hle)
                replace hcBs30 := Cov.base (w0 := w) hcBs30 hle
                refine xo_st ((b13, BK 2 (cl [.int .i64 300, vg29_0]) 64) :: (Bg29_0 ++ (Bs30 ++ ((b3, BK 28 (iv (letter_F 1)) 39) :: ((b2aa, BK 1 (fun _ => .pointer none) 24) :: ((b5, BK 28 (iv (fun _ => 0)) 39) :: ((b4a, BK 28 (iv (fun _ => 0)) 39) :: ((b2a, BK 1 (fun _ => .pointer none) 24) :: ((b12, BK 28 (iv (fun _ => 0)) 39) :: ((b4, BK 28 (iv (fun _ => 0)) 39) :: ((b2, BK 1 (fun _ => .pointer none) 24) :: (B9_2o ++ (B7_1o ++ ([])))))))))))))) (fun _ h => h) ?_
                refine xq rfl trivial (o_mv rfl) ?_
                obtain ⟨ho31, h⟩ := h
                refine xcallq rfl trivial kf13 rfl (fun w1 hw1 => msgs_c _ _ _ _ w1 (hJs30.sl hw1 (Pull.sub (.thereC _ (.there _ (.here _ _))))) (hJ7_1o.sl hw1 (Pull.sub (.thereC _ (.there _ (.there _ (.thereC _ (.thereC _ (.thereC _ (.thereC _ (.thereC _ (.thereC _ (.thereC _ (.thereC _ (.there _ (.here _ _))))))))))))))) ho31) ?_
                refine xq rfl trivial (o_mv rfl) ?_
                refine xo_bool 108 rfl (fun hg32 => ?_) (fun hg32 => ?_)
                · have hq32 : ((msgs_F ((ntake_F 300 fb13_1).1) want7)) = true := hg32
                  have hp32 : ((msgs_F ((ntake_F 300 fb13_1).1) want7)) = true := hq32
                  rw [if_pos hp32] at h
                  refine xq rfl ⟨_, rfl, rfl⟩ (o_mv rfl) ?_
                  refine xo rfl ⟨_, rfl, rfl⟩ (OT.st (fun _ h => h) (ot_callF (Cs := [[(b13, _)], Bg29_0]) (Rs := [Bs30, [(b3, _)], [(b2aa, _)], [(b5, _)], [(b4a, _)], [(b2a, _)], [(b12, _)], [(b4, _)], [(b2, _)], B9_2o, B7_1o]) kf16 rfl (fun w1 hw1 => nlen_c _ _ _ _ _ w1 hJBg29_0 (St.hasC hw1)) (fun _ _ _ h => h.1))) ?_
                  rintro _ _ ⟨w1, _, rfl, hle, -, rfl, rfl⟩
                  refine xo_st ((b13, BK 2 (cl [.int .i64 300, vg29_0]) 64) :: (Bg29_0 ++ (Bs30 ++ ((b3, BK 28 (iv (letter_F 1)) 39) :: ((b2aa, BK 1 (fun _ => .pointer none) 24) :: ((b5, BK 28 (iv (fun _ => 0)) 39) :: ((b4a, BK 28 (iv (fun _ => 0)) 39) :: ((b2a, BK 1 (fun _ => .pointer none) 24) :: ((b12, BK 28 (iv (fun _ => 0)) 39) :: ((b4, BK 28 (iv (fun _ => 0)) 39) :: ((b2, BK 1 (fun _ => .pointer none) 24) :: (B9_2o ++ (B7_1o ++ ([])))))))))))))) (fun _ h => h) ?_
                  refine xq rfl ⟨_, rfl, rfl⟩ (o_eql rfl rfl) ?_
                  refine xq rfl trivial (o_pick_t rfl rfl) ?_
                  refine xq rfl trivial (o_as rfl) ?_
                  refine xo_nil (xq_then (xw_ret ?_))
                  subst h
                  exact con_ret1 (.inl rfl) Try.results5 rfl [] (Kp.st (Kp.new hb13 (Kp.segNew (Cov.fresh hcBg29_0) (Kp.segNew (Cov.fresh hcBs30) (Kp.new hb3 (Kp.new hb2aa (Kp.new hb5 (Kp.new hb4a (Kp.new hb2a (Kp.new hb12 (Kp.new hb4 (Kp.new hb2 (Kp.segNew (Cov.fresh hcB9_2o) (Kp.segNew (Cov.fresh hcB7_1o) Kp.nil)))))))))))))) (⟨rfl, rfl⟩)
                · have hq32 : ((msgs_F ((ntake_F 300 fb13_1).1) want7)) = false := hg32
                  have hp32 : ¬ (((msgs_F ((ntake_F 300 fb13_1).1) want7)) = true) := bne' hq32
                  rw [if_neg hp32] at h
                  refine xs rfl ⟨_, _, rfl, rfl, rfl⟩ (xs rfl ⟨_, _, rfl, rfl, rfl⟩ (xs rfl ⟨_, _, rfl, rfl, rfl⟩ ?_))
                  refine xq rfl trivial (o_pick_f rfl rfl) ?_
                  refine xq rfl trivial (o_as rfl) ?_
                  refine xo_nil (xq_then (xw_ret ?_))
                  subst h
                  exact con_ret1 (.inl rfl) Try.results5 rfl [] (Kp.st (Kp.new hb13 (Kp.segNew (Cov.fresh hcBg29_0) (Kp.segNew (Cov.fresh hcBs30) (Kp.new hb3 (Kp.new hb2aa (Kp.new hb5 (Kp.new hb4a (Kp.new hb2a (Kp.new hb12 (Kp.new hb4 (Kp.new hb2 (Kp.segNew (Cov.fresh hcB9_2o) (Kp.segNew (Cov.fresh hcB7_1o) Kp.nil)))))))))))))) (⟨rfl, rfl⟩)

end Go.Proofs.Ythikmldodgijdaa
