/- The code answers as the relations say. -/
import Derived.Test.YteomcjiiiilhmaaTab
import Derived.Test.YteomcjiiiilhmaaF16S
import Derived.Test.YteomcjiiiilhmaaC16W
set_option maxHeartbeats 1000000
set_option linter.unusedVariables false
set_option linter.unusedSimpArgs false
set_option maxRecDepth 100000
namespace Go.Proofs.Yteomcjiiiilhmaa
open Go Go.E

theorem later16_con (acts0 : (List (Nat → Int))) (now1 : Int) (by2 : Int) (span3 : Int) (less4 : Int) (v0 : Value) (w : World) (hs0 : SL w 4 iv v0 acts0) (r : Bool) (h : later16_S acts0 now1 by2 span3 less4 r) : Con Try.prog 3 #[v0, .int .u16 now1, .int .u16 by2, .int .u8 span3, .int .u8 less4] w (Is (.bool r) []) := by
  unfold later16_S at h
  refine con_enter (n := 140) [(0, _), (1, _), (2, _), (3, _), (4, _)] Try.func3 rfl Try.ntmps3 rfl (lac rfl (lac rfl (lac rfl (lac rfl (lac rfl lan))))) ?_
  refine xw_seq (xw_region ?_)
  refine xq rfl trivial (o_as rfl) ?_
  refine xo_nil (xq_then (xw_seq (xw_seq (xw_region ?_))))
  obtain ⟨ho1, h⟩ := h
  refine xcallq rfl trivial kf6 rfl (fun w1 hw1 => alive16_c w1 ho1) ?_
  refine xq rfl trivial (o_not rfl) ?_
  refine xo_nil (xq_then ?_)
  refine xw_bool 23 rfl (fun hc2 => ?_) (fun hc2 => ?_)
  · have hq2 : (alive16_F) = false := (bnT hc2)
    have hp2 : ¬ ((alive16_F) = true) := bne' hq2
    rw [if_neg hp2] at h
    refine xw_cond_t rfl rfl (xw_seq (xw_region ?_))
    refine xq rfl trivial (o_as rfl) ?_
    refine xo_nil (xq_then (xw_ret (xq_then_ret ?_)))
    subst h
    exact con_ret1 (.inl rfl) Try.results3 rfl [] (fun _ h => h) (⟨rfl, rfl⟩)
  · have hq2 : (alive16_F) = true := (bnF hc2)
    have hp2 : (alive16_F) = true := hq2
    rw [if_pos hp2] at h
    refine xw_cond_f rfl rfl (xw_skip (xq_then (xw_seq (xw_seq (xw_region ?_)))))
    refine xq rfl trivial (o_mv rfl) ?_
    refine xq rfl trivial (o_lenL rfl Try.underlying22 rfl (SL.val hs0)) ?_
    refine xq rfl trivial (o_gtr rfl rfl) ?_
    refine xo_nil (xq_then ?_)
    refine xw_bool 26 rfl (fun hc3 => ?_) (fun hc3 => ?_)
    · have hq3 : (decide (60 < (acts0.length : Int))) = true := hc3
      have hp3 : 60 < (acts0.length : Int) := of_decide_eq_true hq3
      rw [if_pos hp3] at h
      refine xw_cond_t rfl rfl (xw_seq (xw_region ?_))
      refine xq rfl trivial (o_as rfl) ?_
      refine xo_nil (xq_then (xw_ret (xq_then_ret ?_)))
      subst h
      exact con_ret1 (.inl rfl) Try.results3 rfl [] (fun _ h => h) (⟨rfl, rfl⟩)
    · have hq3 : (decide (60 < (acts0.length : Int))) = false := hc3
      have hp3 : ¬ (60 < (acts0.length : Int)) := of_decide_eq_false hq3
      rw [if_neg hp3] at h
      refine xw_cond_f rfl rfl (xw_skip (xq_then (xw_seq (xw_region ?_))))
      refine xoR rfl trivial (ot_in (l := [(0, _)]) kf7 rfl Try.func7 rfl Try.ntmps7 rfl (lac rfl lan) ?_)
      refine xw_seq (xw_region ?_)
      refine xq rfl trivial (o_as rfl) ?_
      refine xq rfl trivial (o_as rfl) ?_
      refine xo_nil (xq_then (xw_seq (xw_seq ?_)))
      refine xw_cut [(0, _)] (lc rfl ln) [(9, .bool false)] ?_ ?_
      · refine xw_region ?_
        refine xq rfl trivial (o_mv rfl) ?_
        refine xq rfl trivial (o_lss rfl rfl) ?_
        refine xq rfl trivial (o_mv rfl) ?_
        refine xq rfl ⟨_, rfl, rfl⟩ (o_mv rfl) ?_
        refine xq rfl ⟨_, rfl, rfl⟩ (o_gtr rfl rfl) ?_
        refine xq rfl trivial (o_pick_f rfl rfl) ?_
        refine xo_nil ?_
        exact xq_cut ((lce rfl (by first | rfl | (simp only [hq2, hq3, if_pos hp2, if_neg hp3, bS]; done) | (simp only [hq2, hq3, if_pos hp2, if_neg hp3, bS, reduceIte, Bool.false_eq_true]; done) | (simp [hp2, hp3]; done) | (simp_all; done)) (lc rfl ln))) (fun _ h => h)
      · refine xq_then (xw_cond_f rfl rfl (xw_skip (xq_then (xw_seq (xw_region ?_)))))
        refine xq rfl trivial (o_mv rfl) ?_
        refine xq rfl trivial (o_buildM (k := (kPA 1 3 (kS [2]))) (m := (updI (fun _ => 0) 0 8)) fk61 ze61 (.one fl61_0 rfl rfl rfl (.nil _)) (fun i hi => match i, hi with | 0, _ => rfl | 1, _ => rfl | 2, _ => rfl | 3, _ => rfl | 4, _ => rfl | 5, _ => rfl | 6, _ => rfl | 7, _ => rfl | 8, _ => rfl | 9, _ => rfl | 10, _ => rfl | 11, _ => rfl | 12, _ => rfl | 13, _ => rfl | 14, _ => rfl | 15, _ => rfl | 16, _ => rfl | 17, _ => rfl | 18, _ => rfl | 19, _ => rfl | 20, _ => rfl | 21, _ => rfl | 22, _ => rfl | 23, _ => rfl | 24, _ => rfl | 25, _ => rfl | 26, _ => rfl | 27, _ => rfl | q + 28, h => absurd h (by omega))) ?_
        refine xo rfl trivial (o_boxA rfl) ?_
        rintro _ _ ⟨b13, hb13, rfl, rfl⟩
        refine xq rfl trivial (o_as rfl) ?_
        refine xq rfl trivial (o_as rfl) ?_
        refine xo_nil (xq_then (xw_ret ?_))
        refine con_ret2 (.inl rfl) Try.results7 rfl rfl _ (fun _ h => h) (?_)
        refine xq rfl trivial (o_mv rfl) ?_
        refine xq rfl trivial (o_ext rfl rfl) ?_
        refine xq rfl trivial (o_ext rfl rfl) ?_
        refine xq rfl trivial (o_as rfl) ?_
        refine xq rfl trivial (o_as rfl) ?_
        refine xo_nil (xq_then (xw_seq (xw_seq ?_)))
        refine xw_cut [(0, _), (1, _), (2, _), (3, _), (4, _), (11, _)] (lc rfl (lc rfl (lc rfl (lc rfl (lc rfl (lc rfl ln)))))) [(36, .bool false)] ?_ ?_
        · refine xw_region ?_
          refine xq rfl trivial (o_mv rfl) ?_
          refine xq rfl trivial (o_eqn Try.underlying25 rfl rfl rfl rfl) ?_
          refine xq rfl trivial (o_mv rfl) ?_
          refine xq rfl ⟨_, rfl, rfl⟩ (o_mv rfl) ?_
          refine xq rfl ⟨_, rfl, rfl⟩ (o_nen Try.underlying27 rfl rfl rfl rfl) ?_
          refine xq rfl trivial (o_pick_f rfl rfl) ?_
          refine xo_nil ?_
          exact xq_cut ((lce rfl (by first | rfl | (simp only [hq2, hq3, if_pos hp2, if_neg hp3, bS]; done) | (simp only [hq2, hq3, if_pos hp2, if_neg hp3, bS, reduceIte, Bool.false_eq_true]; done) | (simp [hp2, hp3]; done) | (simp_all; done)) (lc rfl (lc rfl (lc rfl (lc rfl (lc rfl (lc rfl ln)))))))) (fun _ h => h)
        · refine xq_then (xw_cond_f rfl rfl (xw_skip (xq_then (xw_seq (xw_seq (xw_region ?_))))))
          refine xq rfl trivial (o_as rfl) ?_
          refine xo_nil (xq_then ?_)
          refine xw_block ?_
          obtain ⟨fb13, hx1, h⟩ := h
          refine xw_wh (fun s e H => match s with | (i13, fb13) => e = [(0, v0), (1, .int .u16 now1), (2, .int .u16 by2), (3, .int .u8 span3), (4, .int .u8 less4), (11, .pointer (some ⟨b13, 0, none⟩)), (13, .int .i64 i13)] ∧ H = (b13, BK 28 (mv (kPA 1 3 (kS [2])) fb13) 61) :: ([])) (fun (fb13 : (Nat → Int)) ex e H => ex = .exit 0 ∧ e = [(1, .int .u16 now1), (2, .int .u16 by2), (3, .int .u8 span3), (4, .int .u8 less4), (11, .pointer (some ⟨b13, 0, none⟩))] ∧ H = (b13, BK 28 (mv (kPA 1 3 (kS [2])) fb13) 61) :: ([])) hx1 ⟨[(0, v0), (1, .int .u16 now1), (2, .int .u16 by2), (3, .int .u8 span3), (4, .int .u8 less4), (11, .pointer (some ⟨b13, 0, none⟩)), (13, .int .i64 0)], (b13, BK 28 (mv (kPA 1 3 (kS [2])) (updI (fun _ => 0) 0 8)) 61) :: ([]), (lc rfl (lc rfl (lc rfl (lc rfl (lc rfl (lc rfl (lc rfl ln))))))), fun _ h => h, ⟨rfl, rfl⟩⟩ ?_ ?_
          · rintro ⟨i13, fb13⟩ o _ _ ⟨rfl, rfl⟩ hb
            have h : later16_l1 acts0 i13 fb13 o := hb
            clear hb
            unfold later16_l1 at h
            refine xw_seq (xw_seq (xw_region ?_))
            refine xq rfl trivial (o_mv rfl) ?_
            refine xq rfl trivial (o_mv rfl) ?_
            refine xq rfl trivial (o_lenL rfl Try.underlying22 rfl (SL.val hs0)) ?_
            refine xq rfl trivial (o_lss rfl rfl) ?_
            refine xo_nil (xq_then ?_)
            refine xw_bool 40 rfl (fun hc4 => ?_) (fun hc4 => ?_)
            · have hq4 : (decide (i13 < (acts0.length : Int))) = true := hc4
              have hp4 : i13 < (acts0.length : Int) := of_decide_eq_true hq4
              rw [if_pos hp4] at h
              refine xw_cond_t rfl rfl (xw_skip (xq_then (xw_seq ?_)))
              refine xw_block ?_
              refine xw_region ?_
              refine xq rfl trivial (o_mv rfl) ?_
              refine xq rfl trivial (o_mv rfl) ?_
              refine xq rfl trivial (o_mv rfl) ?_
              obtain ⟨ho5, h⟩ := h
              refine xq rfl trivial (o_ixL el22 rfl rfl (fun w hw => (hs0.keep hw (Fr.cons hb13 Fr.nil))) rfl ho5) ?_
              refine xq rfl trivial (o_ldLI rfl ts32 rfl (fun w hw => (hs0.keep hw (Fr.cons hb13 Fr.nil))) (toNat_lt ho5) rfl) ?_
              obtain ⟨ho6, h⟩ := h
              refine xo rfl trivial (OT.st (fun _ h => h) (ot_callF (Cs := [[(b13, _)]]) (Rs := []) kf8 rfl (fun w1 hw1 => act16_c _ _ _ w1 (St.hasC hw1) ho6) (fun _ _ _ h => h.1))) ?_
              rintro _ _ ⟨w1, _, rfl, hle, -, rfl, rfl⟩
              refine xo_st ((b13, BK 28 (mv (kPA 1 3 (kS [2])) ((act16_F fb13 (acts0[i13.toNat]!)).2)) 61) :: ([])) (fun _ h => h) ?_
              refine xo_nil ?_
              refine xq_blk 1 ?_
              refine xq_then (xw_region ?_)
              refine xq rfl trivial (o_mv rfl) ?_
              obtain ⟨ho9, h⟩ := h
              refine xq rfl trivial (o_add rfl rfl rfl ho9) ?_
              refine xq rfl trivial (o_as rfl) ?_
              refine xo_nil ?_
              exact xq_next (s' := ((i13 + 1, (act16_F fb13 (acts0[i13.toNat]!)).2) : Int × (Nat → Int))) (e' := [(0, v0), (1, .int .u16 now1), (2, .int .u16 by2), (3, .int .u8 span3), (4, .int .u8 less4), (11, .pointer (some ⟨b13, 0, none⟩)), (13, .int .i64 (i13 + 1))]) ((b13, BK 28 (mv (kPA 1 3 (kS [2])) ((act16_F fb13 (acts0[i13.toNat]!)).2)) 61) :: ([])) (lc rfl (lc rfl (lc rfl (lc rfl (lc rfl (lc rfl (lc rfl ln))))))) (fun _ h => h) h ⟨rfl, rfl⟩
            · have hq4 : (decide (i13 < (acts0.length : Int))) = false := hc4
              have hp4 : ¬ (i13 < (acts0.length : Int)) := of_decide_eq_false hq4
              rw [if_neg hp4] at h
              refine xw_cond_f rfl rfl (xw_exit (xq_then_exit ?_))
              exact xq_out (r := (fb13 : (Nat → Int))) (e' := [(1, .int .u16 now1), (2, .int .u16 by2), (3, .int .u8 span3), (4, .int .u8 less4), (11, .pointer (some ⟨b13, 0, none⟩))]) ((b13, BK 28 (mv (kPA 1 3 (kS [2])) fb13) 61) :: ([])) (lc rfl (lc rfl (lc rfl (lc rfl (lc rfl ln))))) (fun _ h => h) h (by intro hh; cases hh) ⟨rfl, rfl, rfl⟩
          · rintro _ _ _ ⟨rfl, rfl, rfl⟩
            replace h : later16_k1a now1 by2 span3 less4 fb13 r := h
            unfold later16_k1a at h
            refine xq_blk_eq ?_
            refine xq_then (xw_seq (xw_region ?_))
            refine xq rfl trivial (o_mv rfl) ?_
            refine xq rfl trivial (o_mv rfl) ?_
            refine xq rfl trivial (o_conv rfl Try.underlying23 Try.underlying3) ?_
            refine xq rfl trivial (o_mv rfl) ?_
            refine xq rfl trivial (o_conv rfl Try.underlying5 Try.underlying3) ?_
            obtain ⟨ho10, h⟩ := h
            refine xo rfl trivial (OT.st (fun _ h => h) (ot_callF (Cs := [[(b13, _)]]) (Rs := []) kf9 rfl (fun w1 hw1 => clost_c _ _ _ _ w1 (St.hasC hw1) ho10) (fun _ _ _ h => h.1))) ?_
            rintro vs13 _ ⟨w1, _, rfl, hle, -, _, Bs13, rfl, rfl, hJs13, hcBs13⟩
            replace hcBs13 := Cov.base (w0 := w) hcBs13 hle
            refine xo_st ((b13, BK 28 (mv (kPA 1 3 (kS [2])) fb13) 61) :: (Bs13 ++ ([]))) (fun _ h => h) ?_
            refine xq rfl trivial (o_as rfl) ?_
            refine xo_nil (xq_then (xw_seq (xw_region ?_)))
            refine xq rfl trivial (o_mv rfl) ?_
            refine xq rfl trivial (o_mv rfl) ?_
            refine xq rfl trivial (o_conv rfl Try.underlying23 Try.underlying3) ?_
            refine xq rfl trivial (o_mv rfl) ?_
            refine xq rfl trivial (o_conv rfl Try.underlying23 Try.underlying3) ?_
            obtain ⟨ho14, h⟩ := h
            refine xq rfl trivial (o_add rfl rfl rfl ho14) ?_
            refine xq rfl trivial (o_mv rfl) ?_
            refine xq rfl trivial (o_conv rfl Try.underlying5 Try.underlying3) ?_
            refine xq rfl trivial (o_mv rfl) ?_
            refine xq rfl trivial (o_conv rfl Try.underlying5 Try.underlying3) ?_
            obtain ⟨ho15, h⟩ := h
            refine xq rfl trivial (o_sub rfl rfl rfl ho15) ?_
            refine xq rfl trivial (o_max2 rfl) ?_
            obtain ⟨ho16, h⟩ := h
            refine xo rfl trivial (OT.st (fun _ h => h) (ot_callF (Cs := [[(b13, _)]]) (Rs := [Bs13]) kf9 rfl (fun w1 hw1 => clost_c _ _ _ _ w1 (St.hasC hw1) ho16) (fun _ _ _ h => h.1))) ?_
            rintro vs19 _ ⟨w1, _, rfl, hle, -, _, Bs19, rfl, rfl, hJs19, hcBs19⟩
            replace hcBs19 := Cov.base (w0 := w) hcBs19 hle
            refine xo_st ((b13, BK 28 (mv (kPA 1 3 (kS [2])) fb13) 61) :: (Bs19 ++ (Bs13 ++ ([])))) (fun _ h => h) ?_
            refine xq rfl trivial (o_as rfl) ?_
            refine xo_nil (xq_then (xw_seq (xw_seq (xw_region ?_))))
            refine xq rfl trivial (o_as rfl) ?_
            refine xo_nil (xq_then ?_)
            refine xw_block ?_
            obtain ⟨x2, hx2, h⟩ := h
            refine xw_wh (fun (i16 : Int) e H => e = [(1, .int .u16 now1), (2, .int .u16 by2), (3, .int .u8 span3), (4, .int .u8 less4), (11, .pointer (some ⟨b13, 0, none⟩)), (14, vs13), (15, vs19), (16, .int .i64 i16)] ∧ H = (b13, BK 28 (mv (kPA 1 3 (kS [2])) fb13) 61) :: (Bs19 ++ (Bs13 ++ ([])))) (fun x ex e H => match x with | .inl _ => ex = .exit 2 ∧ e = [(1, .int .u16 now1), (2, .int .u16 by2), (3, .int .u8 span3), (4, .int .u8 less4), (11, .pointer (some ⟨b13, 0, none⟩)), (15, vs19)] ∧ H = (b13, BK 28 (mv (kPA 1 3 (kS [2])) fb13) 61) :: (Bs19 ++ (Bs13 ++ ([]))) | .inr _ => ex = .ret ∧ e = [(10, .bool false)] ∧ H = (b13, BK 28 (mv (kPA 1 3 (kS [2])) fb13) 61) :: (Bs19 ++ (Bs13 ++ ([])))) hx2 ⟨[(1, .int .u16 now1), (2, .int .u16 by2), (3, .int .u8 span3), (4, .int .u8 less4), (11, .pointer (some ⟨b13, 0, none⟩)), (14, vs13), (15, vs19), (16, .int .i64 0)], (b13, BK 28 (mv (kPA 1 3 (kS [2])) fb13) 61) :: (Bs19 ++ (Bs13 ++ ([]))), (lc rfl (lc rfl (lc rfl (lc rfl (lc rfl (lc rfl (lc rfl (lc rfl ln)))))))), fun _ h => h, ⟨rfl, rfl⟩⟩ ?_ ?_
            · rintro i16 o _ _ ⟨rfl, rfl⟩ hb
              have h : later16_l2 now1 by2 span3 less4 fb13 i16 o := hb
              clear hb
              unfold later16_l2 at h
              refine xw_seq (xw_seq (xw_region ?_))
              refine xq rfl trivial (o_mv rfl) ?_
              refine xq rfl trivial (o_mv rfl) ?_
              refine xq rfl trivial (o_lenL rfl Try.underlying33 rfl (OJ.val hJs13)) ?_
              refine xq rfl trivial (o_lss rfl rfl) ?_
              refine xo_nil (xq_then ?_)
              refine xw_bool 71 rfl (fun hc20 => ?_) (fun hc20 => ?_)
              · have hq20 : (decide (i16 < ((clost_F fb13 (IntKind.i64.wrap now1) (IntKind.i64.wrap span3)).length : Int))) = true := hc20
                have hp20 : i16 < ((clost_F fb13 (IntKind.i64.wrap now1) (IntKind.i64.wrap span3)).length : Int) := of_decide_eq_true hq20
                rw [if_pos hp20] at h
                refine xw_cond_t rfl rfl (xw_skip (xq_then (xw_seq ?_)))
                refine xw_block ?_
                refine xw_seq (xw_region ?_)
                refine xq rfl trivial (o_as rfl) ?_
                refine xo_nil (xq_then (xw_seq (xw_seq (xw_region ?_))))
                refine xq rfl trivial (o_as rfl) ?_
                refine xo_nil (xq_then ?_)
                refine xw_block ?_
                obtain ⟨there17, hx3, h⟩ := h
                refine xw_wh (fun s e H => match s with | (there17, k18) => e = [(1, .int .u16 now1), (2, .int .u16 by2), (3, .int .u8 span3), (4, .int .u8 less4), (11, .pointer (some ⟨b13, 0, none⟩)), (14, vs13), (15, vs19), (16, .int .i64 i16), (17, .bool (there17)), (18, .int .i64 k18)] ∧ H = (b13, BK 28 (mv (kPA 1 3 (kS [2])) fb13) 61) :: (Bs19 ++ (Bs13 ++ ([])))) (fun (there17 : Bool) ex e H => ex = .exit 4 ∧ e = [(1, .int .u16 now1), (2, .int .u16 by2), (3, .int .u8 span3), (4, .int .u8 less4), (11, .pointer (some ⟨b13, 0, none⟩)), (14, vs13), (15, vs19), (16, .int .i64 i16), (17, .bool (there17))] ∧ H = (b13, BK 28 (mv (kPA 1 3 (kS [2])) fb13) 61) :: (Bs19 ++ (Bs13 ++ ([])))) hx3 ⟨[(1, .int .u16 now1), (2, .int .u16 by2), (3, .int .u8 span3), (4, .int .u8 less4), (11, .pointer (some ⟨b13, 0, none⟩)), (14, vs13), (15, vs19), (16, .int .i64 i16), (17, .bool false), (18, .int .i64 0)], (b13, BK 28 (mv (kPA 1 3 (kS [2])) fb13) 61) :: (Bs19 ++ (Bs13 ++ ([]))), (lc rfl (lc rfl (lc rfl (lc rfl (lc rfl (lc rfl (lc rfl (lc rfl (lc rfl (lc rfl ln)))))))))), fun _ h => h, ⟨rfl, rfl⟩⟩ ?_ ?_
                · rintro ⟨there17, k18⟩ o _ _ ⟨rfl, rfl⟩ hb
                  have h : later16_l3 now1 by2 span3 less4 fb13 i16 there17 k18 o := hb
                  clear hb
                  unfold later16_l3 at h
                  refine xw_seq (xw_seq (xw_region ?_))
                  refine xq rfl trivial (o_mv rfl) ?_
                  refine xq rfl trivial (o_mv rfl) ?_
                  refine xq rfl trivial (o_lenL rfl Try.underlying33 rfl (OJ.val hJs19)) ?_
                  refine xq rfl trivial (o_lss rfl rfl) ?_
                  refine xo_nil (xq_then ?_)
                  refine xw_bool 77 rfl (fun hc21 => ?_) (fun hc21 => ?_)
                  · have hq21 : (decide (k18 < ((clost_F fb13 ((IntKind.i64.wrap now1) + (IntKind.i64.wrap by2)) (if 0 < ((IntKind.i64.wrap span3) - (IntKind.i64.wrap less4)) then ((IntKind.i64.wrap span3) - (IntKind.i64.wrap less4)) else 0)).length : Int))) = true := hc21
                    have hp21 : k18 < ((clost_F fb13 ((IntKind.i64.wrap now1) + (IntKind.i64.wrap by2)) (if 0 < ((IntKind.i64.wrap span3) - (IntKind.i64.wrap less4)) then ((IntKind.i64.wrap span3) - (IntKind.i64.wrap less4)) else 0)).length : Int) := of_decide_eq_true hq21
                    rw [if_pos hp21] at h
                    refine xw_cond_t rfl rfl (xw_skip (xq_then (xw_seq ?_)))
                    refine xw_block ?_
                    obtain ⟨ho22, ho23, h⟩ := h
                    refine xw_cut [(1, _), (2, _), (3, _), (4, _), (11, _), (14, _), (15, _), (16, _), (18, _)] (lc rfl (lc rfl (lc rfl (lc rfl (lc rfl (lc rfl (lc rfl (lc rfl (lc rfl ln))))))))) [(17, .bool ((there17) || (decide ((clost_F fb13 (IntKind.i64.wrap now1) (IntKind.i64.wrap span3))[i16.toNat]! = (clost_F fb13 ((IntKind.i64.wrap now1) + (IntKind.i64.wrap by2)) (if 0 < ((IntKind.i64.wrap span3) - (IntKind.i64.wrap less4)) then ((IntKind.i64.wrap span3) - (IntKind.i64.wrap less4)) else 0))[k18.toNat]!))))] ?_ ?_
                    · refine xd_start (by kernel_rfl) (by kernel_rfl) (fun hok => ?_)
                      refine xd_b hok 0 [(17, _)] ([]) rsN rfl rfl rfl (lc rfl ln) (by kernel_rfl) trivial (fun H' hy hK => o_mv rfl) ?_
                      refine xd_b hok 1 [(80, _)] ([]) rsN rfl rfl rfl (lc rfl ln) (by kernel_rfl) trivial (fun H' hy hK => o_mv rfl) ?_
                      refine xd_bool 81 rfl (fun hg24 => ?_) (fun hg24 => ?_)
                      · have hq24 : (there17) = true := hg24
                        have hp24 : (there17) = true := hq24
                        refine xd_skip hok 2 [(14, _), (81, _)] rfl rfl rfl (lc rfl (lc rfl ln)) (by kernel_rfl) ⟨_, _, rfl, rfl, rfl⟩ ?_
                        refine xd_skip hok 3 [(16, _), (81, _)] rfl rfl rfl (lc rfl (lc rfl ln)) (by kernel_rfl) ⟨_, _, rfl, rfl, rfl⟩ ?_
                        refine xd_skip hok 4 [(82, _), (83, _), (81, _)] rfl rfl rfl (lc rfl (lc rfl (lc rfl ln))) (by kernel_rfl) ⟨_, _, rfl, rfl, rfl⟩ ?_
                        refine xd_skip hok 5 [(84, _), (81, _)] rfl rfl rfl (lc rfl (lc rfl ln)) (by kernel_rfl) ⟨_, _, rfl, rfl, rfl⟩ ?_
                        refine xd_skip hok 6 [(15, _), (81, _)] rfl rfl rfl (lc rfl (lc rfl ln)) (by kernel_rfl) ⟨_, _, rfl, rfl, rfl⟩ ?_
                        refine xd_skip hok 7 [(18, _), (81, _)] rfl rfl rfl (lc rfl (lc rfl ln)) (by kernel_rfl) ⟨_, _, rfl, rfl, rfl⟩ ?_
                        refine xd_skip hok 8 [(86, _), (87, _), (81, _)] rfl rfl rfl (lc rfl (lc rfl (lc rfl ln))) (by kernel_rfl) ⟨_, _, rfl, rfl, rfl⟩ ?_
                        refine xd_skip hok 9 [(88, _), (81, _)] rfl rfl rfl (lc rfl (lc rfl ln)) (by kernel_rfl) ⟨_, _, rfl, rfl, rfl⟩ ?_
                        refine xd_skip hok 10 [(85, _), (89, _), (81, _)] rfl rfl rfl (lc rfl (lc rfl (lc rfl ln))) (by kernel_rfl) ⟨_, _, rfl, rfl, rfl⟩ ?_
                        refine xd_b hok 11 [(81, _), (90, _)] ([]) rsN rfl rfl rfl (lc rfl (lc rfl ln)) (by kernel_rfl) trivial (fun H' hy hK => o_pick_t rfl rfl) ?_
                        refine xd_b hok 12 [(91, _)] ([]) rsN rfl rfl rfl (lc rfl ln) (by kernel_rfl) trivial (fun H' hy hK => o_as rfl) ?_
                        refine xd_end hok (by kernel_rfl) ?_
                        exact xq_cut ((lce rfl (by first | rfl | (simp only [hq21, hq24, if_pos hp21, if_pos hp24, bS]; done) | (simp only [hq21, hq24, if_pos hp21, if_pos hp24, bS, reduceIte, Bool.false_eq_true]; done) | (simp [hp21, hp24]; done) | (simp_all; done)) (lc rfl (lc rfl (lc rfl (lc rfl (lc rfl (lc rfl (lc rfl (lc rfl (lc rfl ln))))))))))) (fun _ h => h)
                      · have hq24 : (there17) = false := hg24
                        have hp24 : ¬ ((there17) = true) := bne' hq24
                        refine xd_b hok 2 [(14, _), (81, _)] ([]) rsN rfl rfl rfl (lc rfl (lc rfl ln)) (by kernel_rfl) ⟨_, rfl, rfl⟩ (fun H' hy hK => o_mv rfl) ?_
                        refine xd_b hok 3 [(16, _), (81, _)] ([]) rsN rfl rfl rfl (lc rfl (lc rfl ln)) (by kernel_rfl) ⟨_, rfl, rfl⟩ (fun H' hy hK => o_mv rfl) ?_
                        refine xd_b hok 4 [(82, _), (83, _), (81, _)] (Bs13 ++ ([])) (rsA (Pull.sub (.thereC _ (.there _ (.here _ _)))) rsN) rfl rfl rfl (lc rfl (lc rfl (lc rfl ln))) (by kernel_rfl) ⟨_, rfl, rfl⟩ (fun H' hy hK => o_ixL el33 rfl rfl (fun w hw => (hJs13.sl hw (fun x hx => hy x (Pull.sub (.here _ _) x hx)))) rfl (ho22 (by first | exact hg24 | (simp only [hq21, hq24, if_pos hp21, if_neg hp24, bS]; done) | (simp only [hq21, hq24, if_pos hp21, if_neg hp24, bS, reduceIte, Bool.false_eq_true]; done) | (simp [hp21, hp24]; done) | (simp_all; done)))) ?_
                        refine xd_b hok 5 [(84, _), (81, _)] (Bs13 ++ ([])) (rsA (Pull.sub (.thereC _ (.there _ (.here _ _)))) rsN) rfl rfl rfl (lc rfl (lc rfl ln)) (by kernel_rfl) ⟨_, rfl, rfl⟩ (fun H' hy hK => o_ldL1 (off := 0) (u := .int .i64 ((clost_F fb13 (IntKind.i64.wrap now1) (IntKind.i64.wrap span3))[i16.toNat]!)) rfl ts3 rfl (fun w hw => (hJs13.sl hw (fun x hx => hy x (Pull.sub (.here _ _) x hx)))) (toNat_lt (ho22 (by first | exact hg24 | (simp only [hq21, hq24, if_pos hp21, if_neg hp24, bS]; done) | (simp only [hq21, hq24, if_pos hp21, if_neg hp24, bS, reduceIte, Bool.false_eq_true]; done) | (simp [hp21, hp24]; done) | (simp_all; done)))) rfl rfl) ?_
                        refine xd_b hok 6 [(15, _), (81, _)] ([]) rsN rfl rfl rfl (lc rfl (lc rfl ln)) (by kernel_rfl) ⟨_, rfl, rfl⟩ (fun H' hy hK => o_mv rfl) ?_
                        refine xd_b hok 7 [(18, _), (81, _)] ([]) rsN rfl rfl rfl (lc rfl (lc rfl ln)) (by kernel_rfl) ⟨_, rfl, rfl⟩ (fun H' hy hK => o_mv rfl) ?_
                        refine xd_b hok 8 [(86, _), (87, _), (81, _)] (Bs19 ++ ([])) (rsA (Pull.sub (.thereC _ (.here _ _))) rsN) rfl rfl rfl (lc rfl (lc rfl (lc rfl ln))) (by kernel_rfl) ⟨_, rfl, rfl⟩ (fun H' hy hK => o_ixL el33 rfl rfl (fun w hw => (hJs19.sl hw (fun x hx => hy x (Pull.sub (.here _ _) x hx)))) rfl (ho23 (by first | exact hg24 | (simp only [hq21, hq24, if_pos hp21, if_neg hp24, bS]; done) | (simp only [hq21, hq24, if_pos hp21, if_neg hp24, bS, reduceIte, Bool.false_eq_true]; done) | (simp [hp21, hp24]; done) | (simp_all; done)))) ?_
                        refine xd_b hok 9 [(88, _), (81, _)] (Bs19 ++ ([])) (rsA (Pull.sub (.thereC _ (.here _ _))) rsN) rfl rfl rfl (lc rfl (lc rfl ln)) (by kernel_rfl) ⟨_, rfl, rfl⟩ (fun H' hy hK => o_ldL1 (off := 0) (u := .int .i64 ((clost_F fb13 ((IntKind.i64.wrap now1) + (IntKind.i64.wrap by2)) (if 0 < ((IntKind.i64.wrap span3) - (IntKind.i64.wrap less4)) then ((IntKind.i64.wrap span3) - (IntKind.i64.wrap less4)) else 0))[k18.toNat]!)) rfl ts3 rfl (fun w hw => (hJs19.sl hw (fun x hx => hy x (Pull.sub (.here _ _) x hx)))) (toNat_lt (ho23 (by first | exact hg24 | (simp only [hq21, hq24, if_pos hp21, if_neg hp24, bS]; done) | (simp only [hq21, hq24, if_pos hp21, if_neg hp24, bS, reduceIte, Bool.false_eq_true]; done) | (simp [hp21, hp24]; done) | (simp_all; done)))) rfl rfl) ?_
                        refine xd_b hok 10 [(85, _), (89, _), (81, _)] ([]) rsN rfl rfl rfl (lc rfl (lc rfl (lc rfl ln))) (by kernel_rfl) ⟨_, rfl, rfl⟩ (fun H' hy hK => o_eql rfl rfl) ?_
                        refine xd_b hok 11 [(81, _), (90, _)] ([]) rsN rfl rfl rfl (lc rfl (lc rfl ln)) (by kernel_rfl) trivial (fun H' hy hK => o_pick_f rfl rfl) ?_
                        refine xd_b hok 12 [(91, _)] ([]) rsN rfl rfl rfl (lc rfl ln) (by kernel_rfl) trivial (fun H' hy hK => o_as rfl) ?_
                        refine xd_end hok (by kernel_rfl) ?_
                        exact xq_cut ((lce rfl (by first | rfl | (simp only [hq21, hq24, if_pos hp21, if_neg hp24, bS]; done) | (simp only [hq21, hq24, if_pos hp21, if_neg hp24, bS, reduceIte, Bool.false_eq_true]; done) | (simp [hp21, hp24]; done) | (simp_all; done)) (lc rfl (lc rfl (lc rfl (lc rfl (lc rfl (lc rfl (lc rfl (lc rfl (lc rfl ln))))))))))) (fun _ h => h)
                    · refine xq_blk 5 ?_
                      refine xq_then (xw_region ?_)
                      refine xq rfl trivial (o_mv rfl) ?_
                      obtain ⟨ho25, h⟩ := h
                      refine xq rfl trivial (o_add rfl rfl rfl ho25) ?_
                      refine xq rfl trivial (o_as rfl) ?_
                      refine xo_nil ?_
                      exact xq_next (s' := (((there17) || (decide ((clost_F fb13 (IntKind.i64.wrap now1) (IntKind.i64.wrap span3))[i16.toNat]! = (clost_F fb13 ((IntKind.i64.wrap now1) + (IntKind.i64.wrap by2)) (if 0 < ((IntKind.i64.wrap span3) - (IntKind.i64.wrap less4)) then ((IntKind.i64.wrap span3) - (IntKind.i64.wrap less4)) else 0))[k18.toNat]!)), k18 + 1) : Bool × Int)) (e' := [(1, .int .u16 now1), (2, .int .u16 by2), (3, .int .u8 span3), (4, .int .u8 less4), (11, .pointer (some ⟨b13, 0, none⟩)), (14, vs13), (15, vs19), (16, .int .i64 i16), (17, .bool ((there17) || (decide ((clost_F fb13 (IntKind.i64.wrap now1) (IntKind.i64.wrap span3))[i16.toNat]! = (clost_F fb13 ((IntKind.i64.wrap now1) + (IntKind.i64.wrap by2)) (if 0 < ((IntKind.i64.wrap span3) - (IntKind.i64.wrap less4)) then ((IntKind.i64.wrap span3) - (IntKind.i64.wrap less4)) else 0))[k18.toNat]!)))), (18, .int .i64 (k18 + 1))]) ((b13, BK 28 (mv (kPA 1 3 (kS [2])) fb13) 61) :: (Bs19 ++ (Bs13 ++ ([])))) (lc rfl (lc rfl (lc rfl (lc rfl (lc rfl (lc rfl (lc rfl (lc rfl (lc rfl (lc rfl ln)))))))))) (fun _ h => h) h ⟨rfl, rfl⟩
                  · have hq21 : (decide (k18 < ((clost_F fb13 ((IntKind.i64.wrap now1) + (IntKind.i64.wrap by2)) (if 0 < ((IntKind.i64.wrap span3) - (IntKind.i64.wrap less4)) then ((IntKind.i64.wrap span3) - (IntKind.i64.wrap less4)) else 0)).length : Int))) = false := hc21
                    have hp21 : ¬ (k18 < ((clost_F fb13 ((IntKind.i64.wrap now1) + (IntKind.i64.wrap by2)) (if 0 < ((IntKind.i64.wrap span3) - (IntKind.i64.wrap less4)) then ((IntKind.i64.wrap span3) - (IntKind.i64.wrap less4)) else 0)).length : Int)) := of_decide_eq_false hq21
                    rw [if_neg hp21] at h
                    refine xw_cond_f rfl rfl (xw_exit (xq_then_exit ?_))
                    exact xq_out (r := (there17 : Bool)) (e' := [(1, .int .u16 now1), (2, .int .u16 by2), (3, .int .u8 span3), (4, .int .u8 less4), (11, .pointer (some ⟨b13, 0, none⟩)), (14, vs13), (15, vs19), (16, .int .i64 i16), (17, .bool (there17))]) ((b13, BK 28 (mv (kPA 1 3 (kS [2])) fb13) 61) :: (Bs19 ++ (Bs13 ++ ([])))) (lc rfl (lc rfl (lc rfl (lc rfl (lc rfl (lc rfl (lc rfl (lc rfl (lc rfl ln))))))))) (fun _ h => h) h (by intro hh; cases hh) ⟨rfl, rfl, rfl⟩
                · rintro _ _ _ ⟨rfl, rfl, rfl⟩
                  replace h : later16_k3a now1 span3 fb13 i16 there17 o := h
                  unfold later16_k3a at h
                  refine xq_blk_eq ?_
                  refine xq_then (xw_seq (xw_region ?_))
                  refine xq rfl trivial (o_mv rfl) ?_
                  refine xq rfl trivial (o_mv rfl) ?_
                  refine xq rfl trivial (o_mv rfl) ?_
                  obtain ⟨ho26, h⟩ := h
                  refine xq rfl trivial (o_ixL el33 rfl rfl (fun w hw => (hJs13.sl hw (Pull.sub (.thereC _ (.there _ (.here _ _)))))) rfl ho26) ?_
                  refine xq rfl trivial (o_ldL1 (off := 0) (u := .int .i64 ((clost_F fb13 (IntKind.i64.wrap now1) (IntKind.i64.wrap span3))[i16.toNat]!)) rfl ts3 rfl (fun w hw => (hJs13.sl hw (Pull.sub (.thereC _ (.there _ (.here _ _)))))) (toNat_lt ho26) rfl rfl) ?_
                  refine xo rfl trivial (OT.st (fun _ h => h) (ot_callF (Cs := [[(b13, _)]]) (Rs := [Bs19, Bs13]) kf10 rfl (fun w1 hw1 => cof_c _ _ _ w1 (St.hasC hw1)) (fun _ _ _ h => h.1))) ?_
                  rintro _ _ ⟨w1, _, rfl, hle, -, rfl, rfl⟩
                  refine xo_st ((b13, BK 28 (mv (kPA 1 3 (kS [2])) fb13) 61) :: (Bs19 ++ (Bs13 ++ ([])))) (fun _ h => h) ?_
                  refine xq rfl trivial (o_mv rfl) ?_
                  refine xq rfl trivial (o_ext rfl rfl) ?_
                  refine xq rfl trivial (o_ext rfl rfl) ?_
                  refine xq rfl trivial (o_as rfl) ?_
                  refine xq rfl trivial (o_as rfl) ?_
                  refine xo_nil (xq_then (xw_seq (xw_region ?_)))
                  refine xq rfl trivial (o_mv rfl) ?_
                  refine xq rfl trivial (o_not rfl) ?_
                  refine xq rfl trivial (o_mv rfl) ?_
                  refine xo_bool 103 rfl (fun hg29 => ?_) (fun hg29 => ?_)
                  · have hq29 : (there17) = false := (bnT hg29)
                    have hp29 : ¬ ((there17) = true) := bne' hq29
                    rw [if_neg hp29] at h
                    refine xs rfl ⟨_, _, rfl, rfl, rfl⟩ (xs rfl ⟨_, _, rfl, rfl, rfl⟩ ?_)
                    refine xq rfl trivial (o_pick_t rfl rfl) ?_
                    refine xq rfl trivial (o_mv rfl) ?_
                    refine xs rfl ⟨_, _, rfl, rfl, rfl⟩ (xs rfl ⟨_, _, rfl, rfl, rfl⟩ (xs rfl ⟨_, _, rfl, rfl, rfl⟩ ?_))
                    refine xq rfl trivial (o_pick_t rfl rfl) ?_
                    refine xo_nil (xq_then (xw_cond_t rfl rfl (xw_seq (xw_region ?_))))
                    refine xq rfl trivial (o_as rfl) ?_
                    refine xo_nil (xq_then (xw_ret (xq_blk_ret (xq_then_ret ?_))))
                    exact xq_out (r := (.inr () : (Unit) ⊕ (Unit))) (e' := [(10, .bool false)]) ((b13, BK 28 (mv (kPA 1 3 (kS [2])) fb13) 61) :: (Bs19 ++ (Bs13 ++ ([])))) (lc rfl ln) (fun _ h => h) h (by intro hh; cases hh) ⟨rfl, rfl, rfl⟩
                  · have hq29 : (there17) = true := (bnF hg29)
                    have hp29 : (there17) = true := hq29
                    rw [if_pos hp29] at h
                    refine xq rfl ⟨_, rfl, rfl⟩ (o_mv rfl) ?_
                    refine xq rfl ⟨_, rfl, rfl⟩ (o_neE Try.underlying27 rfl (fun _ => rfl) rfl rfl) ?_
                    refine xq rfl trivial (o_pick_f rfl rfl) ?_
                    refine xq rfl trivial (o_mv rfl) ?_
                    refine xo_bool 107 rfl (fun hg30 => ?_) (fun hg30 => ?_)
                    · have hq30 : (decide ((cof_F fb13 ((clost_F fb13 (IntKind.i64.wrap now1) (IntKind.i64.wrap span3))[i16.toNat]!)).2 = 0)) = false := (bnT hg30)
                      have hp30 : ¬ ((cof_F fb13 ((clost_F fb13 (IntKind.i64.wrap now1) (IntKind.i64.wrap span3))[i16.toNat]!)).2 = 0) := of_decide_eq_false hq30
                      rw [if_neg hp30] at h
                      refine xs rfl ⟨_, _, rfl, rfl, rfl⟩ (xs rfl ⟨_, _, rfl, rfl, rfl⟩ (xs rfl ⟨_, _, rfl, rfl, rfl⟩ ?_))
                      refine xq rfl trivial (o_pick_t rfl rfl) ?_
                      refine xo_nil (xq_then (xw_cond_t rfl rfl (xw_seq (xw_region ?_))))
                      refine xq rfl trivial (o_as rfl) ?_
                      refine xo_nil (xq_then (xw_ret (xq_blk_ret (xq_then_ret ?_))))
                      exact xq_out (r := (.inr () : (Unit) ⊕ (Unit))) (e' := [(10, .bool false)]) ((b13, BK 28 (mv (kPA 1 3 (kS [2])) fb13) 61) :: (Bs19 ++ (Bs13 ++ ([])))) (lc rfl ln) (fun _ h => h) h (by intro hh; cases hh) ⟨rfl, rfl, rfl⟩
                    · have hq30 : (decide ((cof_F fb13 ((clost_F fb13 (IntKind.i64.wrap now1) (IntKind.i64.wrap span3))[i16.toNat]!)).2 = 0)) = true := (bnF hg30)
                      have hp30 : (cof_F fb13 ((clost_F fb13 (IntKind.i64.wrap now1) (IntKind.i64.wrap span3))[i16.toNat]!)).2 = 0 := of_decide_eq_true hq30
                      rw [if_pos hp30] at h
                      refine xq rfl ⟨_, rfl, rfl⟩ (o_mv rfl) ?_
                      refine xq rfl ⟨_, rfl, rfl⟩ (o_mv rfl) ?_
                      obtain ⟨ho31, h⟩ := h
                      refine xo rfl ⟨_, rfl, rfl⟩ (OT.st (fun _ h => h) (ot_callF (Cs := [[(b13, _)]]) (Rs := [Bs19, Bs13]) kf11 rfl (fun w1 hw1 => calive_c _ _ _ w1 (St.hasC hw1) ho31) (fun _ _ _ h => h.1))) ?_
                      rintro _ _ ⟨w1, _, rfl, hle, -, rfl, rfl⟩
                      refine xo_st ((b13, BK 28 (mv (kPA 1 3 (kS [2])) fb13) 61) :: (Bs19 ++ (Bs13 ++ ([])))) (fun _ h => h) ?_
                      refine xq rfl trivial (o_pick_f rfl rfl) ?_
                      refine xo_nil (xq_then ?_)
                      refine xw_bool 111 rfl (fun hc34 => ?_) (fun hc34 => ?_)
                      · have hq34 : ((calive_F fb13 ((cof_F fb13 ((clost_F fb13 (IntKind.i64.wrap now1) (IntKind.i64.wrap span3))[i16.toNat]!)).1))) = true := hc34
                        have hp34 : ((calive_F fb13 ((cof_F fb13 ((clost_F fb13 (IntKind.i64.wrap now1) (IntKind.i64.wrap span3))[i16.toNat]!)).1))) = true := hq34
                        rw [if_pos hp34] at h
                        refine xw_cond_t rfl rfl (xw_seq (xw_region ?_))
                        refine xq rfl trivial (o_as rfl) ?_
                        refine xo_nil (xq_then (xw_ret (xq_blk_ret (xq_then_ret ?_))))
                        exact xq_out (r := (.inr () : (Unit) ⊕ (Unit))) (e' := [(10, .bool false)]) ((b13, BK 28 (mv (kPA 1 3 (kS [2])) fb13) 61) :: (Bs19 ++ (Bs13 ++ ([])))) (lc rfl ln) (fun _ h => h) h (by intro hh; cases hh) ⟨rfl, rfl, rfl⟩
                      · have hq34 : ((calive_F fb13 ((cof_F fb13 ((clost_F fb13 (IntKind.i64.wrap now1) (IntKind.i64.wrap span3))[i16.toNat]!)).1))) = false := hc34
                        have hp34 : ¬ (((calive_F fb13 ((cof_F fb13 ((clost_F fb13 (IntKind.i64.wrap now1) (IntKind.i64.wrap span3))[i16.toNat]!)).1))) = true) := bne' hq34
                        rw [if_neg hp34] at h
                        refine xw_cond_f rfl rfl (xw_skip ?_)
                        refine xq_blk 3 ?_
                        refine xq_then (xw_region ?_)
                        refine xq rfl trivial (o_mv rfl) ?_
                        obtain ⟨ho35, h⟩ := h
                        refine xq rfl trivial (o_add rfl rfl rfl ho35) ?_
                        refine xq rfl trivial (o_as rfl) ?_
                        refine xo_nil ?_
                        exact xq_next (s' := (i16 + 1 : Int)) (e' := [(1, .int .u16 now1), (2, .int .u16 by2), (3, .int .u8 span3), (4, .int .u8 less4), (11, .pointer (some ⟨b13, 0, none⟩)), (14, vs13), (15, vs19), (16, .int .i64 (i16 + 1))]) ((b13, BK 28 (mv (kPA 1 3 (kS [2])) fb13) 61) :: (Bs19 ++ (Bs13 ++ ([])))) (lc rfl (lc rfl (lc rfl (lc rfl (lc rfl (lc rfl (lc rfl (lc rfl ln)))))))) (fun _ h => h) h ⟨rfl, rfl⟩
              · have hq20 : (decide (i16 < ((clost_F fb13 (IntKind.i64.wrap now1) (IntKind.i64.wrap span3)).length : Int))) = false := hc20
                have hp20 : ¬ (i16 < ((clost_F fb13 (IntKind.i64.wrap now1) (IntKind.i64.wrap span3)).length : Int)) := of_decide_eq_false hq20
                rw [if_neg hp20] at h
                refine xw_cond_f rfl rfl (xw_exit (xq_then_exit ?_))
                exact xq_out (r := (.inl () : (Unit) ⊕ (Unit))) (e' := [(1, .int .u16 now1), (2, .int .u16 by2), (3, .int .u8 span3), (4, .int .u8 less4), (11, .pointer (some ⟨b13, 0, none⟩)), (15, vs19)]) ((b13, BK 28 (mv (kPA 1 3 (kS [2])) fb13) 61) :: (Bs19 ++ (Bs13 ++ ([])))) (lc rfl (lc rfl (lc rfl (lc rfl (lc rfl (lc rfl ln)))))) (fun _ h => h) h (by intro hh; cases hh) ⟨rfl, rfl, rfl⟩
            · rcases x2 with _ | x2
              · rintro _ _ _ ⟨rfl, rfl, rfl⟩
                replace h : later16_k2a now1 by2 span3 less4 fb13 r := h
                unfold later16_k2a at h
                refine xq_blk_eq ?_
                refine xq_then (xw_seq (xw_seq (xw_region ?_)))
                refine xq rfl trivial (o_as rfl) ?_
                refine xo_nil (xq_then ?_)
                refine xw_block ?_
                obtain ⟨x4, hx4, h⟩ := h
                refine xw_wh (fun s e H => match s with | (i21, fb13a) => e = [(1, .int .u16 now1), (2, .int .u16 by2), (3, .int .u8 span3), (4, .int .u8 less4), (11, .pointer (some ⟨b13, 0, none⟩)), (15, vs19), (21, .int .i64 i21)] ∧ H = (b13, BK 28 (mv (kPA 1 3 (kS [2])) fb13a) 61) :: (Bs19 ++ ([]))) (fun x ex e H => match x with | .inl fb13a => ex = .exit 6 ∧ e = [(1, .int .u16 now1), (2, .int .u16 by2), (3, .int .u8 span3), (4, .int .u8 less4), (11, .pointer (some ⟨b13, 0, none⟩))] ∧ H = (b13, BK 28 (mv (kPA 1 3 (kS [2])) fb13a) 61) :: (Bs19 ++ ([])) | .inr fb13a => ex = .ret ∧ e = [(10, .bool false)] ∧ H = (b13, BK 28 (mv (kPA 1 3 (kS [2])) fb13a) 61) :: (Bs19 ++ ([]))) hx4 ⟨[(1, .int .u16 now1), (2, .int .u16 by2), (3, .int .u8 span3), (4, .int .u8 less4), (11, .pointer (some ⟨b13, 0, none⟩)), (15, vs19), (21, .int .i64 0)], (b13, BK 28 (mv (kPA 1 3 (kS [2])) fb13) 61) :: (Bs19 ++ ([])), (lc rfl (lc rfl (lc rfl (lc rfl (lc rfl (lc rfl (lc rfl ln))))))), Kp.st (Kp.keep (Kp.segKeep (Kp.segNew (Cov.fresh hcBs13) Kp.nil))), ⟨rfl, rfl⟩⟩ ?_ ?_
                · rintro ⟨i21, fb13a⟩ o _ _ ⟨rfl, rfl⟩ hb
                  have h : later16_l4 now1 by2 span3 less4 fb13 i21 fb13a o := hb
                  clear hb
                  unfold later16_l4 at h
                  refine xw_seq (xw_seq (xw_region ?_))
                  refine xq rfl trivial (o_mv rfl) ?_
                  refine xq rfl trivial (o_mv rfl) ?_
                  refine xq rfl trivial (o_lenL rfl Try.underlying33 rfl (OJ.val hJs19)) ?_
                  refine xq rfl trivial (o_lss rfl rfl) ?_
                  refine xo_nil (xq_then ?_)
                  refine xw_bool 115 rfl (fun hc36 => ?_) (fun hc36 => ?_)
                  · have hq36 : (decide (i21 < ((clost_F fb13 ((IntKind.i64.wrap now1) + (IntKind.i64.wrap by2)) (if 0 < ((IntKind.i64.wrap span3) - (IntKind.i64.wrap less4)) then ((IntKind.i64.wrap span3) - (IntKind.i64.wrap less4)) else 0)).length : Int))) = true := hc36
                    have hp36 : i21 < ((clost_F fb13 ((IntKind.i64.wrap now1) + (IntKind.i64.wrap by2)) (if 0 < ((IntKind.i64.wrap span3) - (IntKind.i64.wrap less4)) then ((IntKind.i64.wrap span3) - (IntKind.i64.wrap less4)) else 0)).length : Int) := of_decide_eq_true hq36
                    rw [if_pos hp36] at h
                    refine xw_cond_t rfl rfl (xw_skip (xq_then (xw_seq ?_)))
                    refine xw_block ?_
                    refine xw_seq (xw_region ?_)
                    refine xq rfl trivial (o_mv rfl) ?_
                    refine xq rfl trivial (o_mv rfl) ?_
                    refine xq rfl trivial (o_mv rfl) ?_
                    obtain ⟨ho37, h⟩ := h
                    refine xq rfl trivial (o_ixL el33 rfl rfl (fun w hw => (hJs19.sl hw (Pull.sub (.thereC _ (.here _ _))))) rfl ho37) ?_
                    refine xq rfl trivial (o_ldL1 (off := 0) (u := .int .i64 ((clost_F fb13 ((IntKind.i64.wrap now1) + (IntKind.i64.wrap by2)) (if 0 < ((IntKind.i64.wrap span3) - (IntKind.i64.wrap less4)) then ((IntKind.i64.wrap span3) - (IntKind.i64.wrap less4)) else 0))[i21.toNat]!)) rfl ts3 rfl (fun w hw => (hJs19.sl hw (Pull.sub (.thereC _ (.here _ _))))) (toNat_lt ho37) rfl rfl) ?_
                    obtain ⟨ho38, h⟩ := h
                    refine xo rfl trivial (OT.st (fun _ h => h) (ot_callF (Cs := [[(b13, _)]]) (Rs := [Bs19]) kf12 rfl (fun w1 hw1 => cend_c _ _ _ w1 (St.hasC hw1) ho38) (fun _ _ _ h => h.1))) ?_
                    rintro _ _ ⟨w1, _, rfl, hle, -, rfl, rfl⟩
                    refine xo_st ((b13, BK 28 (mv (kPA 1 3 (kS [2])) ((cend_F fb13a ((clost_F fb13 ((IntKind.i64.wrap now1) + (IntKind.i64.wrap by2)) (if 0 < ((IntKind.i64.wrap span3) - (IntKind.i64.wrap less4)) then ((IntKind.i64.wrap span3) - (IntKind.i64.wrap less4)) else 0))[i21.toNat]!)).2)) 61) :: (Bs19 ++ ([]))) (fun _ h => h) ?_
                    refine xq rfl trivial (o_neE Try.underlying27 rfl (fun _ => rfl) rfl rfl) ?_
                    refine xo_nil (xq_then ?_)
                    refine xw_bool 124 rfl (fun hc41 => ?_) (fun hc41 => ?_)
                    · have hq41 : (decide ((cend_F fb13a ((clost_F fb13 ((IntKind.i64.wrap now1) + (IntKind.i64.wrap by2)) (if 0 < ((IntKind.i64.wrap span3) - (IntKind.i64.wrap less4)) then ((IntKind.i64.wrap span3) - (IntKind.i64.wrap less4)) else 0))[i21.toNat]!)).1 = 0)) = false := (bnT hc41)
                      have hp41 : ¬ ((cend_F fb13a ((clost_F fb13 ((IntKind.i64.wrap now1) + (IntKind.i64.wrap by2)) (if 0 < ((IntKind.i64.wrap span3) - (IntKind.i64.wrap less4)) then ((IntKind.i64.wrap span3) - (IntKind.i64.wrap less4)) else 0))[i21.toNat]!)).1 = 0) := of_decide_eq_false hq41
                      rw [if_neg hp41] at h
                      refine xw_cond_t rfl rfl (xw_seq (xw_region ?_))
                      refine xq rfl trivial (o_as rfl) ?_
                      refine xo_nil (xq_then (xw_ret (xq_blk_ret (xq_then_ret ?_))))
                      exact xq_out (r := (.inr ((cend_F fb13a ((clost_F fb13 ((IntKind.i64.wrap now1) + (IntKind.i64.wrap by2)) (if 0 < ((IntKind.i64.wrap span3) - (IntKind.i64.wrap less4)) then ((IntKind.i64.wrap span3) - (IntKind.i64.wrap less4)) else 0))[i21.toNat]!)).2) : ((Nat → Int)) ⊕ ((Nat → Int)))) (e' := [(10, .bool false)]) ((b13, BK 28 (mv (kPA 1 3 (kS [2])) ((cend_F fb13a ((clost_F fb13 ((IntKind.i64.wrap now1) + (IntKind.i64.wrap by2)) (if 0 < ((IntKind.i64.wrap span3) - (IntKind.i64.wrap less4)) then ((IntKind.i64.wrap span3) - (IntKind.i64.wrap less4)) else 0))[i21.toNat]!)).2)) 61) :: (Bs19 ++ ([]))) (lc rfl ln) (fun _ h => h) h (by intro hh; cases hh) ⟨rfl, rfl, rfl⟩
                    · have hq41 : (decide ((cend_F fb13a ((clost_F fb13 ((IntKind.i64.wrap now1) + (IntKind.i64.wrap by2)) (if 0 < ((IntKind.i64.wrap span3) - (IntKind.i64.wrap less4)) then ((IntKind.i64.wrap span3) - (IntKind.i64.wrap less4)) else 0))[i21.toNat]!)).1 = 0)) = true := (bnF hc41)
                      have hp41 : (cend_F fb13a ((clost_F fb13 ((IntKind.i64.wrap now1) + (IntKind.i64.wrap by2)) (if 0 < ((IntKind.i64.wrap span3) - (IntKind.i64.wrap less4)) then ((IntKind.i64.wrap span3) - (IntKind.i64.wrap less4)) else 0))[i21.toNat]!)).1 = 0 := of_decide_eq_true hq41
                      rw [if_pos hp41] at h
                      refine xw_cond_f rfl rfl (xw_skip ?_)
                      refine xq_blk 7 ?_
                      refine xq_then (xw_region ?_)
                      refine xq rfl trivial (o_mv rfl) ?_
                      obtain ⟨ho42, h⟩ := h
                      refine xq rfl trivial (o_add rfl rfl rfl ho42) ?_
                      refine xq rfl trivial (o_as rfl) ?_
                      refine xo_nil ?_
                      exact xq_next (s' := ((i21 + 1, (cend_F fb13a ((clost_F fb13 ((IntKind.i64.wrap now1) + (IntKind.i64.wrap by2)) (if 0 < ((IntKind.i64.wrap span3) - (IntKind.i64.wrap less4)) then ((IntKind.i64.wrap span3) - (IntKind.i64.wrap less4)) else 0))[i21.toNat]!)).2) : Int × (Nat → Int))) (e' := [(1, .int .u16 now1), (2, .int .u16 by2), (3, .int .u8 span3), (4, .int .u8 less4), (11, .pointer (some ⟨b13, 0, none⟩)), (15, vs19), (21, .int .i64 (i21 + 1))]) ((b13, BK 28 (mv (kPA 1 3 (kS [2])) ((cend_F fb13a ((clost_F fb13 ((IntKind.i64.wrap now1) + (IntKind.i64.wrap by2)) (if 0 < ((IntKind.i64.wrap span3) - (IntKind.i64.wrap less4)) then ((IntKind.i64.wrap span3) - (IntKind.i64.wrap less4)) else 0))[i21.toNat]!)).2)) 61) :: (Bs19 ++ ([]))) (lc rfl (lc rfl (lc rfl (lc rfl (lc rfl (lc rfl (lc rfl ln))))))) (fun _ h => h) h ⟨rfl, rfl⟩
                  · have hq36 : (decide (i21 < ((clost_F fb13 ((IntKind.i64.wrap now1) + (IntKind.i64.wrap by2)) (if 0 < ((IntKind.i64.wrap span3) - (IntKind.i64.wrap less4)) then ((IntKind.i64.wrap span3) - (IntKind.i64.wrap less4)) else 0)).length : Int))) = false := hc36
                    have hp36 : ¬ (i21 < ((clost_F fb13 ((IntKind.i64.wrap now1) + (IntKind.i64.wrap by2)) (if 0 < ((IntKind.i64.wrap span3) - (IntKind.i64.wrap less4)) then ((IntKind.i64.wrap span3) - (IntKind.i64.wrap less4)) else 0)).length : Int)) := of_decide_eq_false hq36
                    rw [if_neg hp36] at h
                    refine xw_cond_f rfl rfl (xw_exit (xq_then_exit ?_))
                    exact xq_out (r := (.inl fb13a : ((Nat → Int)) ⊕ ((Nat → Int)))) (e' := [(1, .int .u16 now1), (2, .int .u16 by2), (3, .int .u8 span3), (4, .int .u8 less4), (11, .pointer (some ⟨b13, 0, none⟩))]) ((b13, BK 28 (mv (kPA 1 3 (kS [2])) fb13a) 61) :: (Bs19 ++ ([]))) (lc rfl (lc rfl (lc rfl (lc rfl (lc rfl ln))))) (fun _ h => h) h (by intro hh; cases hh) ⟨rfl, rfl, rfl⟩
                · rcases x4 with fb13a | fb13a
                  · rintro _ _ _ ⟨rfl, rfl, rfl⟩
                    replace h : later16_k4a now1 by2 span3 less4 fb13a r := h
                    unfold later16_k4a at h
                    refine xq_blk_eq ?_
                    refine xq_then (xw_seq (xw_region ?_))
                    refine xq rfl trivial (o_mv rfl) ?_
                    refine xq rfl trivial (o_mv rfl) ?_
                    refine xq rfl trivial (o_conv rfl Try.underlying23 Try.underlying3) ?_
                    refine xq rfl trivial (o_mv rfl) ?_
                    refine xq rfl trivial (o_conv rfl Try.underlying23 Try.underlying3) ?_
                    obtain ⟨ho43, h⟩ := h
                    refine xq rfl trivial (o_add rfl rfl rfl ho43) ?_
                    refine xq rfl trivial (o_mv rfl) ?_
                    refine xq rfl trivial (o_conv rfl Try.underlying5 Try.underlying3) ?_
                    refine xq rfl trivial (o_mv rfl) ?_
                    refine xq rfl trivial (o_conv rfl Try.underlying5 Try.underlying3) ?_
                    obtain ⟨ho44, h⟩ := h
                    refine xq rfl trivial (o_sub rfl rfl rfl ho44) ?_
                    refine xq rfl trivial (o_max2 rfl) ?_
                    obtain ⟨ho45, h⟩ := h
                    refine xo rfl trivial (OT.st (fun _ h => h) (ot_callF (Cs := [[(b13, _)]]) (Rs := [Bs19]) kf9 rfl (fun w1 hw1 => clost_c _ _ _ _ w1 (St.hasC hw1) ho45) (fun _ _ _ h => h.1))) ?_
                    rintro vs48 _ ⟨w1, _, rfl, hle, -, _, Bs48, rfl, rfl, hJs48, hcBs48⟩
                    replace hcBs48 := Cov.base (w0 := w) hcBs48 hle
                    refine xo_st ((b13, BK 28 (mv (kPA 1 3 (kS [2])) fb13a) 61) :: (Bs48 ++ (Bs19 ++ ([])))) (fun _ h => h) ?_
                    refine xq rfl trivial (o_lenL rfl Try.underlying33 rfl (OJ.val hJs48)) ?_
                    refine xq rfl trivial (o_eql rfl rfl) ?_
                    refine xq rfl trivial (o_as rfl) ?_
                    refine xo_nil (xq_then (xw_ret ?_))
                    subst h
                    exact con_ret1 (.inl rfl) Try.results3 rfl [] (Kp.st (Kp.new hb13 (Kp.segNew (Cov.fresh hcBs48) (Kp.segNew (Cov.fresh hcBs19) Kp.nil)))) (⟨rfl, rfl⟩)
                  rintro _ _ _ ⟨rfl, rfl, rfl⟩
                  replace h : later16_k4b fb13a r := h
                  unfold later16_k4b at h
                  refine xq_blk_ret (xq_then_ret ?_)
                  subst h
                  exact con_ret1 (.inl rfl) Try.results3 rfl [] (Kp.st (Kp.new hb13 (Kp.segNew (Cov.fresh hcBs19) Kp.nil))) (⟨rfl, rfl⟩)
              cases x2
              rintro _ _ _ ⟨rfl, rfl, rfl⟩
              replace h : later16_k2b r := h
              unfold later16_k2b at h
              refine xq_blk_ret (xq_then_ret ?_)
              subst h
              exact con_ret1 (.inl rfl) Try.results3 rfl [] (Kp.st (Kp.new hb13 (Kp.segNew (Cov.fresh hcBs19) (Kp.segNew (Cov.fresh hcBs13) Kp.nil)))) (⟨rfl, rfl⟩)

end Go.Proofs.Yteomcjiiiilhmaa
