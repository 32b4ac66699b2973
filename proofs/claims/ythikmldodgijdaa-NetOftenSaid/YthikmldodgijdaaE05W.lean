/- The code answers as the relations say. -/
import Derived.Test.YthikmldodgijdaaTab
import Derived.Test.YthikmldodgijdaaE05S
import Derived.Test.YthikmldodgijdaaD05W
set_option maxHeartbeats 1000000
set_option linter.unusedVariables false
set_option linter.unusedSimpArgs false
set_option maxRecDepth 100000
namespace Go.Proofs.Ythikmldodgijdaa
open Go Go.E

theorem acts5_con (limit0 : Int) (l1 : (List (Nat → Int))) (v1 : Value) (w : World) (hs1 : SL w 30 iv v1 l1) (r : Bool) (h : acts5_S limit0 l1 r) : Con Try.prog 4 #[.int .i64 limit0, v1] w (Is (.bool r) []) := by
  unfold acts5_S at h
  refine con_enter (n := 124) [(0, _), (1, _)] Try.func4 rfl Try.ntmps4 rfl (lac rfl (lac rfl lan)) ?_
  refine xw_seq (xw_region ?_)
  refine xq rfl trivial (o_as rfl) ?_
  refine xo_nil (xq_then (xw_seq (xw_seq (xw_region ?_))))
  obtain ⟨ho1, h⟩ := h
  refine xcallq rfl trivial kf8 rfl (fun w1 hw1 => alive05_c w1 ho1) ?_
  refine xq rfl trivial (o_not rfl) ?_
  refine xo_nil (xq_then ?_)
  refine xw_bool 15 rfl (fun hc2 => ?_) (fun hc2 => ?_)
  · have hq2 : (alive05_F) = false := (bnT hc2)
    have hp2 : ¬ ((alive05_F) = true) := bne' hq2
    rw [if_neg hp2] at h
    refine xw_cond_t rfl rfl (xw_seq (xw_region ?_))
    refine xq rfl trivial (o_as rfl) ?_
    refine xo_nil (xq_then (xw_ret (xq_then_ret ?_)))
    subst h
    exact con_ret1 (.inl rfl) Try.results4 rfl [] (fun _ h => h) (⟨rfl, rfl⟩)
  · have hq2 : (alive05_F) = true := (bnF hc2)
    have hp2 : (alive05_F) = true := hq2
    rw [if_pos hp2] at h
    refine xw_cond_f rfl rfl (xw_skip (xq_then (xw_seq (xw_seq (xw_region ?_)))))
    refine xq rfl trivial (o_mv rfl) ?_
    refine xq rfl trivial (o_lenL rfl Try.underlying22 rfl (SL.val hs1)) ?_
    refine xq rfl trivial (o_gtr rfl rfl) ?_
    refine xo_nil (xq_then ?_)
    refine xw_bool 18 rfl (fun hc3 => ?_) (fun hc3 => ?_)
    · have hq3 : (decide (200 < (l1.length : Int))) = true := hc3
      have hp3 : 200 < (l1.length : Int) := of_decide_eq_true hq3
      rw [if_pos hp3] at h
      refine xw_cond_t rfl rfl (xw_seq (xw_region ?_))
      refine xq rfl trivial (o_as rfl) ?_
      refine xo_nil (xq_then (xw_ret (xq_then_ret ?_)))
      subst h
      exact con_ret1 (.inl rfl) Try.results4 rfl [] (fun _ h => h) (⟨rfl, rfl⟩)
    · have hq3 : (decide (200 < (l1.length : Int))) = false := hc3
      have hp3 : ¬ (200 < (l1.length : Int)) := of_decide_eq_false hq3
      rw [if_neg hp3] at h
      refine xw_cond_f rfl rfl (xw_skip (xq_then (xw_seq (xw_region ?_))))
      refine xq rfl trivial (o_mv rfl) ?_
      refine xoR rfl trivial (ot_in (l := [(0, _)]) kf9 rfl Try.func9 rfl Try.ntmps9 rfl (lac rfl lan) ?_)
      refine xw_seq (xw_region ?_)
      refine xq rfl trivial (o_as rfl) ?_
      refine xq rfl trivial (o_as rfl) ?_
      refine xo_nil (xq_then (xw_seq (xw_seq ?_)))
      refine xw_cut [(0, _)] (lc rfl ln) [(9, .bool ((decide (limit0 < 1)) || (decide (65536 < limit0))))] ?_ ?_
      · refine xw_region ?_
        refine xq rfl trivial (o_mv rfl) ?_
        refine xq rfl trivial (o_lss rfl rfl) ?_
        refine xq rfl trivial (o_mv rfl) ?_
        refine xo_bool 6 rfl (fun hg4 => ?_) (fun hg4 => ?_)
        · have hq4 : (decide (limit0 < 1)) = true := hg4
          have hp4 : limit0 < 1 := of_decide_eq_true hq4
          refine xs rfl ⟨_, _, rfl, rfl, rfl⟩ (xs rfl ⟨_, _, rfl, rfl, rfl⟩ ?_)
          refine xq rfl trivial (o_pick_t rfl rfl) ?_
          refine xo_nil ?_
          exact xq_cut ((lce rfl (by first | rfl | (simp only [hq2, hq3, hq4, if_pos hp2, if_neg hp3, if_pos hp4, bS]; done) | (simp [hp2, hp3, hp4]; done) | (simp_all; done)) (lc rfl ln))) (fun _ h => h)
        · have hq4 : (decide (limit0 < 1)) = false := hg4
          have hp4 : ¬ (limit0 < 1) := of_decide_eq_false hq4
          refine xq rfl ⟨_, rfl, rfl⟩ (o_mv rfl) ?_
          refine xq rfl ⟨_, rfl, rfl⟩ (o_gtr rfl rfl) ?_
          refine xq rfl trivial (o_pick_f rfl rfl) ?_
          refine xo_nil ?_
          exact xq_cut ((lce rfl (by first | rfl | (simp only [hq2, hq3, hq4, if_pos hp2, if_neg hp3, if_neg hp4, bS]; done) | (simp [hp2, hp3, hp4]; done) | (simp_all; done)) (lc rfl ln))) (fun _ h => h)
      · refine xq_then ?_
        refine xw_bool 9 rfl (fun hc5 => ?_) (fun hc5 => ?_)
        · have hq5 : ((decide (limit0 < 1)) || (decide (65536 < limit0))) = true := hc5
          have hp5 : ((decide (limit0 < 1)) || (decide (65536 < limit0))) = true := hq5
          rw [if_pos hp5] at h
          refine xw_cond_t rfl rfl (xw_seq (xw_region ?_))
          refine xq rfl trivial (o_mki rfl Try.underlying62 rfl) ?_
          refine xq rfl trivial (o_as rfl) ?_
          refine xq rfl trivial (o_as rfl) ?_
          refine xo_nil (xq_then (xw_ret (xq_then_ret ?_)))
          refine con_ret2 (.inl rfl) Try.results9 rfl rfl _ (fun _ h => h) (?_)
          refine xq rfl trivial (o_mv rfl) ?_
          refine xq rfl trivial (o_ext rfl rfl) ?_
          refine xq rfl trivial (o_ext rfl rfl) ?_
          refine xq rfl trivial (o_as rfl) ?_
          refine xq rfl trivial (o_as rfl) ?_
          refine xo_nil (xq_then (xw_seq (xw_seq ?_)))
          refine xw_cut [(0, _), (1, _), (5, _), (6, _)] (lc rfl (lc rfl (lc rfl (lc rfl ln)))) [(29, .bool ((decide (limit0 < 1)) || (decide (65536 < limit0))))] ?_ ?_
          · refine xw_region ?_
            refine xq rfl trivial (o_mv rfl) ?_
            refine xq rfl trivial (o_lss rfl rfl) ?_
            refine xq rfl trivial (o_mv rfl) ?_
            refine xo_bool 26 rfl (fun hg6 => ?_) (fun hg6 => ?_)
            · have hq6 : (decide (limit0 < 1)) = true := hg6
              have hp6 : limit0 < 1 := of_decide_eq_true hq6
              refine xs rfl ⟨_, _, rfl, rfl, rfl⟩ (xs rfl ⟨_, _, rfl, rfl, rfl⟩ ?_)
              refine xq rfl trivial (o_pick_t rfl rfl) ?_
              refine xo_nil ?_
              exact xq_cut ((lce rfl (by first | rfl | (simp only [hq2, hq3, hq5, hq6, if_pos hp2, if_neg hp3, if_pos hp5, if_pos hp6, bS]; done) | (simp [hp2, hp3, hp5, hp6]; done) | (simp_all; done)) (lc rfl (lc rfl (lc rfl (lc rfl ln)))))) (fun _ h => h)
            · have hq6 : (decide (limit0 < 1)) = false := hg6
              have hp6 : ¬ (limit0 < 1) := of_decide_eq_false hq6
              refine xq rfl ⟨_, rfl, rfl⟩ (o_mv rfl) ?_
              refine xq rfl ⟨_, rfl, rfl⟩ (o_gtr rfl rfl) ?_
              refine xq rfl trivial (o_pick_f rfl rfl) ?_
              refine xo_nil ?_
              exact xq_cut ((lce rfl (by first | rfl | (simp only [hq2, hq3, hq5, hq6, if_pos hp2, if_neg hp3, if_pos hp5, if_neg hp6, bS]; done) | (simp [hp2, hp3, hp5, hp6]; done) | (simp_all; done)) (lc rfl (lc rfl (lc rfl (lc rfl ln)))))) (fun _ h => h)
          · refine xq_then ?_
            refine xw_cond_t rfl (by simpa using hp5) ?_
            refine xw_seq ?_
            refine xw_cut [] ln [(4, .bool (decide ((code_F 2) = 2)))] ?_ ?_
            · refine xw_region ?_
              refine xq rfl trivial (o_mv rfl) ?_
              refine xq rfl trivial (o_eqn Try.underlying24 rfl rfl rfl rfl) ?_
              refine xq rfl trivial (o_mv rfl) ?_
              refine xq rfl ⟨_, rfl, rfl⟩ (o_mv rfl) ?_
              refine xcallq rfl ⟨_, rfl, rfl⟩ kf12 rfl (fun w1 hw1 => code_c 2 w1) ?_
              refine xq rfl ⟨_, rfl, rfl⟩ (o_eql rfl rfl) ?_
              refine xq rfl trivial (o_pick_t rfl rfl) ?_
              refine xq rfl trivial (o_as rfl) ?_
              refine xo_nil ?_
              exact xq_cut ((lce rfl (by first | rfl | (simp only [hq2, hq3, hq5, if_pos hp2, if_neg hp3, if_pos hp5, bS]; done) | (simp [hp2, hp3, hp5]; done) | (simp_all; done)) ln)) (fun _ h => h)
            · refine xq_then (xw_ret (xq_then_ret ?_))
              subst h
              exact con_ret1 (.inl rfl) Try.results4 rfl [] (fun _ h => h) (⟨rfl, rfl⟩)
        · have hq5 : ((decide (limit0 < 1)) || (decide (65536 < limit0))) = false := hc5
          have hp5 : ¬ (((decide (limit0 < 1)) || (decide (65536 < limit0))) = true) := bne' hq5
          rw [if_neg hp5] at h
          refine xw_cond_f rfl rfl (xw_skip (xq_then (xw_seq (xw_region ?_))))
          refine xq rfl trivial (o_mv rfl) ?_
          refine xq rfl trivial (o_buildC [.int .i64 limit0, .slice none 0 0] fk64 ze64 (.one fl64_0 rfl rfl rfl (.nil _)) (fun i hi => match i, hi with | 0, _ => rfl | 1, _ => rfl | q + 2, h => absurd h (by omega))) ?_
          refine xo rfl trivial (o_boxC [.int .i64 limit0, .slice none 0 0] rfl (fun i hi => match i, hi with | 0, _ => rfl | 1, _ => rfl | q + 2, h => absurd h (by omega))) ?_
          rintro _ _ ⟨b13, hb13, rfl, rfl⟩
          refine xq rfl trivial (o_as rfl) ?_
          refine xq rfl trivial (o_as rfl) ?_
          refine xo_nil (xq_then (xw_ret ?_))
          refine con_ret2 (.inl rfl) Try.results9 rfl rfl _ (fun _ h => h) (?_)
          refine xq rfl trivial (o_mv rfl) ?_
          refine xq rfl trivial (o_ext rfl rfl) ?_
          refine xq rfl trivial (o_ext rfl rfl) ?_
          refine xq rfl trivial (o_as rfl) ?_
          refine xq rfl trivial (o_as rfl) ?_
          refine xo_nil (xq_then (xw_seq (xw_seq ?_)))
          refine xw_cut [(0, _), (1, _), (5, _), (6, _)] (lc rfl (lc rfl (lc rfl (lc rfl ln)))) [(29, .bool ((decide (limit0 < 1)) || (decide (65536 < limit0))))] ?_ ?_
          · refine xw_region ?_
            refine xq rfl trivial (o_mv rfl) ?_
            refine xq rfl trivial (o_lss rfl rfl) ?_
            refine xq rfl trivial (o_mv rfl) ?_
            refine xo_bool 26 rfl (fun hg7 => ?_) (fun hg7 => ?_)
            · have hq7 : (decide (limit0 < 1)) = true := hg7
              have hp7 : limit0 < 1 := of_decide_eq_true hq7
              refine xs rfl ⟨_, _, rfl, rfl, rfl⟩ (xs rfl ⟨_, _, rfl, rfl, rfl⟩ ?_)
              refine xq rfl trivial (o_pick_t rfl rfl) ?_
              refine xo_nil ?_
              exact xq_cut ((lce rfl (by first | rfl | (simp only [hq2, hq3, hq5, hq7, if_pos hp2, if_neg hp3, if_neg hp5, if_pos hp7, bS]; done) | (simp [hp2, hp3, hp5, hp7]; done) | (simp_all; done)) (lc rfl (lc rfl (lc rfl (lc rfl ln)))))) (fun _ h => h)
            · have hq7 : (decide (limit0 < 1)) = false := hg7
              have hp7 : ¬ (limit0 < 1) := of_decide_eq_false hq7
              refine xq rfl ⟨_, rfl, rfl⟩ (o_mv rfl) ?_
              refine xq rfl ⟨_, rfl, rfl⟩ (o_gtr rfl rfl) ?_
              refine xq rfl trivial (o_pick_f rfl rfl) ?_
              refine xo_nil ?_
              exact xq_cut ((lce rfl (by first | rfl | (simp only [hq2, hq3, hq5, hq7, if_pos hp2, if_neg hp3, if_neg hp5, if_neg hp7, bS]; done) | (simp [hp2, hp3, hp5, hp7]; done) | (simp_all; done)) (lc rfl (lc rfl (lc rfl (lc rfl ln)))))) (fun _ h => h)
          · refine xq_then ?_
            refine xw_cond_f rfl (by simpa using hp5) ?_
            refine xw_skip (xq_then (xw_seq (xw_seq ?_)))
            refine xw_cut [(0, _), (1, _), (5, _)] (lc rfl (lc rfl (lc rfl ln))) [(42, .bool false)] ?_ ?_
            · refine xw_region ?_
              refine xq rfl trivial (o_mv rfl) ?_
              refine xq rfl trivial (o_eqn Try.underlying24 rfl rfl rfl rfl) ?_
              refine xq rfl trivial (o_mv rfl) ?_
              refine xq rfl ⟨_, rfl, rfl⟩ (o_mv rfl) ?_
              refine xq rfl ⟨_, rfl, rfl⟩ (o_nen Try.underlying26 rfl rfl rfl rfl) ?_
              refine xq rfl trivial (o_pick_f rfl rfl) ?_
              refine xo_nil ?_
              exact xq_cut ((lce rfl (by first | rfl | (simp only [hq2, hq3, hq5, if_pos hp2, if_neg hp3, if_neg hp5, bS]; done) | (simp [hp2, hp3, hp5]; done) | (simp_all; done)) (lc rfl (lc rfl (lc rfl ln))))) (fun _ h => h)
            · refine xq_then (xw_cond_f rfl rfl (xw_skip (xq_then (xw_seq (xw_region ?_)))))
              refine xq rfl trivial (o_mv rfl) ?_
              refine xq rfl trivial (o_buildC [.int .i64 limit0, .slice none 0 0] fk48 ze48 (.one fl48_0 rfl rfl rfl (.nil _)) (fun i hi => match i, hi with | 0, _ => rfl | 1, _ => rfl | q + 2, h => absurd h (by omega))) ?_
              refine xo rfl trivial (o_boxC [.int .i64 limit0, .slice none 0 0] rfl (fun i hi => match i, hi with | 0, _ => rfl | 1, _ => rfl | q + 2, h => absurd h (by omega))) ?_
              rintro _ _ ⟨b45, hb45, rfl, rfl⟩
              refine xq rfl trivial (o_as rfl) ?_
              refine xo_nil (xq_then (xw_seq (xw_seq (xw_region ?_))))
              refine xq rfl trivial (o_as rfl) ?_
              refine xo_nil (xq_then ?_)
              refine xw_block ?_
              obtain ⟨x1, hx1, h⟩ := h
              refine xw_wh (fun s e H => match s with | (i8, fb13_1, fb45_1) => ∃ (vb45_1_1 : Value) (vb13_1_1 : Value) (Bb13_1_1 : GH) (Bb45_1_1 : GH), e = [(1, v1), (5, .pointer (some ⟨b13, 0, none⟩)), (7, .pointer (some ⟨b45, 0, none⟩)), (8, .int .i64 i8)] ∧ H = Bb45_1_1 ++ (Bb13_1_1 ++ ((b45, BK 2 (cl [.int .i64 limit0, vb45_1_1]) 48) :: ((b13, BK 2 (cl [.int .i64 limit0, vb13_1_1]) 64) :: ([])))) ∧ OJ 39 28 iv Bb13_1_1 vb13_1_1 fb13_1 ∧ OJ 39 28 iv Bb45_1_1 vb45_1_1 fb45_1 ∧ Cov w [] Bb13_1_1 ∧ Cov w [] Bb45_1_1) (fun x ex e H => match x with | .inl (fb45_1, fb13_1) => ∃ (vb13_1_1o : Value) (vb45_1_1o : Value) (Bb13_1_1o : GH) (Bb45_1_1o : GH), ex = .exit 0 ∧ e = [(5, .pointer (some ⟨b13, 0, none⟩)), (7, .pointer (some ⟨b45, 0, none⟩))] ∧ H = Bb45_1_1o ++ (Bb13_1_1o ++ ((b45, BK 2 (cl [.int .i64 limit0, vb45_1_1o]) 48) :: ((b13, BK 2 (cl [.int .i64 limit0, vb13_1_1o]) 64) :: ([])))) ∧ OJ 39 28 iv Bb45_1_1o vb45_1_1o fb45_1 ∧ OJ 39 28 iv Bb13_1_1o vb13_1_1o fb13_1 ∧ Cov w [] Bb13_1_1o ∧ Cov w [] Bb45_1_1o | .inr (fb45_1, fb13_1) => ∃ (vb13_1_1o : Value) (vb45_1_1o : Value) (Bb13_1_1o : GH) (Bb45_1_1o : GH), ex = .ret ∧ e = [(4, .bool false)] ∧ H = Bb45_1_1o ++ (Bb13_1_1o ++ ((b45, BK 2 (cl [.int .i64 limit0, vb45_1_1o]) 48) :: ((b13, BK 2 (cl [.int .i64 limit0, vb13_1_1o]) 64) :: ([])))) ∧ OJ 39 28 iv Bb45_1_1o vb45_1_1o fb45_1 ∧ OJ 39 28 iv Bb13_1_1o vb13_1_1o fb13_1 ∧ Cov w [] Bb13_1_1o ∧ Cov w [] Bb45_1_1o) hx1 ⟨[(1, v1), (5, .pointer (some ⟨b13, 0, none⟩)), (7, .pointer (some ⟨b45, 0, none⟩)), (8, .int .i64 0)], [] ++ ([] ++ ((b45, BK 2 (cl [.int .i64 limit0, .slice none 0 0]) 48) :: ((b13, BK 2 (cl [.int .i64 limit0, .slice none 0 0]) 64) :: ([])))), (lc rfl (lc rfl (lc rfl (lc rfl ln)))), fun _ h => h, ⟨_, _, [], [], rfl, rfl, OJ.nil, OJ.nil, (Cov.refl _), (Cov.refl _)⟩⟩ ?_ ?_
              · rintro ⟨i8, fb13_1, fb45_1⟩ o _ _ ⟨vb45_1_1, vb13_1_1, Bb13_1_1, Bb45_1_1, rfl, rfl, hJb13_1_1, hJb45_1_1, hcBb13_1_1, hcBb45_1_1⟩ hb
                have h : acts5_l1 limit0 l1 i8 fb13_1 fb45_1 o := hb
                clear hb
                unfold acts5_l1 at h
                refine xw_seq (xw_seq (xw_region ?_))
                refine xq rfl trivial (o_mv rfl) ?_
                refine xq rfl trivial (o_mv rfl) ?_
                refine xq rfl trivial (o_lenL rfl Try.underlying22 rfl (SL.val hs1)) ?_
                refine xq rfl trivial (o_lss rfl rfl) ?_
                refine xo_nil (xq_then ?_)
                refine xw_bool 49 rfl (fun hc8 => ?_) (fun hc8 => ?_)
                · have hq8 : (decide (i8 < (l1.length : Int))) = true := hc8
                  have hp8 : i8 < (l1.length : Int) := of_decide_eq_true hq8
                  rw [if_pos hp8] at h
                  refine xw_cond_t rfl rfl (xw_skip (xq_then (xw_seq ?_)))
                  refine xw_block ?_
                  refine xw_seq (xw_region ?_)
                  refine xq rfl trivial (o_mv rfl) ?_
                  refine xq rfl trivial (o_nilp rfl) ?_
                  first | refine xq rfl trivial (o_fa0 fl48_1 rfl) ?_ | refine xq rfl trivial (o_fa fl48_1 rfl) ?_
                  refine xq rfl trivial (o_ld (v := vb45_1_1) rfl ts30 (List.mem_append_right _ (List.mem_append_right _ (List.Mem.head _))) (by decide) rfl) ?_
                  refine xq rfl trivial (o_as rfl) ?_
                  refine xo_nil (xq_then (xw_seq (xw_seq (xw_region ?_))))
                  refine xq rfl trivial (o_mv rfl) ?_
                  refine xq rfl trivial (o_mv rfl) ?_
                  obtain ⟨ho9, h⟩ := h
                  refine xq rfl trivial (o_ixL el22 rfl rfl (fun w hw => (hs1.keep hw (Fr.seg hcBb45_1_1 (Fr.seg hcBb13_1_1 (Fr.cons hb45 (Fr.cons hb13 Fr.nil)))))) rfl ho9) ?_
                  refine xq rfl trivial (o_faL fl43_0 rfl rfl (fun w hw => (hs1.keep hw (Fr.seg hcBb45_1_1 (Fr.seg hcBb13_1_1 (Fr.cons hb45 (Fr.cons hb13 Fr.nil)))))) (toNat_lt ho9)) ?_
                  refine xq rfl trivial (o_ldL1 (off := 0) (u := .int .i64 (l1[i8.toNat]! 0)) rfl ts3 rfl (fun w hw => (hs1.keep hw (Fr.seg hcBb45_1_1 (Fr.seg hcBb13_1_1 (Fr.cons hb45 (Fr.cons hb13 Fr.nil)))))) (toNat_lt ho9) rfl rfl) ?_
                  refine xq rfl trivial (o_eql rfl rfl) ?_
                  refine xo_nil (xq_then ?_)
                  refine xw_bool 61 rfl (fun hc10 => ?_) (fun hc10 => ?_)
                  · have hq10 : (decide (l1[i8.toNat]! 0 = 4)) = true := hc10
                    have hp10 : l1[i8.toNat]! 0 = 4 := of_decide_eq_true hq10
                    rw [if_pos hp10] at h
                    refine xw_cond_t rfl rfl (xw_seq (xw_seq (xw_region ?_)))
                    refine xq rfl trivial (o_mv rfl) ?_
                    obtain ⟨ho11, h⟩ := h
                    refine xo rfl trivial (OT.st (fun _ h => St.permI [3, 1, 0, 2] [Bb45_1_1, Bb13_1_1, [(b45, _)], [(b13, _)]] rfl h) (ot_callF (Cs := [[(b13, _)], Bb13_1_1]) (Rs := [Bb45_1_1, [(b45, _)]]) kf14 rfl (fun w1 hw1 => ntake_c _ _ _ _ _ w1 hJb13_1_1 (St.hasC hw1) ho11) (fun _ _ _ h => h.1))) ?_
                    rintro vs14 _ ⟨w1, _, rfl, hle, -, vg13_0, Bg13_0, _, Bs14, rfl, rfl, hJBg13_0, hpBg13_0, hcBg13_0, hJs14, hcBs14⟩
                    replace hcBg13_0 := Cov.trans hcBb13_1_1 (Cov.base (w0 := w) hcBg13_0 hle)
                    replace hcBs14 := Cov.base (w0 := w) hcBs14 hle
                    refine xo_st ((b13, BK 2 (cl [.int .i64 limit0, vg13_0]) 64) :: (Bg13_0 ++ (Bs14 ++ (Bb45_1_1 ++ ((b45, BK 2 (cl [.int .i64 limit0, vb45_1_1]) 48) :: ([])))))) (fun _ h => h) ?_
                    refine xq rfl trivial (o_mv rfl) ?_
                    obtain ⟨ho15, h⟩ := h
                    refine xcallq rfl trivial kf13 rfl (fun w1 hw1 => msgs_c _ _ _ _ w1 (hJs14.sl hw1 (Pull.sub (.thereC _ (.there _ (.here _ _))))) (hJb45_1_1.sl hw1 (Pull.sub (.thereC _ (.there _ (.there _ (.here _ _)))))) ho15) ?_
                    refine xq rfl trivial (o_not rfl) ?_
                    refine xo_nil (xq_then ?_)
                    refine xw_bool 66 rfl (fun hc16 => ?_) (fun hc16 => ?_)
                    · have hq16 : ((msgs_F ((ntake_F limit0 fb13_1).1) fb45_1)) = false := (bnT hc16)
                      have hp16 : ¬ (((msgs_F ((ntake_F limit0 fb13_1).1) fb45_1)) = true) := bne' hq16
                      rw [if_neg hp16] at h
                      refine xw_cond_t rfl rfl (xw_seq (xw_region ?_))
                      refine xq rfl trivial (o_as rfl) ?_
                      refine xo_nil (xq_then (xw_ret (xq_then_ret (xq_then_ret (xq_blk_ret (xq_then_ret ?_))))))
                      exact xq_out (r := (.inr (fb45_1, (ntake_F limit0 fb13_1).2) : ((List (Nat → Int)) × (List (Nat → Int))) ⊕ ((List (Nat → Int)) × (List (Nat → Int))))) (e' := [(4, .bool false)]) (Bb45_1_1 ++ (Bg13_0 ++ ((b45, BK 2 (cl [.int .i64 limit0, vb45_1_1]) 48) :: ((b13, BK 2 (cl [.int .i64 limit0, vg13_0]) 64) :: ([]))))) (lc rfl ln) (fun _ h => St.permI [2, 1, 3, 0] [[(b13, _)], Bg13_0, Bb45_1_1, [(b45, _)]] rfl (Kp.st (Kp.keep (Kp.segKeep (Kp.segNew (Cov.fresh hcBs14) (Kp.segKeep (Kp.keep Kp.nil))))) _ h)) h (by intro hh; cases hh) ⟨vg13_0, vb45_1_1, Bg13_0, Bb45_1_1, rfl, rfl, rfl, hJb45_1_1, hJBg13_0, hcBg13_0, hcBb45_1_1⟩
                    · have hq16 : ((msgs_F ((ntake_F limit0 fb13_1).1) fb45_1)) = true := (bnF hc16)
                      have hp16 : ((msgs_F ((ntake_F limit0 fb13_1).1) fb45_1)) = true := hq16
                      rw [if_pos hp16] at h
                      refine xw_cond_f rfl rfl (xw_skip (xq_then (xw_seq (xw_region ?_))))
                      refine xq rfl trivial (o_mv rfl) ?_
                      refine xq rfl trivial (o_nilp rfl) ?_
                      first | refine xq rfl trivial (o_fa0 fl48_1 rfl) ?_ | refine xq rfl trivial (o_fa fl48_1 rfl) ?_
                      refine xq0 trivial (o_stC (l' := [.int .i64 limit0, .slice none 0 0]) rfl rfl ts30 rfl (List.Mem.tail _ (List.mem_append_right _ (List.mem_append_right _ (List.mem_append_right _ (List.Mem.head _))))) rfl (by decide) rfl (.there _ _ _ _ _ (Upd.seg (Upd.seg (Upd.seg (.here _ _ _ _)))))) ?_
                      refine xo_nil (xq_then (xw_exit (xq_then_exit ?_)))
                      refine xq_blk_eq ?_
                      refine xq_then (xw_region ?_)
                      refine xq rfl trivial (o_mv rfl) ?_
                      obtain ⟨ho17, h⟩ := h
                      refine xq rfl trivial (o_add rfl rfl rfl ho17) ?_
                      refine xq rfl trivial (o_as rfl) ?_
                      refine xo_nil ?_
                      exact xq_next (s' := ((i8 + 1, (ntake_F limit0 fb13_1).2, []) : Int × (List (Nat → Int)) × (List (Nat → Int)))) (e' := [(1, v1), (5, .pointer (some ⟨b13, 0, none⟩)), (7, .pointer (some ⟨b45, 0, none⟩)), (8, .int .i64 (i8 + 1))]) (Bb45_1_1 ++ (Bg13_0 ++ ((b45, BK 2 (cl [.int .i64 limit0, .slice none 0 0]) 48) :: ((b13, BK 2 (cl [.int .i64 limit0, vg13_0]) 64) :: ([]))))) (lc rfl (lc rfl (lc rfl (lc rfl ln)))) (fun _ h => St.permI [2, 1, 3, 0] [[(b13, _)], Bg13_0, Bb45_1_1, [(b45, _)]] rfl (Kp.st (Kp.keep (Kp.segKeep (Kp.segNew (Cov.fresh hcBs14) (Kp.segKeep (Kp.keep Kp.nil))))) _ h)) h ⟨_, vg13_0, Bg13_0, Bb45_1_1, rfl, rfl, hJBg13_0, OJ.nil, hcBg13_0, hcBb45_1_1⟩
                  · have hq10 : (decide (l1[i8.toNat]! 0 = 4)) = false := hc10
                    have hp10 : ¬ (l1[i8.toNat]! 0 = 4) := of_decide_eq_false hq10
                    rw [if_neg hp10] at h
                    refine xw_cond_f rfl rfl (xw_skip (xq_then (xw_seq (xw_region ?_))))
                    refine xq rfl trivial (o_mv rfl) ?_
                    refine xq rfl trivial (o_mv rfl) ?_
                    refine xq rfl trivial (o_mv rfl) ?_
                    obtain ⟨ho18, h⟩ := h
                    refine xq rfl trivial (o_ixL el22 rfl rfl (fun w hw => (hs1.keep hw (Fr.seg hcBb45_1_1 (Fr.seg hcBb13_1_1 (Fr.cons hb45 (Fr.cons hb13 Fr.nil)))))) rfl ho18) ?_
                    refine xq rfl trivial (o_ldLI rfl ts43 rfl (fun w hw => (hs1.keep hw (Fr.seg hcBb45_1_1 (Fr.seg hcBb13_1_1 (Fr.cons hb45 (Fr.cons hb13 Fr.nil)))))) (toNat_lt ho18) rfl) ?_
                    obtain ⟨ho19, h⟩ := h
                    refine xo rfl trivial (OT.st (fun _ h => St.permI [3, 1, 0, 2] [Bb45_1_1, Bb13_1_1, [(b45, _)], [(b13, _)]] rfl h) (ot_callF (Cs := [[(b13, _)], Bb13_1_1]) (Rs := [Bb45_1_1, [(b45, _)]]) kf11 rfl (fun w1 hw1 => act_c _ _ _ _ _ _ w1 hJb13_1_1 (St.hasC hw1) ho19) (fun _ _ _ h => h.1))) ?_
                    rintro _ _ ⟨w1, _, rfl, hle, -, vg21_0, Bg21_0, rfl, rfl, hJBg21_0, hcBg21_0⟩
                    replace hcBg21_0 := Cov.trans hcBb13_1_1 (Cov.base (w0 := w) hcBg21_0 hle)
                    refine xo_st ((b13, BK 2 (cl [.int .i64 limit0, vg21_0]) 64) :: (Bg21_0 ++ (Bb45_1_1 ++ ((b45, BK 2 (cl [.int .i64 limit0, vb45_1_1]) 48) :: ([]))))) (fun _ h => h) ?_
                    refine xq rfl trivial (o_mv rfl) ?_
                    refine xq rfl trivial (o_ext rfl rfl) ?_
                    refine xq rfl trivial (o_ext rfl rfl) ?_
                    refine xo rfl trivial (o_alloc ze39 rfl) ?_
                    rintro _ _ ⟨b10, hb10, rfl, rfl⟩
                    refine xq0 trivial (o_stWI rfl rfl ts39 (List.Mem.head _) (.here _ _ _ _)) ?_
                    refine xq rfl trivial (o_as rfl) ?_
                    refine xo_nil (xq_then (xw_seq (xw_region ?_)))
                    refine xq rfl trivial (o_mv rfl) ?_
                    refine xq rfl trivial (o_mv rfl) ?_
                    refine xq rfl trivial (o_mv rfl) ?_
                    obtain ⟨ho22, h⟩ := h
                    refine xq rfl trivial (o_ixL el22 rfl rfl (fun w hw => (hs1.keep hw (Fr.cons hb10 (Fr.cons hb13 (Fr.seg hcBg21_0 (Fr.seg hcBb45_1_1 (Fr.cons hb45 Fr.nil))))))) rfl ho22) ?_
                    refine xq rfl trivial (o_ldLI rfl ts43 rfl (fun w hw => (hs1.keep hw (Fr.cons hb10 (Fr.cons hb13 (Fr.seg hcBg21_0 (Fr.seg hcBb45_1_1 (Fr.cons hb45 Fr.nil))))))) (toNat_lt ho22) rfl) ?_
                    obtain ⟨ho23, h⟩ := h
                    refine xo rfl trivial (OT.st (fun _ h => St.permI [4, 3, 0, 1, 2] [[(b10, _)], [(b13, _)], Bg21_0, Bb45_1_1, [(b45, _)]] rfl h) (ot_callF (Cs := [[(b45, _)], Bb45_1_1]) (Rs := [[(b10, _)], [(b13, _)], Bg21_0]) kf15 rfl (fun w1 hw1 => doR_c _ _ _ _ _ _ w1 hJb45_1_1 (St.hasC hw1) ho23) (fun _ _ _ h => h.1))) ?_
                    rintro _ _ ⟨w1, _, rfl, hle, -, vg25_0, Bg25_0, rfl, rfl, hJBg25_0, hpBg25_0, hcBg25_0⟩
                    replace hcBg25_0 := Cov.trans hcBb45_1_1 (Cov.base (w0 := w) hcBg25_0 hle)
                    refine xo_st ((b45, BK 2 (cl [.int .i64 limit0, vg25_0]) 48) :: (Bg25_0 ++ ((b10, BK 28 (iv ((act_F limit0 fb13_1 (l1[i8.toNat]!)).1)) 39) :: ((b13, BK 2 (cl [.int .i64 limit0, vg21_0]) 64) :: (Bg21_0 ++ ([])))))) (fun _ h => h) ?_
                    refine xq rfl trivial (o_mv rfl) ?_
                    refine xq rfl trivial (o_ext rfl rfl) ?_
                    refine xq rfl trivial (o_ext rfl rfl) ?_
                    refine xo rfl trivial (o_alloc ze39 rfl) ?_
                    rintro _ _ ⟨b12, hb12, rfl, rfl⟩
                    refine xq0 trivial (o_stWI rfl rfl ts39 (List.Mem.head _) (.here _ _ _ _)) ?_
                    refine xq rfl trivial (o_as rfl) ?_
                    refine xo_nil (xq_then (xw_seq ?_))
                    refine xd_start (by kernel_rfl) (by kernel_rfl) (fun hok => ?_)
                    refine xd_b hok 0 [(10, _)] ((b10, BK 28 (iv ((act_F limit0 fb13_1 (l1[i8.toNat]!)).1)) 39) :: ([])) (rsC (List.Mem.tail _ (List.Mem.tail _ (List.mem_append_right _ (List.Mem.head _)))) rsN) rfl rfl rfl (lc rfl ln) (by kernel_rfl) trivial (fun H' hy hK => o_ldW rfl ts39 (hy _ (List.Mem.head _))) ?_
                    refine xd_b hok 1 [(12, _)] ((b12, BK 28 (iv ((doR_F limit0 fb45_1 (l1[i8.toNat]!)).1)) 39) :: ([])) (rsC (List.Mem.head _) rsN) rfl rfl rfl (lc rfl ln) (by kernel_rfl) trivial (fun H' hy hK => o_ldW rfl ts39 (hy _ (List.Mem.head _))) ?_
                    refine xd_b hok 2 [(88, _), (89, _)] ([]) rsN rfl rfl rfl (lc rfl (lc rfl ln)) (by kernel_rfl) trivial (fun H' hy hK => o_neqA eq39 rfl rfl) ?_
                    refine xd_b hok 3 [(90, _)] ([]) rsN rfl rfl rfl (lc rfl ln) (by kernel_rfl) trivial (fun H' hy hK => o_mv rfl) ?_
                    refine xd_bool 91 rfl (fun hg26 => ?_) (fun hg26 => ?_)
                    · have hq26 : ((eqN 28 ((act_F limit0 fb13_1 (l1[i8.toNat]!)).1) ((doR_F limit0 fb45_1 (l1[i8.toNat]!)).1))) = false := (bnT hg26)
                      have hp26 : ¬ (((eqN 28 ((act_F limit0 fb13_1 (l1[i8.toNat]!)).1) ((doR_F limit0 fb45_1 (l1[i8.toNat]!)).1))) = true) := bne' hq26
                      rw [if_neg hp26] at h
                      refine xd_skip hok 4 [(11, _), (91, _)] rfl rfl rfl (lc rfl (lc rfl ln)) (by kernel_rfl) ⟨_, _, rfl, rfl, rfl⟩ ?_
                      refine xd_skip hok 5 [(13, _), (91, _)] rfl rfl rfl (lc rfl (lc rfl ln)) (by kernel_rfl) ⟨_, _, rfl, rfl, rfl⟩ ?_
                      refine xd_skip hok 6 [(92, _), (93, _), (91, _)] rfl rfl rfl (lc rfl (lc rfl (lc rfl ln))) (by kernel_rfl) ⟨_, _, rfl, rfl, rfl⟩ ?_
                      refine xd_b hok 7 [(91, _), (94, _)] ([]) rsN rfl rfl rfl (lc rfl (lc rfl ln)) (by kernel_rfl) trivial (fun H' hy hK => o_pick_t rfl rfl) ?_
                      refine xd_b hok 8 [(95, _)] ([]) rsN rfl rfl rfl (lc rfl ln) (by kernel_rfl) trivial (fun H' hy hK => o_mv rfl) ?_
                      refine xd_skip hok 9 [(5, _), (96, _)] rfl rfl rfl (lc rfl (lc rfl ln)) (by kernel_rfl) ⟨_, _, rfl, rfl, rfl⟩ ?_
                      refine xd_skip hok 10 [(97, _), (96, _)] rfl rfl rfl (lc rfl (lc rfl ln)) (by kernel_rfl) ⟨_, _, rfl, rfl, rfl⟩ ?_
                      refine xd_skip hok 11 [(7, _), (96, _)] rfl rfl rfl (lc rfl (lc rfl ln)) (by kernel_rfl) ⟨_, _, rfl, rfl, rfl⟩ ?_
                      refine xd_skip hok 12 [(99, _), (96, _)] rfl rfl rfl (lc rfl (lc rfl ln)) (by kernel_rfl) ⟨_, _, rfl, rfl, rfl⟩ ?_
                      refine xd_skip hok 13 [(100, _), (96, _)] rfl rfl rfl (lc rfl (lc rfl ln)) (by kernel_rfl) ⟨_, _, rfl, rfl, rfl⟩ ?_
                      refine xd_skip hok 14 [(101, _), (96, _)] rfl rfl rfl (lc rfl (lc rfl ln)) (by kernel_rfl) ⟨_, _, rfl, rfl, rfl⟩ ?_
                      refine xd_skip hok 15 [(102, _), (96, _)] rfl rfl rfl (lc rfl (lc rfl ln)) (by kernel_rfl) ⟨_, _, rfl, rfl, rfl⟩ ?_
                      refine xd_skip hok 16 [(98, _), (103, _), (96, _)] rfl rfl rfl (lc rfl (lc rfl (lc rfl ln))) (by kernel_rfl) ⟨_, _, rfl, rfl, rfl⟩ ?_
                      refine xd_b hok 17 [(96, _), (104, _)] ([]) rsN rfl rfl rfl (lc rfl (lc rfl ln)) (by kernel_rfl) trivial (fun H' hy hK => o_pick_t rfl rfl) ?_
                      refine xd_b hok 18 [(105, _)] ([]) rsN rfl rfl rfl (lc rfl ln) (by kernel_rfl) trivial (fun H' hy hK => o_mv rfl) ?_
                      refine xd_skip hok 19 [(5, _), (106, _)] rfl rfl rfl (lc rfl (lc rfl ln)) (by kernel_rfl) ⟨_, _, rfl, rfl, rfl⟩ ?_
                      refine xd_skip hok 20 [(107, _), (106, _)] rfl rfl rfl (lc rfl (lc rfl ln)) (by kernel_rfl) ⟨_, _, rfl, rfl, rfl⟩ ?_
                      refine xd_skip hok 21 [(7, _), (106, _)] rfl rfl rfl (lc rfl (lc rfl ln)) (by kernel_rfl) ⟨_, _, rfl, rfl, rfl⟩ ?_
                      refine xd_skip hok 22 [(109, _), (106, _)] rfl rfl rfl (lc rfl (lc rfl ln)) (by kernel_rfl) ⟨_, _, rfl, rfl, rfl⟩ ?_
                      refine xd_skip hok 23 [(110, _), (106, _)] rfl rfl rfl (lc rfl (lc rfl ln)) (by kernel_rfl) ⟨_, _, rfl, rfl, rfl⟩ ?_
                      refine xd_skip hok 24 [(111, _), (106, _)] rfl rfl rfl (lc rfl (lc rfl ln)) (by kernel_rfl) ⟨_, _, rfl, rfl, rfl⟩ ?_
                      refine xd_skip hok 25 [(108, _), (112, _), (106, _)] rfl rfl rfl (lc rfl (lc rfl (lc rfl ln))) (by kernel_rfl) ⟨_, _, rfl, rfl, rfl⟩ ?_
                      refine xd_skip hok 26 [(113, _), (106, _)] rfl rfl rfl (lc rfl (lc rfl ln)) (by kernel_rfl) ⟨_, _, rfl, rfl, rfl⟩ ?_
                      refine xd_b hok 27 [(106, _), (114, _)] ([]) rsN rfl rfl rfl (lc rfl (lc rfl ln)) (by kernel_rfl) trivial (fun H' hy hK => o_pick_t rfl rfl) ?_
                      refine xd_end hok (by kernel_rfl) ?_
                      refine xq_then (xw_cond_t rfl rfl (xw_seq (xw_region ?_)))
                      refine xq rfl trivial (o_as rfl) ?_
                      refine xo_nil (xq_then (xw_ret (xq_blk_ret (xq_then_ret ?_))))
                      exact xq_out (r := (.inr ((doR_F limit0 fb45_1 (l1[i8.toNat]!)).2.2, (act_F limit0 fb13_1 (l1[i8.toNat]!)).2.2) : ((List (Nat → Int)) × (List (Nat → Int))) ⊕ ((List (Nat → Int)) × (List (Nat → Int))))) (e' := [(4, .bool false)]) (Bg25_0 ++ (Bg21_0 ++ ((b45, BK 2 (cl [.int .i64 limit0, vg25_0]) 48) :: ((b13, BK 2 (cl [.int .i64 limit0, vg21_0]) 64) :: ([]))))) (lc rfl ln) (fun _ h => St.permI [1, 3, 0, 2] [[(b45, _)], Bg25_0, [(b13, _)], Bg21_0] rfl (Kp.st (Kp.new hb12 (Kp.keep (Kp.segKeep (Kp.new hb10 (Kp.keep (Kp.segKeep Kp.nil)))))) _ h)) h (by intro hh; cases hh) ⟨vg21_0, vg25_0, Bg21_0, Bg25_0, rfl, rfl, rfl, hJBg25_0, hJBg21_0, hcBg21_0, hcBg25_0⟩
                    · have hq26 : ((eqN 28 ((act_F limit0 fb13_1 (l1[i8.toNat]!)).1) ((doR_F limit0 fb45_1 (l1[i8.toNat]!)).1))) = true := (bnF hg26)
                      have hp26 : ((eqN 28 ((act_F limit0 fb13_1 (l1[i8.toNat]!)).1) ((doR_F limit0 fb45_1 (l1[i8.toNat]!)).1))) = true := hq26
                      rw [if_pos hp26] at h
                      refine xd_b hok 4 [(11, _), (91, _)] ([]) rsN rfl rfl rfl (lc rfl (lc rfl ln)) (by kernel_rfl) ⟨_, rfl, rfl⟩ (fun H' hy hK => o_mv rfl) ?_
                      refine xd_b hok 5 [(13, _), (91, _)] ([]) rsN rfl rfl rfl (lc rfl (lc rfl ln)) (by kernel_rfl) ⟨_, rfl, rfl⟩ (fun H' hy hK => o_mv rfl) ?_
                      refine xd_b hok 6 [(92, _), (93, _), (91, _)] ([]) rsN rfl rfl rfl (lc rfl (lc rfl (lc rfl ln))) (by kernel_rfl) ⟨_, rfl, rfl⟩ (fun H' hy hK => o_neq rfl rfl) ?_
                      refine xd_b hok 7 [(91, _), (94, _)] ([]) rsN rfl rfl rfl (lc rfl (lc rfl ln)) (by kernel_rfl) trivial (fun H' hy hK => o_pick_f rfl rfl) ?_
                      refine xd_b hok 8 [(95, _)] ([]) rsN rfl rfl rfl (lc rfl ln) (by kernel_rfl) trivial (fun H' hy hK => o_mv rfl) ?_
                      refine xd_bool 96 rfl (fun hg27 => ?_) (fun hg27 => ?_)
                      · have hq27 : (decide ((act_F limit0 fb13_1 (l1[i8.toNat]!)).2.1 = (doR_F limit0 fb45_1 (l1[i8.toNat]!)).2.1)) = false := (bnT hg27)
                        have hp27 : ¬ ((act_F limit0 fb13_1 (l1[i8.toNat]!)).2.1 = (doR_F limit0 fb45_1 (l1[i8.toNat]!)).2.1) := of_decide_eq_false hq27
                        rw [if_neg hp27] at h
                        refine xd_skip hok 9 [(5, _), (96, _)] rfl rfl rfl (lc rfl (lc rfl ln)) (by kernel_rfl) ⟨_, _, rfl, rfl, rfl⟩ ?_
                        refine xd_skip hok 10 [(97, _), (96, _)] rfl rfl rfl (lc rfl (lc rfl ln)) (by kernel_rfl) ⟨_, _, rfl, rfl, rfl⟩ ?_
                        refine xd_skip hok 11 [(7, _), (96, _)] rfl rfl rfl (lc rfl (lc rfl ln)) (by kernel_rfl) ⟨_, _, rfl, rfl, rfl⟩ ?_
                        refine xd_skip hok 12 [(99, _), (96, _)] rfl rfl rfl (lc rfl (lc rfl ln)) (by kernel_rfl) ⟨_, _, rfl, rfl, rfl⟩ ?_
                        refine xd_skip hok 13 [(100, _), (96, _)] rfl rfl rfl (lc rfl (lc rfl ln)) (by kernel_rfl) ⟨_, _, rfl, rfl, rfl⟩ ?_
                        refine xd_skip hok 14 [(101, _), (96, _)] rfl rfl rfl (lc rfl (lc rfl ln)) (by kernel_rfl) ⟨_, _, rfl, rfl, rfl⟩ ?_
                        refine xd_skip hok 15 [(102, _), (96, _)] rfl rfl rfl (lc rfl (lc rfl ln)) (by kernel_rfl) ⟨_, _, rfl, rfl, rfl⟩ ?_
                        refine xd_skip hok 16 [(98, _), (103, _), (96, _)] rfl rfl rfl (lc rfl (lc rfl (lc rfl ln))) (by kernel_rfl) ⟨_, _, rfl, rfl, rfl⟩ ?_
                        refine xd_b hok 17 [(96, _), (104, _)] ([]) rsN rfl rfl rfl (lc rfl (lc rfl ln)) (by kernel_rfl) trivial (fun H' hy hK => o_pick_t rfl rfl) ?_
                        refine xd_b hok 18 [(105, _)] ([]) rsN rfl rfl rfl (lc rfl ln) (by kernel_rfl) trivial (fun H' hy hK => o_mv rfl) ?_
                        refine xd_skip hok 19 [(5, _), (106, _)] rfl rfl rfl (lc rfl (lc rfl ln)) (by kernel_rfl) ⟨_, _, rfl, rfl, rfl⟩ ?_
                        refine xd_skip hok 20 [(107, _), (106, _)] rfl rfl rfl (lc rfl (lc rfl ln)) (by kernel_rfl) ⟨_, _, rfl, rfl, rfl⟩ ?_
                        refine xd_skip hok 21 [(7, _), (106, _)] rfl rfl rfl (lc rfl (lc rfl ln)) (by kernel_rfl) ⟨_, _, rfl, rfl, rfl⟩ ?_
                        refine xd_skip hok 22 [(109, _), (106, _)] rfl rfl rfl (lc rfl (lc rfl ln)) (by kernel_rfl) ⟨_, _, rfl, rfl, rfl⟩ ?_
                        refine xd_skip hok 23 [(110, _), (106, _)] rfl rfl rfl (lc rfl (lc rfl ln)) (by kernel_rfl) ⟨_, _, rfl, rfl, rfl⟩ ?_
                        refine xd_skip hok 24 [(111, _), (106, _)] rfl rfl rfl (lc rfl (lc rfl ln)) (by kernel_rfl) ⟨_, _, rfl, rfl, rfl⟩ ?_
                        refine xd_skip hok 25 [(108, _), (112, _), (106, _)] rfl rfl rfl (lc rfl (lc rfl (lc rfl ln))) (by kernel_rfl) ⟨_, _, rfl, rfl, rfl⟩ ?_
                        refine xd_skip hok 26 [(113, _), (106, _)] rfl rfl rfl (lc rfl (lc rfl ln)) (by kernel_rfl) ⟨_, _, rfl, rfl, rfl⟩ ?_
                        refine xd_b hok 27 [(106, _), (114, _)] ([]) rsN rfl rfl rfl (lc rfl (lc rfl ln)) (by kernel_rfl) trivial (fun H' hy hK => o_pick_t rfl rfl) ?_
                        refine xd_end hok (by kernel_rfl) ?_
                        refine xq_then (xw_cond_t rfl rfl (xw_seq (xw_region ?_)))
                        refine xq rfl trivial (o_as rfl) ?_
                        refine xo_nil (xq_then (xw_ret (xq_blk_ret (xq_then_ret ?_))))
                        exact xq_out (r := (.inr ((doR_F limit0 fb45_1 (l1[i8.toNat]!)).2.2, (act_F limit0 fb13_1 (l1[i8.toNat]!)).2.2) : ((List (Nat → Int)) × (List (Nat → Int))) ⊕ ((List (Nat → Int)) × (List (Nat → Int))))) (e' := [(4, .bool false)]) (Bg25_0 ++ (Bg21_0 ++ ((b45, BK 2 (cl [.int .i64 limit0, vg25_0]) 48) :: ((b13, BK 2 (cl [.int .i64 limit0, vg21_0]) 64) :: ([]))))) (lc rfl ln) (fun _ h => St.permI [1, 3, 0, 2] [[(b45, _)], Bg25_0, [(b13, _)], Bg21_0] rfl (Kp.st (Kp.new hb12 (Kp.keep (Kp.segKeep (Kp.new hb10 (Kp.keep (Kp.segKeep Kp.nil)))))) _ h)) h (by intro hh; cases hh) ⟨vg21_0, vg25_0, Bg21_0, Bg25_0, rfl, rfl, rfl, hJBg25_0, hJBg21_0, hcBg21_0, hcBg25_0⟩
                      · have hq27 : (decide ((act_F limit0 fb13_1 (l1[i8.toNat]!)).2.1 = (doR_F limit0 fb45_1 (l1[i8.toNat]!)).2.1)) = true := (bnF hg27)
                        have hp27 : (act_F limit0 fb13_1 (l1[i8.toNat]!)).2.1 = (doR_F limit0 fb45_1 (l1[i8.toNat]!)).2.1 := of_decide_eq_true hq27
                        rw [if_pos hp27] at h
                        refine xd_b hok 9 [(5, _), (96, _)] ([]) rsN rfl rfl rfl (lc rfl (lc rfl ln)) (by kernel_rfl) ⟨_, rfl, rfl⟩ (fun H' hy hK => o_mv rfl) ?_
                        refine xd_b hok 11 [(7, _), (96, _)] ([]) rsN rfl rfl rfl (lc rfl (lc rfl ln)) (by kernel_rfl) ⟨_, rfl, rfl⟩ (fun H' hy hK => o_mv rfl) ?_
                        refine xd_b hok 12 [(99, _), (96, _)] ([]) rsN rfl rfl rfl (lc rfl (lc rfl ln)) (by kernel_rfl) ⟨_, rfl, rfl⟩ (fun H' hy hK => o_nilp rfl) ?_
                        first | refine xd_b hok 13 [(100, _), (96, _)] ([]) rsN rfl rfl rfl (lc rfl (lc rfl ln)) (by kernel_rfl) ⟨_, rfl, rfl⟩ (fun H' hy hK => o_fa0 fl48_1 rfl) ?_ | refine xd_b hok 13 [(100, _), (96, _)] ([]) rsN rfl rfl rfl (lc rfl (lc rfl ln)) (by kernel_rfl) ⟨_, rfl, rfl⟩ (fun H' hy hK => o_fa fl48_1 rfl) ?_
                        refine xd_b hok 14 [(101, _), (96, _)] ((b45, BK 2 (cl [.int .i64 limit0, vg25_0]) 48) :: ([])) (rsC (List.Mem.tail _ (List.Mem.head _)) rsN) rfl rfl rfl (lc rfl (lc rfl ln)) (by kernel_rfl) ⟨_, rfl, rfl⟩ (fun H' hy hK => o_ld (v := vg25_0) rfl ts30 (hy _ (List.Mem.head _)) (by decide) rfl) ?_
                        refine xd_b hok 15 [(102, _), (96, _)] ([]) rsN rfl rfl rfl (lc rfl (lc rfl ln)) (by kernel_rfl) ⟨_, rfl, rfl⟩ (fun H' hy hK => o_lenL rfl Try.underlying30 rfl (OJ.val hJBg25_0)) ?_
                        refine xd_step hok 10 [(97, _), (96, _)] rfl rfl (by kernel_rfl) (lc rfl (lc rfl ln)) (by kernel_rfl) ⟨_, rfl, rfl⟩ (OT.st (fun _ h => St.permI [4, 5, 0, 1, 2, 3] [[(b12, _)], [(b45, _)], Bg25_0, [(b10, _)], [(b13, _)], Bg21_0] rfl h) (ot_callF (Cs := [[(b13, _)], Bg21_0]) (Rs := [[(b12, _)], [(b45, _)], Bg25_0, [(b10, _)]]) kf16 rfl (fun w1 hw1 => nlen_c _ _ _ _ _ w1 hJBg21_0 (St.hasC hw1)) (fun _ _ _ h => h.1))) ?_
                        rintro _ _ ⟨w1, _, rfl, hle, -, rfl, rfl⟩
                        refine xd_sh2 (H' := (b13, BK 2 (cl [.int .i64 limit0, vg21_0]) 64) :: (Bg21_0 ++ ((b12, BK 28 (iv ((doR_F limit0 fb45_1 (l1[i8.toNat]!)).1)) 39) :: ((b45, BK 2 (cl [.int .i64 limit0, vg25_0]) 48) :: (Bg25_0 ++ ((b10, BK 28 (iv ((act_F limit0 fb13_1 (l1[i8.toNat]!)).1)) 39) :: ([]))))))) rfl ?_
                        refine ⟨(rsA rsN (rsA (rsC (List.Mem.tail _ (List.mem_append_right _ (List.Mem.tail _ (List.Mem.head _)))) rsN) (rsA rsN (rsA rsN (rsA rsN (rsA rsN (rsA rsN (rsA rsN (rsA rsN (rsA rsN (rsA rsN (rsA rsN (rsA rsN (rsA (rsC (List.Mem.tail _ (List.mem_append_right _ (List.Mem.head _))) rsN) (rsA (rsC (List.Mem.tail _ (List.mem_append_right _ (List.Mem.tail _ (List.Mem.tail _ (List.mem_append_right _ (List.Mem.head _)))))) rsN) rsN))))))))))))))), (Ks.consK (by simp) (Ks.segK (fun k hk => by simp [hk]) (Ks.consK (by simp) (Ks.consK (by simp) (Ks.segK (fun k hk => by simp [hk]) (Ks.consK (by simp) Ks.nil)))))), ?_⟩
                        refine xd_b hok 16 [(98, _), (103, _), (96, _)] ([]) rsN rfl rfl rfl (lc rfl (lc rfl (lc rfl ln))) (by kernel_rfl) ⟨_, rfl, rfl⟩ (fun H' hy hK => o_neq rfl rfl) ?_
                        refine xd_b hok 17 [(96, _), (104, _)] ([]) rsN rfl rfl rfl (lc rfl (lc rfl ln)) (by kernel_rfl) trivial (fun H' hy hK => o_pick_f rfl rfl) ?_
                        refine xd_b hok 18 [(105, _)] ([]) rsN rfl rfl rfl (lc rfl ln) (by kernel_rfl) trivial (fun H' hy hK => o_mv rfl) ?_
                        refine xd_bool 106 rfl (fun hg30 => ?_) (fun hg30 => ?_)
                        · have hq30 : (decide ((nlen_F limit0 ((act_F limit0 fb13_1 (l1[i8.toNat]!)).2.2)) = (((doR_F limit0 fb45_1 (l1[i8.toNat]!)).2.2).length : Int))) = false := (bnT hg30)
                          have hp30 : ¬ ((nlen_F limit0 ((act_F limit0 fb13_1 (l1[i8.toNat]!)).2.2)) = (((doR_F limit0 fb45_1 (l1[i8.toNat]!)).2.2).length : Int)) := of_decide_eq_false hq30
                          rw [if_neg hp30] at h
                          refine xd_skip hok 19 [(5, _), (106, _)] rfl rfl rfl (lc rfl (lc rfl ln)) (by kernel_rfl) ⟨_, _, rfl, rfl, rfl⟩ ?_
                          refine xd_skip hok 20 [(107, _), (106, _)] rfl rfl rfl (lc rfl (lc rfl ln)) (by kernel_rfl) ⟨_, _, rfl, rfl, rfl⟩ ?_
                          refine xd_skip hok 21 [(7, _), (106, _)] rfl rfl rfl (lc rfl (lc rfl ln)) (by kernel_rfl) ⟨_, _, rfl, rfl, rfl⟩ ?_
                          refine xd_skip hok 22 [(109, _), (106, _)] rfl rfl rfl (lc rfl (lc rfl ln)) (by kernel_rfl) ⟨_, _, rfl, rfl, rfl⟩ ?_
                          refine xd_skip hok 23 [(110, _), (106, _)] rfl rfl rfl (lc rfl (lc rfl ln)) (by kernel_rfl) ⟨_, _, rfl, rfl, rfl⟩ ?_
                          refine xd_skip hok 24 [(111, _), (106, _)] rfl rfl rfl (lc rfl (lc rfl ln)) (by kernel_rfl) ⟨_, _, rfl, rfl, rfl⟩ ?_
                          refine xd_skip hok 25 [(108, _), (112, _), (106, _)] rfl rfl rfl (lc rfl (lc rfl (lc rfl ln))) (by kernel_rfl) ⟨_, _, rfl, rfl, rfl⟩ ?_
                          refine xd_skip hok 26 [(113, _), (106, _)] rfl rfl rfl (lc rfl (lc rfl ln)) (by kernel_rfl) ⟨_, _, rfl, rfl, rfl⟩ ?_
                          refine xd_b hok 27 [(106, _), (114, _)] ([]) rsN rfl rfl rfl (lc rfl (lc rfl ln)) (by kernel_rfl) trivial (fun H' hy hK => o_pick_t rfl rfl) ?_
                          refine xd_end hok (by kernel_rfl) ?_
                          refine xq_then (xw_cond_t rfl rfl (xw_seq (xw_region ?_)))
                          refine xq rfl trivial (o_as rfl) ?_
                          refine xo_nil (xq_then (xw_ret (xq_blk_ret (xq_then_ret ?_))))
                          exact xq_out (r := (.inr ((doR_F limit0 fb45_1 (l1[i8.toNat]!)).2.2, (act_F limit0 fb13_1 (l1[i8.toNat]!)).2.2) : ((List (Nat → Int)) × (List (Nat → Int))) ⊕ ((List (Nat → Int)) × (List (Nat → Int))))) (e' := [(4, .bool false)]) (Bg25_0 ++ (Bg21_0 ++ ((b45, BK 2 (cl [.int .i64 limit0, vg25_0]) 48) :: ((b13, BK 2 (cl [.int .i64 limit0, vg21_0]) 64) :: ([]))))) (lc rfl ln) (fun _ h => St.permI [3, 1, 2, 0] [[(b13, _)], Bg21_0, [(b45, _)], Bg25_0] rfl (Kp.st (Kp.keep (Kp.segKeep (Kp.new hb12 (Kp.keep (Kp.segKeep (Kp.new hb10 Kp.nil)))))) _ h)) h (by intro hh; cases hh) ⟨vg21_0, vg25_0, Bg21_0, Bg25_0, rfl, rfl, rfl, hJBg25_0, hJBg21_0, hcBg21_0, hcBg25_0⟩
                        · have hq30 : (decide ((nlen_F limit0 ((act_F limit0 fb13_1 (l1[i8.toNat]!)).2.2)) = (((doR_F limit0 fb45_1 (l1[i8.toNat]!)).2.2).length : Int))) = true := (bnF hg30)
                          have hp30 : (nlen_F limit0 ((act_F limit0 fb13_1 (l1[i8.toNat]!)).2.2)) = (((doR_F limit0 fb45_1 (l1[i8.toNat]!)).2.2).length : Int) := of_decide_eq_true hq30
                          rw [if_pos hp30] at h
                          refine xd_b hok 19 [(5, _), (106, _)] ([]) rsN rfl rfl rfl (lc rfl (lc rfl ln)) (by kernel_rfl) ⟨_, rfl, rfl⟩ (fun H' hy hK => o_mv rfl) ?_
                          refine xd_b hok 21 [(7, _), (106, _)] ([]) rsN rfl rfl rfl (lc rfl (lc rfl ln)) (by kernel_rfl) ⟨_, rfl, rfl⟩ (fun H' hy hK => o_mv rfl) ?_
                          refine xd_b hok 22 [(109, _), (106, _)] ([]) rsN rfl rfl rfl (lc rfl (lc rfl ln)) (by kernel_rfl) ⟨_, rfl, rfl⟩ (fun H' hy hK => o_nilp rfl) ?_
                          first | refine xd_b hok 23 [(110, _), (106, _)] ([]) rsN rfl rfl rfl (lc rfl (lc rfl ln)) (by kernel_rfl) ⟨_, rfl, rfl⟩ (fun H' hy hK => o_fa0 fl48_1 rfl) ?_ | refine xd_b hok 23 [(110, _), (106, _)] ([]) rsN rfl rfl rfl (lc rfl (lc rfl ln)) (by kernel_rfl) ⟨_, rfl, rfl⟩ (fun H' hy hK => o_fa fl48_1 rfl) ?_
                          refine xd_b hok 24 [(111, _), (106, _)] ((b45, BK 2 (cl [.int .i64 limit0, vg25_0]) 48) :: ([])) (rsC (List.Mem.tail _ (List.mem_append_right _ (List.Mem.tail _ (List.Mem.head _)))) rsN) rfl rfl rfl (lc rfl (lc rfl ln)) (by kernel_rfl) ⟨_, rfl, rfl⟩ (fun H' hy hK => o_ld (v := vg25_0) rfl ts30 (hy _ (List.Mem.head _)) (by decide) rfl) ?_
                          obtain ⟨ho31, h⟩ := h
                          refine xd_step hok 20 [(107, _), (106, _)] rfl rfl (by kernel_rfl) (lc rfl (lc rfl ln)) (by kernel_rfl) ⟨_, rfl, rfl⟩ (OT.st (fun _ h => h) (ot_callF (Cs := [[(b13, _)], Bg21_0]) (Rs := [[(b12, _)], [(b45, _)], Bg25_0, [(b10, _)]]) kf10 rfl (fun w1 hw1 => nall_c _ _ _ _ _ w1 hJBg21_0 (St.hasC hw1) ho31) (fun _ _ _ h => h.1))) ?_
                          rintro vs34 _ ⟨w1, _, rfl, hle, -, _, Bs34, rfl, rfl, hJs34, hcBs34⟩
                          replace hcBs34 := Cov.base (w0 := w) hcBs34 hle
                          refine xd_sh2 (H' := (b13, BK 2 (cl [.int .i64 limit0, vg21_0]) 64) :: (Bg21_0 ++ (Bs34 ++ ((b12, BK 28 (iv ((doR_F limit0 fb45_1 (l1[i8.toNat]!)).1)) 39) :: ((b45, BK 2 (cl [.int .i64 limit0, vg25_0]) 48) :: (Bg25_0 ++ ((b10, BK 28 (iv ((act_F limit0 fb13_1 (l1[i8.toNat]!)).1)) 39) :: ([])))))))) rfl ?_
                          refine ⟨(rsA (rsC (List.Mem.tail _ (List.mem_append_right _ (List.mem_append_right _ (List.Mem.tail _ (List.Mem.head _))))) rsN) (rsA rsN (rsA rsN (rsA rsN (rsA rsN (rsA rsN (rsA rsN (rsA rsN (rsA rsN (rsA (rsC (List.Mem.tail _ (List.mem_append_right _ (List.mem_append_right _ (List.Mem.tail _ (List.Mem.head _))))) rsN) (rsA rsN (rsA rsN (rsA rsN (rsA rsN (rsA rsN (rsA rsN (rsA rsN (rsA rsN (rsA rsN (rsA rsN (rsA rsN (rsA (rsC (List.Mem.tail _ (List.mem_append_right _ (List.mem_append_right _ (List.Mem.head _)))) rsN) (rsA (rsC (List.Mem.tail _ (List.mem_append_right _ (List.mem_append_right _ (List.Mem.tail _ (List.Mem.tail _ (List.mem_append_right _ (List.Mem.head _))))))) rsN) rsN))))))))))))))))))))))), (Ks.consK (by simp) (Ks.segK (fun k hk => by simp [hk]) (Ks.segN hcBs34 (Ks.consK (by simp) (Ks.consK (by simp) (Ks.segK (fun k hk => by simp [hk]) (Ks.consK (by simp) Ks.nil))))))), ?_⟩
                          obtain ⟨ho35, h⟩ := h
                          refine xd_b hok 25 [(108, _), (112, _), (106, _)] (Bs34 ++ (Bg25_0 ++ ([]))) (rsA (Pull.sub (.thereC _ (.there _ (.here _ _)))) (rsA (Pull.sub (.thereC _ (.there _ (.there _ (.thereC _ (.thereC _ (.here _ _))))))) rsN)) rfl rfl rfl (lc rfl (lc rfl (lc rfl ln))) (by kernel_rfl) ⟨_, rfl, rfl⟩ (fun H' hy hK => o_callq kf13 rfl (fun w1 hw1 => msgs_c _ _ _ _ w1 (hJs34.sl hw1 (fun x hx => hy x (Pull.sub (.here _ _) x hx))) (hJBg25_0.sl hw1 (fun x hx => hy x (Pull.sub (.there _ (.here _ _)) x hx))) ho35)) ?_
                          refine xd_b hok 26 [(113, _), (106, _)] ([]) rsN rfl rfl rfl (lc rfl (lc rfl ln)) (by kernel_rfl) ⟨_, rfl, rfl⟩ (fun H' hy hK => o_not rfl) ?_
                          refine xd_b hok 27 [(106, _), (114, _)] ([]) rsN rfl rfl rfl (lc rfl (lc rfl ln)) (by kernel_rfl) trivial (fun H' hy hK => o_pick_f rfl rfl) ?_
                          refine xd_end hok (by kernel_rfl) ?_
                          refine xq_then ?_
                          refine xw_bool 115 rfl (fun hc36 => ?_) (fun hc36 => ?_)
                          · have hq36 : ((msgs_F (nall_F limit0 ((act_F limit0 fb13_1 (l1[i8.toNat]!)).2.2)) ((doR_F limit0 fb45_1 (l1[i8.toNat]!)).2.2))) = false := (bnT hc36)
                            have hp36 : ¬ (((msgs_F (nall_F limit0 ((act_F limit0 fb13_1 (l1[i8.toNat]!)).2.2)) ((doR_F limit0 fb45_1 (l1[i8.toNat]!)).2.2))) = true) := bne' hq36
                            rw [if_neg hp36] at h
                            refine xw_cond_t rfl rfl (xw_seq (xw_region ?_))
                            refine xq rfl trivial (o_as rfl) ?_
                            refine xo_nil (xq_then (xw_ret (xq_blk_ret (xq_then_ret ?_))))
                            exact xq_out (r := (.inr ((doR_F limit0 fb45_1 (l1[i8.toNat]!)).2.2, (act_F limit0 fb13_1 (l1[i8.toNat]!)).2.2) : ((List (Nat → Int)) × (List (Nat → Int))) ⊕ ((List (Nat → Int)) × (List (Nat → Int))))) (e' := [(4, .bool false)]) (Bg25_0 ++ (Bg21_0 ++ ((b45, BK 2 (cl [.int .i64 limit0, vg25_0]) 48) :: ((b13, BK 2 (cl [.int .i64 limit0, vg21_0]) 64) :: ([]))))) (lc rfl ln) (fun _ h => St.permI [3, 1, 2, 0] [[(b13, _)], Bg21_0, [(b45, _)], Bg25_0] rfl (Kp.st (Kp.keep (Kp.segKeep (Kp.segNew (Cov.fresh hcBs34) (Kp.new hb12 (Kp.keep (Kp.segKeep (Kp.new hb10 Kp.nil))))))) _ h)) h (by intro hh; cases hh) ⟨vg21_0, vg25_0, Bg21_0, Bg25_0, rfl, rfl, rfl, hJBg25_0, hJBg21_0, hcBg21_0, hcBg25_0⟩
                          · have hq36 : ((msgs_F (nall_F limit0 ((act_F limit0 fb13_1 (l1[i8.toNat]!)).2.2)) ((doR_F limit0 fb45_1 (l1[i8.toNat]!)).2.2))) = true := (bnF hc36)
                            have hp36 : ((msgs_F (nall_F limit0 ((act_F limit0 fb13_1 (l1[i8.toNat]!)).2.2)) ((doR_F limit0 fb45_1 (l1[i8.toNat]!)).2.2))) = true := hq36
                            rw [if_pos hp36] at h
                            refine xw_cond_f rfl rfl (xw_skip ?_)
                            refine xq_blk 1 ?_
                            refine xq_then (xw_region ?_)
                            refine xq rfl trivial (o_mv rfl) ?_
                            obtain ⟨ho37, h⟩ := h
                            refine xq rfl trivial (o_add rfl rfl rfl ho37) ?_
                            refine xq rfl trivial (o_as rfl) ?_
                            refine xo_nil ?_
                            exact xq_next (s' := ((i8 + 1, (act_F limit0 fb13_1 (l1[i8.toNat]!)).2.2, (doR_F limit0 fb45_1 (l1[i8.toNat]!)).2.2) : Int × (List (Nat → Int)) × (List (Nat → Int)))) (e' := [(1, v1), (5, .pointer (some ⟨b13, 0, none⟩)), (7, .pointer (some ⟨b45, 0, none⟩)), (8, .int .i64 (i8 + 1))]) (Bg25_0 ++ (Bg21_0 ++ ((b45, BK 2 (cl [.int .i64 limit0, vg25_0]) 48) :: ((b13, BK 2 (cl [.int .i64 limit0, vg21_0]) 64) :: ([]))))) (lc rfl (lc rfl (lc rfl (lc rfl ln)))) (fun _ h => St.permI [3, 1, 2, 0] [[(b13, _)], Bg21_0, [(b45, _)], Bg25_0] rfl (Kp.st (Kp.keep (Kp.segKeep (Kp.segNew (Cov.fresh hcBs34) (Kp.new hb12 (Kp.keep (Kp.segKeep (Kp.new hb10 Kp.nil))))))) _ h)) h ⟨vg25_0, vg21_0, Bg21_0, Bg25_0, rfl, rfl, hJBg21_0, hJBg25_0, hcBg21_0, hcBg25_0⟩
                · have hq8 : (decide (i8 < (l1.length : Int))) = false := hc8
                  have hp8 : ¬ (i8 < (l1.length : Int)) := of_decide_eq_false hq8
                  rw [if_neg hp8] at h
                  refine xw_cond_f rfl rfl (xw_exit (xq_then_exit ?_))
                  exact xq_out (r := (.inl (fb45_1, fb13_1) : ((List (Nat → Int)) × (List (Nat → Int))) ⊕ ((List (Nat → Int)) × (List (Nat → Int))))) (e' := [(5, .pointer (some ⟨b13, 0, none⟩)), (7, .pointer (some ⟨b45, 0, none⟩))]) (Bb45_1_1 ++ (Bb13_1_1 ++ ((b45, BK 2 (cl [.int .i64 limit0, vb45_1_1]) 48) :: ((b13, BK 2 (cl [.int .i64 limit0, vb13_1_1]) 64) :: ([]))))) (lc rfl (lc rfl ln)) (fun _ h => h) h (by intro hh; cases hh) ⟨vb13_1_1, vb45_1_1, Bb13_1_1, Bb45_1_1, rfl, rfl, rfl, hJb45_1_1, hJb13_1_1, hcBb13_1_1, hcBb45_1_1⟩
              · rcases x1 with ⟨fb45_1, fb13_1⟩ | x1
                · rintro _ _ _ ⟨vb13_1_1o, vb45_1_1o, Bb13_1_1o, Bb45_1_1o, rfl, rfl, rfl, hJb45_1_1o, hJb13_1_1o, hcBb13_1_1o, hcBb45_1_1o⟩
                  replace h : acts5_k1a limit0 fb45_1 fb13_1 r := h
                  unfold acts5_k1a at h
                  refine xq_blk_eq ?_
                  refine xq_then (xw_seq ?_)
                  refine xd_start (by kernel_rfl) (by kernel_rfl) (fun hok => ?_)
                  refine xd_b hok 0 [(5, _)] ([]) rsN rfl rfl rfl (lc rfl ln) (by kernel_rfl) trivial (fun H' hy hK => o_mv rfl) ?_
                  refine xd_b hok 2 [(7, _)] ([]) rsN rfl rfl rfl (lc rfl ln) (by kernel_rfl) trivial (fun H' hy hK => o_mv rfl) ?_
                  refine xd_b hok 3 [(118, _)] ([]) rsN rfl rfl rfl (lc rfl ln) (by kernel_rfl) trivial (fun H' hy hK => o_nilp rfl) ?_
                  first | refine xd_b hok 4 [(119, _)] ([]) rsN rfl rfl rfl (lc rfl ln) (by kernel_rfl) trivial (fun H' hy hK => o_fa0 fl48_1 rfl) ?_ | refine xd_b hok 4 [(119, _)] ([]) rsN rfl rfl rfl (lc rfl ln) (by kernel_rfl) trivial (fun H' hy hK => o_fa fl48_1 rfl) ?_
                  refine xd_b hok 5 [(120, _)] ((b45, BK 2 (cl [.int .i64 limit0, vb45_1_1o]) 48) :: ([])) (rsC (List.mem_append_right _ (List.mem_append_right _ (List.Mem.head _))) rsN) rfl rfl rfl (lc rfl ln) (by kernel_rfl) trivial (fun H' hy hK => o_ld (v := vb45_1_1o) rfl ts30 (hy _ (List.Mem.head _)) (by decide) rfl) ?_
                  refine xd_b hok 6 [(121, _)] ([]) rsN rfl rfl rfl (lc rfl ln) (by kernel_rfl) trivial (fun H' hy hK => o_lenL rfl Try.underlying30 rfl (OJ.val hJb45_1_1o)) ?_
                  refine xd_step hok 1 [(116, _)] rfl rfl (by kernel_rfl) (lc rfl ln) (by kernel_rfl) trivial (OT.st (fun _ h => St.permI [3, 1, 0, 2] [Bb45_1_1o, Bb13_1_1o, [(b45, _)], [(b13, _)]] rfl h) (ot_callF (Cs := [[(b13, _)], Bb13_1_1o]) (Rs := [Bb45_1_1o, [(b45, _)]]) kf16 rfl (fun w1 hw1 => nlen_c _ _ _ _ _ w1 hJb13_1_1o (St.hasC hw1)) (fun _ _ _ h => h.1))) ?_
                  rintro _ _ ⟨w1, _, rfl, hle, -, rfl, rfl⟩
                  refine xd_sh2 (H' := (b13, BK 2 (cl [.int .i64 limit0, vb13_1_1o]) 64) :: (Bb13_1_1o ++ (Bb45_1_1o ++ ((b45, BK 2 (cl [.int .i64 limit0, vb45_1_1o]) 48) :: ([]))))) rfl ?_
                  refine ⟨(rsA rsN (rsA (rsC (List.Mem.tail _ (List.mem_append_right _ (List.mem_append_right _ (List.Mem.head _)))) rsN) (rsA rsN (rsA rsN (rsA rsN (rsA rsN rsN)))))), (Ks.consK (by simp) (Ks.segK (fun k hk => by simp [hk]) (Ks.segK (fun k hk => by simp [hk]) (Ks.consK (by simp) Ks.nil)))), ?_⟩
                  refine xd_b hok 7 [(117, _), (122, _)] ([]) rsN rfl rfl rfl (lc rfl (lc rfl ln)) (by kernel_rfl) trivial (fun H' hy hK => o_eql rfl rfl) ?_
                  refine xd_b hok 8 [(123, _)] ([]) rsN rfl rfl rfl (lc rfl ln) (by kernel_rfl) trivial (fun H' hy hK => o_as rfl) ?_
                  refine xd_end hok (by kernel_rfl) ?_
                  refine xq_then (xw_ret ?_)
                  subst h
                  exact con_ret1 (.inl rfl) Try.results4 rfl [] (Kp.st (Kp.new hb13 (Kp.segNew (Cov.fresh hcBb13_1_1o) (Kp.segNew (Cov.fresh hcBb45_1_1o) (Kp.new hb45 Kp.nil))))) (⟨rfl, rfl⟩)
                obtain ⟨fb45_1, fb13_1⟩ := x1
                rintro _ _ _ ⟨vb13_1_1o, vb45_1_1o, Bb13_1_1o, Bb45_1_1o, rfl, rfl, rfl, hJb45_1_1o, hJb13_1_1o, hcBb13_1_1o, hcBb45_1_1o⟩
                replace h : acts5_k1b fb45_1 fb13_1 r := h
                unfold acts5_k1b at h
                refine xq_blk_ret (xq_then_ret ?_)
                subst h
                exact con_ret1 (.inl rfl) Try.results4 rfl [] (Kp.st (Kp.segNew (Cov.fresh hcBb45_1_1o) (Kp.segNew (Cov.fresh hcBb13_1_1o) (Kp.new hb45 (Kp.new hb13 Kp.nil))))) (⟨rfl, rfl⟩)

theorem often5_con (limit0 : Int) (l1 : (List (Nat → Int))) (v1 : Value) (w : World) (hs1 : SL w 30 iv v1 l1) (r : Bool) (h : often5_S limit0 l1 r) : Con Try.prog 3 #[.int .i64 limit0, v1] w (Is (.bool r) []) := by
  unfold often5_S at h
  refine con_enter (n := 114) [(0, _), (1, _)] Try.func3 rfl Try.ntmps3 rfl (lac rfl (lac rfl lan)) ?_
  refine xw_seq (xw_region ?_)
  refine xq rfl trivial (o_as rfl) ?_
  refine xo_nil (xq_then (xw_seq (xw_seq (xw_region ?_))))
  obtain ⟨ho1, h⟩ := h
  refine xcallq rfl trivial kf8 rfl (fun w1 hw1 => alive05_c w1 ho1) ?_
  refine xq rfl trivial (o_not rfl) ?_
  refine xo_nil (xq_then ?_)
  refine xw_bool 15 rfl (fun hc2 => ?_) (fun hc2 => ?_)
  · have hq2 : (alive05_F) = false := (bnT hc2)
    have hp2 : ¬ ((alive05_F) = true) := bne' hq2
    rw [if_neg hp2] at h
    refine xw_cond_t rfl rfl (xw_seq (xw_region ?_))
    refine xq rfl trivial (o_as rfl) ?_
    refine xo_nil (xq_then (xw_ret (xq_then_ret ?_)))
    subst h
    exact con_ret1 (.inl rfl) Try.results3 rfl [] (fun _ h => h) (⟨rfl, rfl⟩)
  · have hq2 : (alive05_F) = true := (bnF hc2)
    have hp2 : (alive05_F) = true := hq2
    rw [if_pos hp2] at h
    refine xw_cond_f rfl rfl (xw_skip (xq_then (xw_seq (xw_seq (xw_region ?_)))))
    refine xq rfl trivial (o_mv rfl) ?_
    refine xq rfl trivial (o_lenL rfl Try.underlying22 rfl (SL.val hs1)) ?_
    refine xq rfl trivial (o_gtr rfl rfl) ?_
    refine xo_nil (xq_then ?_)
    refine xw_bool 18 rfl (fun hc3 => ?_) (fun hc3 => ?_)
    · have hq3 : (decide (200 < (l1.length : Int))) = true := hc3
      have hp3 : 200 < (l1.length : Int) := of_decide_eq_true hq3
      rw [if_pos hp3] at h
      refine xw_cond_t rfl rfl (xw_seq (xw_region ?_))
      refine xq rfl trivial (o_as rfl) ?_
      refine xo_nil (xq_then (xw_ret (xq_then_ret ?_)))
      subst h
      exact con_ret1 (.inl rfl) Try.results3 rfl [] (fun _ h => h) (⟨rfl, rfl⟩)
    · have hq3 : (decide (200 < (l1.length : Int))) = false := hc3
      have hp3 : ¬ (200 < (l1.length : Int)) := of_decide_eq_false hq3
      rw [if_neg hp3] at h
      refine xw_cond_f rfl rfl (xw_skip (xq_then (xw_seq (xw_region ?_))))
      refine xq rfl trivial (o_mv rfl) ?_
      refine xoR rfl trivial (ot_in (l := [(0, _)]) kf9 rfl Try.func9 rfl Try.ntmps9 rfl (lac rfl lan) ?_)
      refine xw_seq (xw_region ?_)
      refine xq rfl trivial (o_as rfl) ?_
      refine xq rfl trivial (o_as rfl) ?_
      refine xo_nil (xq_then (xw_seq (xw_seq ?_)))
      refine xw_cut [(0, _)] (lc rfl ln) [(9, .bool ((decide (limit0 < 1)) || (decide (65536 < limit0))))] ?_ ?_
      · refine xw_region ?_
        refine xq rfl trivial (o_mv rfl) ?_
        refine xq rfl trivial (o_lss rfl rfl) ?_
        refine xq rfl trivial (o_mv rfl) ?_
        refine xo_bool 6 rfl (fun hg4 => ?_) (fun hg4 => ?_)
        · have hq4 : (decide (limit0 < 1)) = true := hg4
          have hp4 : limit0 < 1 := of_decide_eq_true hq4
          refine xs rfl ⟨_, _, rfl, rfl, rfl⟩ (xs rfl ⟨_, _, rfl, rfl, rfl⟩ ?_)
          refine xq rfl trivial (o_pick_t rfl rfl) ?_
          refine xo_nil ?_
          exact xq_cut ((lce rfl (by first | rfl | (simp only [hq2, hq3, hq4, if_pos hp2, if_neg hp3, if_pos hp4, bS]; done) | (simp [hp2, hp3, hp4]; done) | (simp_all; done)) (lc rfl ln))) (fun _ h => h)
        · have hq4 : (decide (limit0 < 1)) = false := hg4
          have hp4 : ¬ (limit0 < 1) := of_decide_eq_false hq4
          refine xq rfl ⟨_, rfl, rfl⟩ (o_mv rfl) ?_
          refine xq rfl ⟨_, rfl, rfl⟩ (o_gtr rfl rfl) ?_
          refine xq rfl trivial (o_pick_f rfl rfl) ?_
          refine xo_nil ?_
          exact xq_cut ((lce rfl (by first | rfl | (simp only [hq2, hq3, hq4, if_pos hp2, if_neg hp3, if_neg hp4, bS]; done) | (simp [hp2, hp3, hp4]; done) | (simp_all; done)) (lc rfl ln))) (fun _ h => h)
      · refine xq_then ?_
        refine xw_bool 9 rfl (fun hc5 => ?_) (fun hc5 => ?_)
        · have hq5 : ((decide (limit0 < 1)) || (decide (65536 < limit0))) = true := hc5
          have hp5 : ((decide (limit0 < 1)) || (decide (65536 < limit0))) = true := hq5
          rw [if_pos hp5] at h
          refine xw_cond_t rfl rfl (xw_seq (xw_region ?_))
          refine xq rfl trivial (o_mki rfl Try.underlying62 rfl) ?_
          refine xq rfl trivial (o_as rfl) ?_
          refine xq rfl trivial (o_as rfl) ?_
          refine xo_nil (xq_then (xw_ret (xq_then_ret ?_)))
          refine con_ret2 (.inl rfl) Try.results9 rfl rfl _ (fun _ h => h) (?_)
          refine xq rfl trivial (o_mv rfl) ?_
          refine xq rfl trivial (o_ext rfl rfl) ?_
          refine xq rfl trivial (o_ext rfl rfl) ?_
          refine xq rfl trivial (o_as rfl) ?_
          refine xq rfl trivial (o_as rfl) ?_
          refine xo_nil (xq_then (xw_seq (xw_seq ?_)))
          refine xw_cut [(0, _), (1, _), (5, _)] (lc rfl (lc rfl (lc rfl ln))) [(29, .bool true)] ?_ ?_
          · refine xw_region ?_
            refine xq rfl trivial (o_mv rfl) ?_
            refine xq rfl trivial (o_nen Try.underlying26 rfl rfl rfl rfl) ?_
            refine xq rfl trivial (o_mv rfl) ?_
            refine xs rfl ⟨_, _, rfl, rfl, rfl⟩ (xs rfl ⟨_, _, rfl, rfl, rfl⟩ ?_)
            refine xq rfl trivial (o_pick_t rfl rfl) ?_
            refine xo_nil ?_
            exact xq_cut ((lce rfl (by first | rfl | (simp only [hq2, hq3, hq5, if_pos hp2, if_neg hp3, if_pos hp5, bS]; done) | (simp [hp2, hp3, hp5]; done) | (simp_all; done)) (lc rfl (lc rfl (lc rfl ln))))) (fun _ h => h)
          · refine xq_then (xw_cond_t rfl rfl (xw_seq ?_))
            refine xw_cut [] ln [(4, .bool ((decide (limit0 < 1)) || (decide (65536 < limit0))))] ?_ ?_
            · refine xw_region ?_
              refine xq rfl trivial (o_mv rfl) ?_
              refine xq rfl trivial (o_eqn Try.underlying24 rfl rfl rfl rfl) ?_
              refine xq rfl trivial (o_mv rfl) ?_
              refine xq rfl ⟨_, rfl, rfl⟩ (o_mv rfl) ?_
              refine xq rfl ⟨_, rfl, rfl⟩ (o_lss rfl rfl) ?_
              refine xq rfl ⟨_, rfl, rfl⟩ (o_mv rfl) ?_
              refine xo_bool 35 rfl (fun hg6 => ?_) (fun hg6 => ?_)
              · have hq6 : (decide (limit0 < 1)) = true := hg6
                have hp6 : limit0 < 1 := of_decide_eq_true hq6
                refine xs rfl ⟨_, _, rfl, rfl, rfl⟩ (xs rfl ⟨_, _, rfl, rfl, rfl⟩ ?_)
                refine xq rfl ⟨_, rfl, rfl⟩ (o_pick_t rfl rfl) ?_
                refine xq rfl trivial (o_pick_t rfl rfl) ?_
                refine xq rfl trivial (o_as rfl) ?_
                refine xo_nil ?_
                exact xq_cut ((lce rfl (by first | rfl | (simp only [hq2, hq3, hq5, hq6, if_pos hp2, if_neg hp3, if_pos hp5, if_pos hp6, bS]; done) | (simp [hp2, hp3, hp5, hp6]; done) | (simp_all; done)) ln)) (fun _ h => h)
              · have hq6 : (decide (limit0 < 1)) = false := hg6
                have hp6 : ¬ (limit0 < 1) := of_decide_eq_false hq6
                refine xq rfl ⟨_, rfl, rfl⟩ (o_mv rfl) ?_
                refine xq rfl ⟨_, rfl, rfl⟩ (o_gtr rfl rfl) ?_
                refine xq rfl ⟨_, rfl, rfl⟩ (o_pick_f rfl rfl) ?_
                refine xq rfl trivial (o_pick_t rfl rfl) ?_
                refine xq rfl trivial (o_as rfl) ?_
                refine xo_nil ?_
                exact xq_cut ((lce rfl (by first | rfl | (simp only [hq2, hq3, hq5, hq6, if_pos hp2, if_neg hp3, if_pos hp5, if_neg hp6, bS]; done) | (simp [hp2, hp3, hp5, hp6]; done) | (simp_all; done)) ln)) (fun _ h => h)
            · refine xq_then (xw_ret (xq_then_ret ?_))
              subst h
              exact con_ret1 (.inl rfl) Try.results3 rfl [] (fun _ h => h) (⟨rfl, rfl⟩)
        · have hq5 : ((decide (limit0 < 1)) || (decide (65536 < limit0))) = false := hc5
          have hp5 : ¬ (((decide (limit0 < 1)) || (decide (65536 < limit0))) = true) := bne' hq5
          rw [if_neg hp5] at h
          refine xw_cond_f rfl rfl (xw_skip (xq_then (xw_seq (xw_region ?_))))
          refine xq rfl trivial (o_mv rfl) ?_
          refine xq rfl trivial (o_buildC [.int .i64 limit0, .slice none 0 0] fk64 ze64 (.one fl64_0 rfl rfl rfl (.nil _)) (fun i hi => match i, hi with | 0, _ => rfl | 1, _ => rfl | q + 2, h => absurd h (by omega))) ?_
          refine xo rfl trivial (o_boxC [.int .i64 limit0, .slice none 0 0] rfl (fun i hi => match i, hi with | 0, _ => rfl | 1, _ => rfl | q + 2, h => absurd h (by omega))) ?_
          rintro _ _ ⟨b13, hb13, rfl, rfl⟩
          refine xq rfl trivial (o_as rfl) ?_
          refine xq rfl trivial (o_as rfl) ?_
          refine xo_nil (xq_then (xw_ret ?_))
          refine con_ret2 (.inl rfl) Try.results9 rfl rfl _ (fun _ h => h) (?_)
          refine xq rfl trivial (o_mv rfl) ?_
          refine xq rfl trivial (o_ext rfl rfl) ?_
          refine xq rfl trivial (o_ext rfl rfl) ?_
          refine xq rfl trivial (o_as rfl) ?_
          refine xq rfl trivial (o_as rfl) ?_
          refine xo_nil (xq_then (xw_seq (xw_seq ?_)))
          refine xw_cut [(0, _), (1, _), (5, _)] (lc rfl (lc rfl (lc rfl ln))) [(29, .bool false)] ?_ ?_
          · refine xw_region ?_
            refine xq rfl trivial (o_mv rfl) ?_
            refine xq rfl trivial (o_nen Try.underlying26 rfl rfl rfl rfl) ?_
            refine xq rfl trivial (o_mv rfl) ?_
            refine xq rfl ⟨_, rfl, rfl⟩ (o_mv rfl) ?_
            refine xq rfl ⟨_, rfl, rfl⟩ (o_eqn Try.underlying24 rfl rfl rfl rfl) ?_
            refine xq rfl trivial (o_pick_f rfl rfl) ?_
            refine xo_nil ?_
            exact xq_cut ((lce rfl (by first | rfl | (simp only [hq2, hq3, hq5, if_pos hp2, if_neg hp3, if_neg hp5, bS]; done) | (simp [hp2, hp3, hp5]; done) | (simp_all; done)) (lc rfl (lc rfl (lc rfl ln))))) (fun _ h => h)
          · refine xq_then (xw_cond_f rfl rfl (xw_skip (xq_then (xw_seq (xw_region ?_)))))
            refine xo rfl trivial (o_mkmap (α := Int) (cv := kI) kt39 Try.underlying29) ?_
            rintro vs7 _ ⟨Bs7, rfl, hns7, hJs7⟩
            have hcBs7 := hns7
            refine xo rfl trivial (o_mkmap (α := Int) (cv := kI) kt39 Try.underlying29) ?_
            rintro vs8 _ ⟨Bs8, rfl, hns8, hJs8⟩
            have hcBs8 := hns8
            refine xq rfl trivial (o_as rfl) ?_
            refine xq rfl trivial (o_as rfl) ?_
            refine xo_nil (xq_then (xw_seq (xw_seq (xw_region ?_))))
            refine xq rfl trivial (o_as rfl) ?_
            refine xo_nil (xq_then ?_)
            refine xw_block ?_
            obtain ⟨x1, hx1, h⟩ := h
            refine xw_wh (fun s e H => match s with | (in7, out8, i9, fb13_1) => ∃ (vb13_1_1 : Value) (v8_1 : Value) (v7_1 : Value) (B7_1 : GH) (B8_1 : GH) (Bb13_1_1 : GH), e = [(1, v1), (5, .pointer (some ⟨b13, 0, none⟩)), (7, v7_1), (8, v8_1), (9, .int .i64 i9)] ∧ H = Bb13_1_1 ++ (B8_1 ++ (B7_1 ++ ((b13, BK 2 (cl [.int .i64 limit0, vb13_1_1]) 64) :: ([])))) ∧ MJ (kA 28) kI (eqN 28) B7_1 v7_1 in7 ∧ MJ (kA 28) kI (eqN 28) B8_1 v8_1 out8 ∧ OJ 39 28 iv Bb13_1_1 vb13_1_1 fb13_1 ∧ Cov w [] B7_1 ∧ Cov w [] B8_1 ∧ Cov w [] Bb13_1_1) (fun x ex e H => match x with | .inl fb13_1 => ∃ (vb13_1_1o : Value) (B7_1o : GH) (B8_1o : GH) (Bb13_1_1o : GH), ex = .exit 0 ∧ e = [] ∧ H = Bb13_1_1o ++ (B8_1o ++ (B7_1o ++ ((b13, BK 2 (cl [.int .i64 limit0, vb13_1_1o]) 64) :: ([])))) ∧ OJ 39 28 iv Bb13_1_1o vb13_1_1o fb13_1 ∧ Cov w [] B7_1o ∧ Cov w [] B8_1o ∧ Cov w [] Bb13_1_1o | .inr fb13_1 => ∃ (vb13_1_1o : Value) (B7_1o : GH) (B8_1o : GH) (Bb13_1_1o : GH), ex = .ret ∧ e = [(4, .bool false)] ∧ H = Bb13_1_1o ++ (B8_1o ++ (B7_1o ++ ((b13, BK 2 (cl [.int .i64 limit0, vb13_1_1o]) 64) :: ([])))) ∧ OJ 39 28 iv Bb13_1_1o vb13_1_1o fb13_1 ∧ Cov w [] B7_1o ∧ Cov w [] B8_1o ∧ Cov w [] Bb13_1_1o) hx1 ⟨[(1, v1), (5, .pointer (some ⟨b13, 0, none⟩)), (7, vs7), (8, vs8), (9, .int .i64 0)], [] ++ (Bs8 ++ (Bs7 ++ ((b13, BK 2 (cl [.int .i64 limit0, .slice none 0 0]) 64) :: ([])))), (lc rfl (lc rfl (lc rfl (lc rfl (lc rfl ln))))), fun _ h => h, ⟨_, vs8, vs7, Bs7, Bs8, [], rfl, rfl, hJs7, hJs8, OJ.nil, hcBs7, hcBs8, (Cov.refl _)⟩⟩ ?_ ?_
            · rintro ⟨in7, out8, i9, fb13_1⟩ o _ _ ⟨vb13_1_1, v8_1, v7_1, B7_1, B8_1, Bb13_1_1, rfl, rfl, hJ7_1, hJ8_1, hJb13_1_1, hcB7_1, hcB8_1, hcBb13_1_1⟩ hb
              have h : often5_l1 limit0 l1 in7 out8 i9 fb13_1 o := hb
              clear hb
              unfold often5_l1 at h
              refine xw_seq (xw_seq (xw_region ?_))
              refine xq rfl trivial (o_mv rfl) ?_
              refine xq rfl trivial (o_mv rfl) ?_
              refine xq rfl trivial (o_lenL rfl Try.underlying22 rfl (SL.val hs1)) ?_
              refine xq rfl trivial (o_lss rfl rfl) ?_
              refine xo_nil (xq_then ?_)
              refine xw_bool 45 rfl (fun hc9 => ?_) (fun hc9 => ?_)
              · have hq9 : (decide (i9 < (l1.length : Int))) = true := hc9
                have hp9 : i9 < (l1.length : Int) := of_decide_eq_true hq9
                rw [if_pos hp9] at h
                refine xw_cond_t rfl rfl (xw_skip (xq_then (xw_seq ?_)))
                refine xw_block ?_
                refine xw_seq (xw_region ?_)
                refine xq rfl trivial (o_mv rfl) ?_
                obtain ⟨ho10, h⟩ := h
                refine xo rfl trivial (OT.st (fun _ h => St.permI [3, 0, 1, 2] [Bb13_1_1, B8_1, B7_1, [(b13, _)]] rfl h) (ot_callF (Cs := [[(b13, _)], Bb13_1_1]) (Rs := [B8_1, B7_1]) kf10 rfl (fun w1 hw1 => nall_c _ _ _ _ _ w1 hJb13_1_1 (St.hasC hw1) ho10) (fun _ _ _ h => h.1))) ?_
                rintro vs13 _ ⟨w1, _, rfl, hle, -, _, Bs13, rfl, rfl, hJs13, hcBs13⟩
                replace hcBs13 := Cov.base (w0 := w) hcBs13 hle
                refine xo_st ((b13, BK 2 (cl [.int .i64 limit0, vb13_1_1]) 64) :: (Bb13_1_1 ++ (Bs13 ++ (B8_1 ++ (B7_1 ++ ([])))))) (fun _ h => h) ?_
                refine xq rfl trivial (o_as rfl) ?_
                refine xo_nil (xq_then (xw_seq (xw_region ?_)))
                refine xq rfl trivial (o_mv rfl) ?_
                refine xq rfl trivial (o_mv rfl) ?_
                refine xq rfl trivial (o_mv rfl) ?_
                obtain ⟨ho14, h⟩ := h
                refine xq rfl trivial (o_ixL el22 rfl rfl (fun w hw => (hs1.keep hw (Fr.cons hb13 (Fr.seg hcBb13_1_1 (Fr.seg hcBs13 (Fr.seg hcB8_1 (Fr.seg hcB7_1 Fr.nil))))))) rfl ho14) ?_
                refine xq rfl trivial (o_ldLI rfl ts43 rfl (fun w hw => (hs1.keep hw (Fr.cons hb13 (Fr.seg hcBb13_1_1 (Fr.seg hcBs13 (Fr.seg hcB8_1 (Fr.seg hcB7_1 Fr.nil))))))) (toNat_lt ho14) rfl) ?_
                obtain ⟨ho15, h⟩ := h
                refine xo rfl trivial (OT.st (fun _ h => h) (ot_callF (Cs := [[(b13, _)], Bb13_1_1]) (Rs := [Bs13, B8_1, B7_1]) kf11 rfl (fun w1 hw1 => act_c _ _ _ _ _ _ w1 hJb13_1_1 (St.hasC hw1) ho15) (fun _ _ _ h => h.1))) ?_
                rintro _ _ ⟨w1, _, rfl, hle, -, vg17_0, Bg17_0, rfl, rfl, hJBg17_0, hcBg17_0⟩
                replace hcBg17_0 := Cov.trans hcBb13_1_1 (Cov.base (w0 := w) hcBg17_0 hle)
                refine xo_st ((b13, BK 2 (cl [.int .i64 limit0, vg17_0]) 64) :: (Bg17_0 ++ (Bs13 ++ (B8_1 ++ (B7_1 ++ ([])))))) (fun _ h => h) ?_
                refine xq rfl trivial (o_mv rfl) ?_
                refine xq rfl trivial (o_ext rfl rfl) ?_
                refine xq rfl trivial (o_ext rfl rfl) ?_
                refine xo rfl trivial (o_alloc ze39 rfl) ?_
                rintro _ _ ⟨b11, hb11, rfl, rfl⟩
                refine xq0 trivial (o_stWI rfl rfl ts39 (List.Mem.head _) (.here _ _ _ _)) ?_
                refine xq rfl trivial (o_as rfl) ?_
                refine xo_nil (xq_then (xw_seq (xw_seq (xw_region ?_))))
                refine xq rfl trivial (o_mv rfl) ?_
                refine xq rfl trivial (o_neq rfl rfl) ?_
                refine xo_nil (xq_then ?_)
                refine xw_bool 60 rfl (fun hc18 => ?_) (fun hc18 => ?_)
                · have hq18 : (decide ((act_F limit0 fb13_1 (l1[i9.toNat]!)).2.1 = 0)) = false := (bnT hc18)
                  have hp18 : ¬ ((act_F limit0 fb13_1 (l1[i9.toNat]!)).2.1 = 0) := of_decide_eq_false hq18
                  rw [if_neg hp18] at h
                  refine xw_cond_t rfl rfl (xw_exit (xq_then_exit ?_))
                  refine xq_blk_eq ?_
                  refine xq_then (xw_region ?_)
                  refine xq rfl trivial (o_mv rfl) ?_
                  obtain ⟨ho19, h⟩ := h
                  refine xq rfl trivial (o_add rfl rfl rfl ho19) ?_
                  refine xq rfl trivial (o_as rfl) ?_
                  refine xo_nil ?_
                  exact xq_next (s' := ((in7, out8, i9 + 1, (act_F limit0 fb13_1 (l1[i9.toNat]!)).2.2) : (List ((Nat → Int) × Int)) × (List ((Nat → Int) × Int)) × Int × (List (Nat → Int)))) (e' := [(1, v1), (5, .pointer (some ⟨b13, 0, none⟩)), (7, v7_1), (8, v8_1), (9, .int .i64 (i9 + 1))]) (Bg17_0 ++ (B8_1 ++ (B7_1 ++ ((b13, BK 2 (cl [.int .i64 limit0, vg17_0]) 64) :: ([]))))) (lc rfl (lc rfl (lc rfl (lc rfl (lc rfl ln))))) (fun _ h => St.permI [1, 2, 3, 0] [[(b13, _)], Bg17_0, B8_1, B7_1] rfl (Kp.st (Kp.new hb11 (Kp.keep (Kp.segKeep (Kp.segNew (Cov.fresh hcBs13) (Kp.segKeep (Kp.segKeep Kp.nil)))))) _ h)) h ⟨vg17_0, v8_1, v7_1, B7_1, B8_1, Bg17_0, rfl, rfl, hJ7_1, hJ8_1, hJBg17_0, hcB7_1, hcB8_1, hcBg17_0⟩
                · have hq18 : (decide ((act_F limit0 fb13_1 (l1[i9.toNat]!)).2.1 = 0)) = true := (bnF hc18)
                  have hp18 : (act_F limit0 fb13_1 (l1[i9.toNat]!)).2.1 = 0 := of_decide_eq_true hq18
                  rw [if_pos hp18] at h
                  refine xw_cond_f rfl rfl (xw_skip (xq_then (xw_seq (xw_region ?_))))
                  refine xq rfl trivial (o_mv rfl) ?_
                  refine xq rfl trivial (o_mv rfl) ?_
                  obtain ⟨ho20, h⟩ := h
                  refine xq rfl trivial (o_ixL el22 rfl rfl (fun w hw => (hs1.keep hw (Fr.cons hb11 (Fr.cons hb13 (Fr.seg hcBg17_0 (Fr.seg hcBs13 (Fr.seg hcB8_1 (Fr.seg hcB7_1 Fr.nil)))))))) rfl ho20) ?_
                  refine xq rfl trivial (o_faL fl43_0 rfl rfl (fun w hw => (hs1.keep hw (Fr.cons hb11 (Fr.cons hb13 (Fr.seg hcBg17_0 (Fr.seg hcBs13 (Fr.seg hcB8_1 (Fr.seg hcB7_1 Fr.nil)))))))) (toNat_lt ho20)) ?_
                  refine xq rfl trivial (o_ldL1 (off := 0) (u := .int .i64 (l1[i9.toNat]! 0)) rfl ts3 rfl (fun w hw => (hs1.keep hw (Fr.cons hb11 (Fr.cons hb13 (Fr.seg hcBg17_0 (Fr.seg hcBs13 (Fr.seg hcB8_1 (Fr.seg hcB7_1 Fr.nil)))))))) (toNat_lt ho20) rfl rfl) ?_
                  refine xo_nil (xq_then ?_)
                  refine xw_block ?_
                  refine xw_seq (xw_region ?_)
                  refine xq rfl trivial (o_eql rfl rfl) ?_
                  refine xq rfl trivial (o_as rfl) ?_
                  refine xo_nil (xq_then ?_)
                  refine xw_bool 66 rfl (fun hc21 => ?_) (fun hc21 => ?_)
                  · have hq21 : (decide (l1[i9.toNat]! 0 = 0)) = true := hc21
                    have hp21 : l1[i9.toNat]! 0 = 0 := of_decide_eq_true hq21
                    rw [if_pos hp21] at h
                    refine xw_cond_t rfl rfl ?_
                    refine xd_start (by kernel_rfl) (by kernel_rfl) (fun hok => ?_)
                    refine xd_b hok 0 [(7, _)] ([]) rsN rfl rfl rfl (lc rfl ln) (by kernel_rfl) trivial (fun H' hy hK => o_mv rfl) ?_
                    refine xd_b hok 1 [(1, _)] ([]) rsN rfl rfl rfl (lc rfl ln) (by kernel_rfl) trivial (fun H' hy hK => o_mv rfl) ?_
                    refine xd_b hok 2 [(9, _)] ([]) rsN rfl rfl rfl (lc rfl ln) (by kernel_rfl) trivial (fun H' hy hK => o_mv rfl) ?_
                    obtain ⟨ho22, h⟩ := h
                    refine xd_b hok 3 [(69, _), (70, _)] ([]) rsN rfl rfl rfl (lc rfl (lc rfl ln)) (by kernel_rfl) trivial (fun H' hy hK => o_ixL el22 rfl rfl (fun w hw => (hs1.keep hw (fun k hk => (hK k hk).elim (fun h => (Fr.cons hb11 (Fr.cons hb13 (Fr.seg hcBg17_0 (Fr.seg hcBs13 (Fr.seg hcB8_1 (Fr.seg hcB7_1 Fr.nil)))))) k h) id))) rfl ho22) ?_
                    refine xd_b hok 4 [(71, _)] ([]) rsN rfl rfl rfl (lc rfl ln) (by kernel_rfl) trivial (fun H' hy hK => o_faL fl43_2 rfl rfl (fun w hw => (hs1.keep hw (fun k hk => (hK k hk).elim (fun h => (Fr.cons hb11 (Fr.cons hb13 (Fr.seg hcBg17_0 (Fr.seg hcBs13 (Fr.seg hcB8_1 (Fr.seg hcB7_1 Fr.nil)))))) k h) id))) (toNat_lt ho22)) ?_
                    refine xd_b hok 5 [(72, _)] ([]) rsN rfl rfl rfl (lc rfl ln) (by kernel_rfl) trivial (fun H' hy hK => o_ldLA (f := iv (fun i => (l1[i9.toNat]!) (2 + i))) rfl ts39 rfl rfl (fun w hw => (hs1.keep hw (fun k hk => (hK k hk).elim (fun h => (Fr.cons hb11 (Fr.cons hb13 (Fr.seg hcBg17_0 (Fr.seg hcBs13 (Fr.seg hcB8_1 (Fr.seg hcB7_1 Fr.nil)))))) k h) id))) (toNat_lt ho22) rfl (fun _ _ => rfl)) ?_
                    refine xd_step2 hok 6 8 [(68, _), (73, _)] [(68, _), (73, _)] rfl rfl rfl rfl (by kernel_rfl) (lc rfl (lc rfl ln)) (lc rfl (lc rfl ln)) (by kernel_rfl) (by kernel_rfl) trivial trivial (o_lk (z := 0) (k := (fun i => (l1[i9.toNat]!) (2 + i))) kt39 Try.underlying29 ze3 rfl rfl hJ7_1 (Pull.sub (.thereC _ (.thereC _ (.there _ (.there _ (.there _ (.here _ _)))))))) (OT.push (fun q_ => (b11, BK 28 (iv ((act_F limit0 fb13_1 (l1[i9.toNat]!)).1)) 39) :: ((b13, BK 2 (cl [.int .i64 limit0, vg17_0]) 64) :: (Bg17_0 ++ (Bs13 ++ (B8_1 ++ (q_ ++ ([]))))))) (fun _ => (.thereC _ (.thereC _ (.there _ (.there _ (.there _ (.here _ _))))))) (OT.st (fun _ h => Pull.st (.thereC _ (.thereC _ (.there _ (.there _ (.there _ (.here _ _)))))) h) (o_ment (z := 0) (k := (fun i => (l1[i9.toNat]!) (2 + i))) kt39 Try.underlying29 ze3 rfl rfl hJ7_1))) ?_ ?_
                    · rintro _ _ ⟨rfl, rfl⟩
                      refine ⟨(rsA rsN (rsA rsN (rsA rsN (rsA rsN (rsA rsN (rsA rsN rsN)))))), (Ks.consK (by simp) (Ks.consK (by simp) (Ks.segK (fun k hk => by simp [hk]) (Ks.segK (fun k hk => by simp [hk]) (Ks.segK (fun k hk => by simp [hk]) (Ks.segK (fun k hk => by simp [hk]) Ks.nil)))))), ?_⟩
                      obtain ⟨ho25, h⟩ := h
                      refine xd_b hok 7 [(74, _)] ([]) rsN rfl rfl rfl (lc rfl ln) (by kernel_rfl) trivial (fun H' hy hK => o_add rfl rfl rfl ho25) ?_
                      refine xd_step hok 8 [(68, _), (73, _)] rfl rfl (by kernel_rfl) (lc rfl (lc rfl ln)) (by kernel_rfl) trivial (OT.push (fun q_ => (b11, BK 28 (iv ((act_F limit0 fb13_1 (l1[i9.toNat]!)).1)) 39) :: ((b13, BK 2 (cl [.int .i64 limit0, vg17_0]) 64) :: (Bg17_0 ++ (Bs13 ++ (B8_1 ++ (q_ ++ ([]))))))) (fun _ => (.thereC _ (.thereC _ (.there _ (.there _ (.there _ (.here _ _))))))) (OT.st (fun _ h => Pull.st (.thereC _ (.thereC _ (.there _ (.there _ (.there _ (.here _ _)))))) h) (o_ment (z := 0) (k := (fun i => (l1[i9.toNat]!) (2 + i))) kt39 Try.underlying29 ze3 rfl rfl hJ7_1))) ?_
                      rintro _ _ ⟨Bs26, rfl, hns26, me27, hKme27, rfl⟩
                      have hJs26 := hKme27.mj
                      have hcBs26 := Cov.trans hcB7_1 hns26
                      refine ⟨(rsA rsN (rsA rsN (rsA rsN (rsA rsN (rsA rsN (rsA rsN (rsA rsN rsN))))))), (Ks.consK (by simp) (Ks.consK (by simp) (Ks.segK (fun k hk => by simp [hk]) (Ks.segK (fun k hk => by simp [hk]) (Ks.segK (fun k hk => by simp [hk]) (Ks.segN hcBs26 Ks.nil)))))), ?_⟩
                      refine xd_show (H' := (b11, BK 28 (iv ((act_F limit0 fb13_1 (l1[i9.toNat]!)).1)) 39) :: ((b13, BK 2 (cl [.int .i64 limit0, vg17_0]) 64) :: (Bg17_0 ++ (Bs13 ++ (B8_1 ++ (Bs26 ++ ([]))))))) rfl ?_
                      refine xd_b hok 9 [(76, _)] ([]) rsN rfl rfl rfl (lc rfl ln) (by kernel_rfl) trivial (fun H' hy hK => o_ext rfl rfl) ?_
                      refine xd_fl0 hok 0 10 [(68, _), (77, _), (75, _)] rfl rfl (by kernel_rfl) (by kernel_rfl) (lc rfl (lc rfl (lc rfl ln))) (by kernel_rfl) trivial (OT.push (fun q_ => (b11, BK 28 (iv ((act_F limit0 fb13_1 (l1[i9.toNat]!)).1)) 39) :: ((b13, BK 2 (cl [.int .i64 limit0, vg17_0]) 64) :: (Bg17_0 ++ (Bs13 ++ (B8_1 ++ (q_ ++ ([]))))))) (fun _ => (.thereC _ (.thereC _ (.there _ (.there _ (.there _ (.here _ _))))))) (OT.st (fun _ h => Pull.st (.thereC _ (.thereC _ (.there _ (.there _ (.there _ (.here _ _)))))) h) (o_est (e := (mget (eqN 28) in7 (fun i => (l1[i9.toNat]!) (2 + i)) 0) + 1) rfl rfl rfl hKme27))) ?_
                      rintro _ _ ⟨Bs28, rfl, hns28, hJs28⟩
                      rw [mset_mset (kt39.self _)] at hJs28
                      have hcBs28 := Cov.trans hcBs26 hns28
                      refine ⟨(Ks.consK (by simp) (Ks.consK (by simp) (Ks.segK (fun k hk => by simp [hk]) (Ks.segK (fun k hk => by simp [hk]) (Ks.segK (fun k hk => by simp [hk]) (Ks.segN hcBs28 Ks.nil)))))), ?_⟩
                      refine xd_show (H' := (b11, BK 28 (iv ((act_F limit0 fb13_1 (l1[i9.toNat]!)).1)) 39) :: ((b13, BK 2 (cl [.int .i64 limit0, vg17_0]) 64) :: (Bg17_0 ++ (Bs13 ++ (B8_1 ++ (Bs28 ++ ([]))))))) rfl ?_
                      refine xd_end hok (by kernel_rfl) ?_
                      refine xq_blk 2 ?_
                      refine xq_blk 1 ?_
                      refine xq_then (xw_region ?_)
                      refine xq rfl trivial (o_mv rfl) ?_
                      obtain ⟨ho29, h⟩ := h
                      refine xq rfl trivial (o_add rfl rfl rfl ho29) ?_
                      refine xq rfl trivial (o_as rfl) ?_
                      refine xo_nil ?_
                      exact xq_next (s' := ((mset (eqN 28) in7 (fun i => (l1[i9.toNat]!) (2 + i)) ((mget (eqN 28) in7 (fun i => (l1[i9.toNat]!) (2 + i)) 0) + 1), out8, i9 + 1, (act_F limit0 fb13_1 (l1[i9.toNat]!)).2.2) : (List ((Nat → Int) × Int)) × (List ((Nat → Int) × Int)) × Int × (List (Nat → Int)))) (e' := [(1, v1), (5, .pointer (some ⟨b13, 0, none⟩)), (7, v7_1), (8, v8_1), (9, .int .i64 (i9 + 1))]) (Bg17_0 ++ (B8_1 ++ (Bs28 ++ ((b13, BK 2 (cl [.int .i64 limit0, vg17_0]) 64) :: ([]))))) (lc rfl (lc rfl (lc rfl (lc rfl (lc rfl ln))))) (fun _ h => St.permI [1, 2, 3, 0] [[(b13, _)], Bg17_0, B8_1, Bs28] rfl (Kp.st (Kp.new hb11 (Kp.keep (Kp.segKeep (Kp.segNew (Cov.fresh hcBs13) (Kp.segKeep (Kp.segKeep Kp.nil)))))) _ h)) h ⟨vg17_0, v8_1, v7_1, Bs28, B8_1, Bg17_0, rfl, rfl, hJs28, hJ8_1, hJBg17_0, hcBs28, hcB8_1, hcBg17_0⟩
                    · rintro _ _ ⟨Bs23, rfl, hns23, me24, hKme24, rfl⟩
                      have hJs23 := hKme24.mj
                      have hcBs23 := Cov.trans hcB7_1 hns23
                      refine xd_sh2 (H' := (b11, BK 28 (iv ((act_F limit0 fb13_1 (l1[i9.toNat]!)).1)) 39) :: ((b13, BK 2 (cl [.int .i64 limit0, vg17_0]) 64) :: (Bg17_0 ++ (Bs13 ++ (B8_1 ++ (Bs23 ++ ([]))))))) rfl ?_
                      refine ⟨(rsA rsN (rsA rsN (rsA rsN (rsA rsN (rsA rsN (rsA rsN rsN)))))), (Ks.consK (by simp) (Ks.consK (by simp) (Ks.segK (fun k hk => by simp [hk]) (Ks.segK (fun k hk => by simp [hk]) (Ks.segK (fun k hk => by simp [hk]) (Ks.segN hcBs23 Ks.nil)))))), ?_⟩
                      refine xd_b hok 9 [(76, _)] ([]) rsN rfl rfl rfl (lc rfl ln) (by kernel_rfl) trivial (fun H' hy hK => o_ext rfl rfl) ?_
                      refine xd_b hok 6 [(68, _), (73, _)] (Bs23 ++ ([])) (rsA (Pull.sub (.thereC _ (.thereC _ (.there _ (.there _ (.there _ (.here _ _))))))) rsN) rfl rfl rfl (lc rfl (lc rfl ln)) (by kernel_rfl) trivial (fun H' hy hK => o_lkE (z := 0) (k := (fun i => (l1[i9.toNat]!) (2 + i))) kt39 Try.underlying29 ze3 rfl rfl hJs23 (fun x hx => hy x (Pull.sub (.here _ _) x hx))) ?_
                      obtain ⟨ho30, h⟩ := h
                      refine xd_b hok 7 [(74, _)] ([]) rsN rfl rfl rfl (lc rfl ln) (by kernel_rfl) trivial (fun H' hy hK => o_add rfl rfl rfl ho30) ?_
                      refine xd_fl0 hok 0 10 [(68, _), (77, _), (75, _)] rfl rfl (by kernel_rfl) (by kernel_rfl) (lc rfl (lc rfl (lc rfl ln))) (by kernel_rfl) trivial (OT.push (fun q_ => (b11, BK 28 (iv ((act_F limit0 fb13_1 (l1[i9.toNat]!)).1)) 39) :: ((b13, BK 2 (cl [.int .i64 limit0, vg17_0]) 64) :: (Bg17_0 ++ (Bs13 ++ (B8_1 ++ (q_ ++ ([]))))))) (fun _ => (.thereC _ (.thereC _ (.there _ (.there _ (.there _ (.here _ _))))))) (OT.st (fun _ h => Pull.st (.thereC _ (.thereC _ (.there _ (.there _ (.there _ (.here _ _)))))) h) (o_est (e := (mget (eqN 28) in7 (fun i => (l1[i9.toNat]!) (2 + i)) 0) + 1) rfl rfl rfl hKme24))) ?_
                      rintro _ _ ⟨Bs31, rfl, hns31, hJs31⟩
                      rw [mset_mset (kt39.self _)] at hJs31
                      have hcBs31 := Cov.trans hcBs23 hns31
                      refine ⟨(Ks.consK (by simp) (Ks.consK (by simp) (Ks.segK (fun k hk => by simp [hk]) (Ks.segK (fun k hk => by simp [hk]) (Ks.segK (fun k hk => by simp [hk]) (Ks.segN hcBs31 Ks.nil)))))), ?_⟩
                      refine xd_show (H' := (b11, BK 28 (iv ((act_F limit0 fb13_1 (l1[i9.toNat]!)).1)) 39) :: ((b13, BK 2 (cl [.int .i64 limit0, vg17_0]) 64) :: (Bg17_0 ++ (Bs13 ++ (B8_1 ++ (Bs31 ++ ([]))))))) rfl ?_
                      refine xd_end hok (by kernel_rfl) ?_
                      refine xq_blk 2 ?_
                      refine xq_blk 1 ?_
                      refine xq_then (xw_region ?_)
                      refine xq rfl trivial (o_mv rfl) ?_
                      obtain ⟨ho32, h⟩ := h
                      refine xq rfl trivial (o_add rfl rfl rfl ho32) ?_
                      refine xq rfl trivial (o_as rfl) ?_
                      refine xo_nil ?_
                      exact xq_next (s' := ((mset (eqN 28) in7 (fun i => (l1[i9.toNat]!) (2 + i)) ((mget (eqN 28) in7 (fun i => (l1[i9.toNat]!) (2 + i)) 0) + 1), out8, i9 + 1, (act_F limit0 fb13_1 (l1[i9.toNat]!)).2.2) : (List ((Nat → Int) × Int)) × (List ((Nat → Int) × Int)) × Int × (List (Nat → Int)))) (e' := [(1, v1), (5, .pointer (some ⟨b13, 0, none⟩)), (7, v7_1), (8, v8_1), (9, .int .i64 (i9 + 1))]) (Bg17_0 ++ (B8_1 ++ (Bs31 ++ ((b13, BK 2 (cl [.int .i64 limit0, vg17_0]) 64) :: ([]))))) (lc rfl (lc rfl (lc rfl (lc rfl (lc rfl ln))))) (fun _ h => St.permI [1, 2, 3, 0] [[(b13, _)], Bg17_0, B8_1, Bs31] rfl (Kp.st (Kp.new hb11 (Kp.keep (Kp.segKeep (Kp.segNew (Cov.fresh hcBs13) (Kp.segKeep (Kp.segKeep Kp.nil)))))) _ h)) h ⟨vg17_0, v8_1, v7_1, Bs31, B8_1, Bg17_0, rfl, rfl, hJs31, hJ8_1, hJBg17_0, hcBs31, hcB8_1, hcBg17_0⟩
                  · have hq21 : (decide (l1[i9.toNat]! 0 = 0)) = false := hc21
                    have hp21 : ¬ (l1[i9.toNat]! 0 = 0) := of_decide_eq_false hq21
                    rw [if_neg hp21] at h
                    refine xw_cond_f rfl rfl (xw_seq (xw_region ?_))
                    refine xq rfl trivial (o_eql rfl rfl) ?_
                    refine xq rfl trivial (o_as rfl) ?_
                    refine xo_nil (xq_then ?_)
                    refine xw_bool 78 rfl (fun hc33 => ?_) (fun hc33 => ?_)
                    · have hq33 : (decide (l1[i9.toNat]! 0 = 1)) = true := hc33
                      have hp33 : l1[i9.toNat]! 0 = 1 := of_decide_eq_true hq33
                      rw [if_pos hp33] at h
                      refine xw_cond_t rfl rfl (xw_seq ?_)
                      refine xd_start (by kernel_rfl) (by kernel_rfl) (fun hok => ?_)
                      refine xd_b hok 0 [(8, _)] ([]) rsN rfl rfl rfl (lc rfl ln) (by kernel_rfl) trivial (fun H' hy hK => o_mv rfl) ?_
                      refine xd_b hok 1 [(11, _)] ((b11, BK 28 (iv ((act_F limit0 fb13_1 (l1[i9.toNat]!)).1)) 39) :: ([])) (rsC (List.Mem.head _) rsN) rfl rfl rfl (lc rfl ln) (by kernel_rfl) trivial (fun H' hy hK => o_ldW rfl ts39 (hy _ (List.Mem.head _))) ?_
                      refine xd_step2 hok 2 4 [(80, _), (81, _)] [(80, _), (81, _)] rfl rfl rfl rfl (by kernel_rfl) (lc rfl (lc rfl ln)) (lc rfl (lc rfl ln)) (by kernel_rfl) (by kernel_rfl) trivial trivial (o_lk (z := 0) (k := (act_F limit0 fb13_1 (l1[i9.toNat]!)).1) kt39 Try.underlying29 ze3 rfl rfl hJ8_1 (Pull.sub (.thereC _ (.thereC _ (.there _ (.there _ (.here _ _))))))) (OT.push (fun q_ => (b11, BK 28 (iv ((act_F limit0 fb13_1 (l1[i9.toNat]!)).1)) 39) :: ((b13, BK 2 (cl [.int .i64 limit0, vg17_0]) 64) :: (Bg17_0 ++ (Bs13 ++ (q_ ++ (B7_1 ++ ([]))))))) (fun _ => (.thereC _ (.thereC _ (.there _ (.there _ (.here _ _)))))) (OT.st (fun _ h => Pull.st (.thereC _ (.thereC _ (.there _ (.there _ (.here _ _))))) h) (o_ment (z := 0) (k := (act_F limit0 fb13_1 (l1[i9.toNat]!)).1) kt39 Try.underlying29 ze3 rfl rfl hJ8_1))) ?_ ?_
                      · rintro _ _ ⟨rfl, rfl⟩
                        refine ⟨(rsA (rsC (List.Mem.head _) rsN) (rsA rsN rsN)), (Ks.consK (by simp) (Ks.consK (by simp) (Ks.segK (fun k hk => by simp [hk]) (Ks.segK (fun k hk => by simp [hk]) (Ks.segK (fun k hk => by simp [hk]) (Ks.segK (fun k hk => by simp [hk]) Ks.nil)))))), ?_⟩
                        obtain ⟨ho36, h⟩ := h
                        refine xd_b hok 3 [(82, _)] ([]) rsN rfl rfl rfl (lc rfl ln) (by kernel_rfl) trivial (fun H' hy hK => o_add rfl rfl rfl ho36) ?_
                        refine xd_step hok 4 [(80, _), (81, _)] rfl rfl (by kernel_rfl) (lc rfl (lc rfl ln)) (by kernel_rfl) trivial (OT.push (fun q_ => (b11, BK 28 (iv ((act_F limit0 fb13_1 (l1[i9.toNat]!)).1)) 39) :: ((b13, BK 2 (cl [.int .i64 limit0, vg17_0]) 64) :: (Bg17_0 ++ (Bs13 ++ (q_ ++ (B7_1 ++ ([]))))))) (fun _ => (.thereC _ (.thereC _ (.there _ (.there _ (.here _ _)))))) (OT.st (fun _ h => Pull.st (.thereC _ (.thereC _ (.there _ (.there _ (.here _ _))))) h) (o_ment (z := 0) (k := (act_F limit0 fb13_1 (l1[i9.toNat]!)).1) kt39 Try.underlying29 ze3 rfl rfl hJ8_1))) ?_
                        rintro _ _ ⟨Bs37, rfl, hns37, me38, hKme38, rfl⟩
                        have hJs37 := hKme38.mj
                        have hcBs37 := Cov.trans hcB8_1 hns37
                        refine ⟨(rsA rsN (rsA (rsC (List.Mem.head _) rsN) (rsA rsN rsN))), (Ks.consK (by simp) (Ks.consK (by simp) (Ks.segK (fun k hk => by simp [hk]) (Ks.segK (fun k hk => by simp [hk]) (Ks.segN hcBs37 (Ks.segK (fun k hk => by simp [hk]) Ks.nil)))))), ?_⟩
                        refine xd_show (H' := (b11, BK 28 (iv ((act_F limit0 fb13_1 (l1[i9.toNat]!)).1)) 39) :: ((b13, BK 2 (cl [.int .i64 limit0, vg17_0]) 64) :: (Bg17_0 ++ (Bs13 ++ (Bs37 ++ (B7_1 ++ ([]))))))) rfl ?_
                        refine xd_b hok 5 [(84, _)] ([]) rsN rfl rfl rfl (lc rfl ln) (by kernel_rfl) trivial (fun H' hy hK => o_ext rfl rfl) ?_
                        refine xd_fl0 hok 0 6 [(80, _), (85, _), (83, _)] rfl rfl (by kernel_rfl) (by kernel_rfl) (lc rfl (lc rfl (lc rfl ln))) (by kernel_rfl) trivial (OT.push (fun q_ => (b11, BK 28 (iv ((act_F limit0 fb13_1 (l1[i9.toNat]!)).1)) 39) :: ((b13, BK 2 (cl [.int .i64 limit0, vg17_0]) 64) :: (Bg17_0 ++ (Bs13 ++ (q_ ++ (B7_1 ++ ([]))))))) (fun _ => (.thereC _ (.thereC _ (.there _ (.there _ (.here _ _)))))) (OT.st (fun _ h => Pull.st (.thereC _ (.thereC _ (.there _ (.there _ (.here _ _))))) h) (o_est (e := (mget (eqN 28) out8 ((act_F limit0 fb13_1 (l1[i9.toNat]!)).1) 0) + 1) rfl rfl rfl hKme38))) ?_
                        rintro _ _ ⟨Bs39, rfl, hns39, hJs39⟩
                        rw [mset_mset (kt39.self _)] at hJs39
                        have hcBs39 := Cov.trans hcBs37 hns39
                        refine ⟨(Ks.consK (by simp) (Ks.consK (by simp) (Ks.segK (fun k hk => by simp [hk]) (Ks.segK (fun k hk => by simp [hk]) (Ks.segN hcBs39 (Ks.segK (fun k hk => by simp [hk]) Ks.nil)))))), ?_⟩
                        refine xd_show (H' := (b11, BK 28 (iv ((act_F limit0 fb13_1 (l1[i9.toNat]!)).1)) 39) :: ((b13, BK 2 (cl [.int .i64 limit0, vg17_0]) 64) :: (Bg17_0 ++ (Bs13 ++ (Bs39 ++ (B7_1 ++ ([]))))))) rfl ?_
                        refine xd_end hok (by kernel_rfl) ?_
                        refine xq_then (xw_seq ?_)
                        refine xd_start (by kernel_rfl) (by kernel_rfl) (fun hok => ?_)
                        refine xd_b hok 0 [(8, _)] ([]) rsN rfl rfl rfl (lc rfl ln) (by kernel_rfl) trivial (fun H' hy hK => o_mv rfl) ?_
                        refine xd_b hok 1 [(11, _)] ((b11, BK 28 (iv ((act_F limit0 fb13_1 (l1[i9.toNat]!)).1)) 39) :: ([])) (rsC (List.Mem.head _) rsN) rfl rfl rfl (lc rfl ln) (by kernel_rfl) trivial (fun H' hy hK => o_ldW rfl ts39 (hy _ (List.Mem.head _))) ?_
                        refine xd_b hok 3 [(7, _)] ([]) rsN rfl rfl rfl (lc rfl ln) (by kernel_rfl) trivial (fun H' hy hK => o_mv rfl) ?_
                        refine xd_b hok 4 [(11, _)] ((b11, BK 28 (iv ((act_F limit0 fb13_1 (l1[i9.toNat]!)).1)) 39) :: ([])) (rsC (List.Mem.head _) rsN) rfl rfl rfl (lc rfl ln) (by kernel_rfl) trivial (fun H' hy hK => o_ldW rfl ts39 (hy _ (List.Mem.head _))) ?_
                        refine xd_b hok 2 [(86, _), (87, _)] (Bs39 ++ ([])) (rsA (Pull.sub (.thereC _ (.thereC _ (.there _ (.there _ (.here _ _)))))) rsN) rfl rfl rfl (lc rfl (lc rfl ln)) (by kernel_rfl) trivial (fun H' hy hK => o_lk (z := 0) (k := (act_F limit0 fb13_1 (l1[i9.toNat]!)).1) kt39 Try.underlying29 ze3 rfl rfl hJs39 (fun x hx => hy x (Pull.sub (.here _ _) x hx))) ?_
                        refine xd_b hok 5 [(89, _), (90, _)] (B7_1 ++ ([])) (rsA (Pull.sub (.thereC _ (.thereC _ (.there _ (.there _ (.there _ (.here _ _))))))) rsN) rfl rfl rfl (lc rfl (lc rfl ln)) (by kernel_rfl) trivial (fun H' hy hK => o_lk (z := 0) (k := (act_F limit0 fb13_1 (l1[i9.toNat]!)).1) kt39 Try.underlying29 ze3 rfl rfl hJ7_1 (fun x hx => hy x (Pull.sub (.here _ _) x hx))) ?_
                        refine xd_b hok 6 [(88, _), (91, _)] ([]) rsN rfl rfl rfl (lc rfl (lc rfl ln)) (by kernel_rfl) trivial (fun H' hy hK => o_gtr rfl rfl) ?_
                        refine xd_end hok (by kernel_rfl) ?_
                        refine xq_then ?_
                        refine xw_bool 92 rfl (fun hc40 => ?_) (fun hc40 => ?_)
                        · have hq40 : (decide (mget (eqN 28) in7 ((act_F limit0 fb13_1 (l1[i9.toNat]!)).1) 0 < mget (eqN 28) (mset (eqN 28) out8 ((act_F limit0 fb13_1 (l1[i9.toNat]!)).1) ((mget (eqN 28) out8 ((act_F limit0 fb13_1 (l1[i9.toNat]!)).1) 0) + 1)) ((act_F limit0 fb13_1 (l1[i9.toNat]!)).1) 0)) = true := hc40
                          have hp40 : mget (eqN 28) in7 ((act_F limit0 fb13_1 (l1[i9.toNat]!)).1) 0 < mget (eqN 28) (mset (eqN 28) out8 ((act_F limit0 fb13_1 (l1[i9.toNat]!)).1) ((mget (eqN 28) out8 ((act_F limit0 fb13_1 (l1[i9.toNat]!)).1) 0) + 1)) ((act_F limit0 fb13_1 (l1[i9.toNat]!)).1) 0 := of_decide_eq_true hq40
                          rw [if_pos hp40] at h
                          refine xw_cond_t rfl rfl (xw_seq (xw_region ?_))
                          refine xq rfl trivial (o_as rfl) ?_
                          refine xo_nil (xq_then (xw_ret (xq_blk_ret (xq_blk_ret (xq_then_ret ?_)))))
                          exact xq_out (r := (.inr ((act_F limit0 fb13_1 (l1[i9.toNat]!)).2.2) : ((List (Nat → Int))) ⊕ ((List (Nat → Int))))) (e' := [(4, .bool false)]) (Bg17_0 ++ (Bs39 ++ (B7_1 ++ ((b13, BK 2 (cl [.int .i64 limit0, vg17_0]) 64) :: ([]))))) (lc rfl ln) (fun _ h => St.permI [1, 2, 3, 0] [[(b13, _)], Bg17_0, Bs39, B7_1] rfl (Kp.st (Kp.new hb11 (Kp.keep (Kp.segKeep (Kp.segNew (Cov.fresh hcBs13) (Kp.segKeep (Kp.segKeep Kp.nil)))))) _ h)) h (by intro hh; cases hh) ⟨vg17_0, B7_1, Bs39, Bg17_0, rfl, rfl, rfl, hJBg17_0, hcB7_1, hcBs39, hcBg17_0⟩
                        · have hq40 : (decide (mget (eqN 28) in7 ((act_F limit0 fb13_1 (l1[i9.toNat]!)).1) 0 < mget (eqN 28) (mset (eqN 28) out8 ((act_F limit0 fb13_1 (l1[i9.toNat]!)).1) ((mget (eqN 28) out8 ((act_F limit0 fb13_1 (l1[i9.toNat]!)).1) 0) + 1)) ((act_F limit0 fb13_1 (l1[i9.toNat]!)).1) 0)) = false := hc40
                          have hp40 : ¬ (mget (eqN 28) in7 ((act_F limit0 fb13_1 (l1[i9.toNat]!)).1) 0 < mget (eqN 28) (mset (eqN 28) out8 ((act_F limit0 fb13_1 (l1[i9.toNat]!)).1) ((mget (eqN 28) out8 ((act_F limit0 fb13_1 (l1[i9.toNat]!)).1) 0) + 1)) ((act_F limit0 fb13_1 (l1[i9.toNat]!)).1) 0) := of_decide_eq_false hq40
                          rw [if_neg hp40] at h
                          refine xw_cond_f rfl rfl (xw_skip ?_)
                          refine xq_blk 2 ?_
                          refine xq_blk 1 ?_
                          refine xq_then (xw_region ?_)
                          refine xq rfl trivial (o_mv rfl) ?_
                          obtain ⟨ho41, h⟩ := h
                          refine xq rfl trivial (o_add rfl rfl rfl ho41) ?_
                          refine xq rfl trivial (o_as rfl) ?_
                          refine xo_nil ?_
                          exact xq_next (s' := ((in7, mset (eqN 28) out8 ((act_F limit0 fb13_1 (l1[i9.toNat]!)).1) ((mget (eqN 28) out8 ((act_F limit0 fb13_1 (l1[i9.toNat]!)).1) 0) + 1), i9 + 1, (act_F limit0 fb13_1 (l1[i9.toNat]!)).2.2) : (List ((Nat → Int) × Int)) × (List ((Nat → Int) × Int)) × Int × (List (Nat → Int)))) (e' := [(1, v1), (5, .pointer (some ⟨b13, 0, none⟩)), (7, v7_1), (8, v8_1), (9, .int .i64 (i9 + 1))]) (Bg17_0 ++ (Bs39 ++ (B7_1 ++ ((b13, BK 2 (cl [.int .i64 limit0, vg17_0]) 64) :: ([]))))) (lc rfl (lc rfl (lc rfl (lc rfl (lc rfl ln))))) (fun _ h => St.permI [1, 2, 3, 0] [[(b13, _)], Bg17_0, Bs39, B7_1] rfl (Kp.st (Kp.new hb11 (Kp.keep (Kp.segKeep (Kp.segNew (Cov.fresh hcBs13) (Kp.segKeep (Kp.segKeep Kp.nil)))))) _ h)) h ⟨vg17_0, v8_1, v7_1, B7_1, Bs39, Bg17_0, rfl, rfl, hJ7_1, hJs39, hJBg17_0, hcB7_1, hcBs39, hcBg17_0⟩
                      · rintro _ _ ⟨Bs34, rfl, hns34, me35, hKme35, rfl⟩
                        have hJs34 := hKme35.mj
                        have hcBs34 := Cov.trans hcB8_1 hns34
                        refine xd_sh2 (H' := (b11, BK 28 (iv ((act_F limit0 fb13_1 (l1[i9.toNat]!)).1)) 39) :: ((b13, BK 2 (cl [.int .i64 limit0, vg17_0]) 64) :: (Bg17_0 ++ (Bs13 ++ (Bs34 ++ (B7_1 ++ ([]))))))) rfl ?_
                        refine ⟨(rsA (rsC (List.Mem.head _) rsN) (rsA rsN rsN)), (Ks.consK (by simp) (Ks.consK (by simp) (Ks.segK (fun k hk => by simp [hk]) (Ks.segK (fun k hk => by simp [hk]) (Ks.segN hcBs34 (Ks.segK (fun k hk => by simp [hk]) Ks.nil)))))), ?_⟩
                        refine xd_b hok 5 [(84, _)] ([]) rsN rfl rfl rfl (lc rfl ln) (by kernel_rfl) trivial (fun H' hy hK => o_ext rfl rfl) ?_
                        refine xd_b hok 2 [(80, _), (81, _)] (Bs34 ++ ([])) (rsA (Pull.sub (.thereC _ (.thereC _ (.there _ (.there _ (.here _ _)))))) rsN) rfl rfl rfl (lc rfl (lc rfl ln)) (by kernel_rfl) trivial (fun H' hy hK => o_lkE (z := 0) (k := (act_F limit0 fb13_1 (l1[i9.toNat]!)).1) kt39 Try.underlying29 ze3 rfl rfl hJs34 (fun x hx => hy x (Pull.sub (.here _ _) x hx))) ?_
                        obtain ⟨ho42, h⟩ := h
                        refine xd_b hok 3 [(82, _)] ([]) rsN rfl rfl rfl (lc rfl ln) (by kernel_rfl) trivial (fun H' hy hK => o_add rfl rfl rfl ho42) ?_
                        refine xd_fl0 hok 0 6 [(80, _), (85, _), (83, _)] rfl rfl (by kernel_rfl) (by kernel_rfl) (lc rfl (lc rfl (lc rfl ln))) (by kernel_rfl) trivial (OT.push (fun q_ => (b11, BK 28 (iv ((act_F limit0 fb13_1 (l1[i9.toNat]!)).1)) 39) :: ((b13, BK 2 (cl [.int .i64 limit0, vg17_0]) 64) :: (Bg17_0 ++ (Bs13 ++ (q_ ++ (B7_1 ++ ([]))))))) (fun _ => (.thereC _ (.thereC _ (.there _ (.there _ (.here _ _)))))) (OT.st (fun _ h => Pull.st (.thereC _ (.thereC _ (.there _ (.there _ (.here _ _))))) h) (o_est (e := (mget (eqN 28) out8 ((act_F limit0 fb13_1 (l1[i9.toNat]!)).1) 0) + 1) rfl rfl rfl hKme35))) ?_
                        rintro _ _ ⟨Bs43, rfl, hns43, hJs43⟩
                        rw [mset_mset (kt39.self _)] at hJs43
                        have hcBs43 := Cov.trans hcBs34 hns43
                        refine ⟨(Ks.consK (by simp) (Ks.consK (by simp) (Ks.segK (fun k hk => by simp [hk]) (Ks.segK (fun k hk => by simp [hk]) (Ks.segN hcBs43 (Ks.segK (fun k hk => by simp [hk]) Ks.nil)))))), ?_⟩
                        refine xd_show (H' := (b11, BK 28 (iv ((act_F limit0 fb13_1 (l1[i9.toNat]!)).1)) 39) :: ((b13, BK 2 (cl [.int .i64 limit0, vg17_0]) 64) :: (Bg17_0 ++ (Bs13 ++ (Bs43 ++ (B7_1 ++ ([]))))))) rfl ?_
                        refine xd_end hok (by kernel_rfl) ?_
                        refine xq_then (xw_seq ?_)
                        refine xd_start (by kernel_rfl) (by kernel_rfl) (fun hok => ?_)
                        refine xd_b hok 0 [(8, _)] ([]) rsN rfl rfl rfl (lc rfl ln) (by kernel_rfl) trivial (fun H' hy hK => o_mv rfl) ?_
                        refine xd_b hok 1 [(11, _)] ((b11, BK 28 (iv ((act_F limit0 fb13_1 (l1[i9.toNat]!)).1)) 39) :: ([])) (rsC (List.Mem.head _) rsN) rfl rfl rfl (lc rfl ln) (by kernel_rfl) trivial (fun H' hy hK => o_ldW rfl ts39 (hy _ (List.Mem.head _))) ?_
                        refine xd_b hok 3 [(7, _)] ([]) rsN rfl rfl rfl (lc rfl ln) (by kernel_rfl) trivial (fun H' hy hK => o_mv rfl) ?_
                        refine xd_b hok 4 [(11, _)] ((b11, BK 28 (iv ((act_F limit0 fb13_1 (l1[i9.toNat]!)).1)) 39) :: ([])) (rsC (List.Mem.head _) rsN) rfl rfl rfl (lc rfl ln) (by kernel_rfl) trivial (fun H' hy hK => o_ldW rfl ts39 (hy _ (List.Mem.head _))) ?_
                        refine xd_b hok 2 [(86, _), (87, _)] (Bs43 ++ ([])) (rsA (Pull.sub (.thereC _ (.thereC _ (.there _ (.there _ (.here _ _)))))) rsN) rfl rfl rfl (lc rfl (lc rfl ln)) (by kernel_rfl) trivial (fun H' hy hK => o_lk (z := 0) (k := (act_F limit0 fb13_1 (l1[i9.toNat]!)).1) kt39 Try.underlying29 ze3 rfl rfl hJs43 (fun x hx => hy x (Pull.sub (.here _ _) x hx))) ?_
                        refine xd_b hok 5 [(89, _), (90, _)] (B7_1 ++ ([])) (rsA (Pull.sub (.thereC _ (.thereC _ (.there _ (.there _ (.there _ (.here _ _))))))) rsN) rfl rfl rfl (lc rfl (lc rfl ln)) (by kernel_rfl) trivial (fun H' hy hK => o_lk (z := 0) (k := (act_F limit0 fb13_1 (l1[i9.toNat]!)).1) kt39 Try.underlying29 ze3 rfl rfl hJ7_1 (fun x hx => hy x (Pull.sub (.here _ _) x hx))) ?_
                        refine xd_b hok 6 [(88, _), (91, _)] ([]) rsN rfl rfl rfl (lc rfl (lc rfl ln)) (by kernel_rfl) trivial (fun H' hy hK => o_gtr rfl rfl) ?_
                        refine xd_end hok (by kernel_rfl) ?_
                        refine xq_then ?_
                        refine xw_bool 92 rfl (fun hc44 => ?_) (fun hc44 => ?_)
                        · have hq44 : (decide (mget (eqN 28) in7 ((act_F limit0 fb13_1 (l1[i9.toNat]!)).1) 0 < mget (eqN 28) (mset (eqN 28) out8 ((act_F limit0 fb13_1 (l1[i9.toNat]!)).1) ((mget (eqN 28) out8 ((act_F limit0 fb13_1 (l1[i9.toNat]!)).1) 0) + 1)) ((act_F limit0 fb13_1 (l1[i9.toNat]!)).1) 0)) = true := hc44
                          have hp44 : mget (eqN 28) in7 ((act_F limit0 fb13_1 (l1[i9.toNat]!)).1) 0 < mget (eqN 28) (mset (eqN 28) out8 ((act_F limit0 fb13_1 (l1[i9.toNat]!)).1) ((mget (eqN 28) out8 ((act_F limit0 fb13_1 (l1[i9.toNat]!)).1) 0) + 1)) ((act_F limit0 fb13_1 (l1[i9.toNat]!)).1) 0 := of_decide_eq_true hq44
                          rw [if_pos hp44] at h
                          refine xw_cond_t rfl rfl (xw_seq (xw_region ?_))
                          refine xq rfl trivial (o_as rfl) ?_
                          refine xo_nil (xq_then (xw_ret (xq_blk_ret (xq_blk_ret (xq_then_ret ?_)))))
                          exact xq_out (r := (.inr ((act_F limit0 fb13_1 (l1[i9.toNat]!)).2.2) : ((List (Nat → Int))) ⊕ ((List (Nat → Int))))) (e' := [(4, .bool false)]) (Bg17_0 ++ (Bs43 ++ (B7_1 ++ ((b13, BK 2 (cl [.int .i64 limit0, vg17_0]) 64) :: ([]))))) (lc rfl ln) (fun _ h => St.permI [1, 2, 3, 0] [[(b13, _)], Bg17_0, Bs43, B7_1] rfl (Kp.st (Kp.new hb11 (Kp.keep (Kp.segKeep (Kp.segNew (Cov.fresh hcBs13) (Kp.segKeep (Kp.segKeep Kp.nil)))))) _ h)) h (by intro hh; cases hh) ⟨vg17_0, B7_1, Bs43, Bg17_0, rfl, rfl, rfl, hJBg17_0, hcB7_1, hcBs43, hcBg17_0⟩
                        · have hq44 : (decide (mget (eqN 28) in7 ((act_F limit0 fb13_1 (l1[i9.toNat]!)).1) 0 < mget (eqN 28) (mset (eqN 28) out8 ((act_F limit0 fb13_1 (l1[i9.toNat]!)).1) ((mget (eqN 28) out8 ((act_F limit0 fb13_1 (l1[i9.toNat]!)).1) 0) + 1)) ((act_F limit0 fb13_1 (l1[i9.toNat]!)).1) 0)) = false := hc44
                          have hp44 : ¬ (mget (eqN 28) in7 ((act_F limit0 fb13_1 (l1[i9.toNat]!)).1) 0 < mget (eqN 28) (mset (eqN 28) out8 ((act_F limit0 fb13_1 (l1[i9.toNat]!)).1) ((mget (eqN 28) out8 ((act_F limit0 fb13_1 (l1[i9.toNat]!)).1) 0) + 1)) ((act_F limit0 fb13_1 (l1[i9.toNat]!)).1) 0) := of_decide_eq_false hq44
                          rw [if_neg hp44] at h
                          refine xw_cond_f rfl rfl (xw_skip ?_)
                          refine xq_blk 2 ?_
                          refine xq_blk 1 ?_
                          refine xq_then (xw_region ?_)
                          refine xq rfl trivial (o_mv rfl) ?_
                          obtain ⟨ho45, h⟩ := h
                          refine xq rfl trivial (o_add rfl rfl rfl ho45) ?_
                          refine xq rfl trivial (o_as rfl) ?_
                          refine xo_nil ?_
                          exact xq_next (s' := ((in7, mset (eqN 28) out8 ((act_F limit0 fb13_1 (l1[i9.toNat]!)).1) ((mget (eqN 28) out8 ((act_F limit0 fb13_1 (l1[i9.toNat]!)).1) 0) + 1), i9 + 1, (act_F limit0 fb13_1 (l1[i9.toNat]!)).2.2) : (List ((Nat → Int) × Int)) × (List ((Nat → Int) × Int)) × Int × (List (Nat → Int)))) (e' := [(1, v1), (5, .pointer (some ⟨b13, 0, none⟩)), (7, v7_1), (8, v8_1), (9, .int .i64 (i9 + 1))]) (Bg17_0 ++ (Bs43 ++ (B7_1 ++ ((b13, BK 2 (cl [.int .i64 limit0, vg17_0]) 64) :: ([]))))) (lc rfl (lc rfl (lc rfl (lc rfl (lc rfl ln))))) (fun _ h => St.permI [1, 2, 3, 0] [[(b13, _)], Bg17_0, Bs43, B7_1] rfl (Kp.st (Kp.new hb11 (Kp.keep (Kp.segKeep (Kp.segNew (Cov.fresh hcBs13) (Kp.segKeep (Kp.segKeep Kp.nil)))))) _ h)) h ⟨vg17_0, v8_1, v7_1, B7_1, Bs43, Bg17_0, rfl, rfl, hJ7_1, hJs43, hJBg17_0, hcB7_1, hcBs43, hcBg17_0⟩
                    · have hq33 : (decide (l1[i9.toNat]! 0 = 1)) = false := hc33
                      have hp33 : ¬ (l1[i9.toNat]! 0 = 1) := of_decide_eq_false hq33
                      rw [if_neg hp33] at h
                      refine xw_cond_f rfl rfl (xw_seq (xw_region ?_))
                      refine xq rfl trivial (o_eql rfl rfl) ?_
                      refine xq rfl trivial (o_as rfl) ?_
                      refine xo_nil (xq_then ?_)
                      refine xw_bool 93 rfl (fun hc46 => ?_) (fun hc46 => ?_)
                      · have hq46 : (decide (l1[i9.toNat]! 0 = 3)) = true := hc46
                        have hp46 : l1[i9.toNat]! 0 = 3 := of_decide_eq_true hq46
                        rw [if_pos hp46] at h
                        refine xw_cond_t rfl rfl (xw_seq (xw_region ?_))
                        refine xq rfl trivial (o_mv rfl) ?_
                        obtain ⟨ho47, h⟩ := h
                        refine xo rfl trivial (OT.st (fun _ h => St.permI [1, 2, 0, 3, 4, 5] [[(b11, _)], [(b13, _)], Bg17_0, Bs13, B8_1, B7_1] rfl h) (ot_callF (Cs := [[(b13, _)], Bg17_0]) (Rs := [[(b11, _)], Bs13, B8_1, B7_1]) kf10 rfl (fun w1 hw1 => nall_c _ _ _ _ _ w1 hJBg17_0 (St.hasC hw1) ho47) (fun _ _ _ h => h.1))) ?_
                        rintro vs50 _ ⟨w1, _, rfl, hle, -, _, Bs50, rfl, rfl, hJs50, hcBs50⟩
                        replace hcBs50 := Cov.base (w0 := w) hcBs50 hle
                        refine xo_st ((b13, BK 2 (cl [.int .i64 limit0, vg17_0]) 64) :: (Bg17_0 ++ (Bs50 ++ ((b11, BK 28 (iv ((act_F limit0 fb13_1 (l1[i9.toNat]!)).1)) 39) :: (Bs13 ++ (B8_1 ++ (B7_1 ++ ([])))))))) (fun _ h => h) ?_
                        refine xq rfl trivial (o_as rfl) ?_
                        refine xo_nil (xq_then (xw_seq (xw_seq (xw_region ?_))))
                        refine xq rfl trivial (o_mv rfl) ?_
                        refine xq rfl trivial (o_lenL rfl Try.underlying30 rfl (OJ.val hJs50)) ?_
                        refine xq rfl trivial (o_mv rfl) ?_
                        refine xq rfl trivial (o_lenL rfl Try.underlying30 rfl (OJ.val hJs13)) ?_
                        obtain ⟨ho51, h⟩ := h
                        refine xq rfl trivial (o_add rfl rfl rfl ho51) ?_
                        refine xq rfl trivial (o_neq rfl rfl) ?_
                        refine xo_nil (xq_then ?_)
                        refine xw_bool 102 rfl (fun hc52 => ?_) (fun hc52 => ?_)
                        · have hq52 : (decide (((nall_F limit0 ((act_F limit0 fb13_1 (l1[i9.toNat]!)).2.2)).length : Int) = ((nall_F limit0 fb13_1).length : Int) + 1)) = false := (bnT hc52)
                          have hp52 : ¬ (((nall_F limit0 ((act_F limit0 fb13_1 (l1[i9.toNat]!)).2.2)).length : Int) = ((nall_F limit0 fb13_1).length : Int) + 1) := of_decide_eq_false hq52
                          rw [if_neg hp52] at h
                          refine xw_cond_t rfl rfl (xw_seq (xw_region ?_))
                          refine xq rfl trivial (o_as rfl) ?_
                          refine xo_nil (xq_then (xw_ret (xq_then_ret (xq_blk_ret (xq_blk_ret (xq_then_ret ?_))))))
                          exact xq_out (r := (.inr ((act_F limit0 fb13_1 (l1[i9.toNat]!)).2.2) : ((List (Nat → Int))) ⊕ ((List (Nat → Int))))) (e' := [(4, .bool false)]) (Bg17_0 ++ (B8_1 ++ (B7_1 ++ ((b13, BK 2 (cl [.int .i64 limit0, vg17_0]) 64) :: ([]))))) (lc rfl ln) (fun _ h => St.permI [1, 2, 3, 0] [[(b13, _)], Bg17_0, B8_1, B7_1] rfl (Kp.st (Kp.keep (Kp.segKeep (Kp.segNew (Cov.fresh hcBs50) (Kp.new hb11 (Kp.segNew (Cov.fresh hcBs13) (Kp.segKeep (Kp.segKeep Kp.nil))))))) _ h)) h (by intro hh; cases hh) ⟨vg17_0, B7_1, B8_1, Bg17_0, rfl, rfl, rfl, hJBg17_0, hcB7_1, hcB8_1, hcBg17_0⟩
                        · have hq52 : (decide (((nall_F limit0 ((act_F limit0 fb13_1 (l1[i9.toNat]!)).2.2)).length : Int) = ((nall_F limit0 fb13_1).length : Int) + 1)) = true := (bnF hc52)
                          have hp52 : ((nall_F limit0 ((act_F limit0 fb13_1 (l1[i9.toNat]!)).2.2)).length : Int) = ((nall_F limit0 fb13_1).length : Int) + 1 := of_decide_eq_true hq52
                          rw [if_pos hp52] at h
                          refine xw_cond_f rfl rfl (xw_skip (xq_then ?_))
                          refine xd_start (by kernel_rfl) (by kernel_rfl) (fun hok => ?_)
                          refine xd_b hok 0 [(7, _)] ([]) rsN rfl rfl rfl (lc rfl ln) (by kernel_rfl) trivial (fun H' hy hK => o_mv rfl) ?_
                          refine xd_b hok 1 [(13, _)] ([]) rsN rfl rfl rfl (lc rfl ln) (by kernel_rfl) trivial (fun H' hy hK => o_mv rfl) ?_
                          refine xd_b hok 2 [(13, _)] ([]) rsN rfl rfl rfl (lc rfl ln) (by kernel_rfl) trivial (fun H' hy hK => o_mv rfl) ?_
                          refine xd_b hok 3 [(105, _)] ([]) rsN rfl rfl rfl (lc rfl ln) (by kernel_rfl) trivial (fun H' hy hK => o_lenL rfl Try.underlying30 rfl (OJ.val hJs50)) ?_
                          obtain ⟨ho53, h⟩ := h
                          refine xd_b hok 4 [(106, _)] ([]) rsN rfl rfl rfl (lc rfl ln) (by kernel_rfl) trivial (fun H' hy hK => o_sub rfl rfl rfl ho53) ?_
                          obtain ⟨ho54, h⟩ := h
                          refine xd_b hok 5 [(104, _), (107, _)] (Bs50 ++ ([])) (rsA (Pull.sub (.thereC _ (.there _ (.here _ _)))) rsN) rfl rfl rfl (lc rfl (lc rfl ln)) (by kernel_rfl) trivial (fun H' hy hK => o_ixL el30 rfl rfl (fun w hw => (hJs50.sl hw (fun x hx => hy x (Pull.sub (.here _ _) x hx)))) rfl ho54) ?_
                          refine xd_b hok 6 [(108, _)] (Bs50 ++ ([])) (rsA (Pull.sub (.thereC _ (.there _ (.here _ _)))) rsN) rfl rfl rfl (lc rfl ln) (by kernel_rfl) trivial (fun H' hy hK => o_ldLI rfl ts39 rfl (fun w hw => (hJs50.sl hw (fun x hx => hy x (Pull.sub (.here _ _) x hx)))) (toNat_lt ho54) rfl) ?_
                          refine xd_step2 hok 7 9 [(103, _), (109, _)] [(103, _), (109, _)] rfl rfl rfl rfl (by kernel_rfl) (lc rfl (lc rfl ln)) (lc rfl (lc rfl ln)) (by kernel_rfl) (by kernel_rfl) trivial trivial (o_lk (z := 0) (k := ((nall_F limit0 ((act_F limit0 fb13_1 (l1[i9.toNat]!)).2.2))[(((nall_F limit0 ((act_F limit0 fb13_1 (l1[i9.toNat]!)).2.2)).length : Int) - 1).toNat]!)) kt39 Try.underlying29 ze3 rfl rfl hJ7_1 (Pull.sub (.thereC _ (.there _ (.there _ (.thereC _ (.there _ (.there _ (.here _ _))))))))) (OT.push (fun q_ => (b13, BK 2 (cl [.int .i64 limit0, vg17_0]) 64) :: (Bg17_0 ++ (Bs50 ++ ((b11, BK 28 (iv ((act_F limit0 fb13_1 (l1[i9.toNat]!)).1)) 39) :: (Bs13 ++ (B8_1 ++ (q_ ++ ([])))))))) (fun _ => (.thereC _ (.there _ (.there _ (.thereC _ (.there _ (.there _ (.here _ _)))))))) (OT.st (fun _ h => Pull.st (.thereC _ (.there _ (.there _ (.thereC _ (.there _ (.there _ (.here _ _))))))) h) (o_ment (z := 0) (k := ((nall_F limit0 ((act_F limit0 fb13_1 (l1[i9.toNat]!)).2.2))[(((nall_F limit0 ((act_F limit0 fb13_1 (l1[i9.toNat]!)).2.2)).length : Int) - 1).toNat]!)) kt39 Try.underlying29 ze3 rfl rfl hJ7_1))) ?_ ?_
                          · rintro _ _ ⟨rfl, rfl⟩
                            refine ⟨(rsA (rsA (Pull.sub (.thereC _ (.there _ (.here _ _)))) rsN) (rsA (rsA (Pull.sub (.thereC _ (.there _ (.here _ _)))) rsN) (rsA rsN (rsA rsN (rsA rsN (rsA rsN (rsA rsN rsN))))))), (Ks.consK (by simp) (Ks.segK (fun k hk => by simp [hk]) (Ks.segK (fun k hk => by simp [hk]) (Ks.consK (by simp) (Ks.segK (fun k hk => by simp [hk]) (Ks.segK (fun k hk => by simp [hk]) (Ks.segK (fun k hk => by simp [hk]) Ks.nil))))))), ?_⟩
                            obtain ⟨ho57, h⟩ := h
                            refine xd_b hok 8 [(110, _)] ([]) rsN rfl rfl rfl (lc rfl ln) (by kernel_rfl) trivial (fun H' hy hK => o_add rfl rfl rfl ho57) ?_
                            refine xd_step hok 9 [(103, _), (109, _)] rfl rfl (by kernel_rfl) (lc rfl (lc rfl ln)) (by kernel_rfl) trivial (OT.push (fun q_ => (b13, BK 2 (cl [.int .i64 limit0, vg17_0]) 64) :: (Bg17_0 ++ (Bs50 ++ ((b11, BK 28 (iv ((act_F limit0 fb13_1 (l1[i9.toNat]!)).1)) 39) :: (Bs13 ++ (B8_1 ++ (q_ ++ ([])))))))) (fun _ => (.thereC _ (.there _ (.there _ (.thereC _ (.there _ (.there _ (.here _ _)))))))) (OT.st (fun _ h => Pull.st (.thereC _ (.there _ (.there _ (.thereC _ (.there _ (.there _ (.here _ _))))))) h) (o_ment (z := 0) (k := ((nall_F limit0 ((act_F limit0 fb13_1 (l1[i9.toNat]!)).2.2))[(((nall_F limit0 ((act_F limit0 fb13_1 (l1[i9.toNat]!)).2.2)).length : Int) - 1).toNat]!)) kt39 Try.underlying29 ze3 rfl rfl hJ7_1))) ?_
                            rintro _ _ ⟨Bs58, rfl, hns58, me59, hKme59, rfl⟩
                            have hJs58 := hKme59.mj
                            have hcBs58 := Cov.trans hcB7_1 hns58
                            refine ⟨(rsA rsN (rsA (rsA (Pull.sub (.thereC _ (.there _ (.here _ _)))) rsN) (rsA (rsA (Pull.sub (.thereC _ (.there _ (.here _ _)))) rsN) (rsA rsN (rsA rsN (rsA rsN (rsA rsN (rsA rsN rsN)))))))), (Ks.consK (by simp) (Ks.segK (fun k hk => by simp [hk]) (Ks.segK (fun k hk => by simp [hk]) (Ks.consK (by simp) (Ks.segK (fun k hk => by simp [hk]) (Ks.segK (fun k hk => by simp [hk]) (Ks.segN hcBs58 Ks.nil))))))), ?_⟩
                            refine xd_show (H' := (b13, BK 2 (cl [.int .i64 limit0, vg17_0]) 64) :: (Bg17_0 ++ (Bs50 ++ ((b11, BK 28 (iv ((act_F limit0 fb13_1 (l1[i9.toNat]!)).1)) 39) :: (Bs13 ++ (B8_1 ++ (Bs58 ++ ([])))))))) rfl ?_
                            refine xd_b hok 10 [(112, _)] ([]) rsN rfl rfl rfl (lc rfl ln) (by kernel_rfl) trivial (fun H' hy hK => o_ext rfl rfl) ?_
                            refine xd_fl0 hok 0 11 [(103, _), (113, _), (111, _)] rfl rfl (by kernel_rfl) (by kernel_rfl) (lc rfl (lc rfl (lc rfl ln))) (by kernel_rfl) trivial (OT.push (fun q_ => (b13, BK 2 (cl [.int .i64 limit0, vg17_0]) 64) :: (Bg17_0 ++ (Bs50 ++ ((b11, BK 28 (iv ((act_F limit0 fb13_1 (l1[i9.toNat]!)).1)) 39) :: (Bs13 ++ (B8_1 ++ (q_ ++ ([])))))))) (fun _ => (.thereC _ (.there _ (.there _ (.thereC _ (.there _ (.there _ (.here _ _)))))))) (OT.st (fun _ h => Pull.st (.thereC _ (.there _ (.there _ (.thereC _ (.there _ (.there _ (.here _ _))))))) h) (o_est (e := (mget (eqN 28) in7 ((nall_F limit0 ((act_F limit0 fb13_1 (l1[i9.toNat]!)).2.2))[(((nall_F limit0 ((act_F limit0 fb13_1 (l1[i9.toNat]!)).2.2)).length : Int) - 1).toNat]!) 0) + 1) rfl rfl rfl hKme59))) ?_
                            rintro _ _ ⟨Bs60, rfl, hns60, hJs60⟩
                            rw [mset_mset (kt39.self _)] at hJs60
                            have hcBs60 := Cov.trans hcBs58 hns60
                            refine ⟨(Ks.consK (by simp) (Ks.segK (fun k hk => by simp [hk]) (Ks.segK (fun k hk => by simp [hk]) (Ks.consK (by simp) (Ks.segK (fun k hk => by simp [hk]) (Ks.segK (fun k hk => by simp [hk]) (Ks.segN hcBs60 Ks.nil))))))), ?_⟩
                            refine xd_show (H' := (b13, BK 2 (cl [.int .i64 limit0, vg17_0]) 64) :: (Bg17_0 ++ (Bs50 ++ ((b11, BK 28 (iv ((act_F limit0 fb13_1 (l1[i9.toNat]!)).1)) 39) :: (Bs13 ++ (B8_1 ++ (Bs60 ++ ([])))))))) rfl ?_
                            refine xd_end hok (by kernel_rfl) ?_
                            refine xq_blk 2 ?_
                            refine xq_blk 1 ?_
                            refine xq_then (xw_region ?_)
                            refine xq rfl trivial (o_mv rfl) ?_
                            obtain ⟨ho61, h⟩ := h
                            refine xq rfl trivial (o_add rfl rfl rfl ho61) ?_
                            refine xq rfl trivial (o_as rfl) ?_
                            refine xo_nil ?_
                            exact xq_next (s' := ((mset (eqN 28) in7 ((nall_F limit0 ((act_F limit0 fb13_1 (l1[i9.toNat]!)).2.2))[(((nall_F limit0 ((act_F limit0 fb13_1 (l1[i9.toNat]!)).2.2)).length : Int) - 1).toNat]!) ((mget (eqN 28) in7 ((nall_F limit0 ((act_F limit0 fb13_1 (l1[i9.toNat]!)).2.2))[(((nall_F limit0 ((act_F limit0 fb13_1 (l1[i9.toNat]!)).2.2)).length : Int) - 1).toNat]!) 0) + 1), out8, i9 + 1, (act_F limit0 fb13_1 (l1[i9.toNat]!)).2.2) : (List ((Nat → Int) × Int)) × (List ((Nat → Int) × Int)) × Int × (List (Nat → Int)))) (e' := [(1, v1), (5, .pointer (some ⟨b13, 0, none⟩)), (7, v7_1), (8, v8_1), (9, .int .i64 (i9 + 1))]) (Bg17_0 ++ (B8_1 ++ (Bs60 ++ ((b13, BK 2 (cl [.int .i64 limit0, vg17_0]) 64) :: ([]))))) (lc rfl (lc rfl (lc rfl (lc rfl (lc rfl ln))))) (fun _ h => St.permI [1, 2, 3, 0] [[(b13, _)], Bg17_0, B8_1, Bs60] rfl (Kp.st (Kp.keep (Kp.segKeep (Kp.segNew (Cov.fresh hcBs50) (Kp.new hb11 (Kp.segNew (Cov.fresh hcBs13) (Kp.segKeep (Kp.segKeep Kp.nil))))))) _ h)) h ⟨vg17_0, v8_1, v7_1, Bs60, B8_1, Bg17_0, rfl, rfl, hJs60, hJ8_1, hJBg17_0, hcBs60, hcB8_1, hcBg17_0⟩
                          · rintro _ _ ⟨Bs55, rfl, hns55, me56, hKme56, rfl⟩
                            have hJs55 := hKme56.mj
                            have hcBs55 := Cov.trans hcB7_1 hns55
                            refine xd_sh2 (H' := (b13, BK 2 (cl [.int .i64 limit0, vg17_0]) 64) :: (Bg17_0 ++ (Bs50 ++ ((b11, BK 28 (iv ((act_F limit0 fb13_1 (l1[i9.toNat]!)).1)) 39) :: (Bs13 ++ (B8_1 ++ (Bs55 ++ ([])))))))) rfl ?_
                            refine ⟨(rsA (rsA (Pull.sub (.thereC _ (.there _ (.here _ _)))) rsN) (rsA (rsA (Pull.sub (.thereC _ (.there _ (.here _ _)))) rsN) (rsA rsN (rsA rsN (rsA rsN (rsA rsN (rsA rsN rsN))))))), (Ks.consK (by simp) (Ks.segK (fun k hk => by simp [hk]) (Ks.segK (fun k hk => by simp [hk]) (Ks.consK (by simp) (Ks.segK (fun k hk => by simp [hk]) (Ks.segK (fun k hk => by simp [hk]) (Ks.segN hcBs55 Ks.nil))))))), ?_⟩
                            refine xd_b hok 10 [(112, _)] ([]) rsN rfl rfl rfl (lc rfl ln) (by kernel_rfl) trivial (fun H' hy hK => o_ext rfl rfl) ?_
                            refine xd_b hok 7 [(103, _), (109, _)] (Bs55 ++ ([])) (rsA (Pull.sub (.thereC _ (.there _ (.there _ (.thereC _ (.there _ (.there _ (.here _ _)))))))) rsN) rfl rfl rfl (lc rfl (lc rfl ln)) (by kernel_rfl) trivial (fun H' hy hK => o_lkE (z := 0) (k := ((nall_F limit0 ((act_F limit0 fb13_1 (l1[i9.toNat]!)).2.2))[(((nall_F limit0 ((act_F limit0 fb13_1 (l1[i9.toNat]!)).2.2)).length : Int) - 1).toNat]!)) kt39 Try.underlying29 ze3 rfl rfl hJs55 (fun x hx => hy x (Pull.sub (.here _ _) x hx))) ?_
                            obtain ⟨ho62, h⟩ := h
                            refine xd_b hok 8 [(110, _)] ([]) rsN rfl rfl rfl (lc rfl ln) (by kernel_rfl) trivial (fun H' hy hK => o_add rfl rfl rfl ho62) ?_
                            refine xd_fl0 hok 0 11 [(103, _), (113, _), (111, _)] rfl rfl (by kernel_rfl) (by kernel_rfl) (lc rfl (lc rfl (lc rfl ln))) (by kernel_rfl) trivial (OT.push (fun q_ => (b13, BK 2 (cl [.int .i64 limit0, vg17_0]) 64) :: (Bg17_0 ++ (Bs50 ++ ((b11, BK 28 (iv ((act_F limit0 fb13_1 (l1[i9.toNat]!)).1)) 39) :: (Bs13 ++ (B8_1 ++ (q_ ++ ([])))))))) (fun _ => (.thereC _ (.there _ (.there _ (.thereC _ (.there _ (.there _ (.here _ _)))))))) (OT.st (fun _ h => Pull.st (.thereC _ (.there _ (.there _ (.thereC _ (.there _ (.there _ (.here _ _))))))) h) (o_est (e := (mget (eqN 28) in7 ((nall_F limit0 ((act_F limit0 fb13_1 (l1[i9.toNat]!)).2.2))[(((nall_F limit0 ((act_F limit0 fb13_1 (l1[i9.toNat]!)).2.2)).length : Int) - 1).toNat]!) 0) + 1) rfl rfl rfl hKme56))) ?_
                            rintro _ _ ⟨Bs63, rfl, hns63, hJs63⟩
                            rw [mset_mset (kt39.self _)] at hJs63
                            have hcBs63 := Cov.trans hcBs55 hns63
                            refine ⟨(Ks.consK (by simp) (Ks.segK (fun k hk => by simp [hk]) (Ks.segK (fun k hk => by simp [hk]) (Ks.consK (by simp) (Ks.segK (fun k hk => by simp [hk]) (Ks.segK (fun k hk => by simp [hk]) (Ks.segN hcBs63 Ks.nil))))))), ?_⟩
                            refine xd_show (H' := (b13, BK 2 (cl [.int .i64 limit0, vg17_0]) 64) :: (Bg17_0 ++ (Bs50 ++ ((b11, BK 28 (iv ((act_F limit0 fb13_1 (l1[i9.toNat]!)).1)) 39) :: (Bs13 ++ (B8_1 ++ (Bs63 ++ ([])))))))) rfl ?_
                            refine xd_end hok (by kernel_rfl) ?_
                            refine xq_blk 2 ?_
                            refine xq_blk 1 ?_
                            refine xq_then (xw_region ?_)
                            refine xq rfl trivial (o_mv rfl) ?_
                            obtain ⟨ho64, h⟩ := h
                            refine xq rfl trivial (o_add rfl rfl rfl ho64) ?_
                            refine xq rfl trivial (o_as rfl) ?_
                            refine xo_nil ?_
                            exact xq_next (s' := ((mset (eqN 28) in7 ((nall_F limit0 ((act_F limit0 fb13_1 (l1[i9.toNat]!)).2.2))[(((nall_F limit0 ((act_F limit0 fb13_1 (l1[i9.toNat]!)).2.2)).length : Int) - 1).toNat]!) ((mget (eqN 28) in7 ((nall_F limit0 ((act_F limit0 fb13_1 (l1[i9.toNat]!)).2.2))[(((nall_F limit0 ((act_F limit0 fb13_1 (l1[i9.toNat]!)).2.2)).length : Int) - 1).toNat]!) 0) + 1), out8, i9 + 1, (act_F limit0 fb13_1 (l1[i9.toNat]!)).2.2) : (List ((Nat → Int) × Int)) × (List ((Nat → Int) × Int)) × Int × (List (Nat → Int)))) (e' := [(1, v1), (5, .pointer (some ⟨b13, 0, none⟩)), (7, v7_1), (8, v8_1), (9, .int .i64 (i9 + 1))]) (Bg17_0 ++ (B8_1 ++ (Bs63 ++ ((b13, BK 2 (cl [.int .i64 limit0, vg17_0]) 64) :: ([]))))) (lc rfl (lc rfl (lc rfl (lc rfl (lc rfl ln))))) (fun _ h => St.permI [1, 2, 3, 0] [[(b13, _)], Bg17_0, B8_1, Bs63] rfl (Kp.st (Kp.keep (Kp.segKeep (Kp.segNew (Cov.fresh hcBs50) (Kp.new hb11 (Kp.segNew (Cov.fresh hcBs13) (Kp.segKeep (Kp.segKeep Kp.nil))))))) _ h)) h ⟨vg17_0, v8_1, v7_1, Bs63, B8_1, Bg17_0, rfl, rfl, hJs63, hJ8_1, hJBg17_0, hcBs63, hcB8_1, hcBg17_0⟩
                      · have hq46 : (decide (l1[i9.toNat]! 0 = 3)) = false := hc46
                        have hp46 : ¬ (l1[i9.toNat]! 0 = 3) := of_decide_eq_false hq46
                        rw [if_neg hp46] at h
                        refine xw_cond_f rfl rfl (xw_skip ?_)
                        refine xq_blk 2 ?_
                        refine xq_blk 1 ?_
                        refine xq_then (xw_region ?_)
                        refine xq rfl trivial (o_mv rfl) ?_
                        obtain ⟨ho65, h⟩ := h
                        refine xq rfl trivial (o_add rfl rfl rfl ho65) ?_
                        refine xq rfl trivial (o_as rfl) ?_
                        refine xo_nil ?_
                        exact xq_next (s' := ((in7, out8, i9 + 1, (act_F limit0 fb13_1 (l1[i9.toNat]!)).2.2) : (List ((Nat → Int) × Int)) × (List ((Nat → Int) × Int)) × Int × (List (Nat → Int)))) (e' := [(1, v1), (5, .pointer (some ⟨b13, 0, none⟩)), (7, v7_1), (8, v8_1), (9, .int .i64 (i9 + 1))]) (Bg17_0 ++ (B8_1 ++ (B7_1 ++ ((b13, BK 2 (cl [.int .i64 limit0, vg17_0]) 64) :: ([]))))) (lc rfl (lc rfl (lc rfl (lc rfl (lc rfl ln))))) (fun _ h => St.permI [1, 2, 3, 0] [[(b13, _)], Bg17_0, B8_1, B7_1] rfl (Kp.st (Kp.new hb11 (Kp.keep (Kp.segKeep (Kp.segNew (Cov.fresh hcBs13) (Kp.segKeep (Kp.segKeep Kp.nil)))))) _ h)) h ⟨vg17_0, v8_1, v7_1, B7_1, B8_1, Bg17_0, rfl, rfl, hJ7_1, hJ8_1, hJBg17_0, hcB7_1, hcB8_1, hcBg17_0⟩
              · have hq9 : (decide (i9 < (l1.length : Int))) = false := hc9
                have hp9 : ¬ (i9 < (l1.length : Int)) := of_decide_eq_false hq9
                rw [if_neg hp9] at h
                refine xw_cond_f rfl rfl (xw_exit (xq_then_exit ?_))
                exact xq_out (r := (.inl fb13_1 : ((List (Nat → Int))) ⊕ ((List (Nat → Int))))) (e' := []) (Bb13_1_1 ++ (B8_1 ++ (B7_1 ++ ((b13, BK 2 (cl [.int .i64 limit0, vb13_1_1]) 64) :: ([]))))) ln (fun _ h => h) h (by intro hh; cases hh) ⟨vb13_1_1, B7_1, B8_1, Bb13_1_1, rfl, rfl, rfl, hJb13_1_1, hcB7_1, hcB8_1, hcBb13_1_1⟩
            · rcases x1 with fb13_1 | fb13_1
              · rintro _ _ _ ⟨vb13_1_1o, B7_1o, B8_1o, Bb13_1_1o, rfl, rfl, rfl, hJb13_1_1o, hcB7_1o, hcB8_1o, hcBb13_1_1o⟩
                replace h : often5_k1a fb13_1 r := h
                unfold often5_k1a at h
                refine xq_blk_eq ?_
                refine xq_then (xw_seq (xw_region ?_))
                refine xq rfl trivial (o_as rfl) ?_
                refine xo_nil (xq_then (xw_ret ?_))
                subst h
                exact con_ret1 (.inl rfl) Try.results3 rfl [] (Kp.st (Kp.segNew (Cov.fresh hcBb13_1_1o) (Kp.segNew (Cov.fresh hcB8_1o) (Kp.segNew (Cov.fresh hcB7_1o) (Kp.new hb13 Kp.nil))))) (⟨rfl, rfl⟩)
              rintro _ _ _ ⟨vb13_1_1o, B7_1o, B8_1o, Bb13_1_1o, rfl, rfl, rfl, hJb13_1_1o, hcB7_1o, hcB8_1o, hcBb13_1_1o⟩
              replace h : often5_k1b fb13_1 r := h
              unfold often5_k1b at h
              refine xq_blk_ret (xq_then_ret ?_)
              subst h
              exact con_ret1 (.inl rfl) Try.results3 rfl [] (Kp.st (Kp.segNew (Cov.fresh hcBb13_1_1o) (Kp.segNew (Cov.fresh hcB8_1o) (Kp.segNew (Cov.fresh hcB7_1o) (Kp.new hb13 Kp.nil))))) (⟨rfl, rfl⟩)

end Go.Proofs.Ythikmldodgijdaa
