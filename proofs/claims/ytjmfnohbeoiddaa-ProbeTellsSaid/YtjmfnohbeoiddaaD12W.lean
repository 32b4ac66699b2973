/- The code answers as the relations say. -/
import Derived.Test.YtjmfnohbeoiddaaTab
import Derived.Test.YtjmfnohbeoiddaaD12S
import Derived.Test.YtjmfnohbeoiddaaMRW
import Derived.Test.YtjmfnohbeoiddaaC12W
set_option maxHeartbeats 1000000
set_option linter.unusedVariables false
set_option linter.unusedSimpArgs false
set_option maxRecDepth 100000
namespace Go.Proofs.Ytjmfnohbeoiddaa
open Go Go.E

theorem ref04Ok_c (m0 : (Nat → Int)) (w : World) : Con Try.prog 37 #[AI 28 m0] w (Is (.bool (okB m0)) []) :=
  ref04Ok_con m0 w _ (ref04Ok_ok m0)

theorem isR_con (m0 : (Nat → Int)) (w : World) (r : Bool) (h : isR_S m0 r) : Con Try.prog 21 #[AI 28 m0] w (Is (.bool r) []) := by
  unfold isR_S at h
  refine con_enter (n := 10) [(0, _)] Try.func21 rfl Try.ntmps21 rfl (lac rfl lan) ?_
  refine xw_seq (xw_region ?_)
  refine xo rfl trivial (o_boxA rfl) ?_
  rintro _ _ ⟨b1, hb1, rfl, rfl⟩
  refine xq rfl trivial (o_as rfl) ?_
  refine xo_nil (xq_then (xw_seq ?_))
  refine xw_cut [] ln [(2, .bool ((decide (m0 0 = 11)) && ((okB m0))))] ?_ ?_
  · refine xw_region ?_
    first | refine xq rfl trivial (o_fa0 fl29_0 rfl) ?_ | refine xq rfl trivial (o_fa fl29_0 rfl) ?_
    refine xq rfl trivial (o_ldI (v := m0 0) rfl ts3 (List.Mem.head _) (by omega) rfl) ?_
    refine xq rfl trivial (o_eql rfl rfl) ?_
    refine xq rfl trivial (o_mv rfl) ?_
    refine xo_bool 6 rfl (fun hg1 => ?_) (fun hg1 => ?_)
    · have hq1 : (decide (m0 0 = 11)) = true := hg1
      have hp1 : m0 0 = 11 := of_decide_eq_true hq1
      refine xq rfl ⟨_, rfl, rfl⟩ (o_ldW rfl ts29 (List.Mem.head _)) ?_
      refine xcallq rfl ⟨_, rfl, rfl⟩ kf37 rfl (fun w1 hw1 => ref04Ok_c _ w1) ?_
      refine xq rfl trivial (o_pick_t rfl rfl) ?_
      refine xq rfl trivial (o_as rfl) ?_
      refine xo_nil ?_
      exact xq_cut ((lce rfl (by first | rfl | (simp only [hq1, if_pos hp1, bS]; done) | (simp [hp1]; done) | (simp_all; done)) ln)) (fun _ h => h)
    · have hq1 : (decide (m0 0 = 11)) = false := hg1
      have hp1 : ¬ (m0 0 = 11) := of_decide_eq_false hq1
      refine xs rfl ⟨_, _, rfl, rfl, rfl⟩ (xs rfl ⟨_, _, rfl, rfl, rfl⟩ ?_)
      refine xq rfl trivial (o_pick_f rfl rfl) ?_
      refine xq rfl trivial (o_as rfl) ?_
      refine xo_nil ?_
      exact xq_cut ((lce rfl (by first | rfl | (simp only [hq1, if_neg hp1, bS]; done) | (simp [hp1]; done) | (simp_all; done)) ln)) (fun _ h => h)
  · refine xq_then (xw_ret ?_)
    subst h
    exact con_ret1 (.inl rfl) Try.results21 rfl [] (Kp.st (Kp.new hb1 Kp.nil)) (⟨rfl, rfl⟩)

theorem isR_c (m0 : (Nat → Int)) (w : World) : Con Try.prog 21 #[AI 28 m0] w (Is (.bool (isR_F m0)) []) :=
  isR_con m0 w _ (isR_ok m0)

theorem onR_con (shard0 : Int) (m1 : (Nat → Int)) (ww2 : (Nat → Int)) (l3 : (List (Nat → Int))) (v3 : Value) (w : World) (hs3 : SL w 4 iv v3 l3) (r : (List (Nat → Int)) × Bool) (h : onR_S shard0 m1 ww2 l3 r) : Con Try.prog 32 #[.int .i64 shard0, AI 28 m1, AI 2 ww2, v3] w (fun v F => ∃ (u0 : Value) (C0 : GH), v = .tuple #[u0, .bool r.2] ∧ F = (C0 ++ []) ∧ OJ 29 28 iv C0 u0 r.1 ∧ Cov w [] C0) := by
  unfold onR_S at h
  refine con_enter (n := 67) [(0, _), (1, _), (2, _), (3, _)] Try.func32 rfl Try.ntmps32 rfl (lac rfl (lac rfl (lac rfl (lac rfl lan)))) ?_
  refine xw_seq (xw_region ?_)
  refine xo rfl trivial (o_boxA rfl) ?_
  rintro _ _ ⟨b5, hb5, rfl, rfl⟩
  refine xo rfl trivial (o_boxA rfl) ?_
  rintro _ _ ⟨b6, hb6, rfl, rfl⟩
  refine xq rfl trivial (o_as rfl) ?_
  refine xq rfl trivial (o_as rfl) ?_
  refine xo_nil (xq_then (xw_seq (xw_region ?_)))
  refine xq rfl trivial (o_as rfl) ?_
  refine xo_nil (xq_then (xw_seq (xw_seq (xw_region ?_))))
  refine xq rfl trivial (o_as rfl) ?_
  refine xo_nil (xq_then ?_)
  refine xw_block ?_
  obtain ⟨x1, hx1, h⟩ := h
  refine xw_wh (fun s e H => match s with | (out10, i11) => ∃ (v10_1 : Value) (B10_1 : GH), e = [(0, .int .i64 shard0), (3, v3), (5, .pointer (some ⟨b5, 0, none⟩)), (6, .pointer (some ⟨b6, 0, none⟩)), (10, v10_1), (11, .int .i64 i11)] ∧ H = B10_1 ++ ((b6, BK 2 (iv ww2) 26) :: ((b5, BK 28 (iv m1) 29) :: ([]))) ∧ OJ 29 28 iv B10_1 v10_1 out10 ∧ Cov w [] B10_1) (fun x ex e H => match x with | .inl out10 => ∃ (v10_1o : Value) (B10_1o : GH), ex = .exit 0 ∧ e = [(10, v10_1o)] ∧ H = B10_1o ++ ((b6, BK 2 (iv ww2) 26) :: ((b5, BK 28 (iv m1) 29) :: ([]))) ∧ OJ 29 28 iv B10_1o v10_1o out10 ∧ Cov w [] B10_1o | .inr _ => ∃ (B10_1o : GH), ex = .ret ∧ e = [(8, .slice none 0 0), (9, .bool false)] ∧ H = B10_1o ++ ((b6, BK 2 (iv ww2) 26) :: ((b5, BK 28 (iv m1) 29) :: ([]))) ∧ Cov w [] B10_1o) hx1 ⟨[(0, .int .i64 shard0), (3, v3), (5, .pointer (some ⟨b5, 0, none⟩)), (6, .pointer (some ⟨b6, 0, none⟩)), (10, .slice none 0 0), (11, .int .i64 0)], [] ++ ((b6, BK 2 (iv ww2) 26) :: ((b5, BK 28 (iv m1) 29) :: ([]))), (lc rfl (lc rfl (lc rfl (lc rfl (lc rfl (lc rfl ln)))))), fun _ h => h, ⟨_, [], rfl, rfl, OJ.nil, (Cov.refl _)⟩⟩ ?_ ?_
  · rintro ⟨out10, i11⟩ o _ _ ⟨v10_1, B10_1, rfl, rfl, hJ10_1, hcB10_1⟩ hb
    have h : onR_l1 shard0 m1 ww2 l3 out10 i11 o := hb
    clear hb
    unfold onR_l1 at h
    refine xw_seq (xw_seq (xw_region ?_))
    refine xq rfl trivial (o_mv rfl) ?_
    refine xq rfl trivial (o_mv rfl) ?_
    refine xq rfl trivial (o_lenL rfl Try.underlying30 rfl (SL.val hs3)) ?_
    refine xq rfl trivial (o_lss rfl rfl) ?_
    refine xo_nil (xq_then ?_)
    refine xw_bool 16 rfl (fun hc1 => ?_) (fun hc1 => ?_)
    · have hq1 : (decide (i11 < (l3.length : Int))) = true := hc1
      have hp1 : i11 < (l3.length : Int) := of_decide_eq_true hq1
      rw [if_pos hp1] at h
      refine xw_cond_t rfl rfl (xw_skip (xq_then (xw_seq ?_)))
      refine xw_block ?_
      refine xw_seq ?_
      obtain ⟨ho2, ho3, h⟩ := h
      refine xw_cut [(0, _), (3, _), (5, _), (6, _), (10, _), (11, _)] (lc rfl (lc rfl (lc rfl (lc rfl (lc rfl (lc rfl ln)))))) [(36, .bool ((decide (l3[i11.toNat]! 0 = ww2 0)) && (decide (l3[i11.toNat]! 1 = ww2 1))))] ?_ ?_
      · refine xd_start (by kernel_rfl) (by kernel_rfl) (fun hok => ?_)
        refine xd_b hok 0 [(3, _)] ([]) rsN rfl rfl rfl (lc rfl ln) (by kernel_rfl) trivial (fun H' hy hK => o_mv rfl) ?_
        refine xd_b hok 1 [(11, _)] ([]) rsN rfl rfl rfl (lc rfl ln) (by kernel_rfl) trivial (fun H' hy hK => o_mv rfl) ?_
        refine xd_b hok 2 [(19, _), (20, _)] ([]) rsN rfl rfl rfl (lc rfl (lc rfl ln)) (by kernel_rfl) trivial (fun H' hy hK => o_ixL el30 rfl rfl (fun w hw => (hs3.keep hw (fun k hk => (hK k hk).elim (fun h => (Fr.seg hcB10_1 (Fr.cons hb6 (Fr.cons hb5 Fr.nil))) k h) id))) rfl (ho2)) ?_
        refine xd_b hok 3 [(21, _)] ([]) rsN rfl rfl rfl (lc rfl ln) (by kernel_rfl) trivial (fun H' hy hK => o_faL fl54_0 rfl rfl (fun w hw => (hs3.keep hw (fun k hk => (hK k hk).elim (fun h => (Fr.seg hcB10_1 (Fr.cons hb6 (Fr.cons hb5 Fr.nil))) k h) id))) (toNat_lt (ho2))) ?_
        refine xd_b hok 4 [(22, _)] ([]) rsN rfl rfl rfl (lc rfl ln) (by kernel_rfl) trivial (fun H' hy hK => o_ldL1 (off := 0) (u := .int .i64 (l3[i11.toNat]! 0)) rfl ts3 rfl (fun w hw => (hs3.keep hw (fun k hk => (hK k hk).elim (fun h => (Fr.seg hcB10_1 (Fr.cons hb6 (Fr.cons hb5 Fr.nil))) k h) id))) (toNat_lt (ho2)) rfl rfl) ?_
        first | refine xd_b hok 5 [(6, _)] ([]) rsN rfl rfl rfl (lc rfl ln) (by kernel_rfl) trivial (fun H' hy hK => o_fa0 fl26_0 rfl) ?_ | refine xd_b hok 5 [(6, _)] ([]) rsN rfl rfl rfl (lc rfl ln) (by kernel_rfl) trivial (fun H' hy hK => o_fa fl26_0 rfl) ?_
        refine xd_b hok 6 [(24, _)] ((b6, BK 2 (iv ww2) 26) :: ([])) (rsC (List.mem_append_right _ (List.Mem.head _)) rsN) rfl rfl rfl (lc rfl ln) (by kernel_rfl) trivial (fun H' hy hK => o_ldI (v := ww2 0) rfl ts3 (hy _ (List.Mem.head _)) (by omega) rfl) ?_
        refine xd_b hok 7 [(23, _), (25, _)] ([]) rsN rfl rfl rfl (lc rfl (lc rfl ln)) (by kernel_rfl) trivial (fun H' hy hK => o_eql rfl rfl) ?_
        refine xd_b hok 8 [(26, _)] ([]) rsN rfl rfl rfl (lc rfl ln) (by kernel_rfl) trivial (fun H' hy hK => o_mv rfl) ?_
        refine xd_bool 27 rfl (fun hg4 => ?_) (fun hg4 => ?_)
        · have hq4 : (decide (l3[i11.toNat]! 0 = ww2 0)) = true := hg4
          have hp4 : l3[i11.toNat]! 0 = ww2 0 := of_decide_eq_true hq4
          refine xd_b hok 9 [(3, _), (27, _)] ([]) rsN rfl rfl rfl (lc rfl (lc rfl ln)) (by kernel_rfl) ⟨_, rfl, rfl⟩ (fun H' hy hK => o_mv rfl) ?_
          refine xd_b hok 10 [(11, _), (27, _)] ([]) rsN rfl rfl rfl (lc rfl (lc rfl ln)) (by kernel_rfl) ⟨_, rfl, rfl⟩ (fun H' hy hK => o_mv rfl) ?_
          refine xd_b hok 11 [(28, _), (29, _), (27, _)] ([]) rsN rfl rfl rfl (lc rfl (lc rfl (lc rfl ln))) (by kernel_rfl) ⟨_, rfl, rfl⟩ (fun H' hy hK => o_ixL el30 rfl rfl (fun w hw => (hs3.keep hw (fun k hk => (hK k hk).elim (fun h => (Fr.seg hcB10_1 (Fr.cons hb6 (Fr.cons hb5 Fr.nil))) k h) id))) rfl (ho3 (by first | exact hg4 | (simp only [hq1, hq4, if_pos hp1, if_pos hp4, bS]; done) | (simp [hp1, hp4]; done) | (simp_all; done)))) ?_
          refine xd_b hok 12 [(30, _), (27, _)] ([]) rsN rfl rfl rfl (lc rfl (lc rfl ln)) (by kernel_rfl) ⟨_, rfl, rfl⟩ (fun H' hy hK => o_faL fl54_1 rfl rfl (fun w hw => (hs3.keep hw (fun k hk => (hK k hk).elim (fun h => (Fr.seg hcB10_1 (Fr.cons hb6 (Fr.cons hb5 Fr.nil))) k h) id))) (toNat_lt (ho3 (by first | exact hg4 | (simp only [hq1, hq4, if_pos hp1, if_pos hp4, bS]; done) | (simp [hp1, hp4]; done) | (simp_all; done))))) ?_
          refine xd_b hok 13 [(31, _), (27, _)] ([]) rsN rfl rfl rfl (lc rfl (lc rfl ln)) (by kernel_rfl) ⟨_, rfl, rfl⟩ (fun H' hy hK => o_ldL1 (off := 1) (u := .int .i64 (l3[i11.toNat]! 1)) rfl ts3 rfl (fun w hw => (hs3.keep hw (fun k hk => (hK k hk).elim (fun h => (Fr.seg hcB10_1 (Fr.cons hb6 (Fr.cons hb5 Fr.nil))) k h) id))) (toNat_lt (ho3 (by first | exact hg4 | (simp only [hq1, hq4, if_pos hp1, if_pos hp4, bS]; done) | (simp [hp1, hp4]; done) | (simp_all; done)))) rfl rfl) ?_
          first | refine xd_b hok 14 [(6, _), (27, _)] ([]) rsN rfl rfl rfl (lc rfl (lc rfl ln)) (by kernel_rfl) ⟨_, rfl, rfl⟩ (fun H' hy hK => o_fa0 fl26_1 rfl) ?_ | refine xd_b hok 14 [(6, _), (27, _)] ([]) rsN rfl rfl rfl (lc rfl (lc rfl ln)) (by kernel_rfl) ⟨_, rfl, rfl⟩ (fun H' hy hK => o_fa fl26_1 rfl) ?_
          refine xd_b hok 15 [(33, _), (27, _)] ((b6, BK 2 (iv ww2) 26) :: ([])) (rsC (List.mem_append_right _ (List.Mem.head _)) rsN) rfl rfl rfl (lc rfl (lc rfl ln)) (by kernel_rfl) ⟨_, rfl, rfl⟩ (fun H' hy hK => o_ldI (v := ww2 1) rfl ts3 (hy _ (List.Mem.head _)) (by omega) rfl) ?_
          refine xd_b hok 16 [(32, _), (34, _), (27, _)] ([]) rsN rfl rfl rfl (lc rfl (lc rfl (lc rfl ln))) (by kernel_rfl) ⟨_, rfl, rfl⟩ (fun H' hy hK => o_eql rfl rfl) ?_
          refine xd_b hok 17 [(27, _), (35, _)] ([]) rsN rfl rfl rfl (lc rfl (lc rfl ln)) (by kernel_rfl) trivial (fun H' hy hK => o_pick_t rfl rfl) ?_
          refine xd_end hok (by kernel_rfl) ?_
          exact xq_cut ((lce rfl (by first | rfl | (simp only [hq1, hq4, if_pos hp1, if_pos hp4, bS]; done) | (simp [hp1, hp4]; done) | (simp_all; done)) (lc rfl (lc rfl (lc rfl (lc rfl (lc rfl (lc rfl ln)))))))) (fun _ h => h)
        · have hq4 : (decide (l3[i11.toNat]! 0 = ww2 0)) = false := hg4
          have hp4 : ¬ (l3[i11.toNat]! 0 = ww2 0) := of_decide_eq_false hq4
          refine xd_skip hok 9 [(3, _), (27, _)] rfl rfl rfl (lc rfl (lc rfl ln)) (by kernel_rfl) ⟨_, _, rfl, rfl, rfl⟩ ?_
          refine xd_skip hok 10 [(11, _), (27, _)] rfl rfl rfl (lc rfl (lc rfl ln)) (by kernel_rfl) ⟨_, _, rfl, rfl, rfl⟩ ?_
          refine xd_skip hok 11 [(28, _), (29, _), (27, _)] rfl rfl rfl (lc rfl (lc rfl (lc rfl ln))) (by kernel_rfl) ⟨_, _, rfl, rfl, rfl⟩ ?_
          refine xd_skip hok 12 [(30, _), (27, _)] rfl rfl rfl (lc rfl (lc rfl ln)) (by kernel_rfl) ⟨_, _, rfl, rfl, rfl⟩ ?_
          refine xd_skip hok 13 [(31, _), (27, _)] rfl rfl rfl (lc rfl (lc rfl ln)) (by kernel_rfl) ⟨_, _, rfl, rfl, rfl⟩ ?_
          refine xd_skip hok 14 [(6, _), (27, _)] rfl rfl rfl (lc rfl (lc rfl ln)) (by kernel_rfl) ⟨_, _, rfl, rfl, rfl⟩ ?_
          refine xd_skip hok 15 [(33, _), (27, _)] rfl rfl rfl (lc rfl (lc rfl ln)) (by kernel_rfl) ⟨_, _, rfl, rfl, rfl⟩ ?_
          refine xd_skip hok 16 [(32, _), (34, _), (27, _)] rfl rfl rfl (lc rfl (lc rfl (lc rfl ln))) (by kernel_rfl) ⟨_, _, rfl, rfl, rfl⟩ ?_
          refine xd_b hok 17 [(27, _), (35, _)] ([]) rsN rfl rfl rfl (lc rfl (lc rfl ln)) (by kernel_rfl) trivial (fun H' hy hK => o_pick_f rfl rfl) ?_
          refine xd_end hok (by kernel_rfl) ?_
          exact xq_cut ((lce rfl (by first | rfl | (simp only [hq1, hq4, if_pos hp1, if_neg hp4, bS]; done) | (simp [hp1, hp4]; done) | (simp_all; done)) (lc rfl (lc rfl (lc rfl (lc rfl (lc rfl (lc rfl ln)))))))) (fun _ h => h)
      · refine xq_then ?_
        refine xw_bool 36 rfl (fun hc5 => ?_) (fun hc5 => ?_)
        · have hq5 : ((decide (l3[i11.toNat]! 0 = ww2 0)) && (decide (l3[i11.toNat]! 1 = ww2 1))) = true := hc5
          have hp5 : ((decide (l3[i11.toNat]! 0 = ww2 0)) && (decide (l3[i11.toNat]! 1 = ww2 1))) = true := hq5
          rw [if_pos hp5] at h
          refine xw_cond_t rfl rfl (xw_seq ?_)
          refine xd_start (by kernel_rfl) (by kernel_rfl) (fun hok => ?_)
          refine xd_b hok 0 [(0, _)] ([]) rsN rfl rfl rfl (lc rfl ln) (by kernel_rfl) trivial (fun H' hy hK => o_mv rfl) ?_
          first | refine xd_b hok 1 [(5, _)] ([]) rsN rfl rfl rfl (lc rfl ln) (by kernel_rfl) trivial (fun H' hy hK => o_fa0 fl29_10 rfl) ?_ | refine xd_b hok 1 [(5, _)] ([]) rsN rfl rfl rfl (lc rfl ln) (by kernel_rfl) trivial (fun H' hy hK => o_fa fl29_10 rfl) ?_
          refine xd_b hok 2 [(38, _)] ((b5, BK 28 (iv m1) 29) :: ([])) (rsC (List.mem_append_right _ (List.Mem.tail _ (List.Mem.head _))) rsN) rfl rfl rfl (lc rfl ln) (by kernel_rfl) trivial (fun H' hy hK => o_ldI (v := m1 11) rfl ts3 (hy _ (List.Mem.head _)) (by omega) rfl) ?_
          obtain ⟨ho6, h⟩ := h
          refine xd_b hok 3 [(39, _)] ([]) rsN rfl rfl rfl (lc rfl ln) (by kernel_rfl) trivial (fun H' hy hK => o_add rfl rfl rfl ho6) ?_
          refine xd_b hok 4 [(3, _)] ([]) rsN rfl rfl rfl (lc rfl ln) (by kernel_rfl) trivial (fun H' hy hK => o_mv rfl) ?_
          refine xd_b hok 5 [(11, _)] ([]) rsN rfl rfl rfl (lc rfl ln) (by kernel_rfl) trivial (fun H' hy hK => o_mv rfl) ?_
          obtain ⟨ho7, h⟩ := h
          refine xd_b hok 6 [(41, _), (42, _)] ([]) rsN rfl rfl rfl (lc rfl (lc rfl ln)) (by kernel_rfl) trivial (fun H' hy hK => o_ixL el30 rfl rfl (fun w hw => (hs3.keep hw (fun k hk => (hK k hk).elim (fun h => (Fr.seg hcB10_1 (Fr.cons hb6 (Fr.cons hb5 Fr.nil))) k h) id))) rfl ho7) ?_
          refine xd_b hok 7 [(43, _)] ([]) rsN rfl rfl rfl (lc rfl ln) (by kernel_rfl) trivial (fun H' hy hK => o_faL fl54_2 rfl rfl (fun w hw => (hs3.keep hw (fun k hk => (hK k hk).elim (fun h => (Fr.seg hcB10_1 (Fr.cons hb6 (Fr.cons hb5 Fr.nil))) k h) id))) (toNat_lt ho7)) ?_
          refine xd_b hok 8 [(44, _)] ([]) rsN rfl rfl rfl (lc rfl ln) (by kernel_rfl) trivial (fun H' hy hK => o_ldL1 (off := 2) (u := .int .i64 (l3[i11.toNat]! 2)) rfl ts3 rfl (fun w hw => (hs3.keep hw (fun k hk => (hK k hk).elim (fun h => (Fr.seg hcB10_1 (Fr.cons hb6 (Fr.cons hb5 Fr.nil))) k h) id))) (toNat_lt ho7) rfl rfl) ?_
          refine xd_b hok 9 [(3, _)] ([]) rsN rfl rfl rfl (lc rfl ln) (by kernel_rfl) trivial (fun H' hy hK => o_mv rfl) ?_
          refine xd_b hok 10 [(11, _)] ([]) rsN rfl rfl rfl (lc rfl ln) (by kernel_rfl) trivial (fun H' hy hK => o_mv rfl) ?_
          obtain ⟨ho8, h⟩ := h
          refine xd_b hok 11 [(46, _), (47, _)] ([]) rsN rfl rfl rfl (lc rfl (lc rfl ln)) (by kernel_rfl) trivial (fun H' hy hK => o_ixL el30 rfl rfl (fun w hw => (hs3.keep hw (fun k hk => (hK k hk).elim (fun h => (Fr.seg hcB10_1 (Fr.cons hb6 (Fr.cons hb5 Fr.nil))) k h) id))) rfl ho8) ?_
          refine xd_b hok 12 [(48, _)] ([]) rsN rfl rfl rfl (lc rfl ln) (by kernel_rfl) trivial (fun H' hy hK => o_faL fl54_3 rfl rfl (fun w hw => (hs3.keep hw (fun k hk => (hK k hk).elim (fun h => (Fr.seg hcB10_1 (Fr.cons hb6 (Fr.cons hb5 Fr.nil))) k h) id))) (toNat_lt ho8)) ?_
          refine xd_b hok 13 [(49, _)] ([]) rsN rfl rfl rfl (lc rfl ln) (by kernel_rfl) trivial (fun H' hy hK => o_ldL1 (off := 3) (u := .int .i64 (l3[i11.toNat]! 3)) rfl ts3 rfl (fun w hw => (hs3.keep hw (fun k hk => (hK k hk).elim (fun h => (Fr.seg hcB10_1 (Fr.cons hb6 (Fr.cons hb5 Fr.nil))) k h) id))) (toNat_lt ho8) rfl rfl) ?_
          first | refine xd_b hok 14 [(5, _)] ([]) rsN rfl rfl rfl (lc rfl ln) (by kernel_rfl) trivial (fun H' hy hK => o_fa0 fl29_11 rfl) ?_ | refine xd_b hok 14 [(5, _)] ([]) rsN rfl rfl rfl (lc rfl ln) (by kernel_rfl) trivial (fun H' hy hK => o_fa fl29_11 rfl) ?_
          refine xd_b hok 15 [(51, _)] ((b5, BK 28 (iv m1) 29) :: ([])) (rsC (List.mem_append_right _ (List.Mem.tail _ (List.Mem.head _))) rsN) rfl rfl rfl (lc rfl ln) (by kernel_rfl) trivial (fun H' hy hK => o_ldSI rfl ts27 (hy _ (List.Mem.head _)) (by omega) (fun _ _ => rfl)) ?_
          refine xd_b hok 16 [(37, _), (40, _), (45, _), (50, _), (52, _)] ([]) rsN rfl rfl rfl (lc rfl (lc rfl (lc rfl (lc rfl (lc rfl ln))))) (by kernel_rfl) trivial (fun H' hy hK => o_build fk29 ze29 (.int fl29_0 rfl rfl (.int fl29_1 rfl rfl (.int fl29_10 rfl rfl (.int fl29_8 rfl rfl (.int fl29_9 rfl rfl (.ints fl29_11 rfl rfl (.nil _)))))))) ?_
          refine xd_step hok 17 [] rfl rfl (by kernel_rfl) ln (by kernel_rfl) trivial (o_alloc ze29 rfl) ?_
          rintro _ _ ⟨b12, hb12, rfl, rfl⟩
          refine ⟨(rsA rsN (rsA (rsC (List.Mem.tail _ (List.mem_append_right _ (List.Mem.tail _ (List.Mem.head _)))) rsN) (rsA rsN (rsA rsN (rsA rsN (rsA rsN (rsA rsN (rsA rsN (rsA rsN (rsA rsN (rsA rsN (rsA rsN (rsA rsN (rsA rsN (rsA (rsC (List.Mem.tail _ (List.mem_append_right _ (List.Mem.tail _ (List.Mem.head _)))) rsN) (rsA rsN (rsA rsN rsN))))))))))))))))), (Ks.consN hb12 (Ks.segK (fun k hk => by simp [hk]) (Ks.consK (by simp) (Ks.consK (by simp) Ks.nil)))), ?_⟩
          refine xd_fl0 hok 0 18 [(12, _), (53, _)] rfl rfl (by kernel_rfl) (by kernel_rfl) (lc rfl (lc rfl ln)) (by kernel_rfl) trivial (o_stWI rfl rfl ts29 (List.Mem.head _) (.here _ _ _ _)) ?_
          rintro _ _ ⟨rfl, rfl⟩
          refine ⟨(Ks.consN hb12 (Ks.segK (fun k hk => by simp [hk]) (Ks.consK (by simp) (Ks.consK (by simp) Ks.nil)))), ?_⟩
          refine xd_end hok (by kernel_rfl) ?_
          refine xq_then (xw_seq (xw_region ?_))
          first | refine xq rfl trivial (o_fa0 fl29_10 rfl) ?_ | refine xq rfl trivial (o_fa fl29_10 rfl) ?_
          refine xq rfl trivial (o_ldI (v := m1 11) rfl ts3 (List.Mem.tail _ (List.mem_append_right _ (List.Mem.tail _ (List.Mem.head _)))) (by omega) rfl) ?_
          refine xq rfl trivial (o_ldW rfl ts26 (List.Mem.tail _ (List.mem_append_right _ (List.Mem.head _)))) ?_
          first | refine xq rfl trivial (o_fa0 fl29_11 rfl) ?_ | refine xq rfl trivial (o_fa fl29_11 rfl) ?_
          obtain ⟨ho9, h⟩ := h
          refine xq rfl trivial (o_ixa ea27 rfl rfl ho9 rfl) ?_
          refine xq0 trivial (o_stSI rfl rfl ts26 (List.Mem.head _) (by have := ho9; omega) (.here _ _ _ _)) ?_
          refine xo_nil (xq_then (xw_seq (xw_seq (xw_region ?_))))
          refine xq rfl trivial (o_ldW rfl ts29 (List.Mem.head _)) ?_
          refine xcallq rfl trivial kf21 rfl (fun w1 hw1 => isR_c _ w1) ?_
          refine xq rfl trivial (o_not rfl) ?_
          refine xo_nil (xq_then ?_)
          refine xw_bool 61 rfl (fun hc10 => ?_) (fun hc10 => ?_)
          · have hq10 : ((isR_F (updRI (updRI (updI (updI (updI (updI (updI (fun _ => 0) 0 11) 1 shard0) 11 ((m1 11) + 1)) 9 (l3[i11.toNat]! 2)) 10 (l3[i11.toNat]! 3)) 12 16 (fun i => m1 (12 + i))) (12 + ((m1 11).toNat * 2)) 2 ww2))) = false := (bnT hc10)
            have hp10 : ¬ (((isR_F (updRI (updRI (updI (updI (updI (updI (updI (fun _ => 0) 0 11) 1 shard0) 11 ((m1 11) + 1)) 9 (l3[i11.toNat]! 2)) 10 (l3[i11.toNat]! 3)) 12 16 (fun i => m1 (12 + i))) (12 + ((m1 11).toNat * 2)) 2 ww2))) = true) := bne' hq10
            rw [if_neg hp10] at h
            refine xw_cond_t rfl rfl (xw_seq (xw_region ?_))
            refine xq rfl trivial (o_as rfl) ?_
            refine xq rfl trivial (o_as rfl) ?_
            refine xo_nil (xq_then (xw_ret (xq_then_ret (xq_blk_ret (xq_then_ret ?_)))))
            exact xq_out (r := (.inr () : ((List (Nat → Int))) ⊕ (Unit))) (e' := [(8, .slice none 0 0), (9, .bool false)]) (B10_1 ++ ((b6, BK 2 (iv ww2) 26) :: ((b5, BK 28 (iv m1) 29) :: ([])))) (lc rfl (lc rfl ln)) (Kp.st (Kp.new hb12 (Kp.segKeep (Kp.keep (Kp.keep Kp.nil))))) h (by intro hh; cases hh) ⟨B10_1, rfl, rfl, rfl, hcB10_1⟩
          · have hq10 : ((isR_F (updRI (updRI (updI (updI (updI (updI (updI (fun _ => 0) 0 11) 1 shard0) 11 ((m1 11) + 1)) 9 (l3[i11.toNat]! 2)) 10 (l3[i11.toNat]! 3)) 12 16 (fun i => m1 (12 + i))) (12 + ((m1 11).toNat * 2)) 2 ww2))) = true := (bnF hc10)
            have hp10 : ((isR_F (updRI (updRI (updI (updI (updI (updI (updI (fun _ => 0) 0 11) 1 shard0) 11 ((m1 11) + 1)) 9 (l3[i11.toNat]! 2)) 10 (l3[i11.toNat]! 3)) 12 16 (fun i => m1 (12 + i))) (12 + ((m1 11).toNat * 2)) 2 ww2))) = true := hq10
            rw [if_pos hp10] at h
            refine xw_cond_f rfl rfl (xw_skip (xq_then (xw_region ?_)))
            refine xq rfl trivial (o_mv rfl) ?_
            refine xq rfl trivial (o_ldW rfl ts29 (List.Mem.head _)) ?_
            refine xo rfl trivial (o_bsl el41 ze29 rfl rfl rfl (.ints rfl rfl (.nil _))) ?_
            rintro _ _ ⟨b64, hb64, rfl, rfl⟩
            obtain ⟨ho12, h⟩ := h
            refine xo rfl trivial (OT.st (fun _ h => Pull.st (.thereC _ (.thereC _ (.here _ _))) h) (o_appJ (l := out10) (l' := [(updRI (updRI (updI (updI (updI (updI (updI (fun _ => 0) 0 11) 1 shard0) 11 ((m1 11) + 1)) 9 (l3[i11.toNat]! 2)) 10 (l3[i11.toNat]! 3)) 12 16 (fun i => m1 (12 + i))) (12 + ((m1 11).toNat * 2)) 2 ww2)]) (B := B10_1) ap41 rfl rfl hJ10_1 (fun w2 hw2 => (SL.lit (l := [(updRI (updRI (updI (updI (updI (updI (updI (fun _ => 0) 0 11) 1 shard0) 11 ((m1 11) + 1)) 9 (l3[i11.toNat]! 2)) 10 (l3[i11.toNat]! 3)) 12 16 (fun i => m1 (12 + i))) (12 + ((m1 11).toNat * 2)) 2 ww2)]) hw2 (List.mem_append_right _ (List.Mem.head _)) rfl (by omega) (by simp [maxLen]) (by exact (fun i hi => match i, hi with | 0, _ => rfl | 1, _ => rfl | 2, _ => rfl | 3, _ => rfl | 4, _ => rfl | 5, _ => rfl | 6, _ => rfl | 7, _ => rfl | 8, _ => rfl | 9, _ => rfl | 10, _ => rfl | 11, _ => rfl | 12, _ => rfl | 13, _ => rfl | 14, _ => rfl | 15, _ => rfl | 16, _ => rfl | 17, _ => rfl | 18, _ => rfl | 19, _ => rfl | 20, _ => rfl | 21, _ => rfl | 22, _ => rfl | 23, _ => rfl | 24, _ => rfl | 25, _ => rfl | 26, _ => rfl | 27, _ => rfl | q + 28, h => absurd h (by omega))))) (fun _ _ => rfl) ho12 (len_max ho12 (by decide)))) ?_
            rintro vs11 _ ⟨Bs11, rfl, hns11, hJs11⟩
            have hcBs11 := Cov.trans hcB10_1 hns11
            refine xo_st ((b64, BK 28 _ 29) :: ((b12, BK 28 (iv (updRI (updRI (updI (updI (updI (updI (updI (fun _ => 0) 0 11) 1 shard0) 11 ((m1 11) + 1)) 9 (l3[i11.toNat]! 2)) 10 (l3[i11.toNat]! 3)) 12 16 (fun i => m1 (12 + i))) (12 + ((m1 11).toNat * 2)) 2 ww2)) 29) :: (Bs11 ++ ((b6, BK 2 (iv ww2) 26) :: ((b5, BK 28 (iv m1) 29) :: ([])))))) (fun _ h => Pull.push (.thereC _ (.thereC _ (.here _ _))) h) ?_
            refine xq rfl trivial (o_as rfl) ?_
            refine xo_nil ?_
            refine xq_blk 1 ?_
            refine xq_then (xw_region ?_)
            refine xq rfl trivial (o_mv rfl) ?_
            obtain ⟨ho13, h⟩ := h
            refine xq rfl trivial (o_add rfl rfl rfl ho13) ?_
            refine xq rfl trivial (o_as rfl) ?_
            refine xo_nil ?_
            exact xq_next (s' := (((out10 ++ [(updRI (updRI (updI (updI (updI (updI (updI (fun _ => 0) 0 11) 1 shard0) 11 ((m1 11) + 1)) 9 (l3[i11.toNat]! 2)) 10 (l3[i11.toNat]! 3)) 12 16 (fun i => m1 (12 + i))) (12 + ((m1 11).toNat * 2)) 2 ww2)]), i11 + 1) : (List (Nat → Int)) × Int)) (e' := [(0, .int .i64 shard0), (3, v3), (5, .pointer (some ⟨b5, 0, none⟩)), (6, .pointer (some ⟨b6, 0, none⟩)), (10, vs11), (11, .int .i64 (i11 + 1))]) (Bs11 ++ ((b6, BK 2 (iv ww2) 26) :: ((b5, BK 28 (iv m1) 29) :: ([])))) (lc rfl (lc rfl (lc rfl (lc rfl (lc rfl (lc rfl ln)))))) (Kp.st (Kp.new hb64 (Kp.new hb12 (Kp.segKeep (Kp.keep (Kp.keep Kp.nil)))))) h ⟨vs11, Bs11, rfl, rfl, hJs11, hcBs11⟩
        · have hq5 : ((decide (l3[i11.toNat]! 0 = ww2 0)) && (decide (l3[i11.toNat]! 1 = ww2 1))) = false := hc5
          have hp5 : ¬ (((decide (l3[i11.toNat]! 0 = ww2 0)) && (decide (l3[i11.toNat]! 1 = ww2 1))) = true) := bne' hq5
          rw [if_neg hp5] at h
          refine xw_cond_f rfl rfl (xw_skip ?_)
          refine xq_blk 1 ?_
          refine xq_then (xw_region ?_)
          refine xq rfl trivial (o_mv rfl) ?_
          obtain ⟨ho14, h⟩ := h
          refine xq rfl trivial (o_add rfl rfl rfl ho14) ?_
          refine xq rfl trivial (o_as rfl) ?_
          refine xo_nil ?_
          exact xq_next (s' := ((out10, i11 + 1) : (List (Nat → Int)) × Int)) (e' := [(0, .int .i64 shard0), (3, v3), (5, .pointer (some ⟨b5, 0, none⟩)), (6, .pointer (some ⟨b6, 0, none⟩)), (10, v10_1), (11, .int .i64 (i11 + 1))]) (B10_1 ++ ((b6, BK 2 (iv ww2) 26) :: ((b5, BK 28 (iv m1) 29) :: ([])))) (lc rfl (lc rfl (lc rfl (lc rfl (lc rfl (lc rfl ln)))))) (fun _ h => h) h ⟨v10_1, B10_1, rfl, rfl, hJ10_1, hcB10_1⟩
    · have hq1 : (decide (i11 < (l3.length : Int))) = false := hc1
      have hp1 : ¬ (i11 < (l3.length : Int)) := of_decide_eq_false hq1
      rw [if_neg hp1] at h
      refine xw_cond_f rfl rfl (xw_exit (xq_then_exit ?_))
      exact xq_out (r := (.inl out10 : ((List (Nat → Int))) ⊕ (Unit))) (e' := [(10, v10_1)]) (B10_1 ++ ((b6, BK 2 (iv ww2) 26) :: ((b5, BK 28 (iv m1) 29) :: ([])))) (lc rfl ln) (fun _ h => h) h (by intro hh; cases hh) ⟨v10_1, B10_1, rfl, rfl, rfl, hJ10_1, hcB10_1⟩
  · rcases x1 with out10 | x1
    · rintro _ _ _ ⟨v10_1o, B10_1o, rfl, rfl, rfl, hJ10_1o, hcB10_1o⟩
      replace h : onR_k1a out10 r := h
      unfold onR_k1a at h
      refine xq_blk_eq ?_
      refine xq_then (xw_seq (xw_region ?_))
      refine xq rfl trivial (o_mv rfl) ?_
      refine xq rfl trivial (o_as rfl) ?_
      refine xq rfl trivial (o_as rfl) ?_
      refine xo_nil (xq_then (xw_ret ?_))
      subst h
      exact con_ret2 (.inl rfl) Try.results32 rfl rfl (B10_1o ++ []) (Kp.st (Kp.segKeep (Kp.new hb6 (Kp.new hb5 Kp.nil)))) (⟨_, B10_1o, rfl, rfl, hJ10_1o, hcB10_1o⟩)
    cases x1
    rintro _ _ _ ⟨B10_1o, rfl, rfl, rfl, hcB10_1o⟩
    replace h : onR_k1b r := h
    unfold onR_k1b at h
    refine xq_blk_ret (xq_then_ret ?_)
    subst h
    exact con_ret2 (.inl rfl) Try.results32 rfl rfl [] (Kp.st (Kp.segNew (Cov.fresh hcB10_1o) (Kp.new hb6 (Kp.new hb5 Kp.nil)))) (⟨_, [], rfl, rfl, OJ.nil, Cov.refl _⟩)

theorem backR_con (m0 : (Nat → Int)) (w : World) (r : Bool) (h : backR_S m0 r) : Con Try.prog 22 #[AI 28 m0] w (Is (.bool r) []) := by
  unfold backR_S at h
  refine con_enter (n := 28) [(0, _)] Try.func22 rfl Try.ntmps22 rfl (lac rfl lan) ?_
  refine xw_seq (xw_region ?_)
  refine xo rfl trivial (o_boxA rfl) ?_
  rintro _ _ ⟨b1, hb1, rfl, rfl⟩
  refine xq rfl trivial (o_as rfl) ?_
  refine xo_nil (xq_then (xw_seq ?_))
  refine xw_cut [] ln [(2, .bool ((((isR_F m0)) && (decide (m0 9 = m0 12))) && ((decide (m0 10 = 0)) || (decide (m0 10 = m0 13)))))] ?_ ?_
  · refine xw_region ?_
    refine xq rfl trivial (o_ldW rfl ts29 (List.Mem.head _)) ?_
    refine xcallq rfl trivial kf21 rfl (fun w1 hw1 => isR_c _ w1) ?_
    refine xq rfl trivial (o_mv rfl) ?_
    refine xo_bool 5 rfl (fun hg1 => ?_) (fun hg1 => ?_)
    · have hq1 : ((isR_F m0)) = true := hg1
      have hp1 : ((isR_F m0)) = true := hq1
      first | refine xq rfl ⟨_, rfl, rfl⟩ (o_fa0 fl29_8 rfl) ?_ | refine xq rfl ⟨_, rfl, rfl⟩ (o_fa fl29_8 rfl) ?_
      refine xq rfl ⟨_, rfl, rfl⟩ (o_ldI (v := m0 9) rfl ts3 (List.Mem.head _) (by omega) rfl) ?_
      first | refine xq rfl ⟨_, rfl, rfl⟩ (o_fa0 fl29_11 rfl) ?_ | refine xq rfl ⟨_, rfl, rfl⟩ (o_fa fl29_11 rfl) ?_
      refine xq rfl ⟨_, rfl, rfl⟩ (o_ixa (j := 0) ea27 rfl rfl ⟨by omega, by omega⟩ rfl) ?_
      first | refine xq rfl ⟨_, rfl, rfl⟩ (o_fa0 fl26_0 rfl) ?_ | refine xq rfl ⟨_, rfl, rfl⟩ (o_fa fl26_0 rfl) ?_
      refine xq rfl ⟨_, rfl, rfl⟩ (o_ldI (v := m0 12) rfl ts3 (List.Mem.head _) (by omega) rfl) ?_
      refine xq rfl ⟨_, rfl, rfl⟩ (o_eql rfl rfl) ?_
      refine xq rfl trivial (o_pick_t rfl rfl) ?_
      refine xq rfl trivial (o_mv rfl) ?_
      refine xo_bool 14 rfl (fun hg2 => ?_) (fun hg2 => ?_)
      · have hq2 : (decide (m0 9 = m0 12)) = true := hg2
        have hp2 : m0 9 = m0 12 := of_decide_eq_true hq2
        first | refine xq rfl ⟨_, rfl, rfl⟩ (o_fa0 fl29_9 rfl) ?_ | refine xq rfl ⟨_, rfl, rfl⟩ (o_fa fl29_9 rfl) ?_
        refine xq rfl ⟨_, rfl, rfl⟩ (o_ldI (v := m0 10) rfl ts3 (List.Mem.head _) (by omega) rfl) ?_
        refine xq rfl ⟨_, rfl, rfl⟩ (o_eql rfl rfl) ?_
        refine xq rfl ⟨_, rfl, rfl⟩ (o_mv rfl) ?_
        refine xo_bool 18 rfl (fun hg3 => ?_) (fun hg3 => ?_)
        · have hq3 : (decide (m0 10 = 0)) = true := hg3
          have hp3 : m0 10 = 0 := of_decide_eq_true hq3
          refine xs rfl ⟨_, _, rfl, rfl, rfl⟩ (xs rfl ⟨_, _, rfl, rfl, rfl⟩ (xs rfl ⟨_, _, rfl, rfl, rfl⟩ (xs rfl ⟨_, _, rfl, rfl, rfl⟩ (xs rfl ⟨_, _, rfl, rfl, rfl⟩ (xs rfl ⟨_, _, rfl, rfl, rfl⟩ (xs rfl ⟨_, _, rfl, rfl, rfl⟩ ?_))))))
          refine xq rfl ⟨_, rfl, rfl⟩ (o_pick_t rfl rfl) ?_
          refine xq rfl trivial (o_pick_t rfl rfl) ?_
          refine xq rfl trivial (o_as rfl) ?_
          refine xo_nil ?_
          exact xq_cut ((lce rfl (by first | rfl | (simp only [hq1, hq2, hq3, if_pos hp1, if_pos hp2, if_pos hp3, bS]; done) | (simp [hp1, hp2, hp3]; done) | (simp_all; done)) ln)) (fun _ h => h)
        · have hq3 : (decide (m0 10 = 0)) = false := hg3
          have hp3 : ¬ (m0 10 = 0) := of_decide_eq_false hq3
          first | refine xq rfl ⟨_, rfl, rfl⟩ (o_fa0 fl29_9 rfl) ?_ | refine xq rfl ⟨_, rfl, rfl⟩ (o_fa fl29_9 rfl) ?_
          refine xq rfl ⟨_, rfl, rfl⟩ (o_ldI (v := m0 10) rfl ts3 (List.Mem.head _) (by omega) rfl) ?_
          first | refine xq rfl ⟨_, rfl, rfl⟩ (o_fa0 fl29_11 rfl) ?_ | refine xq rfl ⟨_, rfl, rfl⟩ (o_fa fl29_11 rfl) ?_
          refine xq rfl ⟨_, rfl, rfl⟩ (o_ixa (j := 0) ea27 rfl rfl ⟨by omega, by omega⟩ rfl) ?_
          first | refine xq rfl ⟨_, rfl, rfl⟩ (o_fa0 fl26_1 rfl) ?_ | refine xq rfl ⟨_, rfl, rfl⟩ (o_fa fl26_1 rfl) ?_
          refine xq rfl ⟨_, rfl, rfl⟩ (o_ldI (v := m0 13) rfl ts3 (List.Mem.head _) (by omega) rfl) ?_
          refine xq rfl ⟨_, rfl, rfl⟩ (o_eql rfl rfl) ?_
          refine xq rfl ⟨_, rfl, rfl⟩ (o_pick_f rfl rfl) ?_
          refine xq rfl trivial (o_pick_t rfl rfl) ?_
          refine xq rfl trivial (o_as rfl) ?_
          refine xo_nil ?_
          exact xq_cut ((lce rfl (by first | rfl | (simp only [hq1, hq2, hq3, if_pos hp1, if_pos hp2, if_neg hp3, bS]; done) | (simp [hp1, hp2, hp3]; done) | (simp_all; done)) ln)) (fun _ h => h)
      · have hq2 : (decide (m0 9 = m0 12)) = false := hg2
        have hp2 : ¬ (m0 9 = m0 12) := of_decide_eq_false hq2
        refine xs rfl ⟨_, _, rfl, rfl, rfl⟩ (xs rfl ⟨_, _, rfl, rfl, rfl⟩ (xs rfl ⟨_, _, rfl, rfl, rfl⟩ (xs rfl ⟨_, _, rfl, rfl, rfl⟩ (xs rfl ⟨_, _, rfl, rfl, rfl⟩ (xs rfl ⟨_, _, rfl, rfl, rfl⟩ (xs rfl ⟨_, _, rfl, rfl, rfl⟩ (xs rfl ⟨_, _, rfl, rfl, rfl⟩ ?_)))))))
        refine xs rfl ⟨_, _, rfl, rfl, rfl⟩ (xs rfl ⟨_, _, rfl, rfl, rfl⟩ (xs rfl ⟨_, _, rfl, rfl, rfl⟩ (xs rfl ⟨_, _, rfl, rfl, rfl⟩ ?_)))
        refine xq rfl trivial (o_pick_f rfl rfl) ?_
        refine xq rfl trivial (o_as rfl) ?_
        refine xo_nil ?_
        exact xq_cut ((lce rfl (by first | rfl | (simp only [hq1, hq2, if_pos hp1, if_neg hp2, bS]; done) | (simp [hp1, hp2]; done) | (simp_all; done)) ln)) (fun _ h => h)
    · have hq1 : ((isR_F m0)) = false := hg1
      have hp1 : ¬ (((isR_F m0)) = true) := bne' hq1
      refine xs rfl ⟨_, _, rfl, rfl, rfl⟩ (xs rfl ⟨_, _, rfl, rfl, rfl⟩ (xs rfl ⟨_, _, rfl, rfl, rfl⟩ (xs rfl ⟨_, _, rfl, rfl, rfl⟩ (xs rfl ⟨_, _, rfl, rfl, rfl⟩ (xs rfl ⟨_, _, rfl, rfl, rfl⟩ (xs rfl ⟨_, _, rfl, rfl, rfl⟩ ?_))))))
      refine xq rfl trivial (o_pick_f rfl rfl) ?_
      refine xq rfl trivial (o_mv rfl) ?_
      refine xs rfl ⟨_, _, rfl, rfl, rfl⟩ (xs rfl ⟨_, _, rfl, rfl, rfl⟩ (xs rfl ⟨_, _, rfl, rfl, rfl⟩ (xs rfl ⟨_, _, rfl, rfl, rfl⟩ (xs rfl ⟨_, _, rfl, rfl, rfl⟩ (xs rfl ⟨_, _, rfl, rfl, rfl⟩ (xs rfl ⟨_, _, rfl, rfl, rfl⟩ (xs rfl ⟨_, _, rfl, rfl, rfl⟩ ?_)))))))
      refine xs rfl ⟨_, _, rfl, rfl, rfl⟩ (xs rfl ⟨_, _, rfl, rfl, rfl⟩ (xs rfl ⟨_, _, rfl, rfl, rfl⟩ (xs rfl ⟨_, _, rfl, rfl, rfl⟩ ?_)))
      refine xq rfl trivial (o_pick_f rfl rfl) ?_
      refine xq rfl trivial (o_as rfl) ?_
      refine xo_nil ?_
      exact xq_cut ((lce rfl (by first | rfl | (simp only [hq1, if_neg hp1, bS]; done) | (simp [hp1]; done) | (simp_all; done)) ln)) (fun _ h => h)
  · refine xq_then (xw_ret ?_)
    subst h
    exact con_ret1 (.inl rfl) Try.results22 rfl [] (Kp.st (Kp.new hb1 Kp.nil)) (⟨rfl, rfl⟩)

theorem backR_c (m0 : (Nat → Int)) (w : World) : Con Try.prog 22 #[AI 28 m0] w (Is (.bool (backR_F m0)) []) :=
  backR_con m0 w _ (backR_ok m0)

theorem liveR_con (m0 : (Nat → Int)) (open1 : (List (Nat → Int))) (v1 : Value) (w : World) (hs1 : SL w 2 iv v1 open1) (r : Bool) (h : liveR_S m0 open1 r) : Con Try.prog 23 #[AI 28 m0, v1] w (Is (.bool r) []) := by
  unfold liveR_S at h
  refine con_enter (n := 37) [(0, _), (1, _)] Try.func23 rfl Try.ntmps23 rfl (lac rfl (lac rfl lan)) ?_
  refine xw_seq (xw_region ?_)
  refine xo rfl trivial (o_boxA rfl) ?_
  rintro _ _ ⟨b2, hb2, rfl, rfl⟩
  refine xq rfl trivial (o_as rfl) ?_
  refine xo_nil (xq_then (xw_seq (xw_seq (xw_region ?_))))
  refine xq rfl trivial (o_ldW rfl ts29 (List.Mem.head _)) ?_
  refine xcallq rfl trivial kf21 rfl (fun w1 hw1 => isR_c _ w1) ?_
  refine xq rfl trivial (o_not rfl) ?_
  refine xo_nil (xq_then ?_)
  refine xw_bool 10 rfl (fun hc1 => ?_) (fun hc1 => ?_)
  · have hq1 : ((isR_F m0)) = false := (bnT hc1)
    have hp1 : ¬ (((isR_F m0)) = true) := bne' hq1
    rw [if_neg hp1] at h
    refine xw_cond_t rfl rfl (xw_seq (xw_region ?_))
    refine xq rfl trivial (o_as rfl) ?_
    refine xo_nil (xq_then (xw_ret (xq_then_ret ?_)))
    subst h
    exact con_ret1 (.inl rfl) Try.results23 rfl [] (Kp.st (Kp.new hb2 Kp.nil)) (⟨rfl, rfl⟩)
  · have hq1 : ((isR_F m0)) = true := (bnF hc1)
    have hp1 : ((isR_F m0)) = true := hq1
    rw [if_pos hp1] at h
    refine xw_cond_f rfl rfl (xw_skip (xq_then (xw_seq (xw_seq (xw_region ?_)))))
    refine xq rfl trivial (o_as rfl) ?_
    refine xo_nil (xq_then ?_)
    refine xw_block ?_
    obtain ⟨x1, hx1, h⟩ := h
    refine xw_wh (fun (i5 : Int) e H => e = [(1, v1), (2, .pointer (some ⟨b2, 0, none⟩)), (5, .int .i64 i5)] ∧ H = (b2, BK 28 (iv m0) 29) :: ([])) (fun x ex e H => match x with | .inl _ => ex = .exit 0 ∧ e = [] ∧ H = (b2, BK 28 (iv m0) 29) :: ([]) | .inr _ => ex = .ret ∧ e = [(4, .bool false)] ∧ H = (b2, BK 28 (iv m0) 29) :: ([])) hx1 ⟨[(1, v1), (2, .pointer (some ⟨b2, 0, none⟩)), (5, .int .i64 0)], (b2, BK 28 (iv m0) 29) :: ([]), (lc rfl (lc rfl (lc rfl ln))), fun _ h => h, ⟨rfl, rfl⟩⟩ ?_ ?_
    · rintro i5 o _ _ ⟨rfl, rfl⟩ hb
      have h : liveR_l1 m0 open1 i5 o := hb
      clear hb
      unfold liveR_l1 at h
      refine xw_seq (xw_seq (xw_region ?_))
      refine xq rfl trivial (o_mv rfl) ?_
      first | refine xq rfl trivial (o_fa0 fl29_10 rfl) ?_ | refine xq rfl trivial (o_fa fl29_10 rfl) ?_
      refine xq rfl trivial (o_ldI (v := m0 11) rfl ts3 (List.Mem.head _) (by omega) rfl) ?_
      refine xq rfl trivial (o_lss rfl rfl) ?_
      refine xo_nil (xq_then ?_)
      refine xw_bool 14 rfl (fun hc2 => ?_) (fun hc2 => ?_)
      · have hq2 : (decide (i5 < m0 11)) = true := hc2
        have hp2 : i5 < m0 11 := of_decide_eq_true hq2
        rw [if_pos hp2] at h
        refine xw_cond_t rfl rfl (xw_skip (xq_then (xw_seq ?_)))
        refine xw_block ?_
        refine xw_seq (xw_region ?_)
        refine xq rfl trivial (o_as rfl) ?_
        refine xo_nil (xq_then (xw_seq (xw_seq (xw_region ?_))))
        refine xq rfl trivial (o_as rfl) ?_
        refine xo_nil (xq_then ?_)
        refine xw_block ?_
        obtain ⟨there6, hx2, h⟩ := h
        refine xw_wh (fun s e H => match s with | (there6, k7) => e = [(1, v1), (2, .pointer (some ⟨b2, 0, none⟩)), (5, .int .i64 i5), (6, .bool (there6)), (7, .int .i64 k7)] ∧ H = (b2, BK 28 (iv m0) 29) :: ([])) (fun (there6 : Bool) ex e H => ex = .exit 2 ∧ e = [(1, v1), (2, .pointer (some ⟨b2, 0, none⟩)), (5, .int .i64 i5), (6, .bool (there6))] ∧ H = (b2, BK 28 (iv m0) 29) :: ([])) hx2 ⟨[(1, v1), (2, .pointer (some ⟨b2, 0, none⟩)), (5, .int .i64 i5), (6, .bool false), (7, .int .i64 0)], (b2, BK 28 (iv m0) 29) :: ([]), (lc rfl (lc rfl (lc rfl (lc rfl (lc rfl ln))))), fun _ h => h, ⟨rfl, rfl⟩⟩ ?_ ?_
        · rintro ⟨there6, k7⟩ o _ _ ⟨rfl, rfl⟩ hb
          have h : liveR_l2 m0 open1 i5 there6 k7 o := hb
          clear hb
          unfold liveR_l2 at h
          refine xw_seq (xw_seq (xw_region ?_))
          refine xq rfl trivial (o_mv rfl) ?_
          refine xq rfl trivial (o_mv rfl) ?_
          refine xq rfl trivial (o_lenL rfl Try.underlying31 rfl (SL.val hs1)) ?_
          refine xq rfl trivial (o_lss rfl rfl) ?_
          refine xo_nil (xq_then ?_)
          refine xw_bool 20 rfl (fun hc3 => ?_) (fun hc3 => ?_)
          · have hq3 : (decide (k7 < (open1.length : Int))) = true := hc3
            have hp3 : k7 < (open1.length : Int) := of_decide_eq_true hq3
            rw [if_pos hp3] at h
            refine xw_cond_t rfl rfl (xw_skip (xq_then (xw_seq ?_)))
            refine xw_block ?_
            obtain ⟨ho4, ho5, h⟩ := h
            refine xw_cut [(1, _), (2, _), (5, _), (7, _)] (lc rfl (lc rfl (lc rfl (lc rfl ln)))) [(6, .bool ((there6) || ((eqN 2 (open1[k7.toNat]!) (fun i => m0 ((12 + (i5.toNat * 2)) + i))))))] ?_ ?_
            · refine xd_start (by kernel_rfl) (by kernel_rfl) (fun hok => ?_)
              refine xd_b hok 0 [(6, _)] ([]) rsN rfl rfl rfl (lc rfl ln) (by kernel_rfl) trivial (fun H' hy hK => o_mv rfl) ?_
              refine xd_b hok 1 [(23, _)] ([]) rsN rfl rfl rfl (lc rfl ln) (by kernel_rfl) trivial (fun H' hy hK => o_mv rfl) ?_
              refine xd_bool 24 rfl (fun hg6 => ?_) (fun hg6 => ?_)
              · have hq6 : (there6) = true := hg6
                have hp6 : (there6) = true := hq6
                refine xd_skip hok 2 [(1, _), (24, _)] rfl rfl rfl (lc rfl (lc rfl ln)) (by kernel_rfl) ⟨_, _, rfl, rfl, rfl⟩ ?_
                refine xd_skip hok 3 [(7, _), (24, _)] rfl rfl rfl (lc rfl (lc rfl ln)) (by kernel_rfl) ⟨_, _, rfl, rfl, rfl⟩ ?_
                refine xd_skip hok 4 [(25, _), (26, _), (24, _)] rfl rfl rfl (lc rfl (lc rfl (lc rfl ln))) (by kernel_rfl) ⟨_, _, rfl, rfl, rfl⟩ ?_
                refine xd_skip hok 5 [(27, _), (24, _)] rfl rfl rfl (lc rfl (lc rfl ln)) (by kernel_rfl) ⟨_, _, rfl, rfl, rfl⟩ ?_
                refine xd_skip hok 6 [(5, _), (24, _)] rfl rfl rfl (lc rfl (lc rfl ln)) (by kernel_rfl) ⟨_, _, rfl, rfl, rfl⟩ ?_
                refine xd_skip hok 7 [(2, _), (24, _)] rfl rfl rfl (lc rfl (lc rfl ln)) (by kernel_rfl) ⟨_, _, rfl, rfl, rfl⟩ ?_
                refine xd_skip hok 8 [(30, _), (29, _), (24, _)] rfl rfl rfl (lc rfl (lc rfl (lc rfl ln))) (by kernel_rfl) ⟨_, _, rfl, rfl, rfl⟩ ?_
                refine xd_skip hok 9 [(31, _), (24, _)] rfl rfl rfl (lc rfl (lc rfl ln)) (by kernel_rfl) ⟨_, _, rfl, rfl, rfl⟩ ?_
                refine xd_skip hok 10 [(28, _), (32, _), (24, _)] rfl rfl rfl (lc rfl (lc rfl (lc rfl ln))) (by kernel_rfl) ⟨_, _, rfl, rfl, rfl⟩ ?_
                refine xd_b hok 11 [(24, _), (33, _)] ([]) rsN rfl rfl rfl (lc rfl (lc rfl ln)) (by kernel_rfl) trivial (fun H' hy hK => o_pick_t rfl rfl) ?_
                refine xd_b hok 12 [(34, _)] ([]) rsN rfl rfl rfl (lc rfl ln) (by kernel_rfl) trivial (fun H' hy hK => o_as rfl) ?_
                refine xd_end hok (by kernel_rfl) ?_
                exact xq_cut ((lce rfl (by first | rfl | (simp only [hq3, hq6, if_pos hp3, if_pos hp6, bS]; done) | (simp [hp3, hp6]; done) | (simp_all; done)) (lc rfl (lc rfl (lc rfl (lc rfl ln)))))) (fun _ h => h)
              · have hq6 : (there6) = false := hg6
                have hp6 : ¬ ((there6) = true) := bne' hq6
                refine xd_b hok 2 [(1, _), (24, _)] ([]) rsN rfl rfl rfl (lc rfl (lc rfl ln)) (by kernel_rfl) ⟨_, rfl, rfl⟩ (fun H' hy hK => o_mv rfl) ?_
                refine xd_b hok 3 [(7, _), (24, _)] ([]) rsN rfl rfl rfl (lc rfl (lc rfl ln)) (by kernel_rfl) ⟨_, rfl, rfl⟩ (fun H' hy hK => o_mv rfl) ?_
                refine xd_b hok 4 [(25, _), (26, _), (24, _)] ([]) rsN rfl rfl rfl (lc rfl (lc rfl (lc rfl ln))) (by kernel_rfl) ⟨_, rfl, rfl⟩ (fun H' hy hK => o_ixL el31 rfl rfl (fun w hw => (hs1.keep hw (fun k hk => (hK k hk).elim (fun h => (Fr.cons hb2 Fr.nil) k h) id))) rfl (ho4 (by first | exact hg6 | (simp only [hq3, hq6, if_pos hp3, if_neg hp6, bS]; done) | (simp [hp3, hp6]; done) | (simp_all; done)))) ?_
                refine xd_b hok 5 [(27, _), (24, _)] ([]) rsN rfl rfl rfl (lc rfl (lc rfl ln)) (by kernel_rfl) ⟨_, rfl, rfl⟩ (fun H' hy hK => o_ldLI rfl ts26 rfl (fun w hw => (hs1.keep hw (fun k hk => (hK k hk).elim (fun h => (Fr.cons hb2 Fr.nil) k h) id))) (toNat_lt (ho4 (by first | exact hg6 | (simp only [hq3, hq6, if_pos hp3, if_neg hp6, bS]; done) | (simp [hp3, hp6]; done) | (simp_all; done)))) rfl) ?_
                refine xd_b hok 6 [(5, _), (24, _)] ([]) rsN rfl rfl rfl (lc rfl (lc rfl ln)) (by kernel_rfl) ⟨_, rfl, rfl⟩ (fun H' hy hK => o_mv rfl) ?_
                first | refine xd_b hok 7 [(2, _), (24, _)] ([]) rsN rfl rfl rfl (lc rfl (lc rfl ln)) (by kernel_rfl) ⟨_, rfl, rfl⟩ (fun H' hy hK => o_fa0 fl29_11 rfl) ?_ | refine xd_b hok 7 [(2, _), (24, _)] ([]) rsN rfl rfl rfl (lc rfl (lc rfl ln)) (by kernel_rfl) ⟨_, rfl, rfl⟩ (fun H' hy hK => o_fa fl29_11 rfl) ?_
                refine xd_b hok 8 [(30, _), (29, _), (24, _)] ([]) rsN rfl rfl rfl (lc rfl (lc rfl (lc rfl ln))) (by kernel_rfl) ⟨_, rfl, rfl⟩ (fun H' hy hK => o_ixa ea27 rfl rfl (ho5 (by first | exact hg6 | (simp only [hq3, hq6, if_pos hp3, if_neg hp6, bS]; done) | (simp [hp3, hp6]; done) | (simp_all; done))) rfl) ?_
                refine xd_b hok 9 [(31, _), (24, _)] ((b2, BK 28 (iv m0) 29) :: ([])) (rsC (List.Mem.head _) rsN) rfl rfl rfl (lc rfl (lc rfl ln)) (by kernel_rfl) ⟨_, rfl, rfl⟩ (fun H' hy hK => o_ldSI rfl ts26 (hy _ (List.Mem.head _)) (by have := (ho5 (by first | exact hg6 | (simp only [hq3, hq6, if_pos hp3, if_neg hp6, bS]; done) | (simp [hp3, hp6]; done) | (simp_all; done))); omega) (fun _ _ => rfl)) ?_
                refine xd_b hok 10 [(28, _), (32, _), (24, _)] ([]) rsN rfl rfl rfl (lc rfl (lc rfl (lc rfl ln))) (by kernel_rfl) ⟨_, rfl, rfl⟩ (fun H' hy hK => o_eqlA eq26 rfl rfl) ?_
                refine xd_b hok 11 [(24, _), (33, _)] ([]) rsN rfl rfl rfl (lc rfl (lc rfl ln)) (by kernel_rfl) trivial (fun H' hy hK => o_pick_f rfl rfl) ?_
                refine xd_b hok 12 [(34, _)] ([]) rsN rfl rfl rfl (lc rfl ln) (by kernel_rfl) trivial (fun H' hy hK => o_as rfl) ?_
                refine xd_end hok (by kernel_rfl) ?_
                exact xq_cut ((lce rfl (by first | rfl | (simp only [hq3, hq6, if_pos hp3, if_neg hp6, bS]; done) | (simp [hp3, hp6]; done) | (simp_all; done)) (lc rfl (lc rfl (lc rfl (lc rfl ln)))))) (fun _ h => h)
            · refine xq_blk 3 ?_
              refine xq_then (xw_region ?_)
              refine xq rfl trivial (o_mv rfl) ?_
              obtain ⟨ho7, h⟩ := h
              refine xq rfl trivial (o_add rfl rfl rfl ho7) ?_
              refine xq rfl trivial (o_as rfl) ?_
              refine xo_nil ?_
              exact xq_next (s' := (((there6) || ((eqN 2 (open1[k7.toNat]!) (fun i => m0 ((12 + (i5.toNat * 2)) + i)))), k7 + 1) : Bool × Int)) (e' := [(1, v1), (2, .pointer (some ⟨b2, 0, none⟩)), (5, .int .i64 i5), (6, .bool ((there6) || ((eqN 2 (open1[k7.toNat]!) (fun i => m0 ((12 + (i5.toNat * 2)) + i)))))), (7, .int .i64 (k7 + 1))]) ((b2, BK 28 (iv m0) 29) :: ([])) (lc rfl (lc rfl (lc rfl (lc rfl (lc rfl ln))))) (fun _ h => h) h ⟨rfl, rfl⟩
          · have hq3 : (decide (k7 < (open1.length : Int))) = false := hc3
            have hp3 : ¬ (k7 < (open1.length : Int)) := of_decide_eq_false hq3
            rw [if_neg hp3] at h
            refine xw_cond_f rfl rfl (xw_exit (xq_then_exit ?_))
            exact xq_out (r := (there6 : Bool)) (e' := [(1, v1), (2, .pointer (some ⟨b2, 0, none⟩)), (5, .int .i64 i5), (6, .bool (there6))]) ((b2, BK 28 (iv m0) 29) :: ([])) (lc rfl (lc rfl (lc rfl (lc rfl ln)))) (fun _ h => h) h (by intro hh; cases hh) ⟨rfl, rfl, rfl⟩
        · rintro _ _ _ ⟨rfl, rfl, rfl⟩
          replace h : liveR_k2a i5 there6 o := h
          unfold liveR_k2a at h
          refine xq_blk_eq ?_
          refine xq_then (xw_seq (xw_region ?_))
          refine xq rfl trivial (o_mv rfl) ?_
          refine xq rfl trivial (o_not rfl) ?_
          refine xo_nil (xq_then ?_)
          refine xw_bool 36 rfl (fun hc8 => ?_) (fun hc8 => ?_)
          · have hq8 : (there6) = false := (bnT hc8)
            have hp8 : ¬ ((there6) = true) := bne' hq8
            rw [if_neg hp8] at h
            refine xw_cond_t rfl rfl (xw_seq (xw_region ?_))
            refine xq rfl trivial (o_as rfl) ?_
            refine xo_nil (xq_then (xw_ret (xq_blk_ret (xq_then_ret ?_))))
            exact xq_out (r := (.inr () : (Unit) ⊕ (Unit))) (e' := [(4, .bool false)]) ((b2, BK 28 (iv m0) 29) :: ([])) (lc rfl ln) (fun _ h => h) h (by intro hh; cases hh) ⟨rfl, rfl, rfl⟩
          · have hq8 : (there6) = true := (bnF hc8)
            have hp8 : (there6) = true := hq8
            rw [if_pos hp8] at h
            refine xw_cond_f rfl rfl (xw_skip ?_)
            refine xq_blk 1 ?_
            refine xq_then (xw_region ?_)
            refine xq rfl trivial (o_mv rfl) ?_
            obtain ⟨ho9, h⟩ := h
            refine xq rfl trivial (o_add rfl rfl rfl ho9) ?_
            refine xq rfl trivial (o_as rfl) ?_
            refine xo_nil ?_
            exact xq_next (s' := (i5 + 1 : Int)) (e' := [(1, v1), (2, .pointer (some ⟨b2, 0, none⟩)), (5, .int .i64 (i5 + 1))]) ((b2, BK 28 (iv m0) 29) :: ([])) (lc rfl (lc rfl (lc rfl ln))) (fun _ h => h) h ⟨rfl, rfl⟩
      · have hq2 : (decide (i5 < m0 11)) = false := hc2
        have hp2 : ¬ (i5 < m0 11) := of_decide_eq_false hq2
        rw [if_neg hp2] at h
        refine xw_cond_f rfl rfl (xw_exit (xq_then_exit ?_))
        exact xq_out (r := (.inl () : (Unit) ⊕ (Unit))) (e' := []) ((b2, BK 28 (iv m0) 29) :: ([])) ln (fun _ h => h) h (by intro hh; cases hh) ⟨rfl, rfl, rfl⟩
    · rcases x1 with _ | x1
      · rintro _ _ _ ⟨rfl, rfl, rfl⟩
        replace h : liveR_k1a r := h
        unfold liveR_k1a at h
        refine xq_blk_eq ?_
        refine xq_then (xw_seq (xw_region ?_))
        refine xq rfl trivial (o_as rfl) ?_
        refine xo_nil (xq_then (xw_ret ?_))
        subst h
        exact con_ret1 (.inl rfl) Try.results23 rfl [] (Kp.st (Kp.new hb2 Kp.nil)) (⟨rfl, rfl⟩)
      cases x1
      rintro _ _ _ ⟨rfl, rfl, rfl⟩
      replace h : liveR_k1b r := h
      unfold liveR_k1b at h
      refine xq_blk_ret (xq_then_ret ?_)
      subst h
      exact con_ret1 (.inl rfl) Try.results23 rfl [] (Kp.st (Kp.new hb2 Kp.nil)) (⟨rfl, rfl⟩)

theorem victimR_con (m0 : (Nat → Int)) (w : World) (r : Int) (h : victimR_S m0 r) : Con Try.prog 24 #[AI 28 m0] w (Is (.int .i64 r) []) := by
  unfold victimR_S at h
  refine con_enter (n := 28) [(0, _)] Try.func24 rfl Try.ntmps24 rfl (lac rfl lan) ?_
  refine xw_seq (xw_region ?_)
  refine xo rfl trivial (o_boxA rfl) ?_
  rintro _ _ ⟨b1, hb1, rfl, rfl⟩
  refine xq rfl trivial (o_as rfl) ?_
  refine xo_nil (xq_then (xw_seq (xw_region ?_)))
  first | refine xq rfl trivial (o_fa0 fl29_11 rfl) ?_ | refine xq rfl trivial (o_fa fl29_11 rfl) ?_
  refine xq rfl trivial (o_ixa (j := 0) ea27 rfl rfl ⟨by omega, by omega⟩ rfl) ?_
  first | refine xq rfl trivial (o_fa0 fl26_0 rfl) ?_ | refine xq rfl trivial (o_fa fl26_0 rfl) ?_
  refine xq rfl trivial (o_ldI (v := m0 12) rfl ts3 (List.Mem.head _) (by omega) rfl) ?_
  refine xq rfl trivial (o_as rfl) ?_
  refine xo_nil (xq_then (xw_seq (xw_seq (xw_region ?_))))
  refine xq rfl trivial (o_as rfl) ?_
  refine xo_nil (xq_then ?_)
  refine xw_block ?_
  obtain ⟨n3, hx1, h⟩ := h
  refine xw_wh (fun s e H => match s with | (n3, i4) => e = [(1, .pointer (some ⟨b1, 0, none⟩)), (3, .int .i64 n3), (4, .int .i64 i4)] ∧ H = (b1, BK 28 (iv m0) 29) :: ([])) (fun (n3 : Int) ex e H => ex = .exit 0 ∧ e = [(3, .int .i64 n3)] ∧ H = (b1, BK 28 (iv m0) 29) :: ([])) hx1 ⟨[(1, .pointer (some ⟨b1, 0, none⟩)), (3, .int .i64 (m0 12)), (4, .int .i64 0)], (b1, BK 28 (iv m0) 29) :: ([]), (lc rfl (lc rfl (lc rfl ln))), fun _ h => h, ⟨rfl, rfl⟩⟩ ?_ ?_
  · rintro ⟨n3, i4⟩ o _ _ ⟨rfl, rfl⟩ hb
    have h : victimR_l1 m0 n3 i4 o := hb
    clear hb
    unfold victimR_l1 at h
    refine xw_seq (xw_seq (xw_region ?_))
    refine xq rfl trivial (o_mv rfl) ?_
    first | refine xq rfl trivial (o_fa0 fl29_10 rfl) ?_ | refine xq rfl trivial (o_fa fl29_10 rfl) ?_
    refine xq rfl trivial (o_ldI (v := m0 11) rfl ts3 (List.Mem.head _) (by omega) rfl) ?_
    refine xq rfl trivial (o_lss rfl rfl) ?_
    refine xo_nil (xq_then ?_)
    refine xw_bool 12 rfl (fun hc1 => ?_) (fun hc1 => ?_)
    · have hq1 : (decide (i4 < m0 11)) = true := hc1
      have hp1 : i4 < m0 11 := of_decide_eq_true hq1
      rw [if_pos hp1] at h
      refine xw_cond_t rfl rfl (xw_skip (xq_then (xw_seq ?_)))
      refine xw_block ?_
      refine xw_seq (xw_region ?_)
      refine xq rfl trivial (o_mv rfl) ?_
      first | refine xq rfl trivial (o_fa0 fl29_11 rfl) ?_ | refine xq rfl trivial (o_fa fl29_11 rfl) ?_
      obtain ⟨ho2, h⟩ := h
      refine xq rfl trivial (o_ixa ea27 rfl rfl ho2 rfl) ?_
      first | refine xq rfl trivial (o_fa0 fl26_0 rfl) ?_ | refine xq rfl trivial (o_fa fl26_0 rfl) ?_
      refine xq rfl trivial (o_ldI (v := m0 (12 + (i4.toNat * 2))) rfl ts3 (List.Mem.head _) (by have := ho2; omega) rfl) ?_
      refine xq rfl trivial (o_mv rfl) ?_
      refine xq rfl trivial (o_gtr rfl rfl) ?_
      refine xo_nil (xq_then ?_)
      have hk := h.2
      replace h := h.1
      refine xw_cut [(1, _), (4, _)] (lc rfl (lc rfl ln)) [(3, .int .i64 (if n3 < m0 (12 + (i4.toNat * 2)) then m0 (12 + (i4.toNat * 2)) else n3))] ?_ ?_
      · refine xw_bool 21 rfl (fun hc3 => ?_) (fun hc3 => ?_)
        · have hq3 : (decide (n3 < m0 (12 + (i4.toNat * 2)))) = true := hc3
          have hp3 : n3 < m0 (12 + (i4.toNat * 2)) := of_decide_eq_true hq3
          rw [if_pos hp3] at h
          refine xw_cond_t rfl rfl (xw_region ?_)
          refine xq rfl trivial (o_mv rfl) ?_
          first | refine xq rfl trivial (o_fa0 fl29_11 rfl) ?_ | refine xq rfl trivial (o_fa fl29_11 rfl) ?_
          obtain ⟨ho4, h⟩ := h
          refine xq rfl trivial (o_ixa ea27 rfl rfl ho4 rfl) ?_
          first | refine xq rfl trivial (o_fa0 fl26_0 rfl) ?_ | refine xq rfl trivial (o_fa fl26_0 rfl) ?_
          refine xq rfl trivial (o_ldI (v := m0 (12 + (i4.toNat * 2))) rfl ts3 (List.Mem.head _) (by have := ho4; omega) rfl) ?_
          refine xq rfl trivial (o_as rfl) ?_
          refine xo_nil ?_
          exact xq_cut (lce rfl (by first | rfl | (simp only [hq1, hq3, if_pos hp1, if_pos hp3, bS]; done) | (simp [hp1, hp3]; done) | (simp_all; done)) (lc rfl (lc rfl ln))) (fun _ hh => hh)
        · have hq3 : (decide (n3 < m0 (12 + (i4.toNat * 2)))) = false := hc3
          have hp3 : ¬ (n3 < m0 (12 + (i4.toNat * 2))) := of_decide_eq_false hq3
          rw [if_neg hp3] at h
          refine xw_cond_f rfl rfl (xw_skip ?_)
          exact xq_cut (lce rfl (by first | rfl | (simp only [hq1, hq3, if_pos hp1, if_neg hp3, bS]; done) | (simp [hp1, hp3]; done) | (simp_all; done)) (lc rfl (lc rfl ln))) (fun _ hh => hh)
      · replace h := hk
        refine xq_blk 1 ?_
        refine xq_then (xw_region ?_)
        refine xq rfl trivial (o_mv rfl) ?_
        obtain ⟨ho5, h⟩ := h
        refine xq rfl trivial (o_add rfl rfl rfl ho5) ?_
        refine xq rfl trivial (o_as rfl) ?_
        refine xo_nil ?_
        exact xq_next (s' := (((if n3 < m0 (12 + (i4.toNat * 2)) then m0 (12 + (i4.toNat * 2)) else n3), i4 + 1) : Int × Int)) (e' := [(1, .pointer (some ⟨b1, 0, none⟩)), (3, .int .i64 (if n3 < m0 (12 + (i4.toNat * 2)) then m0 (12 + (i4.toNat * 2)) else n3)), (4, .int .i64 (i4 + 1))]) ((b1, BK 28 (iv m0) 29) :: ([])) (lc rfl (lc rfl (lc rfl ln))) (fun _ h => h) h ⟨rfl, rfl⟩
    · have hq1 : (decide (i4 < m0 11)) = false := hc1
      have hp1 : ¬ (i4 < m0 11) := of_decide_eq_false hq1
      rw [if_neg hp1] at h
      refine xw_cond_f rfl rfl (xw_exit (xq_then_exit ?_))
      exact xq_out (r := (n3 : Int)) (e' := [(3, .int .i64 n3)]) ((b1, BK 28 (iv m0) 29) :: ([])) (lc rfl ln) (fun _ h => h) h (by intro hh; cases hh) ⟨rfl, rfl, rfl⟩
  · rintro _ _ _ ⟨rfl, rfl, rfl⟩
    replace h : victimR_k1a n3 r := h
    unfold victimR_k1a at h
    refine xq_blk_eq ?_
    refine xq_then (xw_seq (xw_region ?_))
    refine xq rfl trivial (o_mv rfl) ?_
    refine xq rfl trivial (o_as rfl) ?_
    refine xo_nil (xq_then (xw_ret ?_))
    subst h
    exact con_ret1 (.inl rfl) Try.results24 rfl [] (Kp.st (Kp.new hb1 Kp.nil)) (⟨rfl, rfl⟩)

theorem msgs_con (a0 : (List (Nat → Int))) (b1 : (List (Nat → Int))) (v0 : Value) (v1 : Value) (w : World) (hs0 : SL w 28 iv v0 a0) (hs1 : SL w 28 iv v1 b1) (r : Bool) (h : msgs_S a0 b1 r) : Con Try.prog 16 #[v0, v1] w (Is (.bool r) []) := by
  unfold msgs_S at h
  refine con_enter (n := 26) [(0, _), (1, _)] Try.func16 rfl Try.ntmps16 rfl (lac rfl (lac rfl lan)) ?_
  refine xw_seq (xw_region ?_)
  refine xq rfl trivial (o_as rfl) ?_
  refine xo_nil (xq_then (xw_seq (xw_seq (xw_region ?_))))
  refine xq rfl trivial (o_mv rfl) ?_
  refine xq rfl trivial (o_lenL rfl Try.underlying41 rfl (SL.val hs0)) ?_
  refine xq rfl trivial (o_mv rfl) ?_
  refine xq rfl trivial (o_lenL rfl Try.underlying41 rfl (SL.val hs1)) ?_
  refine xq rfl trivial (o_neq rfl rfl) ?_
  refine xo_nil (xq_then ?_)
  refine xw_bool 10 rfl (fun hc1 => ?_) (fun hc1 => ?_)
  · have hq1 : (decide ((a0.length : Int) = (b1.length : Int))) = false := (bnT hc1)
    have hp1 : ¬ ((a0.length : Int) = (b1.length : Int)) := of_decide_eq_false hq1
    rw [if_neg hp1] at h
    refine xw_cond_t rfl rfl (xw_seq (xw_region ?_))
    refine xq rfl trivial (o_as rfl) ?_
    refine xo_nil (xq_then (xw_ret (xq_then_ret ?_)))
    subst h
    exact con_ret1 (.inl rfl) Try.results16 rfl [] (fun _ h => h) (⟨rfl, rfl⟩)
  · have hq1 : (decide ((a0.length : Int) = (b1.length : Int))) = true := (bnF hc1)
    have hp1 : (a0.length : Int) = (b1.length : Int) := of_decide_eq_true hq1
    rw [if_pos hp1] at h
    refine xw_cond_f rfl rfl (xw_skip (xq_then (xw_seq (xw_seq (xw_region ?_)))))
    refine xq rfl trivial (o_as rfl) ?_
    refine xo_nil (xq_then ?_)
    refine xw_block ?_
    obtain ⟨x1, hx1, h⟩ := h
    refine xw_wh (fun (i5 : Int) e H => e = [(0, v0), (1, v1), (5, .int .i64 i5)] ∧ H = []) (fun x ex e H => match x with | .inl _ => ex = .exit 0 ∧ e = [] ∧ H = [] | .inr _ => ex = .ret ∧ e = [(4, .bool false)] ∧ H = []) hx1 ⟨[(0, v0), (1, v1), (5, .int .i64 0)], [], (lc rfl (lc rfl (lc rfl ln))), fun _ h => h, ⟨rfl, rfl⟩⟩ ?_ ?_
    · rintro i5 o _ _ ⟨rfl, rfl⟩ hb
      have h : msgs_l1 a0 b1 i5 o := hb
      clear hb
      unfold msgs_l1 at h
      refine xw_seq (xw_seq (xw_region ?_))
      refine xq rfl trivial (o_mv rfl) ?_
      refine xq rfl trivial (o_mv rfl) ?_
      refine xq rfl trivial (o_lenL rfl Try.underlying41 rfl (SL.val hs0)) ?_
      refine xq rfl trivial (o_lss rfl rfl) ?_
      refine xo_nil (xq_then ?_)
      refine xw_bool 14 rfl (fun hc2 => ?_) (fun hc2 => ?_)
      · have hq2 : (decide (i5 < (a0.length : Int))) = true := hc2
        have hp2 : i5 < (a0.length : Int) := of_decide_eq_true hq2
        rw [if_pos hp2] at h
        refine xw_cond_t rfl rfl (xw_skip (xq_then (xw_seq ?_)))
        refine xw_block ?_
        refine xw_seq ?_
        refine xd_start (by kernel_rfl) (by kernel_rfl) (fun hok => ?_)
        refine xd_b hok 0 [(0, _)] ([]) rsN rfl rfl rfl (lc rfl ln) (by kernel_rfl) trivial (fun H' hy hK => o_mv rfl) ?_
        refine xd_b hok 1 [(5, _)] ([]) rsN rfl rfl rfl (lc rfl ln) (by kernel_rfl) trivial (fun H' hy hK => o_mv rfl) ?_
        obtain ⟨ho3, h⟩ := h
        refine xd_b hok 2 [(17, _), (18, _)] ([]) rsN rfl rfl rfl (lc rfl (lc rfl ln)) (by kernel_rfl) trivial (fun H' hy hK => o_ixL el41 rfl rfl (fun w hw => (hs0.keep hw (fun k hk => (hK k hk).elim (fun h => Fr.nil k h) id))) rfl ho3) ?_
        refine xd_b hok 3 [(19, _)] ([]) rsN rfl rfl rfl (lc rfl ln) (by kernel_rfl) trivial (fun H' hy hK => o_ldLI rfl ts29 rfl (fun w hw => (hs0.keep hw (fun k hk => (hK k hk).elim (fun h => Fr.nil k h) id))) (toNat_lt ho3) rfl) ?_
        refine xd_b hok 4 [(1, _)] ([]) rsN rfl rfl rfl (lc rfl ln) (by kernel_rfl) trivial (fun H' hy hK => o_mv rfl) ?_
        refine xd_b hok 5 [(5, _)] ([]) rsN rfl rfl rfl (lc rfl ln) (by kernel_rfl) trivial (fun H' hy hK => o_mv rfl) ?_
        obtain ⟨ho4, h⟩ := h
        refine xd_b hok 6 [(21, _), (22, _)] ([]) rsN rfl rfl rfl (lc rfl (lc rfl ln)) (by kernel_rfl) trivial (fun H' hy hK => o_ixL el41 rfl rfl (fun w hw => (hs1.keep hw (fun k hk => (hK k hk).elim (fun h => Fr.nil k h) id))) rfl ho4) ?_
        refine xd_b hok 7 [(23, _)] ([]) rsN rfl rfl rfl (lc rfl ln) (by kernel_rfl) trivial (fun H' hy hK => o_ldLI rfl ts29 rfl (fun w hw => (hs1.keep hw (fun k hk => (hK k hk).elim (fun h => Fr.nil k h) id))) (toNat_lt ho4) rfl) ?_
        refine xd_b hok 8 [(20, _), (24, _)] ([]) rsN rfl rfl rfl (lc rfl (lc rfl ln)) (by kernel_rfl) trivial (fun H' hy hK => o_neqA eq29 rfl rfl) ?_
        refine xd_end hok (by kernel_rfl) ?_
        refine xq_then ?_
        refine xw_bool 25 rfl (fun hc5 => ?_) (fun hc5 => ?_)
        · have hq5 : ((eqN 28 (a0[i5.toNat]!) (b1[i5.toNat]!))) = false := (bnT hc5)
          have hp5 : ¬ (((eqN 28 (a0[i5.toNat]!) (b1[i5.toNat]!))) = true) := bne' hq5
          rw [if_neg hp5] at h
          refine xw_cond_t rfl rfl (xw_seq (xw_region ?_))
          refine xq rfl trivial (o_as rfl) ?_
          refine xo_nil (xq_then (xw_ret (xq_blk_ret (xq_then_ret ?_))))
          exact xq_out (r := (.inr () : (Unit) ⊕ (Unit))) (e' := [(4, .bool false)]) ([]) (lc rfl ln) (fun _ h => h) h (by intro hh; cases hh) ⟨rfl, rfl, rfl⟩
        · have hq5 : ((eqN 28 (a0[i5.toNat]!) (b1[i5.toNat]!))) = true := (bnF hc5)
          have hp5 : ((eqN 28 (a0[i5.toNat]!) (b1[i5.toNat]!))) = true := hq5
          rw [if_pos hp5] at h
          refine xw_cond_f rfl rfl (xw_skip ?_)
          refine xq_blk 1 ?_
          refine xq_then (xw_region ?_)
          refine xq rfl trivial (o_mv rfl) ?_
          obtain ⟨ho6, h⟩ := h
          refine xq rfl trivial (o_add rfl rfl rfl ho6) ?_
          refine xq rfl trivial (o_as rfl) ?_
          refine xo_nil ?_
          exact xq_next (s' := (i5 + 1 : Int)) (e' := [(0, v0), (1, v1), (5, .int .i64 (i5 + 1))]) ([]) (lc rfl (lc rfl (lc rfl ln))) (fun _ h => h) h ⟨rfl, rfl⟩
      · have hq2 : (decide (i5 < (a0.length : Int))) = false := hc2
        have hp2 : ¬ (i5 < (a0.length : Int)) := of_decide_eq_false hq2
        rw [if_neg hp2] at h
        refine xw_cond_f rfl rfl (xw_exit (xq_then_exit ?_))
        exact xq_out (r := (.inl () : (Unit) ⊕ (Unit))) (e' := []) ([]) ln (fun _ h => h) h (by intro hh; cases hh) ⟨rfl, rfl, rfl⟩
    · rcases x1 with _ | x1
      · rintro _ _ _ ⟨rfl, rfl, rfl⟩
        replace h : msgs_k1a r := h
        unfold msgs_k1a at h
        refine xq_blk_eq ?_
        refine xq_then (xw_seq (xw_region ?_))
        refine xq rfl trivial (o_as rfl) ?_
        refine xo_nil (xq_then (xw_ret ?_))
        subst h
        exact con_ret1 (.inl rfl) Try.results16 rfl [] (fun _ h => h) (⟨rfl, rfl⟩)
      cases x1
      rintro _ _ _ ⟨rfl, rfl, rfl⟩
      replace h : msgs_k1b r := h
      unfold msgs_k1b at h
      refine xq_blk_ret (xq_then_ret ?_)
      subst h
      exact con_ret1 (.inl rfl) Try.results16 rfl [] (fun _ h => h) (⟨rfl, rfl⟩)

end Go.Proofs.Ytjmfnohbeoiddaa
