/- The code answers as the relations say. -/
import Derived.Test.YtmcohikcgdfhcaaTab
import Derived.Test.YtmcohikcgdfhcaaC4S
import Derived.Test.YtmcohikcgdfhcaaB4W
set_option maxHeartbeats 1000000
set_option linter.unusedVariables false
set_option linter.unusedSimpArgs false
set_option maxRecDepth 100000
namespace Go.Proofs.Ytmcohikcgdfhcaa
open Go Go.E

theorem cloneB_c (s0 : (List Int)) (v0 : Value) (w : World) (hs0 : SL w 1 u8c v0 s0) (hP : cloneB_P s0) : Con Try.prog 32 #[v0] w (fun v F => ∃ (u0 : Value) (C0 : GH), v = u0 ∧ F = (C0 ++ []) ∧ OJ 5 1 u8c C0 u0 (cloneB_F s0) ∧ Cov w [] C0) :=
  cloneB_con s0 v0 w hs0 _ (cloneB_ok s0 hP)

theorem take_con (r0b : (List Int)) (r0at : Int) (width1 : Int) (p0 : Nat) (v0_0 : Value) (S0_0 : GH) (w : World) (hJ0_0 : OJ 5 1 u8c S0_0 v0_0 r0b) (hC : Has w (cat [[(p0, BK 2 (cl [v0_0, .int .i64 r0at]) 78)], S0_0])) (r : Int × Int × Int) (h : take_S r0b r0at width1 r) : Con Try.prog 28 #[.pointer (some ⟨p0, 0, none⟩), .int .i64 width1] w (CatG fun v Ls => Cov w (cat [[(p0, BK 2 (cl [v0_0, .int .i64 r0at]) 78)], S0_0]) (cat Ls) ∧ v = .tuple #[.int .i64 r.1, errV 59 r.2.1] ∧ Ls = [[(p0, BK 2 (cl [v0_0, .int .i64 r.2.2]) 78)], S0_0]) := by
  unfold take_S at h
  refine con_enter (n := 64) [(0, _), (1, _)] Try.func28 rfl Try.ntmps28 rfl (lac rfl (lac rfl lan)) ?_
  refine xw_has hC ?_
  refine xw_seq (xw_region ?_)
  refine xq rfl trivial (o_as rfl) ?_
  refine xq rfl trivial (o_as rfl) ?_
  refine xo_nil (xq_then (xw_seq ?_))
  refine xw_block ?_
  refine xw_seq ?_
  refine xw_cut [(0, _), (1, _)] (lc rfl (lc rfl ln)) [(7, .bool (!((right_F width1))))] ?_ ?_
  · refine xw_region ?_
    refine xq rfl trivial (o_mv rfl) ?_
    refine xq rfl trivial (o_eqn Try.underlying64 rfl rfl rfl rfl) ?_
    refine xq rfl trivial (o_mv rfl) ?_
    refine xq rfl ⟨_, rfl, rfl⟩ (o_mv rfl) ?_
    refine xcallq rfl ⟨_, rfl, rfl⟩ kf31 rfl (fun w1 hw1 => right_c _ w1) ?_
    refine xq rfl ⟨_, rfl, rfl⟩ (o_not rfl) ?_
    refine xq rfl trivial (o_pick_f rfl rfl) ?_
    refine xq rfl trivial (o_as rfl) ?_
    refine xo_nil ?_
    exact xq_cut ((lce rfl (by first | rfl | (simp only [bS]; done) | (simp []; done) | (simp_all; done)) (lc rfl (lc rfl ln)))) (fun _ h => h)
  · refine xq_then ?_
    refine xw_bool 7 rfl (fun hc1 => ?_) (fun hc1 => ?_)
    · have hq1 : ((right_F width1)) = false := (bnT hc1)
      have hp1 : ¬ (((right_F width1)) = true) := bne' hq1
      rw [if_neg hp1] at h
      refine xw_cond_t rfl rfl (xw_seq (xw_region ?_))
      refine xq rfl trivial (o_mki rfl Try.underlying59 rfl) ?_
      refine xq rfl trivial (o_as rfl) ?_
      refine xq rfl trivial (o_as rfl) ?_
      refine xo_nil (xq_then (xw_ret (xq_blk_ret (xq_then_ret ?_))))
      subst h
      exact con_ret2 (.inl rfl) Try.results28 rfl rfl (cat [[(p0, BK 2 (cl [v0_0, .int .i64 r0at]) 78)], S0_0]) (fun _ h => h) (⟨_, rfl, (Cov.cons (Cov.app (A := S0_0) (A' := S0_0) (Cov.refl _) Cov.nil)), rfl, rfl⟩)
    · have hq1 : ((right_F width1)) = true := (bnF hc1)
      have hp1 : ((right_F width1)) = true := hq1
      rw [if_pos hp1] at h
      refine xw_cond_f rfl rfl (xw_seq ?_)
      refine xd_start (by kernel_rfl) (by kernel_rfl) (fun hok => ?_)
      refine xd_a hok 0 [(1, _)] (fun _ h => absurd h List.not_mem_nil) rfl rfl rfl (lc rfl ln) (by kernel_rfl) trivial (fun H' hy hK => o_mv rfl) ?_
      refine xd_a hok 1 [(0, _)] (fun _ h => h) rfl rfl rfl (lc rfl ln) (by kernel_rfl) trivial (fun H' hy hK => o_mv rfl) ?_
      refine xd_a hok 2 [(18, _)] (fun _ h => h) rfl rfl rfl (lc rfl ln) (by kernel_rfl) trivial (fun H' hy hK => o_nilp rfl) ?_
      first | refine xd_a hok 3 [(19, _)] (fun _ h => h) rfl rfl rfl (lc rfl ln) (by kernel_rfl) trivial (fun H' hy hK => o_fa0 fl78_0 rfl) ?_ | refine xd_a hok 3 [(19, _)] (fun _ h => h) rfl rfl rfl (lc rfl ln) (by kernel_rfl) trivial (fun H' hy hK => o_fa fl78_0 rfl) ?_
      refine xd_a hok 4 [(20, _)] (fun _ h => h) rfl rfl rfl (lc rfl ln) (by kernel_rfl) trivial (fun H' hy hK => o_ld (v := v0_0) rfl ts35 (hy _ (List.Mem.head _)) (by decide) rfl) ?_
      refine xd_a hok 5 [(21, _)] (fun _ h => h) rfl rfl rfl (lc rfl ln) (by kernel_rfl) trivial (fun H' hy hK => o_lenL rfl Try.underlying35 rfl (OJ.val hJ0_0)) ?_
      refine xd_a hok 6 [(0, _)] (fun _ h => h) rfl rfl rfl (lc rfl ln) (by kernel_rfl) trivial (fun H' hy hK => o_mv rfl) ?_
      refine xd_a hok 7 [(23, _)] (fun _ h => h) rfl rfl rfl (lc rfl ln) (by kernel_rfl) trivial (fun H' hy hK => o_nilp rfl) ?_
      first | refine xd_a hok 8 [(24, _)] (fun _ h => h) rfl rfl rfl (lc rfl ln) (by kernel_rfl) trivial (fun H' hy hK => o_fa0 fl78_1 rfl) ?_ | refine xd_a hok 8 [(24, _)] (fun _ h => h) rfl rfl rfl (lc rfl ln) (by kernel_rfl) trivial (fun H' hy hK => o_fa fl78_1 rfl) ?_
      refine xd_a hok 9 [(25, _)] (fun _ h => h) rfl rfl rfl (lc rfl ln) (by kernel_rfl) trivial (fun H' hy hK => o_ld (v := .int .i64 r0at) rfl ts3 (hy _ (List.Mem.head _)) (by decide) rfl) ?_
      obtain ⟨ho2, h⟩ := h
      refine xd_a hok 10 [(22, _), (26, _)] (fun _ h => h) rfl rfl rfl (lc rfl (lc rfl ln)) (by kernel_rfl) trivial (fun H' hy hK => o_sub rfl rfl rfl ho2) ?_
      refine xd_a hok 11 [(17, _), (27, _)] (fun _ h => h) rfl rfl rfl (lc rfl (lc rfl ln)) (by kernel_rfl) trivial (fun H' hy hK => o_gtr rfl rfl) ?_
      refine xd_a hok 12 [(28, _)] (fun _ h => h) rfl rfl rfl (lc rfl ln) (by kernel_rfl) trivial (fun H' hy hK => o_as rfl) ?_
      refine xd_end hok (by kernel_rfl) ?_
      refine xq_then ?_
      obtain ⟨ho3, h⟩ := h
      have hqho3 : (decide ((r0b.length : Int) - r0at < width1)) = false := by simpa using ho3
      refine xw_cond_f rfl hqho3 ?_
      refine xw_skip ?_
      refine xq_blk 0 ?_
      refine xq_then (xw_seq (xw_region ?_))
      refine xq rfl trivial (o_as rfl) ?_
      refine xo_nil (xq_then (xw_seq (xw_seq (xw_region ?_))))
      refine xq rfl trivial (o_mv rfl) ?_
      refine xq rfl trivial (o_mv rfl) ?_
      refine xo_nil (xq_then ?_)
      refine xw_block ?_
      obtain ⟨x1, hx1, h⟩ := h
      refine xw_wh (fun s e H => match s with | (n6, x39, fp0_1) => e = [(0, .pointer (some ⟨p0, 0, none⟩)), (6, .int .i64 n6), (38, .int .i64 width1), (39, .int .i64 x39)] ∧ H = (p0, BK 2 (cl [v0_0, .int .i64 fp0_1]) 78) :: (S0_0 ++ ([]))) (fun s ex e H => match s with | (n6, fp0_1) => ex = .exit 1 ∧ e = [(6, .int .i64 n6)] ∧ H = (p0, BK 2 (cl [v0_0, .int .i64 fp0_1]) 78) :: (S0_0 ++ ([]))) hx1 ⟨[(0, .pointer (some ⟨p0, 0, none⟩)), (6, .int .i64 0), (38, .int .i64 width1), (39, .int .i64 0)], (p0, BK 2 (cl [v0_0, .int .i64 r0at]) 78) :: (S0_0 ++ ([])), (lc rfl (lc rfl (lc rfl (lc rfl ln)))), fun _ h => h, ⟨rfl, rfl⟩⟩ ?_ ?_
      · rintro ⟨n6, x39, fp0_1⟩ o _ _ ⟨rfl, rfl⟩ hb
        have h : take_l1 r0b width1 n6 x39 fp0_1 o := hb
        clear hb
        unfold take_l1 at h
        refine xw_seq (xw_region ?_)
        refine xq rfl trivial (o_lss rfl rfl) ?_
        refine xo_nil (xq_then (xw_seq ?_))
        refine xw_bool 40 rfl (fun hc4 => ?_) (fun hc4 => ?_)
        · have hq4 : (decide (x39 < width1)) = true := hc4
          have hp4 : x39 < width1 := of_decide_eq_true hq4
          rw [if_pos hp4] at h
          refine xw_cond_t rfl rfl (xw_skip (xq_then (xw_seq ?_)))
          refine xw_block ?_
          refine xw_seq ?_
          refine xd_start (by kernel_rfl) (by kernel_rfl) (fun hok => ?_)
          refine xd_a hok 0 [(6, _)] (fun _ h => absurd h List.not_mem_nil) rfl rfl rfl (lc rfl ln) (by kernel_rfl) trivial (fun H' hy hK => o_mv rfl) ?_
          obtain ⟨ho5, h⟩ := h
          refine xd_a hok 1 [(41, _)] (fun _ h => h) rfl rfl rfl (lc rfl ln) (by kernel_rfl) trivial (fun H' hy hK => o_shlc (c := 256) rfl rfl ⟨by decide, by decide⟩ rfl ho5) ?_
          refine xd_a hok 2 [(0, _)] (fun _ h => h) rfl rfl rfl (lc rfl ln) (by kernel_rfl) trivial (fun H' hy hK => o_mv rfl) ?_
          refine xd_a hok 3 [(43, _)] (fun _ h => h) rfl rfl rfl (lc rfl ln) (by kernel_rfl) trivial (fun H' hy hK => o_nilp rfl) ?_
          first | refine xd_a hok 4 [(44, _)] (fun _ h => h) rfl rfl rfl (lc rfl ln) (by kernel_rfl) trivial (fun H' hy hK => o_fa0 fl78_0 rfl) ?_ | refine xd_a hok 4 [(44, _)] (fun _ h => h) rfl rfl rfl (lc rfl ln) (by kernel_rfl) trivial (fun H' hy hK => o_fa fl78_0 rfl) ?_
          refine xd_a hok 5 [(45, _)] (fun _ h => h) rfl rfl rfl (lc rfl ln) (by kernel_rfl) trivial (fun H' hy hK => o_ld (v := v0_0) rfl ts35 (hy _ (List.Mem.head _)) (by decide) rfl) ?_
          refine xd_a hok 6 [(0, _)] (fun _ h => h) rfl rfl rfl (lc rfl ln) (by kernel_rfl) trivial (fun H' hy hK => o_mv rfl) ?_
          refine xd_a hok 7 [(47, _)] (fun _ h => h) rfl rfl rfl (lc rfl ln) (by kernel_rfl) trivial (fun H' hy hK => o_nilp rfl) ?_
          first | refine xd_a hok 8 [(48, _)] (fun _ h => h) rfl rfl rfl (lc rfl ln) (by kernel_rfl) trivial (fun H' hy hK => o_fa0 fl78_1 rfl) ?_ | refine xd_a hok 8 [(48, _)] (fun _ h => h) rfl rfl rfl (lc rfl ln) (by kernel_rfl) trivial (fun H' hy hK => o_fa fl78_1 rfl) ?_
          refine xd_a hok 9 [(49, _)] (fun _ h => h) rfl rfl rfl (lc rfl ln) (by kernel_rfl) trivial (fun H' hy hK => o_ld (v := .int .i64 fp0_1) rfl ts3 (hy _ (List.Mem.head _)) (by decide) rfl) ?_
          obtain ⟨ho6, h⟩ := h
          refine xd_a hok 10 [(46, _), (50, _)] (fun _ h => h) rfl rfl rfl (lc rfl (lc rfl ln)) (by kernel_rfl) trivial (fun H' hy hK => o_ixL el35 rfl rfl (fun w hw => (hJ0_0.sl hw (fun x hx => hy x (Pull.sub (.thereC _ (.here _ _)) x hx)))) rfl ho6) ?_
          refine xd_a hok 11 [(51, _)] (fun _ h => h) rfl rfl rfl (lc rfl ln) (by kernel_rfl) trivial (fun H' hy hK => o_ldL1 (off := 0) (u := .int .u8 (r0b[fp0_1.toNat]!)) rfl ts5 rfl (fun w hw => (hJ0_0.sl hw (fun x hx => hy x (Pull.sub (.thereC _ (.here _ _)) x hx)))) (toNat_lt ho6) rfl rfl) ?_
          refine xd_a hok 12 [(52, _)] (fun _ h => h) rfl rfl rfl (lc rfl ln) (by kernel_rfl) trivial (fun H' hy hK => o_conv rfl Try.underlying5 Try.underlying3) ?_
          obtain ⟨ho7, h⟩ := h
          obtain ⟨ho8, h⟩ := h
          refine xd_a hok 13 [(42, _), (53, _)] (fun _ h => h) rfl rfl rfl (lc rfl (lc rfl ln)) (by kernel_rfl) trivial (fun H' hy hK => o_or8 rfl rfl ho7 ho8) ?_
          refine xd_a hok 14 [(54, _)] (fun _ h => h) rfl rfl rfl (lc rfl ln) (by kernel_rfl) trivial (fun H' hy hK => o_as rfl) ?_
          refine xd_end hok (by kernel_rfl) ?_
          refine xq_then (xw_region ?_)
          refine xq rfl trivial (o_mv rfl) ?_
          refine xq rfl trivial (o_nilp rfl) ?_
          first | refine xq rfl trivial (o_fa0 fl78_1 rfl) ?_ | refine xq rfl trivial (o_fa fl78_1 rfl) ?_
          refine xq rfl trivial (o_ld (v := .int .i64 fp0_1) rfl ts3 (List.Mem.head _) (by decide) rfl) ?_
          obtain ⟨ho9, h⟩ := h
          refine xq rfl trivial (o_add rfl rfl rfl ho9) ?_
          refine xq rfl trivial (o_nilp rfl) ?_
          first | refine xq rfl trivial (o_fa0 fl78_1 rfl) ?_ | refine xq rfl trivial (o_fa fl78_1 rfl) ?_
          refine xq0 trivial (o_stC (l' := [v0_0, .int .i64 (fp0_1 + 1)]) rfl rfl ts3 rfl (List.Mem.head _) rfl (by decide) rfl (.here _ _ _ _)) ?_
          refine xo_nil ?_
          refine xq_blk 2 ?_
          refine xq_then (xw_region ?_)
          obtain ⟨ho10, h⟩ := h
          refine xq rfl trivial (o_add rfl rfl rfl ho10) ?_
          refine xq rfl trivial (o_mv rfl) ?_
          refine xo_nil ?_
          exact xq_next (s' := (((n6 * 256) + (IntKind.i64.wrap (r0b[fp0_1.toNat]!)), x39 + 1, fp0_1 + 1) : Int × Int × Int)) (e' := [(0, .pointer (some ⟨p0, 0, none⟩)), (6, .int .i64 ((n6 * 256) + (IntKind.i64.wrap (r0b[fp0_1.toNat]!)))), (38, .int .i64 width1), (39, .int .i64 (x39 + 1))]) ((p0, BK 2 (cl [v0_0, .int .i64 (fp0_1 + 1)]) 78) :: (S0_0 ++ ([]))) (lc rfl (lc rfl (lc rfl (lc rfl ln)))) (fun _ h => h) h ⟨rfl, rfl⟩
        · have hq4 : (decide (x39 < width1)) = false := hc4
          have hp4 : ¬ (x39 < width1) := of_decide_eq_false hq4
          rw [if_neg hp4] at h
          refine xw_cond_f rfl rfl (xw_exit (xq_then_exit ?_))
          exact xq_out (r := ((n6, fp0_1) : Int × Int)) (e' := [(6, .int .i64 n6)]) ((p0, BK 2 (cl [v0_0, .int .i64 fp0_1]) 78) :: (S0_0 ++ ([]))) (lc rfl ln) (fun _ h => h) h (by intro hh; cases hh) ⟨rfl, rfl, rfl⟩
      · obtain ⟨n6, fp0_1⟩ := x1
        rintro _ _ _ ⟨rfl, rfl, rfl⟩
        replace h : take_k1a n6 fp0_1 r := h
        unfold take_k1a at h
        refine xq_blk_eq ?_
        refine xq_then (xw_seq (xw_region ?_))
        refine xq rfl trivial (o_mv rfl) ?_
        refine xq rfl trivial (o_as rfl) ?_
        refine xq rfl trivial (o_as rfl) ?_
        refine xo_nil (xq_then (xw_ret ?_))
        subst h
        exact con_ret2 (.inl rfl) Try.results28 rfl rfl (cat [[(p0, BK 2 (cl [v0_0, .int .i64 fp0_1]) 78)], S0_0]) (fun _ h => h) (⟨_, rfl, (Cov.cons (Cov.app (A := S0_0) (A' := S0_0) (Cov.refl _) Cov.nil)), rfl, rfl⟩)

theorem put_con (b0 : (List Int)) (width1 : Int) (l2 : (List Int)) (v0 : Value) (v2 : Value) (w : World) (hs0 : SL w 1 u8c v0 b0) (hs2 : SL w 1 ic v2 l2) (r : (List Int) × Int) (h : put_S b0 width1 l2 r) : Con Try.prog 20 #[v0, .int .i64 width1, v2] w (fun v F => ∃ (u0 : Value) (C0 : GH), v = .tuple #[u0, errV 59 r.2] ∧ F = (C0 ++ []) ∧ OJ 5 1 u8c C0 u0 r.1 ∧ Cov w [] C0) := by
  unfold put_S at h
  refine con_enter (n := 56) [(0, _), (1, _), (2, _)] Try.func20 rfl Try.ntmps20 rfl (lac rfl (lac rfl (lac rfl lan))) ?_
  refine xw_seq (xw_region ?_)
  refine xq rfl trivial (o_as rfl) ?_
  refine xq rfl trivial (o_as rfl) ?_
  refine xo_nil (xq_then (xw_seq (xw_seq (xw_region ?_))))
  refine xq rfl trivial (o_mv rfl) ?_
  refine xcallq rfl trivial kf31 rfl (fun w1 hw1 => right_c _ w1) ?_
  refine xq rfl trivial (o_not rfl) ?_
  refine xo_nil (xq_then ?_)
  refine xw_bool 14 rfl (fun hc1 => ?_) (fun hc1 => ?_)
  · have hq1 : ((right_F width1)) = false := (bnT hc1)
    have hp1 : ¬ (((right_F width1)) = true) := bne' hq1
    rw [if_neg hp1] at h
    refine xw_cond_t rfl rfl (xw_seq (xw_region ?_))
    refine xq rfl trivial (o_mki rfl Try.underlying59 rfl) ?_
    refine xq rfl trivial (o_as rfl) ?_
    refine xq rfl trivial (o_as rfl) ?_
    refine xo_nil (xq_then (xw_ret (xq_then_ret ?_)))
    subst h
    exact con_ret2 (.inl rfl) Try.results20 rfl rfl [] (fun _ h => h) (⟨_, [], rfl, rfl, OJ.nil, Cov.refl _⟩)
  · have hq1 : ((right_F width1)) = true := (bnF hc1)
    have hp1 : ((right_F width1)) = true := hq1
    rw [if_pos hp1] at h
    refine xw_cond_f rfl rfl (xw_skip (xq_then (xw_seq (xw_region ?_))))
    refine xq rfl trivial (o_mv rfl) ?_
    obtain ⟨ho2, h⟩ := h
    refine xcall rfl trivial kf32 rfl (fun w1 hw1 => cloneB_c _ _ w1 (hs0.keep hw1 Fr.nil) ho2) ?_
    rintro w1 vs3 _ hw1 ⟨_, Bs3, rfl, rfl, hJs3, hcBs3⟩
    refine ⟨_, Mg.news (Cov.fresh hcBs3) (.nil _), ?_⟩
    replace hcBs3 := Cov.base (w0 := w) hcBs3 hw1.size
    refine xq rfl trivial (o_as rfl) ?_
    refine xo_nil (xq_then (xw_seq (xw_seq (xw_region ?_))))
    refine xq rfl trivial (o_mv rfl) ?_
    refine xq rfl trivial (o_lenL rfl Try.underlying53 rfl (SL.val hs2)) ?_
    refine xq rfl trivial (o_mv rfl) ?_
    refine xo_nil (xq_then ?_)
    refine xw_block ?_
    obtain ⟨out8, hx1, h⟩ := h
    refine xw_wh (fun s e H => match s with | (out8, x20) => ∃ (v8_1 : Value) (B8_1 : GH), e = [(1, .int .i64 width1), (8, v8_1), (18, v2), (19, .int .i64 (l2.length : Int)), (20, .int .i64 x20)] ∧ H = B8_1 ++ ([]) ∧ OJ 5 1 u8c B8_1 v8_1 out8 ∧ Cov w [] B8_1) (fun (out8 : (List Int)) ex e H => ∃ (v8_1o : Value) (B8_1o : GH), ex = .exit 0 ∧ e = [(8, v8_1o)] ∧ H = B8_1o ++ ([]) ∧ OJ 5 1 u8c B8_1o v8_1o out8 ∧ Cov w [] B8_1o) hx1 ⟨[(1, .int .i64 width1), (8, vs3), (18, v2), (19, .int .i64 (l2.length : Int)), (20, .int .i64 0)], Bs3 ++ ([]), (lc rfl (lc rfl (lc rfl (lc rfl (lc rfl ln))))), fun _ h => h, ⟨vs3, Bs3, rfl, rfl, hJs3, hcBs3⟩⟩ ?_ ?_
    · rintro ⟨out8, x20⟩ o _ _ ⟨v8_1, B8_1, rfl, rfl, hJ8_1, hcB8_1⟩ hb
      have h : put_l1 width1 l2 out8 x20 o := hb
      clear hb
      unfold put_l1 at h
      refine xw_seq (xw_region ?_)
      refine xq rfl trivial (o_lss rfl rfl) ?_
      refine xo_nil (xq_then (xw_seq ?_))
      refine xw_bool 21 rfl (fun hc4 => ?_) (fun hc4 => ?_)
      · have hq4 : (decide (x20 < (l2.length : Int))) = true := hc4
        have hp4 : x20 < (l2.length : Int) := of_decide_eq_true hq4
        rw [if_pos hp4] at h
        refine xw_cond_t rfl rfl (xw_skip (xq_then (xw_seq ?_)))
        refine xw_block ?_
        refine xw_seq (xw_region ?_)
        refine xq rfl trivial (o_mv rfl) ?_
        obtain ⟨ho5, h⟩ := h
        refine xq rfl trivial (o_ixL el53 rfl rfl (fun w hw => (hs2.keep hw (Fr.seg hcB8_1 Fr.nil))) rfl ho5) ?_
        refine xq rfl trivial (o_ldL1 (off := 0) (u := .int .i64 (l2[x20.toNat]!)) rfl ts3 rfl (fun w hw => (hs2.keep hw (Fr.seg hcB8_1 Fr.nil))) (toNat_lt ho5) rfl rfl) ?_
        refine xq rfl trivial (o_as rfl) ?_
        refine xq rfl trivial (o_as rfl) ?_
        refine xo_nil (xq_then (xw_seq (xw_seq ?_)))
        obtain ⟨ho6, ho7, ho8, h⟩ := h
        refine xw_cut [(1, _), (8, _), (9, _), (10, _), (18, _), (19, _), (20, _)] (lc rfl (lc rfl (lc rfl (lc rfl (lc rfl (lc rfl (lc rfl ln))))))) [(33, .bool ((decide (l2[x20.toNat]! < 0)) || (decide (1 * 2 ^ (8 * width1).toNat ≤ l2[x20.toNat]!))))] ?_ ?_
        · refine xw_region ?_
          refine xq rfl trivial (o_mv rfl) ?_
          refine xq rfl trivial (o_lss rfl rfl) ?_
          refine xq rfl trivial (o_mv rfl) ?_
          refine xo_bool 27 rfl (fun hg9 => ?_) (fun hg9 => ?_)
          · have hq9 : (decide (l2[x20.toNat]! < 0)) = true := hg9
            have hp9 : l2[x20.toNat]! < 0 := of_decide_eq_true hq9
            refine xs rfl ⟨_, _, rfl, rfl, rfl⟩ (xs rfl ⟨_, _, rfl, rfl, rfl⟩ (xs rfl ⟨_, _, rfl, rfl, rfl⟩ (xs rfl ⟨_, _, rfl, rfl, rfl⟩ (xs rfl ⟨_, _, rfl, rfl, rfl⟩ ?_))))
            refine xq rfl trivial (o_pick_t rfl rfl) ?_
            refine xo_nil ?_
            exact xq_cut ((lce rfl (by first | rfl | (simp only [hq4, hq9, if_pos hp4, if_pos hp9, bS]; done) | (simp [hp4, hp9]; done) | (simp_all; done)) (lc rfl (lc rfl (lc rfl (lc rfl (lc rfl (lc rfl (lc rfl ln))))))))) (fun _ h => h)
          · have hq9 : (decide (l2[x20.toNat]! < 0)) = false := hg9
            have hp9 : ¬ (l2[x20.toNat]! < 0) := of_decide_eq_false hq9
            refine xq rfl ⟨_, rfl, rfl⟩ (o_mv rfl) ?_
            refine xq rfl ⟨_, rfl, rfl⟩ (o_mv rfl) ?_
            refine xq rfl ⟨_, rfl, rfl⟩ (o_mul rfl rfl rfl (ho6 hg9)) ?_
            refine xq rfl ⟨_, rfl, rfl⟩ (o_shl rfl rfl (ho7 hg9) rfl (ho8 hg9)) ?_
            refine xq rfl ⟨_, rfl, rfl⟩ (o_geq rfl rfl) ?_
            refine xq rfl trivial (o_pick_f rfl rfl) ?_
            refine xo_nil ?_
            exact xq_cut ((lce rfl (by first | rfl | (simp only [hq4, hq9, if_pos hp4, if_neg hp9, bS]; done) | (simp [hp4, hp9]; done) | (simp_all; done)) (lc rfl (lc rfl (lc rfl (lc rfl (lc rfl (lc rfl (lc rfl ln))))))))) (fun _ h => h)
        · refine xq_then ?_
          obtain ⟨ho10, h⟩ := h
          have hqho10 : ((decide (l2[x20.toNat]! < 0)) || (decide (1 * 2 ^ (8 * width1).toNat ≤ l2[x20.toNat]!))) = false := by simpa using ho10
          refine xw_cond_f rfl hqho10 ?_
          refine xw_skip (xq_then (xw_seq (xw_region ?_)))
          refine xq rfl trivial (o_mv rfl) ?_
          obtain ⟨ho11, h⟩ := h
          refine xq rfl trivial (o_sub rfl rfl rfl ho11) ?_
          refine xq rfl trivial (o_as rfl) ?_
          refine xo_nil (xq_then ?_)
          refine xw_block ?_
          obtain ⟨out8a, hx2, h⟩ := h
          refine xw_wh (fun s e H => match s with | (out8a, k11) => ∃ (v8_2 : Value) (B8_2 : GH), e = [(1, .int .i64 width1), (8, v8_2), (10, .int .i64 (l2[x20.toNat]!)), (11, .int .i64 k11), (18, v2), (19, .int .i64 (l2.length : Int)), (20, .int .i64 x20)] ∧ H = B8_2 ++ ([]) ∧ OJ 5 1 u8c B8_2 v8_2 out8a ∧ Cov w [] B8_2) (fun (out8a : (List Int)) ex e H => ∃ (v8_2o : Value) (B8_2o : GH), ex = .exit 2 ∧ e = [(1, .int .i64 width1), (8, v8_2o), (18, v2), (19, .int .i64 (l2.length : Int)), (20, .int .i64 x20)] ∧ H = B8_2o ++ ([]) ∧ OJ 5 1 u8c B8_2o v8_2o out8a ∧ Cov w [] B8_2o) hx2 ⟨[(1, .int .i64 width1), (8, v8_1), (10, .int .i64 (l2[x20.toNat]!)), (11, .int .i64 (width1 - 1)), (18, v2), (19, .int .i64 (l2.length : Int)), (20, .int .i64 x20)], B8_1 ++ ([]), (lc rfl (lc rfl (lc rfl (lc rfl (lc rfl (lc rfl (lc rfl ln))))))), fun _ h => h, ⟨v8_1, B8_1, rfl, rfl, hJ8_1, hcB8_1⟩⟩ ?_ ?_
          · rintro ⟨out8a, k11⟩ o _ _ ⟨v8_2, B8_2, rfl, rfl, hJ8_2, hcB8_2⟩ hb
            have h : put_l2 l2 x20 out8a k11 o := hb
            clear hb
            unfold put_l2 at h
            refine xw_seq (xw_seq (xw_region ?_))
            refine xq rfl trivial (o_mv rfl) ?_
            refine xq rfl trivial (o_geq rfl rfl) ?_
            refine xo_nil (xq_then ?_)
            refine xw_bool 42 rfl (fun hc12 => ?_) (fun hc12 => ?_)
            · have hq12 : (decide (0 ≤ k11)) = true := hc12
              have hp12 : 0 ≤ k11 := of_decide_eq_true hq12
              rw [if_pos hp12] at h
              refine xw_cond_t rfl rfl (xw_skip (xq_then (xw_seq ?_)))
              refine xw_block ?_
              refine xw_region ?_
              refine xq rfl trivial (o_mv rfl) ?_
              refine xq rfl trivial (o_mv rfl) ?_
              refine xq rfl trivial (o_mv rfl) ?_
              obtain ⟨ho13, h⟩ := h
              refine xq rfl trivial (o_mul rfl rfl rfl ho13) ?_
              obtain ⟨ho14, h⟩ := h
              refine xq rfl trivial (o_shr rfl rfl ho14 rfl) ?_
              refine xq rfl trivial (o_conv rfl Try.underlying3 Try.underlying5) ?_
              refine xo rfl trivial (o_bsl el35 ze5 (cells_one rfl) rfl rfl (.one rfl rfl rfl rfl (.nil _))) ?_
              rintro _ _ ⟨b51, hb51, rfl, rfl⟩
              obtain ⟨ho16, h⟩ := h
              refine xo rfl trivial (OT.st (fun _ h => Pull.st (.thereC _ (.here _ _)) h) (o_appJ (l := out8a) (l' := [IntKind.u8.wrap ((l2[x20.toNat]!) / 2 ^ (8 * k11).toNat)]) (B := B8_2) ap35 rfl rfl hJ8_2 (fun w2 hw2 => (SL.lit (l := [IntKind.u8.wrap ((l2[x20.toNat]!) / 2 ^ (8 * k11).toNat)]) hw2 (List.mem_append_right _ (List.Mem.head _)) rfl (by omega) (by simp [maxLen]) (by exact (fun i hi => match i, hi with | 0, _ => rfl | q + 1, h => absurd h (by omega))))) (fun _ _ => rfl) ho16 (len_max ho16 (by decide)))) ?_
              rintro vs15 _ ⟨Bs15, rfl, hns15, hJs15⟩
              have hcBs15 := Cov.trans hcB8_2 hns15
              refine xo_st ((b51, BK 1 _ 5) :: (Bs15 ++ ([]))) (fun _ h => Pull.push (.thereC _ (.here _ _)) h) ?_
              refine xq rfl trivial (o_as rfl) ?_
              refine xo_nil ?_
              refine xq_blk 3 ?_
              refine xq_then (xw_region ?_)
              refine xq rfl trivial (o_mv rfl) ?_
              obtain ⟨ho17, h⟩ := h
              refine xq rfl trivial (o_sub rfl rfl rfl ho17) ?_
              refine xq rfl trivial (o_as rfl) ?_
              refine xo_nil ?_
              exact xq_next (s' := (((out8a ++ [IntKind.u8.wrap ((l2[x20.toNat]!) / 2 ^ (8 * k11).toNat)]), k11 - 1) : (List Int) × Int)) (e' := [(1, .int .i64 width1), (8, vs15), (10, .int .i64 (l2[x20.toNat]!)), (11, .int .i64 (k11 - 1)), (18, v2), (19, .int .i64 (l2.length : Int)), (20, .int .i64 x20)]) (Bs15 ++ ([])) (lc rfl (lc rfl (lc rfl (lc rfl (lc rfl (lc rfl (lc rfl ln))))))) (Kp.st (Kp.new hb51 (Kp.segKeep Kp.nil))) h ⟨vs15, Bs15, rfl, rfl, hJs15, hcBs15⟩
            · have hq12 : (decide (0 ≤ k11)) = false := hc12
              have hp12 : ¬ (0 ≤ k11) := of_decide_eq_false hq12
              rw [if_neg hp12] at h
              refine xw_cond_f rfl rfl (xw_exit (xq_then_exit ?_))
              exact xq_out (r := (out8a : (List Int))) (e' := [(1, .int .i64 width1), (8, v8_2), (18, v2), (19, .int .i64 (l2.length : Int)), (20, .int .i64 x20)]) (B8_2 ++ ([])) (lc rfl (lc rfl (lc rfl (lc rfl (lc rfl ln))))) (fun _ h => h) h (by intro hh; cases hh) ⟨v8_2, B8_2, rfl, rfl, rfl, hJ8_2, hcB8_2⟩
          · rintro _ _ _ ⟨v8_2o, B8_2o, rfl, rfl, rfl, hJ8_2o, hcB8_2o⟩
            replace h : put_k2a x20 out8a o := h
            unfold put_k2a at h
            refine xq_blk_eq ?_
            refine xq_blk 1 ?_
            refine xq_then (xw_region ?_)
            obtain ⟨ho18, h⟩ := h
            refine xq rfl trivial (o_add rfl rfl rfl ho18) ?_
            refine xq rfl trivial (o_mv rfl) ?_
            refine xo_nil ?_
            exact xq_next (s' := ((out8a, x20 + 1) : (List Int) × Int)) (e' := [(1, .int .i64 width1), (8, v8_2o), (18, v2), (19, .int .i64 (l2.length : Int)), (20, .int .i64 (x20 + 1))]) (B8_2o ++ ([])) (lc rfl (lc rfl (lc rfl (lc rfl (lc rfl ln))))) (fun _ h => h) h ⟨v8_2o, B8_2o, rfl, rfl, hJ8_2o, hcB8_2o⟩
      · have hq4 : (decide (x20 < (l2.length : Int))) = false := hc4
        have hp4 : ¬ (x20 < (l2.length : Int)) := of_decide_eq_false hq4
        rw [if_neg hp4] at h
        refine xw_cond_f rfl rfl (xw_exit (xq_then_exit ?_))
        exact xq_out (r := (out8 : (List Int))) (e' := [(8, v8_1)]) (B8_1 ++ ([])) (lc rfl ln) (fun _ h => h) h (by intro hh; cases hh) ⟨v8_1, B8_1, rfl, rfl, rfl, hJ8_1, hcB8_1⟩
    · rintro _ _ _ ⟨v8_1o, B8_1o, rfl, rfl, rfl, hJ8_1o, hcB8_1o⟩
      replace h : put_k1a out8 r := h
      unfold put_k1a at h
      refine xq_blk_eq ?_
      refine xq_then (xw_seq (xw_region ?_))
      refine xq rfl trivial (o_mv rfl) ?_
      refine xoR rfl trivial (ot_in (l := [(0, _)]) kf33 rfl Try.func33 rfl Try.ntmps33 rfl (lac rfl lan) ?_)
      refine xw_seq (xw_region ?_)
      refine xq rfl trivial (o_as rfl) ?_
      refine xo_nil (xq_then (xw_seq (xw_region ?_)))
      refine xq rfl trivial (o_mv rfl) ?_
      refine xq rfl trivial (o_mv rfl) ?_
      refine xq rfl trivial (o_lenL rfl Try.underlying35 rfl (OJ.val hJ8_1o)) ?_
      refine xq rfl trivial (o_mv rfl) ?_
      refine xq rfl trivial (o_lenL rfl Try.underlying35 rfl (OJ.val hJ8_1o)) ?_
      refine xq rfl trivial (o_clipL el35 rfl (fun w hw => (hJ8_1o.sl hw (Pull.sub (.here _ _)))) rfl rfl) ?_
      refine xq rfl trivial (o_as rfl) ?_
      refine xo_nil (xq_then (xw_ret ?_))
      refine con_ret1 (.inl rfl) Try.results33 rfl _ (fun _ h => h) (?_)
      refine xq rfl trivial (o_as rfl) ?_
      refine xq rfl trivial (o_as rfl) ?_
      refine xo_nil (xq_then (xw_ret ?_))
      subst h
      exact con_ret2 (.inl rfl) Try.results20 rfl rfl (B8_1o ++ []) (fun _ h => h) (⟨_, B8_1o, rfl, rfl, hJ8_1o.clip, hcB8_1o⟩)

end Go.Proofs.Ytmcohikcgdfhcaa
