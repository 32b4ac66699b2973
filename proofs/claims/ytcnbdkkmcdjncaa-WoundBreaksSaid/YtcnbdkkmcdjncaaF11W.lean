/- The code answers as the relations say. -/
import Derived.Test.YtcnbdkkmcdjncaaTab
import Derived.Test.YtcnbdkkmcdjncaaF11S
import Derived.Test.YtcnbdkkmcdjncaaE11W
set_option maxHeartbeats 1000000
set_option linter.unusedVariables false
set_option linter.unusedSimpArgs false
set_option maxRecDepth 100000
namespace Go.Proofs.Ytcnbdkkmcdjncaa
open Go Go.E

theorem gnext_c (l0 : (List (Nat → Int))) (from1 : Int) (v0 : Value) (w : World) (hs0 : SL w 4 iv v0 l0) (hP : gnext_P l0 from1) : Con Try.prog 31 #[v0, .int .i64 from1] w (fun v F => ∃ (u0 : Value) (C0 : GH), v = u0 ∧ F = (C0 ++ []) ∧ OJ 3 1 ic C0 u0 (gnext_F l0 from1) ∧ Cov w [] C0) :=
  gnext_con l0 from1 v0 w hs0 _ (gnext_ok l0 from1 hP)

theorem gnodes_c (l0 : (List (Nat → Int))) (v0 : Value) (w : World) (hs0 : SL w 4 iv v0 l0) (hP : gnodes_P l0) : Con Try.prog 23 #[v0] w (fun v F => ∃ (u0 : Value) (C0 : GH), v = u0 ∧ F = (C0 ++ []) ∧ OJ 3 1 ic C0 u0 (gnodes_F l0) ∧ Cov w [] C0) :=
  gnodes_con l0 v0 w hs0 _ (gnodes_ok l0 hP)

theorem hasI_c (s0 : (List Int)) (v1 : Int) (v0 : Value) (w : World) (hs0 : SL w 1 ic v0 s0) (hP : hasI_P s0 v1) : Con Try.prog 26 #[v0, .int .i64 v1] w (Is (.bool (hasI_F s0 v1)) []) :=
  hasI_con s0 v1 v0 w hs0 _ (hasI_ok s0 v1 hP)

theorem greach_con (l0 : (List (Nat → Int))) (from1 : Int) (v0 : Value) (w : World) (hs0 : SL w 4 iv v0 l0) (r : (List Int)) (h : greach_S l0 from1 r) : Con Try.prog 29 #[v0, .int .i64 from1] w (fun v F => ∃ (u0 : Value) (C0 : GH), v = u0 ∧ F = (C0 ++ []) ∧ OJ 3 1 ic C0 u0 r ∧ Cov w [] C0) := by
  unfold greach_S at h
  refine con_enter (n := 33) [(0, _), (1, _)] Try.func29 rfl Try.ntmps29 rfl (lac rfl (lac rfl lan)) ?_
  refine xw_seq (xw_region ?_)
  refine xq rfl trivial (o_as rfl) ?_
  refine xo_nil (xq_then (xw_seq (xw_region ?_)))
  refine xo rfl trivial (o_mkmap (α := Bool) (cv := kB) kt3 Try.underlying64) ?_
  rintro vs1 _ ⟨Bs1, rfl, hns1, hJs1⟩
  have hcBs1 := hns1
  refine xq rfl trivial (o_as rfl) ?_
  refine xo_nil (xq_then (xw_seq (xw_region ?_)))
  refine xq rfl trivial (o_mv rfl) ?_
  refine xq rfl trivial (o_mv rfl) ?_
  obtain ⟨ho2, h⟩ := h
  refine xcall rfl trivial kf31 rfl (fun w1 hw1 => gnext_c _ _ _ w1 (hs0.keep hw1 (Fr.seg hcBs1 Fr.nil)) ho2) ?_
  rintro w1 vs3 _ hw1 ⟨_, Bs3, rfl, rfl, hJs3, hcBs3⟩
  refine ⟨_, Mg.news (Cov.fresh hcBs3) (.nil _), ?_⟩
  replace hcBs3 := Cov.base (w0 := w) hcBs3 hw1.size
  refine xq rfl trivial (o_as rfl) ?_
  refine xo_nil (xq_then (xw_seq ?_))
  refine xw_block ?_
  obtain ⟨met5, hx1, h⟩ := h
  refine xw_wh (fun s e H => match s with | (met5, at6) => ∃ (v6_1 : Value) (v5_1 : Value) (B5_1 : GH) (B6_1 : GH), e = [(0, v0), (5, v5_1), (6, v6_1)] ∧ H = B6_1 ++ (B5_1 ++ ([])) ∧ MJ kI kB ieq B5_1 v5_1 met5 ∧ OJ 3 1 ic B6_1 v6_1 at6 ∧ Cov w [] B5_1 ∧ Cov w [] B6_1) (fun (met5 : (List (Int × Bool))) ex e H => ∃ (v5_1o : Value) (B5_1o : GH) (B6_1o : GH), ex = .exit 0 ∧ e = [(5, v5_1o)] ∧ H = B6_1o ++ (B5_1o ++ ([])) ∧ MJ kI kB ieq B5_1o v5_1o met5 ∧ Cov w [] B5_1o ∧ Cov w [] B6_1o) hx1 ⟨[(0, v0), (5, vs1), (6, vs3)], Bs3 ++ (Bs1 ++ ([])), (lc rfl (lc rfl (lc rfl ln))), fun _ h => h, ⟨vs3, vs1, Bs1, Bs3, rfl, rfl, hJs1, hJs3, hcBs1, hcBs3⟩⟩ ?_ ?_
  · rintro ⟨met5, at6⟩ o _ _ ⟨v6_1, v5_1, B5_1, B6_1, rfl, rfl, hJ5_1, hJ6_1, hcB5_1, hcB6_1⟩ hb
    have h : greach_l1 l0 met5 at6 o := hb
    clear hb
    unfold greach_l1 at h
    refine xw_seq (xw_seq (xw_region ?_))
    refine xq rfl trivial (o_mv rfl) ?_
    refine xq rfl trivial (o_lenL rfl Try.underlying38 rfl (OJ.val hJ6_1)) ?_
    refine xq rfl trivial (o_gtr rfl rfl) ?_
    refine xo_nil (xq_then ?_)
    refine xw_bool 14 rfl (fun hc4 => ?_) (fun hc4 => ?_)
    · have hq4 : (decide (0 < (at6.length : Int))) = true := hc4
      have hp4 : 0 < (at6.length : Int) := of_decide_eq_true hq4
      rw [if_pos hp4] at h
      refine xw_cond_t rfl rfl (xw_skip (xq_then ?_))
      refine xw_block ?_
      refine xw_seq (xw_region ?_)
      refine xq rfl trivial (o_mv rfl) ?_
      obtain ⟨ho5, h⟩ := h
      refine xq rfl trivial (o_ixL el38 rfl rfl (fun w hw => (hJ6_1.sl hw (Pull.sub (.here _ _)))) rfl ho5) ?_
      refine xq rfl trivial (o_ldL1 (off := 0) (u := .int .i64 (at6[0]!)) rfl ts3 rfl (fun w hw => (hJ6_1.sl hw (Pull.sub (.here _ _)))) (toNat_lt ho5) rfl rfl) ?_
      refine xq rfl trivial (o_as rfl) ?_
      refine xo_nil (xq_then (xw_seq (xw_region ?_)))
      refine xq rfl trivial (o_mv rfl) ?_
      obtain ⟨ho6, h⟩ := h
      refine xq rfl trivial (o_cutL el38 rfl (fun w hw => (hJ6_1.sl hw (Pull.sub (.here _ _)))) rfl ho6) ?_
      refine xq rfl trivial (o_as rfl) ?_
      refine xo_nil (xq_then (xw_seq (xw_seq (xw_region ?_))))
      refine xq rfl trivial (o_mv rfl) ?_
      refine xq rfl trivial (o_mv rfl) ?_
      refine xq rfl trivial (o_lk (z := false) (k := at6[0]!) kt3 Try.underlying64 ze4 rfl rfl hJ5_1 (Pull.sub (.there _ (.here _ _)))) ?_
      refine xo_nil (xq_then ?_)
      refine xw_bool 22 rfl (fun hc7 => ?_) (fun hc7 => ?_)
      · have hq7 : ((mget ieq met5 (at6[0]!) false)) = true := hc7
        have hp7 : ((mget ieq met5 (at6[0]!) false)) = true := hq7
        rw [if_pos hp7] at h
        refine xw_cond_t rfl rfl (xw_exit (xq_then_exit ?_))
        refine xq_blk_eq ?_
        exact xq_next (s' := ((met5, (at6.take at6.length).drop 1) : (List (Int × Bool)) × (List Int))) (e' := [(0, v0), (5, v5_1), (6, (cutV v6_1 1 1 at6.length))]) (B6_1 ++ (B5_1 ++ ([]))) (lc rfl (lc rfl (lc rfl ln))) (fun _ h => h) h ⟨(cutV v6_1 1 1 at6.length), v5_1, B5_1, B6_1, rfl, rfl, hJ5_1, (hJ6_1.cut (toNat_le ho6) (Nat.le_refl _) (by decide)), hcB5_1, hcB6_1⟩
      · have hq7 : ((mget ieq met5 (at6[0]!) false)) = false := hc7
        have hp7 : ¬ (((mget ieq met5 (at6[0]!) false)) = true) := bne' hq7
        rw [if_neg hp7] at h
        refine xw_cond_f rfl rfl (xw_skip (xq_then (xw_seq (xw_region ?_))))
        refine xq rfl trivial (o_mv rfl) ?_
        refine xq rfl trivial (o_mv rfl) ?_
        refine xo0 trivial (OT.st (fun _ h => Pull.st (.there _ (.here _ _)) h) (o_mset (k := at6[0]!) (e := true) kt3 Try.underlying64 rfl rfl rfl hJ5_1)) ?_
        rintro _ _ ⟨Bs8, rfl, hns8, hJs8⟩
        have hcBs8 := Cov.trans hcB5_1 hns8
        refine xo_st (B6_1 ++ (Bs8 ++ ([]))) (fun _ h => Pull.push (.there _ (.here _ _)) h) ?_
        refine xo_nil (xq_then (xw_region ?_))
        refine xq rfl trivial (o_mv rfl) ?_
        refine xq rfl trivial (o_mv rfl) ?_
        refine xq rfl trivial (o_mv rfl) ?_
        obtain ⟨ho9, h⟩ := h
        refine xcall rfl trivial kf31 rfl (fun w1 hw1 => gnext_c _ _ _ w1 (hs0.keep hw1 (Fr.seg hcB6_1 (Fr.seg hcBs8 Fr.nil))) ho9) ?_
        rintro w1 vs10 _ hw1 ⟨_, Bs10, rfl, rfl, hJs10, hcBs10⟩
        refine ⟨_, Mg.news (Cov.fresh hcBs10) (.nil _), ?_⟩
        replace hcBs10 := Cov.base (w0 := w) hcBs10 hw1.size
        obtain ⟨ho12, h⟩ := h
        refine xo rfl trivial (OT.st (fun _ h => Pull.st (.there _ (.here _ _)) h) (o_appJ (l := (at6.take at6.length).drop 1) (l' := (gnext_F l0 (at6[0]!))) (B := B6_1) ap38 rfl rfl (hJ6_1.cut (toNat_le ho6) (Nat.le_refl _) (by decide)) (fun w2 hw2 => (hJs10.sl hw2 (Pull.sub (.there _ (.here _ _))))) (fun _ _ => rfl) ho12 (len_max ho12 (by decide)))) ?_
        rintro vs11 _ ⟨Bs11, rfl, hns11, hJs11⟩
        have hcBs11 := Cov.trans hcB6_1 hns11
        refine xo_st (Bs10 ++ (Bs11 ++ (Bs8 ++ ([])))) (fun _ h => Pull.push (.there _ (.here _ _)) h) ?_
        refine xq rfl trivial (o_as rfl) ?_
        refine xo_nil ?_
        refine xq_blk 1 ?_
        exact xq_next (s' := ((mset ieq met5 (at6[0]!) true, ((at6.take at6.length).drop 1 ++ (gnext_F l0 (at6[0]!)))) : (List (Int × Bool)) × (List Int))) (e' := [(0, v0), (5, v5_1), (6, vs11)]) (Bs11 ++ (Bs8 ++ ([]))) (lc rfl (lc rfl (lc rfl ln))) (Kp.st (Kp.segNew (Cov.fresh hcBs10) (Kp.segKeep (Kp.segKeep Kp.nil)))) h ⟨vs11, v5_1, Bs8, Bs11, rfl, rfl, hJs8, hJs11, hcBs8, hcBs11⟩
    · have hq4 : (decide (0 < (at6.length : Int))) = false := hc4
      have hp4 : ¬ (0 < (at6.length : Int)) := of_decide_eq_false hq4
      rw [if_neg hp4] at h
      refine xw_cond_f rfl rfl (xw_exit (xq_then_exit ?_))
      exact xq_out (r := (met5 : (List (Int × Bool)))) (e' := [(5, v5_1)]) (B6_1 ++ (B5_1 ++ ([]))) (lc rfl ln) (fun _ h => h) h (by intro hh; cases hh) ⟨v5_1, B5_1, B6_1, rfl, rfl, rfl, hJ5_1, hcB5_1, hcB6_1⟩
  · rintro _ _ _ ⟨v5_1o, B5_1o, B6_1o, rfl, rfl, rfl, hJ5_1o, hcB5_1o, hcB6_1o⟩
    replace h : greach_k1a met5 r := h
    unfold greach_k1a at h
    refine xq_blk_eq ?_
    refine xq_then (xw_seq (xw_region ?_))
    refine xq rfl trivial (o_mv rfl) ?_
    refine xoR rfl trivial (ot_in (l := [(0, _)]) kf36 rfl Try.func36 rfl Try.ntmps36 rfl (lac rfl lan) ?_)
    refine xw_seq (xw_region ?_)
    refine xo rfl trivial (o_box1 rfl (MJ.one hJ5_1o)) ?_
    rintro _ _ ⟨b1, hb1, rfl, rfl⟩
    refine xq rfl trivial (o_as rfl) ?_
    refine xo_nil (xq_then (xw_seq (xw_region ?_)))
    refine xq rfl trivial (o_mkf rfl rfl) ?_
    refine xq rfl trivial (o_as rfl) ?_
    refine xo_nil (xq_then (xw_ret ?_))
    refine con_ret1 (.inl rfl) Try.results36 rfl _ (fun _ h => h) (?_)
    obtain ⟨ho13, h⟩ := h
    refine xcall rfl trivial kf18 rfl (fun w1 hw1 => sk42_c (hw1.own _ _ (List.Mem.head _)) hJ5_1o (fun x hx => hw1.own x.1 x.2 (Pull.sub (.thereC _ (.there _ (.here _ _))) x hx)) ho13) ?_
    rintro w1 vs14 _ hw1 ⟨_, Bs14, rfl, rfl, hJs14, hcBs14⟩
    refine ⟨_, .news (Cov.fresh hcBs14) (.nil _), ?_⟩
    replace hcBs14 := Cov.base (w0 := w) hcBs14 hw1.size
    refine xq rfl trivial (o_as rfl) ?_
    refine xo_nil (xq_then (xw_ret ?_))
    subst h
    exact con_ret1 (.inl rfl) Try.results29 rfl (Bs14 ++ []) (Kp.st (Kp.segKeep (Kp.new hb1 (Kp.segNew (Cov.fresh hcB6_1o) (Kp.segNew (Cov.fresh hcB5_1o) Kp.nil))))) (⟨_, Bs14, rfl, rfl, hJs14, hcBs14⟩)

theorem gfar_con (l0 : (List (Nat → Int))) (to1 : Int) (v0 : Value) (w : World) (hs0 : SL w 4 iv v0 l0) (r : (List (Int × Int))) (h : gfar_S l0 to1 r) : Con Try.prog 30 #[v0, .int .i64 to1] w (fun v F => ∃ (u0 : Value) (C0 : GH), v = u0 ∧ F = (C0 ++ []) ∧ MJ kI kI ieq C0 u0 r ∧ Cov w [] C0) := by
  unfold gfar_S at h
  refine con_enter (n := 60) [(0, _), (1, _)] Try.func30 rfl Try.ntmps30 rfl (lac rfl (lac rfl lan)) ?_
  refine xw_seq (xw_region ?_)
  refine xq rfl trivial (o_as rfl) ?_
  refine xo_nil (xq_then (xw_seq (xw_region ?_)))
  refine xo rfl trivial (o_mkmap (α := Int) (cv := kI) kt3 Try.underlying45) ?_
  rintro vs1 _ ⟨Bs1, rfl, hns1, hJs1⟩
  have hcBs1 := hns1
  refine xq rfl trivial (o_mv rfl) ?_
  refine xo0 trivial (OT.st (fun _ h => Pull.st (.here _ _) h) (o_minsert (k := to1) (e := 0) kt3 Try.underlying45 rfl rfl rfl hJs1)) ?_
  rintro _ _ ⟨Bs2, rfl, hns2, hJs2⟩
  have hcBs2 := Cov.trans hcBs1 hns2
  refine xq rfl trivial (o_mv rfl) ?_
  refine xq rfl trivial (o_as rfl) ?_
  refine xo_nil (xq_then (xw_seq (xw_region ?_)))
  refine xq rfl trivial (o_mv rfl) ?_
  refine xo rfl trivial (o_bsl el38 ze3 (cells_one rfl) rfl rfl (.int rfl rfl (.nil _))) ?_
  rintro _ _ ⟨b16, hb16, rfl, rfl⟩
  refine xo_lit fun Bs3 hEBs3 => ?_
  have hJs3 : OJ 3 1 ic Bs3 (.slice (some ⟨b16, 0, none⟩) 1 1) [to1] := by rw [hEBs3]; exact OJ.lit (l := [to1]) (List.Mem.head _) rfl (by omega) (by simp [maxLen]) (by exact (fun i hi => match i, hi with | 0, _ => rfl | q + 1, h => absurd h (by omega)))
  have hcBs3 : Cov w [] Bs3 := by rw [hEBs3]; exact Cov.new hb16
  refine xq rfl trivial (o_as rfl) ?_
  refine xo_nil (xq_then (xw_seq ?_))
  refine xw_block ?_
  obtain ⟨steps5, hx1, h⟩ := h
  refine xw_wh (fun s e H => match s with | (steps5, at6) => ∃ (v6_1 : Value) (v5_1 : Value) (B5_1 : GH) (B6_1 : GH), e = [(0, v0), (5, v5_1), (6, v6_1)] ∧ H = B6_1 ++ (B5_1 ++ ([])) ∧ MJ kI kI ieq B5_1 v5_1 steps5 ∧ OJ 3 1 ic B6_1 v6_1 at6 ∧ Cov w [] B5_1 ∧ Cov w [] B6_1) (fun (steps5 : (List (Int × Int))) ex e H => ∃ (v5_1o : Value) (B5_1o : GH) (B6_1o : GH), ex = .exit 0 ∧ e = [(5, v5_1o)] ∧ H = B6_1o ++ (B5_1o ++ ([])) ∧ MJ kI kI ieq B5_1o v5_1o steps5 ∧ Cov w [] B5_1o ∧ Cov w [] B6_1o) hx1 ⟨[(0, v0), (5, vs1), (6, (.slice (some ⟨b16, 0, none⟩) 1 1))], Bs3 ++ (Bs2 ++ ([])), (lc rfl (lc rfl (lc rfl ln))), fun _ h => h, ⟨(.slice (some ⟨b16, 0, none⟩) 1 1), vs1, Bs2, Bs3, rfl, rfl, hJs2, hJs3, hcBs2, hcBs3⟩⟩ ?_ ?_
  · rintro ⟨steps5, at6⟩ o _ _ ⟨v6_1, v5_1, B5_1, B6_1, rfl, rfl, hJ5_1, hJ6_1, hcB5_1, hcB6_1⟩ hb
    have h : gfar_l1 l0 steps5 at6 o := hb
    clear hb
    unfold gfar_l1 at h
    refine xw_seq (xw_seq (xw_region ?_))
    refine xq rfl trivial (o_mv rfl) ?_
    refine xq rfl trivial (o_lenL rfl Try.underlying38 rfl (OJ.val hJ6_1)) ?_
    refine xq rfl trivial (o_gtr rfl rfl) ?_
    refine xo_nil (xq_then ?_)
    refine xw_bool 19 rfl (fun hc4 => ?_) (fun hc4 => ?_)
    · have hq4 : (decide (0 < (at6.length : Int))) = true := hc4
      have hp4 : 0 < (at6.length : Int) := of_decide_eq_true hq4
      rw [if_pos hp4] at h
      refine xw_cond_t rfl rfl (xw_skip (xq_then ?_))
      refine xw_block ?_
      refine xw_seq (xw_region ?_)
      refine xq rfl trivial (o_mv rfl) ?_
      obtain ⟨ho5, h⟩ := h
      refine xq rfl trivial (o_ixL el38 rfl rfl (fun w hw => (hJ6_1.sl hw (Pull.sub (.here _ _)))) rfl ho5) ?_
      refine xq rfl trivial (o_ldL1 (off := 0) (u := .int .i64 (at6[0]!)) rfl ts3 rfl (fun w hw => (hJ6_1.sl hw (Pull.sub (.here _ _)))) (toNat_lt ho5) rfl rfl) ?_
      refine xq rfl trivial (o_as rfl) ?_
      refine xo_nil (xq_then (xw_seq (xw_region ?_)))
      refine xq rfl trivial (o_mv rfl) ?_
      obtain ⟨ho6, h⟩ := h
      refine xq rfl trivial (o_cutL el38 rfl (fun w hw => (hJ6_1.sl hw (Pull.sub (.here _ _)))) rfl ho6) ?_
      refine xq rfl trivial (o_as rfl) ?_
      refine xo_nil (xq_then (xw_seq (xw_region ?_)))
      refine xq rfl trivial (o_mv rfl) ?_
      refine xq rfl trivial (o_lenL rfl Try.underlying22 rfl (SL.val hs0)) ?_
      refine xq rfl trivial (o_mv rfl) ?_
      refine xo_nil (xq_then ?_)
      refine xw_block ?_
      obtain ⟨x2, hx2, h⟩ := h
      refine xw_wh (fun s e H => match s with | (steps5a, at6a, x27) => ∃ (v6_2 : Value) (v5_2 : Value) (B5_2 : GH) (B6_2 : GH), e = [(0, v0), (5, v5_2), (6, v6_2), (7, .int .i64 (at6[0]!)), (25, v0), (26, .int .i64 (l0.length : Int)), (27, .int .i64 x27)] ∧ H = B6_2 ++ (B5_2 ++ ([])) ∧ MJ kI kI ieq B5_2 v5_2 steps5a ∧ OJ 3 1 ic B6_2 v6_2 at6a ∧ Cov w [] B5_2 ∧ Cov w [] B6_2) (fun s ex e H => match s with | (steps5a, at6a) => ∃ (v6_2o : Value) (v5_2o : Value) (B5_2o : GH) (B6_2o : GH), ex = .exit 2 ∧ e = [(0, v0), (5, v5_2o), (6, v6_2o)] ∧ H = B6_2o ++ (B5_2o ++ ([])) ∧ MJ kI kI ieq B5_2o v5_2o steps5a ∧ OJ 3 1 ic B6_2o v6_2o at6a ∧ Cov w [] B5_2o ∧ Cov w [] B6_2o) hx2 ⟨[(0, v0), (5, v5_1), (6, (cutV v6_1 1 1 at6.length)), (7, .int .i64 (at6[0]!)), (25, v0), (26, .int .i64 (l0.length : Int)), (27, .int .i64 0)], B6_1 ++ (B5_1 ++ ([])), (lc rfl (lc rfl (lc rfl (lc rfl (lc rfl (lc rfl (lc rfl ln))))))), fun _ h => h, ⟨(cutV v6_1 1 1 at6.length), v5_1, B5_1, B6_1, rfl, rfl, hJ5_1, (hJ6_1.cut (toNat_le ho6) (Nat.le_refl _) (by decide)), hcB5_1, hcB6_1⟩⟩ ?_ ?_
      · rintro ⟨steps5a, at6a, x27⟩ o _ _ ⟨v6_2, v5_2, B5_2, B6_2, rfl, rfl, hJ5_2, hJ6_2, hcB5_2, hcB6_2⟩ hb
        have h : gfar_l2 l0 at6 steps5a at6a x27 o := hb
        clear hb
        unfold gfar_l2 at h
        refine xw_seq (xw_region ?_)
        refine xq rfl trivial (o_lss rfl rfl) ?_
        refine xo_nil (xq_then (xw_seq ?_))
        refine xw_bool 28 rfl (fun hc7 => ?_) (fun hc7 => ?_)
        · have hq7 : (decide (x27 < (l0.length : Int))) = true := hc7
          have hp7 : x27 < (l0.length : Int) := of_decide_eq_true hq7
          rw [if_pos hp7] at h
          refine xw_cond_t rfl rfl (xw_skip (xq_then (xw_seq ?_)))
          refine xw_block ?_
          refine xw_seq (xw_region ?_)
          obtain ⟨ho8, h⟩ := h
          refine xq rfl trivial (o_ixL el22 rfl rfl (fun w hw => (hs0.keep hw (Fr.seg hcB6_2 (Fr.seg hcB5_2 Fr.nil)))) rfl ho8) ?_
          refine xq rfl trivial (o_ldLI rfl ts37 rfl (fun w hw => (hs0.keep hw (Fr.seg hcB6_2 (Fr.seg hcB5_2 Fr.nil)))) (toNat_lt ho8) rfl) ?_
          refine xo rfl trivial (o_alloc ze37 rfl) ?_
          rintro _ _ ⟨b9, hb9, rfl, rfl⟩
          refine xq0 trivial (o_stWI rfl rfl ts37 (List.Mem.head _) (.here _ _ _ _)) ?_
          refine xo_nil (xq_then (xw_seq (xw_region ?_)))
          refine xq rfl trivial (o_mv rfl) ?_
          first | refine xq rfl trivial (o_fa0 fl37_0 rfl) ?_ | refine xq rfl trivial (o_fa fl37_0 rfl) ?_
          refine xq rfl trivial (o_ldI (v := (l0[x27.toNat]!) 0) rfl ts3 (List.Mem.head _) (by omega) rfl) ?_
          refine xq rfl trivial (o_lkok (z := 0) (k := (l0[x27.toNat]!) 0) kt3 Try.underlying45 ze3 rfl rfl hJ5_2 (Pull.sub (.thereC _ (.there _ (.here _ _))))) ?_
          refine xq rfl trivial (o_mv rfl) ?_
          refine xq rfl trivial (o_ext rfl rfl) ?_
          refine xq rfl trivial (o_ext rfl rfl) ?_
          refine xq rfl trivial (o_as rfl) ?_
          refine xq rfl trivial (o_as rfl) ?_
          refine xo_nil (xq_then (xw_seq ?_))
          refine xw_cut [(0, _), (5, _), (6, _), (7, _), (9, _), (25, _), (26, _), (27, _)] (lc rfl (lc rfl (lc rfl (lc rfl (lc rfl (lc rfl (lc rfl (lc rfl ln)))))))) [(45, .bool ((decide ((l0[x27.toNat]!) 2 = at6[0]!)) && (!((mhas ieq steps5a ((l0[x27.toNat]!) 0))))))] ?_ ?_
          · refine xw_region ?_
            first | refine xq rfl trivial (o_fa0 fl37_2 rfl) ?_ | refine xq rfl trivial (o_fa fl37_2 rfl) ?_
            refine xq rfl trivial (o_ldI (v := (l0[x27.toNat]!) 2) rfl ts3 (List.Mem.head _) (by omega) rfl) ?_
            refine xq rfl trivial (o_mv rfl) ?_
            refine xq rfl trivial (o_eql rfl rfl) ?_
            refine xq rfl trivial (o_mv rfl) ?_
            refine xo_bool 42 rfl (fun hg9 => ?_) (fun hg9 => ?_)
            · have hq9 : (decide ((l0[x27.toNat]!) 2 = at6[0]!)) = true := hg9
              have hp9 : (l0[x27.toNat]!) 2 = at6[0]! := of_decide_eq_true hq9
              refine xq rfl ⟨_, rfl, rfl⟩ (o_mv rfl) ?_
              refine xq rfl ⟨_, rfl, rfl⟩ (o_not rfl) ?_
              refine xq rfl trivial (o_pick_t rfl rfl) ?_
              refine xo_nil ?_
              exact xq_cut ((lce rfl (by first | rfl | (simp only [hq7, hq9, if_pos hp7, if_pos hp9, bS]; done) | (simp only [hq7, hq9, if_pos hp7, if_pos hp9, bS, reduceIte, Bool.false_eq_true]; done) | (simp [hp7, hp9]; done) | (simp_all; done)) (lc rfl (lc rfl (lc rfl (lc rfl (lc rfl (lc rfl (lc rfl (lc rfl ln)))))))))) (fun _ h => h)
            · have hq9 : (decide ((l0[x27.toNat]!) 2 = at6[0]!)) = false := hg9
              have hp9 : ¬ ((l0[x27.toNat]!) 2 = at6[0]!) := of_decide_eq_false hq9
              refine xs rfl ⟨_, _, rfl, rfl, rfl⟩ (xs rfl ⟨_, _, rfl, rfl, rfl⟩ ?_)
              refine xq rfl trivial (o_pick_f rfl rfl) ?_
              refine xo_nil ?_
              exact xq_cut ((lce rfl (by first | rfl | (simp only [hq7, hq9, if_pos hp7, if_neg hp9, bS]; done) | (simp only [hq7, hq9, if_pos hp7, if_neg hp9, bS, reduceIte, Bool.false_eq_true]; done) | (simp [hp7, hp9]; done) | (simp_all; done)) (lc rfl (lc rfl (lc rfl (lc rfl (lc rfl (lc rfl (lc rfl (lc rfl ln)))))))))) (fun _ h => h)
          · refine xq_then ?_
            refine xw_bool 45 rfl (fun hc10 => ?_) (fun hc10 => ?_)
            · have hq10 : ((decide ((l0[x27.toNat]!) 2 = at6[0]!)) && (!((mhas ieq steps5a ((l0[x27.toNat]!) 0))))) = true := hc10
              have hp10 : ((decide ((l0[x27.toNat]!) 2 = at6[0]!)) && (!((mhas ieq steps5a ((l0[x27.toNat]!) 0))))) = true := hq10
              rw [if_pos hp10] at h
              refine xw_cond_t rfl rfl (xw_seq (xw_region ?_))
              refine xq rfl trivial (o_mv rfl) ?_
              first | refine xq rfl trivial (o_fa0 fl37_0 rfl) ?_ | refine xq rfl trivial (o_fa fl37_0 rfl) ?_
              refine xq rfl trivial (o_ldI (v := (l0[x27.toNat]!) 0) rfl ts3 (List.Mem.head _) (by omega) rfl) ?_
              refine xq rfl trivial (o_mv rfl) ?_
              refine xq rfl trivial (o_mv rfl) ?_
              refine xq rfl trivial (o_lk (z := 0) (k := at6[0]!) kt3 Try.underlying45 ze3 rfl rfl hJ5_2 (Pull.sub (.thereC _ (.there _ (.here _ _))))) ?_
              obtain ⟨ho11, h⟩ := h
              refine xq rfl trivial (o_add rfl rfl rfl ho11) ?_
              refine xo0 trivial (OT.st (fun _ h => Pull.st (.thereC _ (.there _ (.here _ _))) h) (o_mset (k := (l0[x27.toNat]!) 0) (e := (mget ieq steps5a (at6[0]!) 0) + 1) kt3 Try.underlying45 rfl rfl rfl hJ5_2)) ?_
              rintro _ _ ⟨Bs12, rfl, hns12, hJs12⟩
              have hcBs12 := Cov.trans hcB5_2 hns12
              refine xo_st ((b9, BK 4 (iv (l0[x27.toNat]!)) 37) :: (B6_2 ++ (Bs12 ++ ([])))) (fun _ h => Pull.push (.thereC _ (.there _ (.here _ _))) h) ?_
              refine xo_nil (xq_then (xw_region ?_))
              refine xq rfl trivial (o_mv rfl) ?_
              first | refine xq rfl trivial (o_fa0 fl37_0 rfl) ?_ | refine xq rfl trivial (o_fa fl37_0 rfl) ?_
              refine xq rfl trivial (o_ldI (v := (l0[x27.toNat]!) 0) rfl ts3 (List.Mem.head _) (by omega) rfl) ?_
              refine xo rfl trivial (o_bsl el38 ze3 (cells_one rfl) rfl rfl (.int rfl rfl (.nil _))) ?_
              rintro _ _ ⟨b56, hb56, rfl, rfl⟩
              obtain ⟨ho14, h⟩ := h
              refine xo rfl trivial (OT.st (fun _ h => Pull.st (.thereC _ (.thereC _ (.here _ _))) h) (o_appJ (l := at6a) (l' := [(l0[x27.toNat]!) 0]) (B := B6_2) ap38 rfl rfl hJ6_2 (fun w2 hw2 => (SL.lit (l := [(l0[x27.toNat]!) 0]) hw2 (List.mem_append_right _ (List.Mem.head _)) rfl (by omega) (by simp [maxLen]) (by exact (fun i hi => match i, hi with | 0, _ => rfl | q + 1, h => absurd h (by omega))))) (fun _ _ => rfl) ho14 (len_max ho14 (by decide)))) ?_
              rintro vs13 _ ⟨Bs13, rfl, hns13, hJs13⟩
              have hcBs13 := Cov.trans hcB6_2 hns13
              refine xo_st ((b56, BK 1 _ 3) :: ((b9, BK 4 (iv (l0[x27.toNat]!)) 37) :: (Bs13 ++ (Bs12 ++ ([]))))) (fun _ h => Pull.push (.thereC _ (.thereC _ (.here _ _))) h) ?_
              refine xq rfl trivial (o_as rfl) ?_
              refine xo_nil ?_
              refine xq_blk 3 ?_
              refine xq_then (xw_region ?_)
              obtain ⟨ho15, h⟩ := h
              refine xq rfl trivial (o_add rfl rfl rfl ho15) ?_
              refine xq rfl trivial (o_mv rfl) ?_
              refine xo_nil ?_
              exact xq_next (s' := ((mset ieq steps5a ((l0[x27.toNat]!) 0) ((mget ieq steps5a (at6[0]!) 0) + 1), (at6a ++ [(l0[x27.toNat]!) 0]), x27 + 1) : (List (Int × Int)) × (List Int) × Int)) (e' := [(0, v0), (5, v5_2), (6, vs13), (7, .int .i64 (at6[0]!)), (25, v0), (26, .int .i64 (l0.length : Int)), (27, .int .i64 (x27 + 1))]) (Bs13 ++ (Bs12 ++ ([]))) (lc rfl (lc rfl (lc rfl (lc rfl (lc rfl (lc rfl (lc rfl ln))))))) (Kp.st (Kp.new hb56 (Kp.new hb9 (Kp.segKeep (Kp.segKeep Kp.nil))))) h ⟨vs13, v5_2, Bs12, Bs13, rfl, rfl, hJs12, hJs13, hcBs12, hcBs13⟩
            · have hq10 : ((decide ((l0[x27.toNat]!) 2 = at6[0]!)) && (!((mhas ieq steps5a ((l0[x27.toNat]!) 0))))) = false := hc10
              have hp10 : ¬ (((decide ((l0[x27.toNat]!) 2 = at6[0]!)) && (!((mhas ieq steps5a ((l0[x27.toNat]!) 0))))) = true) := bne' hq10
              rw [if_neg hp10] at h
              refine xw_cond_f rfl rfl (xw_skip ?_)
              refine xq_blk 3 ?_
              refine xq_then (xw_region ?_)
              obtain ⟨ho16, h⟩ := h
              refine xq rfl trivial (o_add rfl rfl rfl ho16) ?_
              refine xq rfl trivial (o_mv rfl) ?_
              refine xo_nil ?_
              exact xq_next (s' := ((steps5a, at6a, x27 + 1) : (List (Int × Int)) × (List Int) × Int)) (e' := [(0, v0), (5, v5_2), (6, v6_2), (7, .int .i64 (at6[0]!)), (25, v0), (26, .int .i64 (l0.length : Int)), (27, .int .i64 (x27 + 1))]) (B6_2 ++ (B5_2 ++ ([]))) (lc rfl (lc rfl (lc rfl (lc rfl (lc rfl (lc rfl (lc rfl ln))))))) (Kp.st (Kp.new hb9 (Kp.segKeep (Kp.segKeep Kp.nil)))) h ⟨v6_2, v5_2, B5_2, B6_2, rfl, rfl, hJ5_2, hJ6_2, hcB5_2, hcB6_2⟩
        · have hq7 : (decide (x27 < (l0.length : Int))) = false := hc7
          have hp7 : ¬ (x27 < (l0.length : Int)) := of_decide_eq_false hq7
          rw [if_neg hp7] at h
          refine xw_cond_f rfl rfl (xw_exit (xq_then_exit ?_))
          exact xq_out (r := ((steps5a, at6a) : (List (Int × Int)) × (List Int))) (e' := [(0, v0), (5, v5_2), (6, v6_2)]) (B6_2 ++ (B5_2 ++ ([]))) (lc rfl (lc rfl (lc rfl ln))) (fun _ h => h) h (by intro hh; cases hh) ⟨v6_2, v5_2, B5_2, B6_2, rfl, rfl, rfl, hJ5_2, hJ6_2, hcB5_2, hcB6_2⟩
      · obtain ⟨steps5a, at6a⟩ := x2
        rintro _ _ _ ⟨v6_2o, v5_2o, B5_2o, B6_2o, rfl, rfl, rfl, hJ5_2o, hJ6_2o, hcB5_2o, hcB6_2o⟩
        replace h : gfar_k2a steps5a at6a o := h
        unfold gfar_k2a at h
        refine xq_blk_eq ?_
        refine xq_blk 1 ?_
        exact xq_next (s' := ((steps5a, at6a) : (List (Int × Int)) × (List Int))) (e' := [(0, v0), (5, v5_2o), (6, v6_2o)]) (B6_2o ++ (B5_2o ++ ([]))) (lc rfl (lc rfl (lc rfl ln))) (fun _ h => h) h ⟨v6_2o, v5_2o, B5_2o, B6_2o, rfl, rfl, hJ5_2o, hJ6_2o, hcB5_2o, hcB6_2o⟩
    · have hq4 : (decide (0 < (at6.length : Int))) = false := hc4
      have hp4 : ¬ (0 < (at6.length : Int)) := of_decide_eq_false hq4
      rw [if_neg hp4] at h
      refine xw_cond_f rfl rfl (xw_exit (xq_then_exit ?_))
      exact xq_out (r := (steps5 : (List (Int × Int)))) (e' := [(5, v5_1)]) (B6_1 ++ (B5_1 ++ ([]))) (lc rfl ln) (fun _ h => h) h (by intro hh; cases hh) ⟨v5_1, B5_1, B6_1, rfl, rfl, rfl, hJ5_1, hcB5_1, hcB6_1⟩
  · rintro _ _ _ ⟨v5_1o, B5_1o, B6_1o, rfl, rfl, rfl, hJ5_1o, hcB5_1o, hcB6_1o⟩
    replace h : gfar_k1a steps5 r := h
    unfold gfar_k1a at h
    refine xq_blk_eq ?_
    refine xq_then (xw_seq (xw_region ?_))
    refine xq rfl trivial (o_mv rfl) ?_
    refine xq rfl trivial (o_as rfl) ?_
    refine xo_nil (xq_then (xw_ret ?_))
    subst h
    exact con_ret1 (.inl rfl) Try.results30 rfl (B5_1o ++ []) (Kp.st (Kp.segNew (Cov.fresh hcB6_1o) (Kp.segKeep Kp.nil))) (⟨_, B5_1o, rfl, rfl, hJ5_1o, hcB5_1o⟩)

theorem gorder_con (l0 : (List (Nat → Int))) (v0 : Value) (w : World) (hs0 : SL w 4 iv v0 l0) (r : (List Int) × Int) (h : gorder_S l0 r) : Con Try.prog 14 #[v0] w (fun v F => ∃ (u0 : Value) (C0 : GH), v = .tuple #[u0, errV 58 r.2] ∧ F = (C0 ++ []) ∧ OJ 3 1 ic C0 u0 r.1 ∧ Cov w [] C0) := by
  unfold gorder_S at h
  refine con_enter (n := 36) [(0, _)] Try.func14 rfl Try.ntmps14 rfl (lac rfl lan) ?_
  refine xw_seq (xw_region ?_)
  refine xq rfl trivial (o_as rfl) ?_
  refine xq rfl trivial (o_as rfl) ?_
  refine xo_nil (xq_then ?_)
  refine xw_scope ?_
  refine xw_seq (xw_region ?_)
  refine xq rfl trivial (o_mv rfl) ?_
  obtain ⟨ho1, h⟩ := h
  refine xcall rfl trivial kf23 rfl (fun w1 hw1 => gnodes_c _ _ w1 (hs0.keep hw1 Fr.nil) ho1) ?_
  rintro w1 vs2 _ hw1 ⟨_, Bs2, rfl, rfl, hJs2, hcBs2⟩
  refine ⟨_, Mg.news (Cov.fresh hcBs2) (.nil _), ?_⟩
  replace hcBs2 := Cov.base (w0 := w) hcBs2 hw1.size
  refine xo rfl trivial (o_alloc ze38 (cells_one rfl)) ?_
  rintro _ _ ⟨b4, hb4, rfl, rfl⟩
  refine xq0 trivial (o_stV rfl rfl ts38 (oneOf (OJ.val hJs2)) (List.Mem.head _) (.here _ _ _ _)) ?_
  refine xo_nil (xq_then (xw_seq (xw_region ?_)))
  refine xq rfl trivial (o_as rfl) ?_
  refine xo_nil (xq_then (xw_seq ?_))
  refine xw_label ?_
  refine xq_then (xw_seq ?_)
  refine xw_block ?_
  obtain ⟨x1, hx1, h⟩ := h
  refine xw_wh (fun s e H => match s with | (out5, fb4) => ∃ (vb4_0_1 : Value) (v5_1 : Value) (B5_1 : GH) (Bb4_0_1 : GH), e = [(0, v0), (4, .pointer (some ⟨b4, 0, none⟩)), (5, v5_1)] ∧ H = B5_1 ++ ((b4, BK 1 (fun _ => vb4_0_1) 38) :: (Bb4_0_1 ++ ([]))) ∧ OJ 3 1 ic B5_1 v5_1 out5 ∧ OJ 3 1 ic Bb4_0_1 vb4_0_1 fb4 ∧ Cov w [] B5_1 ∧ Cov w [] Bb4_0_1) (fun x ex e H => match x with | .inl (out5, fb4) => ∃ (vb4_0_1o : Value) (v5_1o : Value) (B5_1o : GH) (Bb4_0_1o : GH), ex = .exit 0 ∧ e = [(5, v5_1o)] ∧ H = B5_1o ++ ((b4, BK 1 (fun _ => vb4_0_1o) 38) :: (Bb4_0_1o ++ ([]))) ∧ OJ 3 1 ic B5_1o v5_1o out5 ∧ OJ 3 1 ic Bb4_0_1o vb4_0_1o fb4 ∧ Cov w [] B5_1o ∧ Cov w [] Bb4_0_1o | .inr fb4 => ∃ (vb4_0_1o : Value) (B5_1o : GH) (Bb4_0_1o : GH), ex = .ret ∧ e = [(2, .slice none 0 0), (3, .iface 58 (.int .i64 11))] ∧ H = B5_1o ++ ((b4, BK 1 (fun _ => vb4_0_1o) 38) :: (Bb4_0_1o ++ ([]))) ∧ OJ 3 1 ic Bb4_0_1o vb4_0_1o fb4 ∧ Cov w [] B5_1o ∧ Cov w [] Bb4_0_1o) hx1 ⟨[(0, v0), (4, .pointer (some ⟨b4, 0, none⟩)), (5, .slice none 0 0)], [] ++ ((b4, BK 1 (fun _ => vs2) 38) :: (Bs2 ++ ([]))), (lc rfl (lc rfl (lc rfl ln))), fun _ h => h, ⟨vs2, _, [], Bs2, rfl, rfl, OJ.nil, hJs2, (Cov.refl _), hcBs2⟩⟩ ?_ ?_
  · rintro ⟨out5, fb4⟩ o _ _ ⟨vb4_0_1, v5_1, B5_1, Bb4_0_1, rfl, rfl, hJ5_1, hJb4_0_1, hcB5_1, hcBb4_0_1⟩ hb
    have h : gorder_l1 l0 out5 fb4 o := hb
    clear hb
    unfold gorder_l1 at h
    refine xw_seq (xw_seq (xw_region ?_))
    refine xq rfl trivial (o_ldV rfl ts38 (List.mem_append_right _ (List.Mem.head _))) ?_
    refine xq rfl trivial (o_lenL rfl Try.underlying38 rfl (OJ.val hJb4_0_1)) ?_
    refine xq rfl trivial (o_gtr rfl rfl) ?_
    refine xo_nil (xq_then ?_)
    refine xw_bool 12 rfl (fun hc3 => ?_) (fun hc3 => ?_)
    · have hq3 : (decide (0 < (fb4.length : Int))) = true := hc3
      have hp3 : 0 < (fb4.length : Int) := of_decide_eq_true hq3
      rw [if_pos hp3] at h
      refine xw_cond_t rfl rfl (xw_skip (xq_then ?_))
      refine xw_block ?_
      refine xw_seq (xw_seq (xw_region ?_))
      refine xq rfl trivial (o_ldV rfl ts38 (List.mem_append_right _ (List.Mem.head _))) ?_
      refine xq rfl trivial (o_lenL rfl Try.underlying38 rfl (OJ.val hJb4_0_1)) ?_
      refine xq rfl trivial (o_mv rfl) ?_
      refine xo_nil (xq_then ?_)
      refine xw_block ?_
      obtain ⟨x2, hx2, h⟩ := h
      refine xw_wh (fun s e H => match s with | (out5a, x15) => ∃ (v5_2 : Value) (B5_2 : GH), e = [(0, v0), (4, .pointer (some ⟨b4, 0, none⟩)), (5, v5_2), (13, vb4_0_1), (14, .int .i64 (fb4.length : Int)), (15, .int .i64 x15)] ∧ H = B5_2 ++ ((b4, BK 1 (fun _ => vb4_0_1) 38) :: (Bb4_0_1 ++ ([]))) ∧ OJ 3 1 ic B5_2 v5_2 out5a ∧ Cov w [] B5_2) (fun x ex e H => match x with | .inl (out5a, fb4a) => ∃ (vb4_0_2o : Value) (v5_2o : Value) (B5_2o : GH) (Bb4_0_2o : GH), ex = .exit 1 ∧ e = [(0, v0), (4, .pointer (some ⟨b4, 0, none⟩)), (5, v5_2o)] ∧ H = Bb4_0_2o ++ (B5_2o ++ ((b4, BK 1 (fun _ => vb4_0_2o) 38) :: ([]))) ∧ OJ 3 1 ic B5_2o v5_2o out5a ∧ OJ 3 1 ic Bb4_0_2o vb4_0_2o fb4a ∧ Cov w [] B5_2o ∧ Cov w [] Bb4_0_2o | .inr _ => ∃ (B5_2o : GH), ex = .exit 2 ∧ e = [] ∧ H = B5_2o ++ ((b4, BK 1 (fun _ => vb4_0_1) 38) :: (Bb4_0_1 ++ ([]))) ∧ Cov w [] B5_2o) hx2 ⟨[(0, v0), (4, .pointer (some ⟨b4, 0, none⟩)), (5, v5_1), (13, vb4_0_1), (14, .int .i64 (fb4.length : Int)), (15, .int .i64 0)], B5_1 ++ ((b4, BK 1 (fun _ => vb4_0_1) 38) :: (Bb4_0_1 ++ ([]))), (lc rfl (lc rfl (lc rfl (lc rfl (lc rfl (lc rfl ln)))))), fun _ h => h, ⟨v5_1, B5_1, rfl, rfl, hJ5_1, hcB5_1⟩⟩ ?_ ?_
      · rintro ⟨out5a, x15⟩ o _ _ ⟨v5_2, B5_2, rfl, rfl, hJ5_2, hcB5_2⟩ hb
        have h : gorder_l2 l0 fb4 out5a x15 o := hb
        clear hb
        unfold gorder_l2 at h
        refine xw_seq (xw_region ?_)
        refine xq rfl trivial (o_lss rfl rfl) ?_
        refine xo_nil (xq_then (xw_seq ?_))
        refine xw_bool 16 rfl (fun hc4 => ?_) (fun hc4 => ?_)
        · have hq4 : (decide (x15 < (fb4.length : Int))) = true := hc4
          have hp4 : x15 < (fb4.length : Int) := of_decide_eq_true hq4
          rw [if_pos hp4] at h
          refine xw_cond_t rfl rfl (xw_skip (xq_then (xw_seq ?_)))
          refine xw_block ?_
          refine xw_seq (xw_region ?_)
          refine xq rfl trivial (o_mv rfl) ?_
          obtain ⟨ho5, h⟩ := h
          refine xq rfl trivial (o_ixL el38 rfl rfl (fun w hw => (hJb4_0_1.sl hw (Pull.sub (.there _ (.thereC _ (.here _ _)))))) rfl ho5) ?_
          refine xq rfl trivial (o_ldL1 (off := 0) (u := .int .i64 (fb4[x15.toNat]!)) rfl ts3 rfl (fun w hw => (hJb4_0_1.sl hw (Pull.sub (.there _ (.thereC _ (.here _ _)))))) (toNat_lt ho5) rfl rfl) ?_
          refine xo rfl trivial (o_alloc ze3 (cells_one rfl)) ?_
          rintro _ _ ⟨b7, hb7, rfl, rfl⟩
          refine xq rfl trivial (o_as rfl) ?_
          refine xq0 trivial (o_stV rfl rfl ts3 rfl (List.Mem.head _) (.here _ _ _ _)) ?_
          refine xo_nil (xq_then (xw_seq (xw_region ?_)))
          refine xq rfl trivial (o_mv rfl) ?_
          refine xq rfl trivial (o_mkf rfl rfl) ?_
          refine xoR rfl trivial (ot_in (l := [(0, _), (1, _)]) kf24 rfl Try.func24 rfl Try.ntmps24 rfl (lac rfl (lac rfl lan)) ?_)
          refine xw_seq (xw_region ?_)
          refine xq rfl trivial (o_as rfl) ?_
          refine xo_nil (xq_then (xw_seq (xw_region ?_)))
          refine xq rfl trivial (o_mv rfl) ?_
          refine xq rfl trivial (o_mv rfl) ?_
          refine xoR rfl trivial (ot_in (l := [(0, _), (1, _)]) kf37 rfl Try.func37 rfl Try.ntmps37 rfl (lac rfl (lac rfl lan)) ?_)
          refine xw_seq (xw_region ?_)
          refine xq rfl trivial (o_as rfl) ?_
          refine xo_nil (xq_then (xw_seq (xw_seq (xw_region ?_))))
          refine xq rfl trivial (o_mv rfl) ?_
          refine xq rfl trivial (o_lenL rfl Try.underlying22 rfl (SL.val hs0)) ?_
          refine xq rfl trivial (o_mv rfl) ?_
          refine xo_nil (xq_then ?_)
          refine xw_block ?_
          obtain ⟨x3, hx3, h⟩ := h
          refine xw_wh (fun (x8 : Int) e H => e = [(0, v0), (1, .func (.func 25) [].toArray [.pointer (some ⟨b7, 0, none⟩), .pointer (some ⟨b4, 0, none⟩)].toArray), (7, .int .i64 (l0.length : Int)), (8, .int .i64 x8)] ∧ H = (b7, BK 1 (fun _ => .int .i64 (fb4[x15.toNat]!)) 3) :: (B5_2 ++ ((b4, BK 1 (fun _ => vb4_0_1) 38) :: (Bb4_0_1 ++ ([]))))) (fun x ex e H => match x with | .inl _ => ex = .exit 0 ∧ e = [] ∧ H = (b7, BK 1 (fun _ => .int .i64 (fb4[x15.toNat]!)) 3) :: (B5_2 ++ ((b4, BK 1 (fun _ => vb4_0_1) 38) :: (Bb4_0_1 ++ ([])))) | .inr x4 => ex = .ret ∧ e = [(4, .int .i64 x4)] ∧ H = (b7, BK 1 (fun _ => .int .i64 (fb4[x15.toNat]!)) 3) :: (B5_2 ++ ((b4, BK 1 (fun _ => vb4_0_1) 38) :: (Bb4_0_1 ++ ([]))))) hx3 ⟨[(0, v0), (1, .func (.func 25) [].toArray [.pointer (some ⟨b7, 0, none⟩), .pointer (some ⟨b4, 0, none⟩)].toArray), (7, .int .i64 (l0.length : Int)), (8, .int .i64 0)], (b7, BK 1 (fun _ => .int .i64 (fb4[x15.toNat]!)) 3) :: (B5_2 ++ ((b4, BK 1 (fun _ => vb4_0_1) 38) :: (Bb4_0_1 ++ ([])))), (lc rfl (lc rfl (lc rfl (lc rfl ln)))), fun _ h => h, ⟨rfl, rfl⟩⟩ ?_ ?_
          · rintro x8 o _ _ ⟨rfl, rfl⟩ hb
            have h : gorder_l3 l0 fb4 x15 x8 o := hb
            clear hb
            unfold gorder_l3 at h
            refine xw_seq (xw_region ?_)
            refine xq rfl trivial (o_lss rfl rfl) ?_
            refine xo_nil (xq_then (xw_seq ?_))
            refine xw_bool 9 rfl (fun hc6 => ?_) (fun hc6 => ?_)
            · have hq6 : (decide (x8 < (l0.length : Int))) = true := hc6
              have hp6 : x8 < (l0.length : Int) := of_decide_eq_true hq6
              rw [if_pos hp6] at h
              refine xw_cond_t rfl rfl (xw_skip (xq_then (xw_seq ?_)))
              refine xw_block ?_
              refine xw_seq (xw_region ?_)
              refine xq rfl trivial (o_mv rfl) ?_
              refine xq rfl trivial (o_as rfl) ?_
              refine xo_nil (xq_then (xw_seq (xw_region ?_)))
              refine xq rfl trivial (o_mv rfl) ?_
              refine xq rfl trivial (o_mv rfl) ?_
              refine xq rfl trivial (o_mv rfl) ?_
              obtain ⟨ho7, h⟩ := h
              refine xq rfl trivial (o_ixL el22 rfl rfl (fun w hw => (hs0.keep hw (Fr.cons hb7 (Fr.seg hcB5_2 (Fr.cons hb4 (Fr.seg hcBb4_0_1 Fr.nil)))))) rfl ho7) ?_
              refine xq rfl trivial (o_ldLI rfl ts37 rfl (fun w hw => (hs0.keep hw (Fr.cons hb7 (Fr.seg hcB5_2 (Fr.cons hb4 (Fr.seg hcBb4_0_1 Fr.nil)))))) (toNat_lt ho7) rfl) ?_
              refine xoR rfl trivial (ot_inv (l := [(0, _), (1, _), (2, _)]) rfl kf25 rfl Try.func25 rfl Try.ntmps25 rfl (lac rfl (lac rfl (lac rfl lan))) ?_)
              refine xw_seq (xw_region ?_)
              refine xo rfl trivial (o_boxA rfl) ?_
              rintro _ _ ⟨b3, hb3, rfl, rfl⟩
              refine xq rfl trivial (o_as rfl) ?_
              refine xo_nil (xq_then (xw_seq ?_))
              obtain ⟨ho8, h⟩ := h
              refine xw_cut [] ln [(4, .bool ((decide ((l0[x8.toNat]!) 2 = fb4[x15.toNat]!)) && ((hasI_F fb4 ((l0[x8.toNat]!) 0)))))] ?_ ?_
              · refine xw_region ?_
                first | refine xq rfl trivial (o_fa0 fl37_2 rfl) ?_ | refine xq rfl trivial (o_fa fl37_2 rfl) ?_
                refine xq rfl trivial (o_ldI (v := (l0[x8.toNat]!) 2) rfl ts3 (List.Mem.head _) (by omega) rfl) ?_
                refine xq rfl trivial (o_ldV rfl ts3 (List.Mem.tail _ (List.Mem.head _))) ?_
                refine xq rfl trivial (o_eql rfl rfl) ?_
                refine xq rfl trivial (o_mv rfl) ?_
                refine xo_bool 9 rfl (fun hg9 => ?_) (fun hg9 => ?_)
                · have hq9 : (decide ((l0[x8.toNat]!) 2 = fb4[x15.toNat]!)) = true := hg9
                  have hp9 : (l0[x8.toNat]!) 2 = fb4[x15.toNat]! := of_decide_eq_true hq9
                  refine xq rfl ⟨_, rfl, rfl⟩ (o_ldV rfl ts38 (List.Mem.tail _ (List.Mem.tail _ (List.mem_append_right _ (List.Mem.head _))))) ?_
                  first | refine xq rfl ⟨_, rfl, rfl⟩ (o_fa0 fl37_0 rfl) ?_ | refine xq rfl ⟨_, rfl, rfl⟩ (o_fa fl37_0 rfl) ?_
                  refine xq rfl ⟨_, rfl, rfl⟩ (o_ldI (v := (l0[x8.toNat]!) 0) rfl ts3 (List.Mem.head _) (by omega) rfl) ?_
                  refine xcallq rfl ⟨_, rfl, rfl⟩ kf26 rfl (fun w1 hw1 => hasI_c _ _ _ w1 (hJb4_0_1.sl hw1 (Pull.sub (.thereC _ (.thereC _ (.there _ (.thereC _ (.here _ _))))))) (ho8 (by first | exact hg9 | (simp only [hq6, hq9, if_pos hp6, if_pos hp9, bS]; done) | (simp only [hq6, hq9, if_pos hp6, if_pos hp9, bS, reduceIte, Bool.false_eq_true]; done) | (simp [hp6, hp9]; done) | (simp_all; done)))) ?_
                  refine xq rfl trivial (o_pick_t rfl rfl) ?_
                  refine xq rfl trivial (o_as rfl) ?_
                  refine xo_nil ?_
                  exact xq_cut ((lce rfl (by first | rfl | (simp only [hq6, hq9, if_pos hp6, if_pos hp9, bS]; done) | (simp only [hq6, hq9, if_pos hp6, if_pos hp9, bS, reduceIte, Bool.false_eq_true]; done) | (simp [hp6, hp9]; done) | (simp_all; done)) ln)) (fun _ h => h)
                · have hq9 : (decide ((l0[x8.toNat]!) 2 = fb4[x15.toNat]!)) = false := hg9
                  have hp9 : ¬ ((l0[x8.toNat]!) 2 = fb4[x15.toNat]!) := of_decide_eq_false hq9
                  refine xs rfl ⟨_, _, rfl, rfl, rfl⟩ (xs rfl ⟨_, _, rfl, rfl, rfl⟩ (xs rfl ⟨_, _, rfl, rfl, rfl⟩ (xs rfl ⟨_, _, rfl, rfl, rfl⟩ ?_)))
                  refine xq rfl trivial (o_pick_f rfl rfl) ?_
                  refine xq rfl trivial (o_as rfl) ?_
                  refine xo_nil ?_
                  exact xq_cut ((lce rfl (by first | rfl | (simp only [hq6, hq9, if_pos hp6, if_neg hp9, bS]; done) | (simp only [hq6, hq9, if_pos hp6, if_neg hp9, bS, reduceIte, Bool.false_eq_true]; done) | (simp [hp6, hp9]; done) | (simp_all; done)) ln)) (fun _ h => h)
              · refine xq_then (xw_ret ?_)
                refine con_ret1 (.inl rfl) Try.results25 rfl _ (fun _ h => h) (?_)
                refine xo_nil (xq_then ?_)
                refine xw_bool 16 rfl (fun hc10 => ?_) (fun hc10 => ?_)
                · have hq10 : ((decide ((l0[x8.toNat]!) 2 = fb4[x15.toNat]!)) && ((hasI_F fb4 ((l0[x8.toNat]!) 0)))) = true := hc10
                  have hp10 : ((decide ((l0[x8.toNat]!) 2 = fb4[x15.toNat]!)) && ((hasI_F fb4 ((l0[x8.toNat]!) 0)))) = true := hq10
                  rw [if_pos hp10] at h
                  refine xw_cond_t rfl rfl (xw_seq (xw_region ?_))
                  refine xq rfl trivial (o_mv rfl) ?_
                  refine xq rfl trivial (o_as rfl) ?_
                  refine xo_nil (xq_then (xw_ret (xq_blk_ret (xq_then_ret ?_))))
                  exact xq_out (r := (.inr x8 : (Unit) ⊕ (Int))) (e' := [(4, .int .i64 x8)]) ((b7, BK 1 (fun _ => .int .i64 (fb4[x15.toNat]!)) 3) :: (B5_2 ++ ((b4, BK 1 (fun _ => vb4_0_1) 38) :: (Bb4_0_1 ++ ([]))))) (lc rfl ln) (Kp.st (Kp.new hb3 (Kp.keep (Kp.segKeep (Kp.keep (Kp.segKeep Kp.nil)))))) h (by intro hh; cases hh) ⟨rfl, rfl, rfl⟩
                · have hq10 : ((decide ((l0[x8.toNat]!) 2 = fb4[x15.toNat]!)) && ((hasI_F fb4 ((l0[x8.toNat]!) 0)))) = false := hc10
                  have hp10 : ¬ (((decide ((l0[x8.toNat]!) 2 = fb4[x15.toNat]!)) && ((hasI_F fb4 ((l0[x8.toNat]!) 0)))) = true) := bne' hq10
                  rw [if_neg hp10] at h
                  refine xw_cond_f rfl rfl (xw_skip ?_)
                  refine xq_blk 1 ?_
                  refine xq_then (xw_region ?_)
                  obtain ⟨ho11, h⟩ := h
                  refine xq rfl trivial (o_add rfl rfl rfl ho11) ?_
                  refine xq rfl trivial (o_mv rfl) ?_
                  refine xo_nil ?_
                  exact xq_next (s' := (x8 + 1 : Int)) (e' := [(0, v0), (1, .func (.func 25) [].toArray [.pointer (some ⟨b7, 0, none⟩), .pointer (some ⟨b4, 0, none⟩)].toArray), (7, .int .i64 (l0.length : Int)), (8, .int .i64 (x8 + 1))]) ((b7, BK 1 (fun _ => .int .i64 (fb4[x15.toNat]!)) 3) :: (B5_2 ++ ((b4, BK 1 (fun _ => vb4_0_1) 38) :: (Bb4_0_1 ++ ([]))))) (lc rfl (lc rfl (lc rfl (lc rfl ln)))) (Kp.st (Kp.new hb3 (Kp.keep (Kp.segKeep (Kp.keep (Kp.segKeep Kp.nil)))))) h ⟨rfl, rfl⟩
            · have hq6 : (decide (x8 < (l0.length : Int))) = false := hc6
              have hp6 : ¬ (x8 < (l0.length : Int)) := of_decide_eq_false hq6
              rw [if_neg hp6] at h
              refine xw_cond_f rfl rfl (xw_exit (xq_then_exit ?_))
              exact xq_out (r := (.inl () : (Unit) ⊕ (Int))) (e' := []) ((b7, BK 1 (fun _ => .int .i64 (fb4[x15.toNat]!)) 3) :: (B5_2 ++ ((b4, BK 1 (fun _ => vb4_0_1) 38) :: (Bb4_0_1 ++ ([]))))) ln (fun _ h => h) h (by intro hh; cases hh) ⟨rfl, rfl, rfl⟩
          · rcases x3 with _ | x4
            · rintro _ _ _ ⟨rfl, rfl, rfl⟩
              replace h : gorder_k3a fb4 out5a x15 o := h
              unfold gorder_k3a at h
              refine xq_blk_eq ?_
              refine xq_then (xw_seq (xw_region ?_))
              refine xq rfl trivial (o_as rfl) ?_
              refine xo_nil (xq_then (xw_ret ?_))
              refine con_ret1 (.inl rfl) Try.results37 rfl _ (fun _ h => h) (?_)
              refine xq rfl trivial (o_geq rfl rfl) ?_
              refine xq rfl trivial (o_as rfl) ?_
              refine xo_nil (xq_then (xw_ret ?_))
              refine con_ret1 (.inl rfl) Try.results24 rfl _ (fun _ h => h) (?_)
              refine xq rfl trivial (o_not rfl) ?_
              refine xo_nil (xq_then (xw_cond_t rfl rfl (xw_seq (xw_region ?_))))
              refine xq rfl trivial (o_mv rfl) ?_
              refine xq rfl trivial (o_ldV rfl ts3 (List.Mem.head _)) ?_
              refine xo rfl trivial (o_bsl el38 ze3 (cells_one rfl) rfl rfl (.int rfl rfl (.nil _))) ?_
              rintro _ _ ⟨b26, hb26, rfl, rfl⟩
              obtain ⟨ho13, h⟩ := h
              refine xo rfl trivial (OT.st (fun _ h => Pull.st (.thereC _ (.thereC _ (.here _ _))) h) (o_appJ (l := out5a) (l' := [fb4[x15.toNat]!]) (B := B5_2) ap38 rfl rfl hJ5_2 (fun w2 hw2 => (SL.lit (l := [fb4[x15.toNat]!]) hw2 (List.mem_append_right _ (List.Mem.head _)) rfl (by omega) (by simp [maxLen]) (by exact (fun i hi => match i, hi with | 0, _ => rfl | q + 1, h => absurd h (by omega))))) (fun _ _ => rfl) ho13 (len_max ho13 (by decide)))) ?_
              rintro vs12 _ ⟨Bs12, rfl, hns12, hJs12⟩
              have hcBs12 := Cov.trans hcB5_2 hns12
              refine xo_st ((b26, BK 1 _ 3) :: ((b7, BK 1 (fun _ => .int .i64 (fb4[x15.toNat]!)) 3) :: (Bs12 ++ ((b4, BK 1 (fun _ => vb4_0_1) 38) :: (Bb4_0_1 ++ ([])))))) (fun _ h => Pull.push (.thereC _ (.thereC _ (.here _ _))) h) ?_
              refine xq rfl trivial (o_as rfl) ?_
              refine xo_nil (xq_then (xw_seq (xw_region ?_)))
              refine xq rfl trivial (o_ldV rfl ts38 (List.Mem.tail _ (List.Mem.tail _ (List.mem_append_right _ (List.Mem.head _))))) ?_
              refine xq rfl trivial (o_mv rfl) ?_
              refine xq rfl trivial (o_mv rfl) ?_
              obtain ⟨ho14, h⟩ := h
              refine xq rfl trivial (o_add rfl rfl rfl ho14) ?_
              refine xoR rfl trivial (ot_in (l := [(0, _), (1, _), (2, _)]) kf27 rfl Try.func27 rfl Try.ntmps27 rfl (lac rfl (lac rfl (lac rfl lan))) ?_)
              refine xw_seq (xw_region ?_)
              refine xq rfl trivial (o_as rfl) ?_
              refine xo_nil (xq_then (xw_seq (xw_region ?_)))
              refine xq rfl trivial (o_mv rfl) ?_
              refine xq rfl trivial (o_mv rfl) ?_
              refine xq rfl trivial (o_mv rfl) ?_
              refine xq rfl trivial (o_mv rfl) ?_
              refine xq rfl trivial (o_lenL rfl Try.underlying38 rfl (OJ.val hJb4_0_1)) ?_
              obtain ⟨ho15, h⟩ := h
              refine xq rfl trivial (o_cut3 el38 rfl (fun w hw => (hJb4_0_1.sl hw (Pull.sub (.thereC _ (.thereC _ (.there _ (.thereC _ (.here _ _)))))))) rfl rfl rfl ho15) ?_
              refine xo_nil (xq_then (xw_seq (xw_seq (xw_region ?_))))
              refine xq rfl trivial (o_mv rfl) ?_
              refine xq rfl trivial (o_mv rfl) ?_
              refine xq rfl trivial (o_eql rfl rfl) ?_
              refine xo_nil (xq_then ?_)
              refine xw_bool 16 rfl (fun hc16 => ?_) (fun hc16 => ?_)
              · have hq16 : (decide (x15 = x15 + 1)) = true := hc16
                have hp16 : x15 = x15 + 1 := of_decide_eq_true hq16
                rw [if_pos hp16] at h
                refine xw_cond_t rfl rfl (xw_seq (xw_region ?_))
                refine xq rfl trivial (o_mv rfl) ?_
                refine xq rfl trivial (o_as rfl) ?_
                refine xo_nil (xq_then (xw_ret (xq_then_ret ?_)))
                refine con_ret1 (.inl rfl) Try.results27 rfl _ (fun _ h => h) (?_)
                refine xq0 trivial (o_stV rfl rfl ts38 (oneOf (OJ.val hJb4_0_1)) (List.Mem.tail _ (List.Mem.tail _ (List.mem_append_right _ (List.Mem.head _)))) (.there _ _ _ _ _ (.there _ _ _ _ _ (Upd.seg (.here _ _ _ _))))) ?_
                refine xo_nil (xq_then (xw_exit (xq_blk_ne rfl (xq_then_exit ?_))))
                exact xq_out (r := (.inl ((out5a ++ [fb4[x15.toNat]!]), fb4) : ((List Int) × (List Int)) ⊕ (Unit))) (e' := [(0, v0), (4, .pointer (some ⟨b4, 0, none⟩)), (5, vs12)]) (Bb4_0_1 ++ (Bs12 ++ ((b4, BK 1 (fun _ => vb4_0_1) 38) :: ([])))) (lc rfl (lc rfl (lc rfl ln))) (fun _ h => St.permI [2, 0, 1] [Bs12, [(b4, _)], Bb4_0_1] rfl (Kp.st (Kp.new hb26 (Kp.new hb7 (Kp.segKeep (Kp.keep (Kp.segKeep Kp.nil))))) _ h)) h (by intro hh; cases hh) ⟨vb4_0_1, vs12, Bs12, Bb4_0_1, rfl, rfl, rfl, hJs12, hJb4_0_1, hcBs12, hcBb4_0_1⟩
              · have hq16 : (decide (x15 = x15 + 1)) = false := hc16
                have hp16 : ¬ (x15 = x15 + 1) := of_decide_eq_false hq16
                rw [if_neg hp16] at h
                refine xw_cond_f rfl rfl (xw_skip (xq_then (xw_seq (xw_region ?_))))
                refine xq rfl trivial (o_mv rfl) ?_
                refine xq rfl trivial (o_lenL rfl Try.underlying38 rfl (OJ.val hJb4_0_1)) ?_
                refine xq rfl trivial (o_as rfl) ?_
                refine xo_nil (xq_then (xw_seq ?_))
                refine xd_start (by kernel_rfl) (by kernel_rfl) (fun hok => ?_)
                refine xd_b hok 0 [(0, _)] ([]) rsN rfl rfl rfl (lc rfl ln) (by kernel_rfl) trivial (fun H' hy hK => o_mv rfl) ?_
                refine xd_b hok 1 [(1, _)] ([]) rsN rfl rfl rfl (lc rfl ln) (by kernel_rfl) trivial (fun H' hy hK => o_mv rfl) ?_
                obtain ⟨ho17, h⟩ := h
                refine xd_b hok 2 [(20, _), (21, _)] (Bb4_0_1 ++ ([])) (rsA (Pull.sub (.thereC _ (.thereC _ (.there _ (.thereC _ (.here _ _)))))) rsN) rfl rfl rfl (lc rfl (lc rfl ln)) (by kernel_rfl) trivial (fun H' hy hK => o_cutH el38 rfl (fun w hw => (hJb4_0_1.sl hw (fun x hx => hy x (Pull.sub (.here _ _) x hx)))) rfl ho17) ?_
                refine xd_b hok 3 [(0, _)] ([]) rsN rfl rfl rfl (lc rfl ln) (by kernel_rfl) trivial (fun H' hy hK => o_mv rfl) ?_
                refine xd_b hok 4 [(2, _)] ([]) rsN rfl rfl rfl (lc rfl ln) (by kernel_rfl) trivial (fun H' hy hK => o_mv rfl) ?_
                obtain ⟨ho18, h⟩ := h
                refine xd_b hok 5 [(23, _), (24, _)] (Bb4_0_1 ++ ([])) (rsA (Pull.sub (.thereC _ (.thereC _ (.there _ (.thereC _ (.here _ _)))))) rsN) rfl rfl rfl (lc rfl (lc rfl ln)) (by kernel_rfl) trivial (fun H' hy hK => o_cutL el38 rfl (fun w hw => (hJb4_0_1.sl hw (fun x hx => hy x (Pull.sub (.here _ _) x hx)))) rfl ho18) ?_
                refine xd_fl hok 1 6 [(22, _), (25, _)] rfl rfl (by kernel_rfl) (by kernel_rfl) (lc rfl (lc rfl ln)) (by kernel_rfl) trivial (OT.push (fun q_ => (b26, BK 1 _ 3) :: ((b7, BK 1 (fun _ => .int .i64 (fb4[x15.toNat]!)) 3) :: (Bs12 ++ ((b4, BK 1 (fun _ => vb4_0_1) 38) :: (q_ ++ ([])))))) (fun _ => (.thereC _ (.thereC _ (.there _ (.thereC _ (.here _ _)))))) (OT.st (fun _ h => Pull.st (.thereC _ (.thereC _ (.there _ (.thereC _ (.here _ _))))) h) (o_appDel (i := x15.toNat) (j := (x15 + 1).toNat) ap38 rfl rfl hJb4_0_1 (by omega) (by omega) (fun _ _ => rfl)))) ?_
                rintro vs19 _ ⟨Bs19, rfl, hns19, hRs19⟩
                have hJs19 := hRs19.oj
                have hcBs19 := Cov.trans hcBb4_0_1 hns19
                refine ⟨(Ks.consK (by simp) (Ks.consK (by simp) (Ks.segK (fun k hk => by simp [hk]) (Ks.consK (by simp) (Ks.segN hcBs19 Ks.nil))))), ?_⟩
                refine xd_show (H' := (b26, BK 1 _ 3) :: ((b7, BK 1 (fun _ => .int .i64 (fb4[x15.toNat]!)) 3) :: (Bs12 ++ ((b4, BK 1 (fun _ => vb4_0_1) 38) :: (Bs19 ++ ([])))))) rfl ?_
                refine xd_b hok 7 [(26, _)] ([]) rsN rfl rfl rfl (lc rfl ln) (by kernel_rfl) trivial (fun H' hy hK => o_as rfl) ?_
                refine xd_end hok (by kernel_rfl) ?_
                refine xq_then (xw_seq (xw_region ?_))
                refine xq rfl trivial (o_mv rfl) ?_
                refine xq rfl trivial (o_mv rfl) ?_
                refine xq rfl trivial (o_lenL rfl Try.underlying38 rfl (OJ.val hJs19)) ?_
                refine xq rfl trivial (o_mv rfl) ?_
                obtain ⟨ho20, h⟩ := h
                refine xq rfl trivial (o_cutR el38 rfl hRs19 rfl rfl ho20) ?_
                refine xo0 trivial (OT.st (fun _ h => Pull.st (.thereC _ (.thereC _ (.there _ (.thereC _ (.here _ _))))) h) (o_clear (ag := false) ap38 ze3 (one_I _) rfl rfl hRs19 ⟨by omega, by omega⟩)) ?_
                rintro _ _ ⟨Bs21, rfl, hns21, hJs21⟩
                have hcBs21 := Cov.trans hcBs19 hns21
                refine xo_st ((b26, BK 1 _ 3) :: ((b7, BK 1 (fun _ => .int .i64 (fb4[x15.toNat]!)) 3) :: (Bs12 ++ ((b4, BK 1 (fun _ => vb4_0_1) 38) :: (Bs21 ++ ([])))))) (fun _ h => Pull.push (.thereC _ (.thereC _ (.there _ (.thereC _ (.here _ _))))) h) ?_
                refine xo_nil (xq_then (xw_seq (xw_region ?_)))
                refine xq rfl trivial (o_mv rfl) ?_
                refine xq rfl trivial (o_as rfl) ?_
                refine xo_nil (xq_then (xw_ret ?_))
                refine con_ret1 (.inl rfl) Try.results27 rfl _ (fun _ h => h) (?_)
                refine xq0 trivial (o_stV rfl rfl ts38 (oneOf (OJ.val hJs21)) (List.Mem.tail _ (List.Mem.tail _ (List.mem_append_right _ (List.Mem.head _)))) (.there _ _ _ _ _ (.there _ _ _ _ _ (Upd.seg (.here _ _ _ _))))) ?_
                refine xo_nil (xq_then (xw_exit (xq_blk_ne rfl (xq_then_exit ?_))))
                exact xq_out (r := (.inl ((out5a ++ [fb4[x15.toNat]!]), ((fb4.take x15.toNat).drop 0 ++ (fb4.take fb4.length).drop (x15 + 1).toNat)) : ((List Int) × (List Int)) ⊕ (Unit))) (e' := [(0, v0), (4, .pointer (some ⟨b4, 0, none⟩)), (5, vs12)]) (Bs21 ++ (Bs12 ++ ((b4, BK 1 (fun _ => vs19) 38) :: ([])))) (lc rfl (lc rfl (lc rfl ln))) (fun _ h => St.permI [2, 0, 1] [Bs12, [(b4, _)], Bs21] rfl (Kp.st (Kp.new hb26 (Kp.new hb7 (Kp.segKeep (Kp.keep (Kp.segKeep Kp.nil))))) _ h)) h (by intro hh; cases hh) ⟨vs19, vs12, Bs12, Bs21, rfl, rfl, rfl, hJs12, hJs21, hcBs12, hcBs21⟩
            rintro _ _ _ ⟨rfl, rfl, rfl⟩
            replace h : gorder_k3b fb4 out5a x15 x4 o := h
            unfold gorder_k3b at h
            refine xq_blk_ret (xq_then_ret ?_)
            refine con_ret1 (.inl rfl) Try.results37 rfl _ (fun _ h => h) (?_)
            refine xq rfl trivial (o_geq rfl rfl) ?_
            refine xq rfl trivial (o_as rfl) ?_
            refine xo_nil (xq_then (xw_ret ?_))
            refine con_ret1 (.inl rfl) Try.results24 rfl _ (fun _ h => h) (?_)
            refine xq rfl trivial (o_not rfl) ?_
            refine xo_nil (xq_then ?_)
            refine xw_bool 23 rfl (fun hc22 => ?_) (fun hc22 => ?_)
            · have hq22 : (decide (0 ≤ x4)) = false := (bnT hc22)
              have hp22 : ¬ (0 ≤ x4) := of_decide_eq_false hq22
              rw [if_neg hp22] at h
              refine xw_cond_t rfl rfl (xw_seq (xw_region ?_))
              refine xq rfl trivial (o_mv rfl) ?_
              refine xq rfl trivial (o_ldV rfl ts3 (List.Mem.head _)) ?_
              refine xo rfl trivial (o_bsl el38 ze3 (cells_one rfl) rfl rfl (.int rfl rfl (.nil _))) ?_
              rintro _ _ ⟨b26, hb26, rfl, rfl⟩
              obtain ⟨ho24, h⟩ := h
              refine xo rfl trivial (OT.st (fun _ h => Pull.st (.thereC _ (.thereC _ (.here _ _))) h) (o_appJ (l := out5a) (l' := [fb4[x15.toNat]!]) (B := B5_2) ap38 rfl rfl hJ5_2 (fun w2 hw2 => (SL.lit (l := [fb4[x15.toNat]!]) hw2 (List.mem_append_right _ (List.Mem.head _)) rfl (by omega) (by simp [maxLen]) (by exact (fun i hi => match i, hi with | 0, _ => rfl | q + 1, h => absurd h (by omega))))) (fun _ _ => rfl) ho24 (len_max ho24 (by decide)))) ?_
              rintro vs23 _ ⟨Bs23, rfl, hns23, hJs23⟩
              have hcBs23 := Cov.trans hcB5_2 hns23
              refine xo_st ((b26, BK 1 _ 3) :: ((b7, BK 1 (fun _ => .int .i64 (fb4[x15.toNat]!)) 3) :: (Bs23 ++ ((b4, BK 1 (fun _ => vb4_0_1) 38) :: (Bb4_0_1 ++ ([])))))) (fun _ h => Pull.push (.thereC _ (.thereC _ (.here _ _))) h) ?_
              refine xq rfl trivial (o_as rfl) ?_
              refine xo_nil (xq_then (xw_seq (xw_region ?_)))
              refine xq rfl trivial (o_ldV rfl ts38 (List.Mem.tail _ (List.Mem.tail _ (List.mem_append_right _ (List.Mem.head _))))) ?_
              refine xq rfl trivial (o_mv rfl) ?_
              refine xq rfl trivial (o_mv rfl) ?_
              obtain ⟨ho25, h⟩ := h
              refine xq rfl trivial (o_add rfl rfl rfl ho25) ?_
              refine xoR rfl trivial (ot_in (l := [(0, _), (1, _), (2, _)]) kf27 rfl Try.func27 rfl Try.ntmps27 rfl (lac rfl (lac rfl (lac rfl lan))) ?_)
              refine xw_seq (xw_region ?_)
              refine xq rfl trivial (o_as rfl) ?_
              refine xo_nil (xq_then (xw_seq (xw_region ?_)))
              refine xq rfl trivial (o_mv rfl) ?_
              refine xq rfl trivial (o_mv rfl) ?_
              refine xq rfl trivial (o_mv rfl) ?_
              refine xq rfl trivial (o_mv rfl) ?_
              refine xq rfl trivial (o_lenL rfl Try.underlying38 rfl (OJ.val hJb4_0_1)) ?_
              obtain ⟨ho26, h⟩ := h
              refine xq rfl trivial (o_cut3 el38 rfl (fun w hw => (hJb4_0_1.sl hw (Pull.sub (.thereC _ (.thereC _ (.there _ (.thereC _ (.here _ _)))))))) rfl rfl rfl ho26) ?_
              refine xo_nil (xq_then (xw_seq (xw_seq (xw_region ?_))))
              refine xq rfl trivial (o_mv rfl) ?_
              refine xq rfl trivial (o_mv rfl) ?_
              refine xq rfl trivial (o_eql rfl rfl) ?_
              refine xo_nil (xq_then ?_)
              refine xw_bool 16 rfl (fun hc27 => ?_) (fun hc27 => ?_)
              · have hq27 : (decide (x15 = x15 + 1)) = true := hc27
                have hp27 : x15 = x15 + 1 := of_decide_eq_true hq27
                rw [if_pos hp27] at h
                refine xw_cond_t rfl rfl (xw_seq (xw_region ?_))
                refine xq rfl trivial (o_mv rfl) ?_
                refine xq rfl trivial (o_as rfl) ?_
                refine xo_nil (xq_then (xw_ret (xq_then_ret ?_)))
                refine con_ret1 (.inl rfl) Try.results27 rfl _ (fun _ h => h) (?_)
                refine xq0 trivial (o_stV rfl rfl ts38 (oneOf (OJ.val hJb4_0_1)) (List.Mem.tail _ (List.Mem.tail _ (List.mem_append_right _ (List.Mem.head _)))) (.there _ _ _ _ _ (.there _ _ _ _ _ (Upd.seg (.here _ _ _ _))))) ?_
                refine xo_nil (xq_then (xw_exit (xq_blk_ne rfl (xq_then_exit ?_))))
                exact xq_out (r := (.inl ((out5a ++ [fb4[x15.toNat]!]), fb4) : ((List Int) × (List Int)) ⊕ (Unit))) (e' := [(0, v0), (4, .pointer (some ⟨b4, 0, none⟩)), (5, vs23)]) (Bb4_0_1 ++ (Bs23 ++ ((b4, BK 1 (fun _ => vb4_0_1) 38) :: ([])))) (lc rfl (lc rfl (lc rfl ln))) (fun _ h => St.permI [2, 0, 1] [Bs23, [(b4, _)], Bb4_0_1] rfl (Kp.st (Kp.new hb26 (Kp.new hb7 (Kp.segKeep (Kp.keep (Kp.segKeep Kp.nil))))) _ h)) h (by intro hh; cases hh) ⟨vb4_0_1, vs23, Bs23, Bb4_0_1, rfl, rfl, rfl, hJs23, hJb4_0_1, hcBs23, hcBb4_0_1⟩
              · have hq27 : (decide (x15 = x15 + 1)) = false := hc27
                have hp27 : ¬ (x15 = x15 + 1) := of_decide_eq_false hq27
                rw [if_neg hp27] at h
                refine xw_cond_f rfl rfl (xw_skip (xq_then (xw_seq (xw_region ?_))))
                refine xq rfl trivial (o_mv rfl) ?_
                refine xq rfl trivial (o_lenL rfl Try.underlying38 rfl (OJ.val hJb4_0_1)) ?_
                refine xq rfl trivial (o_as rfl) ?_
                refine xo_nil (xq_then (xw_seq ?_))
                refine xd_start (by kernel_rfl) (by kernel_rfl) (fun hok => ?_)
                refine xd_b hok 0 [(0, _)] ([]) rsN rfl rfl rfl (lc rfl ln) (by kernel_rfl) trivial (fun H' hy hK => o_mv rfl) ?_
                refine xd_b hok 1 [(1, _)] ([]) rsN rfl rfl rfl (lc rfl ln) (by kernel_rfl) trivial (fun H' hy hK => o_mv rfl) ?_
                obtain ⟨ho28, h⟩ := h
                refine xd_b hok 2 [(20, _), (21, _)] (Bb4_0_1 ++ ([])) (rsA (Pull.sub (.thereC _ (.thereC _ (.there _ (.thereC _ (.here _ _)))))) rsN) rfl rfl rfl (lc rfl (lc rfl ln)) (by kernel_rfl) trivial (fun H' hy hK => o_cutH el38 rfl (fun w hw => (hJb4_0_1.sl hw (fun x hx => hy x (Pull.sub (.here _ _) x hx)))) rfl ho28) ?_
                refine xd_b hok 3 [(0, _)] ([]) rsN rfl rfl rfl (lc rfl ln) (by kernel_rfl) trivial (fun H' hy hK => o_mv rfl) ?_
                refine xd_b hok 4 [(2, _)] ([]) rsN rfl rfl rfl (lc rfl ln) (by kernel_rfl) trivial (fun H' hy hK => o_mv rfl) ?_
                obtain ⟨ho29, h⟩ := h
                refine xd_b hok 5 [(23, _), (24, _)] (Bb4_0_1 ++ ([])) (rsA (Pull.sub (.thereC _ (.thereC _ (.there _ (.thereC _ (.here _ _)))))) rsN) rfl rfl rfl (lc rfl (lc rfl ln)) (by kernel_rfl) trivial (fun H' hy hK => o_cutL el38 rfl (fun w hw => (hJb4_0_1.sl hw (fun x hx => hy x (Pull.sub (.here _ _) x hx)))) rfl ho29) ?_
                refine xd_fl hok 1 6 [(22, _), (25, _)] rfl rfl (by kernel_rfl) (by kernel_rfl) (lc rfl (lc rfl ln)) (by kernel_rfl) trivial (OT.push (fun q_ => (b26, BK 1 _ 3) :: ((b7, BK 1 (fun _ => .int .i64 (fb4[x15.toNat]!)) 3) :: (Bs23 ++ ((b4, BK 1 (fun _ => vb4_0_1) 38) :: (q_ ++ ([])))))) (fun _ => (.thereC _ (.thereC _ (.there _ (.thereC _ (.here _ _)))))) (OT.st (fun _ h => Pull.st (.thereC _ (.thereC _ (.there _ (.thereC _ (.here _ _))))) h) (o_appDel (i := x15.toNat) (j := (x15 + 1).toNat) ap38 rfl rfl hJb4_0_1 (by omega) (by omega) (fun _ _ => rfl)))) ?_
                rintro vs30 _ ⟨Bs30, rfl, hns30, hRs30⟩
                have hJs30 := hRs30.oj
                have hcBs30 := Cov.trans hcBb4_0_1 hns30
                refine ⟨(Ks.consK (by simp) (Ks.consK (by simp) (Ks.segK (fun k hk => by simp [hk]) (Ks.consK (by simp) (Ks.segN hcBs30 Ks.nil))))), ?_⟩
                refine xd_show (H' := (b26, BK 1 _ 3) :: ((b7, BK 1 (fun _ => .int .i64 (fb4[x15.toNat]!)) 3) :: (Bs23 ++ ((b4, BK 1 (fun _ => vb4_0_1) 38) :: (Bs30 ++ ([])))))) rfl ?_
                refine xd_b hok 7 [(26, _)] ([]) rsN rfl rfl rfl (lc rfl ln) (by kernel_rfl) trivial (fun H' hy hK => o_as rfl) ?_
                refine xd_end hok (by kernel_rfl) ?_
                refine xq_then (xw_seq (xw_region ?_))
                refine xq rfl trivial (o_mv rfl) ?_
                refine xq rfl trivial (o_mv rfl) ?_
                refine xq rfl trivial (o_lenL rfl Try.underlying38 rfl (OJ.val hJs30)) ?_
                refine xq rfl trivial (o_mv rfl) ?_
                obtain ⟨ho31, h⟩ := h
                refine xq rfl trivial (o_cutR el38 rfl hRs30 rfl rfl ho31) ?_
                refine xo0 trivial (OT.st (fun _ h => Pull.st (.thereC _ (.thereC _ (.there _ (.thereC _ (.here _ _))))) h) (o_clear (ag := false) ap38 ze3 (one_I _) rfl rfl hRs30 ⟨by omega, by omega⟩)) ?_
                rintro _ _ ⟨Bs32, rfl, hns32, hJs32⟩
                have hcBs32 := Cov.trans hcBs30 hns32
                refine xo_st ((b26, BK 1 _ 3) :: ((b7, BK 1 (fun _ => .int .i64 (fb4[x15.toNat]!)) 3) :: (Bs23 ++ ((b4, BK 1 (fun _ => vb4_0_1) 38) :: (Bs32 ++ ([])))))) (fun _ h => Pull.push (.thereC _ (.thereC _ (.there _ (.thereC _ (.here _ _))))) h) ?_
                refine xo_nil (xq_then (xw_seq (xw_region ?_)))
                refine xq rfl trivial (o_mv rfl) ?_
                refine xq rfl trivial (o_as rfl) ?_
                refine xo_nil (xq_then (xw_ret ?_))
                refine con_ret1 (.inl rfl) Try.results27 rfl _ (fun _ h => h) (?_)
                refine xq0 trivial (o_stV rfl rfl ts38 (oneOf (OJ.val hJs32)) (List.Mem.tail _ (List.Mem.tail _ (List.mem_append_right _ (List.Mem.head _)))) (.there _ _ _ _ _ (.there _ _ _ _ _ (Upd.seg (.here _ _ _ _))))) ?_
                refine xo_nil (xq_then (xw_exit (xq_blk_ne rfl (xq_then_exit ?_))))
                exact xq_out (r := (.inl ((out5a ++ [fb4[x15.toNat]!]), ((fb4.take x15.toNat).drop 0 ++ (fb4.take fb4.length).drop (x15 + 1).toNat)) : ((List Int) × (List Int)) ⊕ (Unit))) (e' := [(0, v0), (4, .pointer (some ⟨b4, 0, none⟩)), (5, vs23)]) (Bs32 ++ (Bs23 ++ ((b4, BK 1 (fun _ => vs30) 38) :: ([])))) (lc rfl (lc rfl (lc rfl ln))) (fun _ h => St.permI [2, 0, 1] [Bs23, [(b4, _)], Bs32] rfl (Kp.st (Kp.new hb26 (Kp.new hb7 (Kp.segKeep (Kp.keep (Kp.segKeep Kp.nil))))) _ h)) h (by intro hh; cases hh) ⟨vs30, vs23, Bs23, Bs32, rfl, rfl, rfl, hJs23, hJs32, hcBs23, hcBs32⟩
            · have hq22 : (decide (0 ≤ x4)) = true := (bnF hc22)
              have hp22 : 0 ≤ x4 := of_decide_eq_true hq22
              rw [if_pos hp22] at h
              refine xw_cond_f rfl rfl (xw_skip ?_)
              refine xq_blk 3 ?_
              refine xq_then (xw_region ?_)
              obtain ⟨ho33, h⟩ := h
              refine xq rfl trivial (o_add rfl rfl rfl ho33) ?_
              refine xq rfl trivial (o_mv rfl) ?_
              refine xo_nil ?_
              exact xq_next (s' := ((out5a, x15 + 1) : (List Int) × Int)) (e' := [(0, v0), (4, .pointer (some ⟨b4, 0, none⟩)), (5, v5_2), (13, vb4_0_1), (14, .int .i64 (fb4.length : Int)), (15, .int .i64 (x15 + 1))]) (B5_2 ++ ((b4, BK 1 (fun _ => vb4_0_1) 38) :: (Bb4_0_1 ++ ([])))) (lc rfl (lc rfl (lc rfl (lc rfl (lc rfl (lc rfl ln)))))) (Kp.st (Kp.new hb7 (Kp.segKeep (Kp.keep (Kp.segKeep Kp.nil))))) h ⟨v5_2, B5_2, rfl, rfl, hJ5_2, hcB5_2⟩
        · have hq4 : (decide (x15 < (fb4.length : Int))) = false := hc4
          have hp4 : ¬ (x15 < (fb4.length : Int)) := of_decide_eq_false hq4
          rw [if_neg hp4] at h
          refine xw_cond_f rfl rfl (xw_exit (xq_then_exit ?_))
          exact xq_out (r := (.inr () : ((List Int) × (List Int)) ⊕ (Unit))) (e' := []) (B5_2 ++ ((b4, BK 1 (fun _ => vb4_0_1) 38) :: (Bb4_0_1 ++ ([])))) ln (fun _ h => h) h (by intro hh; cases hh) ⟨B5_2, rfl, rfl, rfl, hcB5_2⟩
      · rcases x2 with ⟨out5a, fb4a⟩ | x2
        · rintro _ _ _ ⟨vb4_0_2o, v5_2o, B5_2o, Bb4_0_2o, rfl, rfl, rfl, hJ5_2o, hJb4_0_2o, hcB5_2o, hcBb4_0_2o⟩
          replace h : gorder_k2a out5a fb4a o := h
          unfold gorder_k2a at h
          refine xq_blk_ne rfl (xq_then_exit ?_)
          refine xq_blk_eq ?_
          exact xq_next (s' := ((out5a, fb4a) : (List Int) × (List Int))) (e' := [(0, v0), (4, .pointer (some ⟨b4, 0, none⟩)), (5, v5_2o)]) (B5_2o ++ ((b4, BK 1 (fun _ => vb4_0_2o) 38) :: (Bb4_0_2o ++ ([])))) (lc rfl (lc rfl (lc rfl ln))) (fun _ h => St.permI [1, 2, 0] [Bb4_0_2o, B5_2o, [(b4, _)]] rfl (h)) h ⟨vb4_0_2o, v5_2o, B5_2o, Bb4_0_2o, rfl, rfl, hJ5_2o, hJb4_0_2o, hcB5_2o, hcBb4_0_2o⟩
        cases x2
        rintro _ _ _ ⟨B5_2o, rfl, rfl, rfl, hcB5_2o⟩
        replace h : gorder_k2b fb4 o := h
        unfold gorder_k2b at h
        refine xq_blk_eq ?_
        refine xq_then (xw_seq (xw_region ?_))
        refine xq rfl trivial (o_mki rfl Try.underlying58 rfl) ?_
        refine xq rfl trivial (o_as rfl) ?_
        refine xq rfl trivial (o_as rfl) ?_
        refine xo_nil (xq_then (xw_ret (xq_blk_ret ?_)))
        exact xq_out (r := (.inr fb4 : ((List Int) × (List Int)) ⊕ ((List Int)))) (e' := [(2, .slice none 0 0), (3, .iface 58 (.int .i64 11))]) ([] ++ ((b4, BK 1 (fun _ => vb4_0_1) 38) :: (Bb4_0_1 ++ ([])))) (lc rfl (lc rfl ln)) (Kp.st (Kp.segNew (Cov.fresh hcB5_2o) (Kp.keep (Kp.segKeep Kp.nil)))) h (by intro hh; cases hh) ⟨vb4_0_1, [], Bb4_0_1, rfl, rfl, rfl, hJb4_0_1, (Cov.refl _), hcBb4_0_1⟩
    · have hq3 : (decide (0 < (fb4.length : Int))) = false := hc3
      have hp3 : ¬ (0 < (fb4.length : Int)) := of_decide_eq_false hq3
      rw [if_neg hp3] at h
      refine xw_cond_f rfl rfl (xw_exit (xq_then_exit ?_))
      exact xq_out (r := (.inl (out5, fb4) : ((List Int) × (List Int)) ⊕ ((List Int)))) (e' := [(5, v5_1)]) (B5_1 ++ ((b4, BK 1 (fun _ => vb4_0_1) 38) :: (Bb4_0_1 ++ ([])))) (lc rfl ln) (fun _ h => h) h (by intro hh; cases hh) ⟨vb4_0_1, v5_1, B5_1, Bb4_0_1, rfl, rfl, rfl, hJ5_1, hJb4_0_1, hcB5_1, hcBb4_0_1⟩
  · rcases x1 with ⟨out5, fb4⟩ | fb4
    · rintro _ _ _ ⟨vb4_0_1o, v5_1o, B5_1o, Bb4_0_1o, rfl, rfl, rfl, hJ5_1o, hJb4_0_1o, hcB5_1o, hcBb4_0_1o⟩
      replace h : gorder_k1a out5 fb4 r := h
      unfold gorder_k1a at h
      refine xq_blk_eq ?_
      refine xq_then (xw_seq (xw_region ?_))
      refine xq rfl trivial (o_mv rfl) ?_
      refine xq rfl trivial (o_as rfl) ?_
      refine xq rfl trivial (o_as rfl) ?_
      refine xo_nil (xq_then (xw_ret ?_))
      refine xq_scope_r ?_
      subst h
      exact con_ret2 (.inl rfl) Try.results14 rfl rfl (B5_1o ++ []) (Kp.st (Kp.segKeep (Kp.new hb4 (Kp.segNew (Cov.fresh hcBb4_0_1o) Kp.nil)))) (⟨_, B5_1o, rfl, rfl, hJ5_1o, hcB5_1o⟩)
    rintro _ _ _ ⟨vb4_0_1o, B5_1o, Bb4_0_1o, rfl, rfl, rfl, hJb4_0_1o, hcB5_1o, hcBb4_0_1o⟩
    replace h : gorder_k1b fb4 r := h
    unfold gorder_k1b at h
    refine xq_blk_ret (xq_then_ret ?_)
    refine xq_scope_r ?_
    subst h
    exact con_ret2 (.inl rfl) Try.results14 rfl rfl [] (Kp.st (Kp.segNew (Cov.fresh hcB5_1o) (Kp.new hb4 (Kp.segNew (Cov.fresh hcBb4_0_1o) Kp.nil)))) (⟨_, [], rfl, rfl, OJ.nil, Cov.refl _⟩)

end Go.Proofs.Ytcnbdkkmcdjncaa
