/- The code answers as the relations say. -/
import Derived.Test.YtcnbdkkmcdjncaaTab
import Derived.Test.YtcnbdkkmcdjncaaE11S
import Derived.Test.YtcnbdkkmcdjncaaD11W
set_option maxHeartbeats 1000000
set_option linter.unusedVariables false
set_option linter.unusedSimpArgs false
set_option maxRecDepth 100000
namespace Go.Proofs.Ytcnbdkkmcdjncaa
open Go Go.E

theorem gnext_con (l0 : (List (Nat → Int))) (from1 : Int) (v0 : Value) (w : World) (hs0 : SL w 4 iv v0 l0) (r : (List Int)) (h : gnext_S l0 from1 r) : Con Try.prog 31 #[v0, .int .i64 from1] w (fun v F => ∃ (u0 : Value) (C0 : GH), v = u0 ∧ F = (C0 ++ []) ∧ OJ 3 1 ic C0 u0 r ∧ Cov w [] C0) := by
  unfold gnext_S at h
  refine con_enter (n := 26) [(0, _), (1, _)] Try.func31 rfl Try.ntmps31 rfl (lac rfl (lac rfl lan)) ?_
  refine xw_seq (xw_region ?_)
  refine xq rfl trivial (o_as rfl) ?_
  refine xo_nil (xq_then (xw_seq (xw_region ?_)))
  refine xo rfl trivial (o_mkmap (α := Bool) (cv := kB) kt3 Try.underlying64) ?_
  rintro vs1 _ ⟨Bs1, rfl, hns1, hJs1⟩
  have hcBs1 := hns1
  refine xq rfl trivial (o_as rfl) ?_
  refine xo_nil (xq_then (xw_seq (xw_seq (xw_region ?_))))
  refine xq rfl trivial (o_mv rfl) ?_
  refine xq rfl trivial (o_lenL rfl Try.underlying22 rfl (SL.val hs0)) ?_
  refine xq rfl trivial (o_mv rfl) ?_
  refine xo_nil (xq_then ?_)
  refine xw_block ?_
  obtain ⟨to5, hx1, h⟩ := h
  refine xw_wh (fun s e H => match s with | (to5, x11) => ∃ (v5_1 : Value) (B5_1 : GH), e = [(1, .int .i64 from1), (5, v5_1), (9, v0), (10, .int .i64 (l0.length : Int)), (11, .int .i64 x11)] ∧ H = B5_1 ++ ([]) ∧ MJ kI kB ieq B5_1 v5_1 to5 ∧ Cov w [] B5_1) (fun (to5 : (List (Int × Bool))) ex e H => ∃ (v5_1o : Value) (B5_1o : GH), ex = .exit 0 ∧ e = [(5, v5_1o)] ∧ H = B5_1o ++ ([]) ∧ MJ kI kB ieq B5_1o v5_1o to5 ∧ Cov w [] B5_1o) hx1 ⟨[(1, .int .i64 from1), (5, vs1), (9, v0), (10, .int .i64 (l0.length : Int)), (11, .int .i64 0)], Bs1 ++ ([]), (lc rfl (lc rfl (lc rfl (lc rfl (lc rfl ln))))), fun _ h => h, ⟨vs1, Bs1, rfl, rfl, hJs1, hcBs1⟩⟩ ?_ ?_
  · rintro ⟨to5, x11⟩ o _ _ ⟨v5_1, B5_1, rfl, rfl, hJ5_1, hcB5_1⟩ hb
    have h : gnext_l1 l0 from1 to5 x11 o := hb
    clear hb
    unfold gnext_l1 at h
    refine xw_seq (xw_region ?_)
    refine xq rfl trivial (o_lss rfl rfl) ?_
    refine xo_nil (xq_then (xw_seq ?_))
    refine xw_bool 12 rfl (fun hc2 => ?_) (fun hc2 => ?_)
    · have hq2 : (decide (x11 < (l0.length : Int))) = true := hc2
      have hp2 : x11 < (l0.length : Int) := of_decide_eq_true hq2
      rw [if_pos hp2] at h
      refine xw_cond_t rfl rfl (xw_skip (xq_then (xw_seq ?_)))
      refine xw_block ?_
      refine xw_seq (xw_region ?_)
      obtain ⟨ho3, h⟩ := h
      refine xq rfl trivial (o_ixL el22 rfl rfl (fun w hw => (hs0.keep hw (Fr.seg hcB5_1 Fr.nil))) rfl ho3) ?_
      refine xq rfl trivial (o_ldLI rfl ts37 rfl (fun w hw => (hs0.keep hw (Fr.seg hcB5_1 Fr.nil))) (toNat_lt ho3) rfl) ?_
      refine xo rfl trivial (o_alloc ze37 rfl) ?_
      rintro _ _ ⟨b7, hb7, rfl, rfl⟩
      refine xq0 trivial (o_stWI rfl rfl ts37 (List.Mem.head _) (.here _ _ _ _)) ?_
      refine xo_nil (xq_then (xw_seq (xw_region ?_)))
      first | refine xq rfl trivial (o_fa0 fl37_0 rfl) ?_ | refine xq rfl trivial (o_fa fl37_0 rfl) ?_
      refine xq rfl trivial (o_ldI (v := (l0[x11.toNat]!) 0) rfl ts3 (List.Mem.head _) (by omega) rfl) ?_
      refine xq rfl trivial (o_mv rfl) ?_
      refine xq rfl trivial (o_eql rfl rfl) ?_
      refine xo_nil (xq_then ?_)
      refine xw_bool 18 rfl (fun hc4 => ?_) (fun hc4 => ?_)
      · have hq4 : (decide ((l0[x11.toNat]!) 0 = from1)) = true := hc4
        have hp4 : (l0[x11.toNat]!) 0 = from1 := of_decide_eq_true hq4
        rw [if_pos hp4] at h
        refine xw_cond_t rfl rfl (xw_region ?_)
        refine xq rfl trivial (o_mv rfl) ?_
        first | refine xq rfl trivial (o_fa0 fl37_2 rfl) ?_ | refine xq rfl trivial (o_fa fl37_2 rfl) ?_
        refine xq rfl trivial (o_ldI (v := (l0[x11.toNat]!) 2) rfl ts3 (List.Mem.head _) (by omega) rfl) ?_
        refine xo0 trivial (OT.st (fun _ h => Pull.st (.thereC _ (.here _ _)) h) (o_mset (k := (l0[x11.toNat]!) 2) (e := true) kt3 Try.underlying64 rfl rfl rfl hJ5_1)) ?_
        rintro _ _ ⟨Bs5, rfl, hns5, hJs5⟩
        have hcBs5 := Cov.trans hcB5_1 hns5
        refine xo_st ((b7, BK 4 (iv (l0[x11.toNat]!)) 37) :: (Bs5 ++ ([]))) (fun _ h => Pull.push (.thereC _ (.here _ _)) h) ?_
        refine xo_nil ?_
        refine xq_blk 1 ?_
        refine xq_then (xw_region ?_)
        obtain ⟨ho6, h⟩ := h
        refine xq rfl trivial (o_add rfl rfl rfl ho6) ?_
        refine xq rfl trivial (o_mv rfl) ?_
        refine xo_nil ?_
        exact xq_next (s' := ((mset ieq to5 ((l0[x11.toNat]!) 2) true, x11 + 1) : (List (Int × Bool)) × Int)) (e' := [(1, .int .i64 from1), (5, v5_1), (9, v0), (10, .int .i64 (l0.length : Int)), (11, .int .i64 (x11 + 1))]) (Bs5 ++ ([])) (lc rfl (lc rfl (lc rfl (lc rfl (lc rfl ln))))) (Kp.st (Kp.new hb7 (Kp.segKeep Kp.nil))) h ⟨v5_1, Bs5, rfl, rfl, hJs5, hcBs5⟩
      · have hq4 : (decide ((l0[x11.toNat]!) 0 = from1)) = false := hc4
        have hp4 : ¬ ((l0[x11.toNat]!) 0 = from1) := of_decide_eq_false hq4
        rw [if_neg hp4] at h
        refine xw_cond_f rfl rfl (xw_skip ?_)
        refine xq_blk 1 ?_
        refine xq_then (xw_region ?_)
        obtain ⟨ho7, h⟩ := h
        refine xq rfl trivial (o_add rfl rfl rfl ho7) ?_
        refine xq rfl trivial (o_mv rfl) ?_
        refine xo_nil ?_
        exact xq_next (s' := ((to5, x11 + 1) : (List (Int × Bool)) × Int)) (e' := [(1, .int .i64 from1), (5, v5_1), (9, v0), (10, .int .i64 (l0.length : Int)), (11, .int .i64 (x11 + 1))]) (B5_1 ++ ([])) (lc rfl (lc rfl (lc rfl (lc rfl (lc rfl ln))))) (Kp.st (Kp.new hb7 (Kp.segKeep Kp.nil))) h ⟨v5_1, B5_1, rfl, rfl, hJ5_1, hcB5_1⟩
    · have hq2 : (decide (x11 < (l0.length : Int))) = false := hc2
      have hp2 : ¬ (x11 < (l0.length : Int)) := of_decide_eq_false hq2
      rw [if_neg hp2] at h
      refine xw_cond_f rfl rfl (xw_exit (xq_then_exit ?_))
      exact xq_out (r := (to5 : (List (Int × Bool)))) (e' := [(5, v5_1)]) (B5_1 ++ ([])) (lc rfl ln) (fun _ h => h) h (by intro hh; cases hh) ⟨v5_1, B5_1, rfl, rfl, rfl, hJ5_1, hcB5_1⟩
  · rintro _ _ _ ⟨v5_1o, B5_1o, rfl, rfl, rfl, hJ5_1o, hcB5_1o⟩
    replace h : gnext_k1a to5 r := h
    unfold gnext_k1a at h
    refine xq_blk_eq ?_
    refine xq_then (xw_seq (xw_region ?_))
    refine xq rfl trivial (o_mv rfl) ?_
    refine xoR rfl trivial (ot_in (l := [(0, _)]) kf36 rfl Try.func36 rfl Try.ntmps36 rfl (lac rfl lan) ?_)
    refine xw_seq (xw_region ?_)
    refine xo rfl trivial (o_box1 rfl (MJ.one hJ5_1o)) ?_
    rintro _ _ ⟨b1, hb1, rfl, rfl⟩
    refine xq rfl trivial (o_as rfl) ?_
    refine xo_nil (xq_then (xw_seq (xw_region ?_)))
    refine xq rfl trivial (o_mkf rfl rfl) ?_
    refine xq rfl trivial (o_as rfl) ?_
    refine xo_nil (xq_then (xw_ret ?_))
    refine con_ret1 (.inl rfl) Try.results36 rfl _ (fun _ h => h) (?_)
    obtain ⟨ho8, h⟩ := h
    refine xcall rfl trivial kf18 rfl (fun w1 hw1 => sk42_c (hw1.own _ _ (List.Mem.head _)) hJ5_1o (fun x hx => hw1.own x.1 x.2 (Pull.sub (.thereC _ (.here _ _)) x hx)) ho8) ?_
    rintro w1 vs9 _ hw1 ⟨_, Bs9, rfl, rfl, hJs9, hcBs9⟩
    refine ⟨_, .news (Cov.fresh hcBs9) (.nil _), ?_⟩
    replace hcBs9 := Cov.base (w0 := w) hcBs9 hw1.size
    refine xq rfl trivial (o_as rfl) ?_
    refine xo_nil (xq_then (xw_ret ?_))
    subst h
    exact con_ret1 (.inl rfl) Try.results31 rfl (Bs9 ++ []) (Kp.st (Kp.segKeep (Kp.new hb1 (Kp.segNew (Cov.fresh hcB5_1o) Kp.nil)))) (⟨_, Bs9, rfl, rfl, hJs9, hcBs9⟩)

theorem gnodes_con (l0 : (List (Nat → Int))) (v0 : Value) (w : World) (hs0 : SL w 4 iv v0 l0) (r : (List Int)) (h : gnodes_S l0 r) : Con Try.prog 23 #[v0] w (fun v F => ∃ (u0 : Value) (C0 : GH), v = u0 ∧ F = (C0 ++ []) ∧ OJ 3 1 ic C0 u0 r ∧ Cov w [] C0) := by
  unfold gnodes_S at h
  refine con_enter (n := 23) [(0, _)] Try.func23 rfl Try.ntmps23 rfl (lac rfl lan) ?_
  refine xw_seq (xw_region ?_)
  refine xq rfl trivial (o_as rfl) ?_
  refine xo_nil (xq_then (xw_seq (xw_region ?_)))
  refine xo rfl trivial (o_mkmap (α := Bool) (cv := kB) kt3 Try.underlying64) ?_
  rintro vs1 _ ⟨Bs1, rfl, hns1, hJs1⟩
  have hcBs1 := hns1
  refine xq rfl trivial (o_as rfl) ?_
  refine xo_nil (xq_then (xw_seq (xw_seq (xw_region ?_))))
  refine xq rfl trivial (o_mv rfl) ?_
  refine xq rfl trivial (o_lenL rfl Try.underlying22 rfl (SL.val hs0)) ?_
  refine xq rfl trivial (o_mv rfl) ?_
  refine xo_nil (xq_then ?_)
  refine xw_block ?_
  obtain ⟨all3, hx1, h⟩ := h
  refine xw_wh (fun s e H => match s with | (all3, x9) => ∃ (v3_1 : Value) (B3_1 : GH), e = [(3, v3_1), (7, v0), (8, .int .i64 (l0.length : Int)), (9, .int .i64 x9)] ∧ H = B3_1 ++ ([]) ∧ MJ kI kB ieq B3_1 v3_1 all3 ∧ Cov w [] B3_1) (fun (all3 : (List (Int × Bool))) ex e H => ∃ (v3_1o : Value) (B3_1o : GH), ex = .exit 0 ∧ e = [(3, v3_1o)] ∧ H = B3_1o ++ ([]) ∧ MJ kI kB ieq B3_1o v3_1o all3 ∧ Cov w [] B3_1o) hx1 ⟨[(3, vs1), (7, v0), (8, .int .i64 (l0.length : Int)), (9, .int .i64 0)], Bs1 ++ ([]), (lc rfl (lc rfl (lc rfl (lc rfl ln)))), fun _ h => h, ⟨vs1, Bs1, rfl, rfl, hJs1, hcBs1⟩⟩ ?_ ?_
  · rintro ⟨all3, x9⟩ o _ _ ⟨v3_1, B3_1, rfl, rfl, hJ3_1, hcB3_1⟩ hb
    have h : gnodes_l1 l0 all3 x9 o := hb
    clear hb
    unfold gnodes_l1 at h
    refine xw_seq (xw_region ?_)
    refine xq rfl trivial (o_lss rfl rfl) ?_
    refine xo_nil (xq_then (xw_seq ?_))
    refine xw_bool 10 rfl (fun hc2 => ?_) (fun hc2 => ?_)
    · have hq2 : (decide (x9 < (l0.length : Int))) = true := hc2
      have hp2 : x9 < (l0.length : Int) := of_decide_eq_true hq2
      rw [if_pos hp2] at h
      refine xw_cond_t rfl rfl (xw_skip (xq_then (xw_seq ?_)))
      refine xw_block ?_
      refine xw_seq (xw_region ?_)
      obtain ⟨ho3, h⟩ := h
      refine xq rfl trivial (o_ixL el22 rfl rfl (fun w hw => (hs0.keep hw (Fr.seg hcB3_1 Fr.nil))) rfl ho3) ?_
      refine xq rfl trivial (o_ldLI rfl ts37 rfl (fun w hw => (hs0.keep hw (Fr.seg hcB3_1 Fr.nil))) (toNat_lt ho3) rfl) ?_
      refine xo rfl trivial (o_alloc ze37 rfl) ?_
      rintro _ _ ⟨b5, hb5, rfl, rfl⟩
      refine xq0 trivial (o_stWI rfl rfl ts37 (List.Mem.head _) (.here _ _ _ _)) ?_
      refine xo_nil (xq_then (xw_seq (xw_region ?_)))
      refine xq rfl trivial (o_mv rfl) ?_
      first | refine xq rfl trivial (o_fa0 fl37_0 rfl) ?_ | refine xq rfl trivial (o_fa fl37_0 rfl) ?_
      refine xq rfl trivial (o_ldI (v := (l0[x9.toNat]!) 0) rfl ts3 (List.Mem.head _) (by omega) rfl) ?_
      refine xo0 trivial (OT.st (fun _ h => Pull.st (.thereC _ (.here _ _)) h) (o_mset (k := (l0[x9.toNat]!) 0) (e := true) kt3 Try.underlying64 rfl rfl rfl hJ3_1)) ?_
      rintro _ _ ⟨Bs4, rfl, hns4, hJs4⟩
      have hcBs4 := Cov.trans hcB3_1 hns4
      refine xo_st ((b5, BK 4 (iv (l0[x9.toNat]!)) 37) :: (Bs4 ++ ([]))) (fun _ h => Pull.push (.thereC _ (.here _ _)) h) ?_
      refine xo_nil (xq_then (xw_region ?_))
      refine xq rfl trivial (o_mv rfl) ?_
      first | refine xq rfl trivial (o_fa0 fl37_2 rfl) ?_ | refine xq rfl trivial (o_fa fl37_2 rfl) ?_
      refine xq rfl trivial (o_ldI (v := (l0[x9.toNat]!) 2) rfl ts3 (List.Mem.head _) (by omega) rfl) ?_
      refine xo0 trivial (OT.st (fun _ h => Pull.st (.thereC _ (.here _ _)) h) (o_mset (k := (l0[x9.toNat]!) 2) (e := true) kt3 Try.underlying64 rfl rfl rfl hJs4)) ?_
      rintro _ _ ⟨Bs5, rfl, hns5, hJs5⟩
      have hcBs5 := Cov.trans hcBs4 hns5
      refine xo_st ((b5, BK 4 (iv (l0[x9.toNat]!)) 37) :: (Bs5 ++ ([]))) (fun _ h => Pull.push (.thereC _ (.here _ _)) h) ?_
      refine xo_nil ?_
      refine xq_blk 1 ?_
      refine xq_then (xw_region ?_)
      obtain ⟨ho6, h⟩ := h
      refine xq rfl trivial (o_add rfl rfl rfl ho6) ?_
      refine xq rfl trivial (o_mv rfl) ?_
      refine xo_nil ?_
      exact xq_next (s' := ((mset ieq (mset ieq all3 ((l0[x9.toNat]!) 0) true) ((l0[x9.toNat]!) 2) true, x9 + 1) : (List (Int × Bool)) × Int)) (e' := [(3, v3_1), (7, v0), (8, .int .i64 (l0.length : Int)), (9, .int .i64 (x9 + 1))]) (Bs5 ++ ([])) (lc rfl (lc rfl (lc rfl (lc rfl ln)))) (Kp.st (Kp.new hb5 (Kp.segKeep Kp.nil))) h ⟨v3_1, Bs5, rfl, rfl, hJs5, hcBs5⟩
    · have hq2 : (decide (x9 < (l0.length : Int))) = false := hc2
      have hp2 : ¬ (x9 < (l0.length : Int)) := of_decide_eq_false hq2
      rw [if_neg hp2] at h
      refine xw_cond_f rfl rfl (xw_exit (xq_then_exit ?_))
      exact xq_out (r := (all3 : (List (Int × Bool)))) (e' := [(3, v3_1)]) (B3_1 ++ ([])) (lc rfl ln) (fun _ h => h) h (by intro hh; cases hh) ⟨v3_1, B3_1, rfl, rfl, rfl, hJ3_1, hcB3_1⟩
  · rintro _ _ _ ⟨v3_1o, B3_1o, rfl, rfl, rfl, hJ3_1o, hcB3_1o⟩
    replace h : gnodes_k1a all3 r := h
    unfold gnodes_k1a at h
    refine xq_blk_eq ?_
    refine xq_then (xw_seq (xw_region ?_))
    refine xq rfl trivial (o_mv rfl) ?_
    refine xoR rfl trivial (ot_in (l := [(0, _)]) kf36 rfl Try.func36 rfl Try.ntmps36 rfl (lac rfl lan) ?_)
    refine xw_seq (xw_region ?_)
    refine xo rfl trivial (o_box1 rfl (MJ.one hJ3_1o)) ?_
    rintro _ _ ⟨b1, hb1, rfl, rfl⟩
    refine xq rfl trivial (o_as rfl) ?_
    refine xo_nil (xq_then (xw_seq (xw_region ?_)))
    refine xq rfl trivial (o_mkf rfl rfl) ?_
    refine xq rfl trivial (o_as rfl) ?_
    refine xo_nil (xq_then (xw_ret ?_))
    refine con_ret1 (.inl rfl) Try.results36 rfl _ (fun _ h => h) (?_)
    obtain ⟨ho7, h⟩ := h
    refine xcall rfl trivial kf18 rfl (fun w1 hw1 => sk42_c (hw1.own _ _ (List.Mem.head _)) hJ3_1o (fun x hx => hw1.own x.1 x.2 (Pull.sub (.thereC _ (.here _ _)) x hx)) ho7) ?_
    rintro w1 vs8 _ hw1 ⟨_, Bs8, rfl, rfl, hJs8, hcBs8⟩
    refine ⟨_, .news (Cov.fresh hcBs8) (.nil _), ?_⟩
    replace hcBs8 := Cov.base (w0 := w) hcBs8 hw1.size
    refine xq rfl trivial (o_as rfl) ?_
    refine xo_nil (xq_then (xw_ret ?_))
    subst h
    exact con_ret1 (.inl rfl) Try.results23 rfl (Bs8 ++ []) (Kp.st (Kp.segKeep (Kp.new hb1 (Kp.segNew (Cov.fresh hcB3_1o) Kp.nil)))) (⟨_, Bs8, rfl, rfl, hJs8, hcBs8⟩)

theorem hasI_con (s0 : (List Int)) (v1 : Int) (v0 : Value) (w : World) (hs0 : SL w 1 ic v0 s0) (r : Bool) (h : hasI_S s0 v1 r) : Con Try.prog 26 #[v0, .int .i64 v1] w (Is (.bool r) []) := by
  unfold hasI_S at h
  refine con_enter (n := 9) [(0, _), (1, _)] Try.func26 rfl Try.ntmps26 rfl (lac rfl (lac rfl lan)) ?_
  refine xw_seq (xw_region ?_)
  refine xq rfl trivial (o_as rfl) ?_
  refine xo_nil (xq_then (xw_seq (xw_region ?_)))
  refine xq rfl trivial (o_mv rfl) ?_
  refine xq rfl trivial (o_mv rfl) ?_
  refine xoR rfl trivial (ot_in (l := [(0, _), (1, _)]) kf38 rfl Try.func38 rfl Try.ntmps38 rfl (lac rfl (lac rfl lan)) ?_)
  refine xw_seq (xw_region ?_)
  refine xq rfl trivial (o_as rfl) ?_
  refine xo_nil (xq_then (xw_seq (xw_seq (xw_region ?_))))
  refine xq rfl trivial (o_mv rfl) ?_
  refine xq rfl trivial (o_lenL rfl Try.underlying38 rfl (SL.val hs0)) ?_
  refine xq rfl trivial (o_mv rfl) ?_
  refine xo_nil (xq_then ?_)
  refine xw_block ?_
  obtain ⟨x1, hx1, h⟩ := h
  refine xw_wh (fun (x8 : Int) e H => e = [(0, v0), (1, .int .i64 v1), (7, .int .i64 (s0.length : Int)), (8, .int .i64 x8)] ∧ H = []) (fun x ex e H => match x with | .inl _ => ex = .exit 0 ∧ e = [] ∧ H = [] | .inr x4 => ex = .ret ∧ e = [(4, .int .i64 x4)] ∧ H = []) hx1 ⟨[(0, v0), (1, .int .i64 v1), (7, .int .i64 (s0.length : Int)), (8, .int .i64 0)], [], (lc rfl (lc rfl (lc rfl (lc rfl ln)))), fun _ h => h, ⟨rfl, rfl⟩⟩ ?_ ?_
  · rintro x8 o _ _ ⟨rfl, rfl⟩ hb
    have h : hasI_l1 s0 v1 x8 o := hb
    clear hb
    unfold hasI_l1 at h
    refine xw_seq (xw_region ?_)
    refine xq rfl trivial (o_lss rfl rfl) ?_
    refine xo_nil (xq_then (xw_seq ?_))
    refine xw_bool 9 rfl (fun hc1 => ?_) (fun hc1 => ?_)
    · have hq1 : (decide (x8 < (s0.length : Int))) = true := hc1
      have hp1 : x8 < (s0.length : Int) := of_decide_eq_true hq1
      rw [if_pos hp1] at h
      refine xw_cond_t rfl rfl (xw_skip (xq_then (xw_seq ?_)))
      refine xw_block ?_
      refine xw_seq (xw_region ?_)
      refine xq rfl trivial (o_mv rfl) ?_
      refine xq rfl trivial (o_as rfl) ?_
      refine xo_nil (xq_then (xw_seq (xw_region ?_)))
      refine xq rfl trivial (o_mv rfl) ?_
      refine xq rfl trivial (o_mv rfl) ?_
      refine xq rfl trivial (o_mv rfl) ?_
      obtain ⟨ho2, h⟩ := h
      refine xq rfl trivial (o_ixL el38 rfl rfl (fun w hw => (hs0.keep hw Fr.nil)) rfl ho2) ?_
      refine xq rfl trivial (o_ldL1 (off := 0) (u := .int .i64 (s0[x8.toNat]!)) rfl ts3 rfl (fun w hw => (hs0.keep hw Fr.nil)) (toNat_lt ho2) rfl rfl) ?_
      refine xq rfl trivial (o_eql rfl rfl) ?_
      refine xo_nil (xq_then ?_)
      refine xw_bool 16 rfl (fun hc3 => ?_) (fun hc3 => ?_)
      · have hq3 : (decide (v1 = s0[x8.toNat]!)) = true := hc3
        have hp3 : v1 = s0[x8.toNat]! := of_decide_eq_true hq3
        rw [if_pos hp3] at h
        refine xw_cond_t rfl rfl (xw_seq (xw_region ?_))
        refine xq rfl trivial (o_mv rfl) ?_
        refine xq rfl trivial (o_as rfl) ?_
        refine xo_nil (xq_then (xw_ret (xq_blk_ret (xq_then_ret ?_))))
        exact xq_out (r := (.inr x8 : (Unit) ⊕ (Int))) (e' := [(4, .int .i64 x8)]) ([]) (lc rfl ln) (fun _ h => h) h (by intro hh; cases hh) ⟨rfl, rfl, rfl⟩
      · have hq3 : (decide (v1 = s0[x8.toNat]!)) = false := hc3
        have hp3 : ¬ (v1 = s0[x8.toNat]!) := of_decide_eq_false hq3
        rw [if_neg hp3] at h
        refine xw_cond_f rfl rfl (xw_skip ?_)
        refine xq_blk 1 ?_
        refine xq_then (xw_region ?_)
        obtain ⟨ho4, h⟩ := h
        refine xq rfl trivial (o_add rfl rfl rfl ho4) ?_
        refine xq rfl trivial (o_mv rfl) ?_
        refine xo_nil ?_
        exact xq_next (s' := (x8 + 1 : Int)) (e' := [(0, v0), (1, .int .i64 v1), (7, .int .i64 (s0.length : Int)), (8, .int .i64 (x8 + 1))]) ([]) (lc rfl (lc rfl (lc rfl (lc rfl ln)))) (fun _ h => h) h ⟨rfl, rfl⟩
    · have hq1 : (decide (x8 < (s0.length : Int))) = false := hc1
      have hp1 : ¬ (x8 < (s0.length : Int)) := of_decide_eq_false hq1
      rw [if_neg hp1] at h
      refine xw_cond_f rfl rfl (xw_exit (xq_then_exit ?_))
      exact xq_out (r := (.inl () : (Unit) ⊕ (Int))) (e' := []) ([]) ln (fun _ h => h) h (by intro hh; cases hh) ⟨rfl, rfl, rfl⟩
  · rcases x1 with _ | x4
    · rintro _ _ _ ⟨rfl, rfl, rfl⟩
      replace h : hasI_k1a r := h
      unfold hasI_k1a at h
      refine xq_blk_eq ?_
      refine xq_then (xw_seq (xw_region ?_))
      refine xq rfl trivial (o_as rfl) ?_
      refine xo_nil (xq_then (xw_ret ?_))
      refine con_ret1 (.inl rfl) Try.results38 rfl _ (fun _ h => h) (?_)
      refine xq rfl trivial (o_geq rfl rfl) ?_
      refine xq rfl trivial (o_as rfl) ?_
      refine xo_nil (xq_then (xw_ret ?_))
      subst h
      exact con_ret1 (.inl rfl) Try.results26 rfl [] (fun _ h => h) (⟨rfl, rfl⟩)
    rintro _ _ _ ⟨rfl, rfl, rfl⟩
    replace h : hasI_k1b x4 r := h
    unfold hasI_k1b at h
    refine xq_blk_ret (xq_then_ret ?_)
    refine con_ret1 (.inl rfl) Try.results38 rfl _ (fun _ h => h) (?_)
    refine xq rfl trivial (o_geq rfl rfl) ?_
    refine xq rfl trivial (o_as rfl) ?_
    refine xo_nil (xq_then (xw_ret ?_))
    subst h
    exact con_ret1 (.inl rfl) Try.results26 rfl [] (fun _ h => h) (⟨rfl, rfl⟩)

end Go.Proofs.Ytcnbdkkmcdjncaa
