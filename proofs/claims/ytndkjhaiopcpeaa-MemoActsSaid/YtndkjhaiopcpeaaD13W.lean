/- The code answers as the relations say. -/
import Derived.Test.YtndkjhaiopcpeaaTab
import Derived.Test.YtndkjhaiopcpeaaD13S
import Derived.Test.YtndkjhaiopcpeaaC13W
import Derived.Test.YtndkjhaiopcpeaaSK
set_option maxHeartbeats 1000000
set_option linter.unusedVariables false
set_option linter.unusedSimpArgs false
set_option maxRecDepth 100000
namespace Go.Proofs.Ytndkjhaiopcpeaa
open Go Go.E

theorem ball_con (b0last : (List (Int × (Nat → Int)))) (p0 : Nat) (v0_0 : Value) (S0_0 : GH) (w : World) (hJ0_0 : MJ kI (kA 29) ieq S0_0 v0_0 b0last) (hC : Has w (cat [[(p0, BK 1 (cl [v0_0]) 67)], S0_0])) (r : (List Int)) (h : ball_S b0last r) : Con Try.prog 19 #[.pointer (some ⟨p0, 0, none⟩)] w (CatG fun v Ls => Cov w (cat [[(p0, BK 1 (cl [v0_0]) 67)], S0_0]) (cat Ls) ∧ ∃ (u0 : Value) (C0 : GH), v = u0 ∧ Ls = [[(p0, BK 1 (cl [v0_0]) 67)], S0_0, C0] ∧ OJ 3 1 ic C0 u0 r ∧ Cov w [] C0) := by
  unfold ball_S at h
  refine con_enter (n := 11) [(0, _)] Try.func19 rfl Try.ntmps19 rfl (lac rfl lan) ?_
  refine xw_has hC ?_
  refine xw_st ((p0, BK 1 (cl [v0_0]) 67) :: (S0_0 ++ ([]))) (fun _ h => h) ?_
  refine xw_seq (xw_region ?_)
  refine xq rfl trivial (o_as rfl) ?_
  refine xo_nil (xq_then (xw_seq (xw_seq (xw_region ?_))))
  refine xq rfl trivial (o_mv rfl) ?_
  refine xq rfl trivial (o_eqn Try.underlying24 rfl rfl rfl rfl) ?_
  refine xo_nil (xq_then (xw_cond_f rfl rfl (xw_skip (xq_then (xw_seq (xw_region ?_))))))
  refine xq rfl trivial (o_mv rfl) ?_
  refine xq rfl trivial (o_nilp rfl) ?_
  first | refine xq rfl trivial (o_fa0 fl67_0 rfl) ?_ | refine xq rfl trivial (o_fa fl67_0 rfl) ?_
  refine xq rfl trivial (o_ld (v := v0_0) rfl ts65 (List.Mem.head _) (by decide) rfl) ?_
  refine xoR rfl trivial (ot_in (l := [(0, _)]) kf26 rfl Try.func26 rfl Try.ntmps26 rfl (lac rfl lan) ?_)
  refine xw_seq (xw_region ?_)
  refine xo rfl trivial (o_box1 rfl (MJ.one hJ0_0)) ?_
  rintro _ _ ⟨b1, hb1, rfl, rfl⟩
  refine xq rfl trivial (o_as rfl) ?_
  refine xo_nil (xq_then (xw_seq (xw_region ?_)))
  refine xq rfl trivial (o_mkf rfl rfl) ?_
  refine xq rfl trivial (o_as rfl) ?_
  refine xo_nil (xq_then (xw_ret ?_))
  refine con_ret1 (.inl rfl) Try.results26 rfl _ (fun _ h => h) (?_)
  obtain ⟨ho1, h⟩ := h
  refine xcall rfl trivial kf25 rfl (fun w1 hw1 => sk34_c (hw1.own _ _ (List.Mem.head _)) hJ0_0 (fun x hx => hw1.own x.1 x.2 (Pull.sub (.thereC _ (.thereC _ (.here _ _))) x hx)) ho1) ?_
  rintro w1 vs2 _ hw1 ⟨_, Bs2, rfl, rfl, hJs2, hcBs2⟩
  refine ⟨_, .news (Cov.fresh hcBs2) (.nil _), ?_⟩
  replace hcBs2 := Cov.base (w0 := w) hcBs2 hw1.size
  refine xq rfl trivial (o_as rfl) ?_
  refine xo_nil (xq_then (xw_ret ?_))
  subst h
  exact con_ret1 (.inl rfl) Try.results19 rfl (cat [[(p0, BK 1 (cl [v0_0]) 67)], S0_0, Bs2]) (fun _ h => St.permI [1, 2, 0] [Bs2, [(p0, _)], S0_0] rfl (Kp.st (Kp.segKeep (Kp.new hb1 (Kp.keep (Kp.segKeep Kp.nil)))) _ h)) (⟨_, rfl, (Cov.cons (Cov.app (A := S0_0) (A' := S0_0) (Cov.refl _) (Cov.app0 hcBs2 Cov.nil))), _, Bs2, rfl, rfl, hJs2, hcBs2⟩)

theorem ball_c (b0last : (List (Int × (Nat → Int)))) (p0 : Nat) (v0_0 : Value) (S0_0 : GH) (w : World) (hJ0_0 : MJ kI (kA 29) ieq S0_0 v0_0 b0last) (hC : Has w (cat [[(p0, BK 1 (cl [v0_0]) 67)], S0_0])) (hP : ball_P b0last) : Con Try.prog 19 #[.pointer (some ⟨p0, 0, none⟩)] w (CatG fun v Ls => Cov w (cat [[(p0, BK 1 (cl [v0_0]) 67)], S0_0]) (cat Ls) ∧ ∃ (u0 : Value) (C0 : GH), v = u0 ∧ Ls = [[(p0, BK 1 (cl [v0_0]) 67)], S0_0, C0] ∧ OJ 3 1 ic C0 u0 (ball_F b0last) ∧ Cov w [] C0) :=
  ball_con b0last p0 v0_0 S0_0 w hJ0_0 hC _ (ball_ok b0last hP)

theorem findR_con (l0 : (List (Nat → Int))) (tx1 : Int) (v0 : Value) (w : World) (hs0 : SL w 30 iv v0 l0) (r : Int) (h : findR_S l0 tx1 r) : Con Try.prog 20 #[v0, .int .i64 tx1] w (Is (.int .i64 r) []) := by
  unfold findR_S at h
  refine con_enter (n := 20) [(0, _), (1, _)] Try.func20 rfl Try.ntmps20 rfl (lac rfl (lac rfl lan)) ?_
  refine xw_seq (xw_region ?_)
  refine xq rfl trivial (o_as rfl) ?_
  refine xo_nil (xq_then (xw_seq (xw_seq (xw_region ?_))))
  refine xq rfl trivial (o_as rfl) ?_
  refine xo_nil (xq_then ?_)
  refine xw_block ?_
  obtain ⟨x1, hx1, h⟩ := h
  refine xw_wh (fun (i5 : Int) e H => e = [(0, v0), (1, .int .i64 tx1), (5, .int .i64 i5)] ∧ H = []) (fun x ex e H => match x with | .inl _ => ex = .exit 0 ∧ e = [] ∧ H = [] | .inr x4 => ex = .ret ∧ e = [(4, .int .i64 x4)] ∧ H = []) hx1 ⟨[(0, v0), (1, .int .i64 tx1), (5, .int .i64 0)], [], (lc rfl (lc rfl (lc rfl ln))), fun _ h => h, ⟨rfl, rfl⟩⟩ ?_ ?_
  · rintro i5 o _ _ ⟨rfl, rfl⟩ hb
    have h : findR_l1 l0 tx1 i5 o := hb
    clear hb
    unfold findR_l1 at h
    refine xw_seq (xw_seq (xw_region ?_))
    refine xq rfl trivial (o_mv rfl) ?_
    refine xq rfl trivial (o_mv rfl) ?_
    refine xq rfl trivial (o_lenL rfl Try.underlying51 rfl (SL.val hs0)) ?_
    refine xq rfl trivial (o_lss rfl rfl) ?_
    refine xo_nil (xq_then ?_)
    refine xw_bool 9 rfl (fun hc1 => ?_) (fun hc1 => ?_)
    · have hq1 : (decide (i5 < (l0.length : Int))) = true := hc1
      have hp1 : i5 < (l0.length : Int) := of_decide_eq_true hq1
      rw [if_pos hp1] at h
      refine xw_cond_t rfl rfl (xw_skip (xq_then (xw_seq ?_)))
      refine xw_block ?_
      refine xw_seq (xw_region ?_)
      refine xq rfl trivial (o_mv rfl) ?_
      refine xq rfl trivial (o_mv rfl) ?_
      obtain ⟨ho2, h⟩ := h
      refine xq rfl trivial (o_ixL el51 rfl rfl (fun w hw => (hs0.keep hw Fr.nil)) rfl ho2) ?_
      refine xq rfl trivial (o_faL fl59_0 rfl rfl (fun w hw => (hs0.keep hw Fr.nil)) (toNat_lt ho2)) ?_
      refine xq rfl trivial (o_ldL1 (off := 0) (u := .int .i64 (l0[i5.toNat]! 0)) rfl ts3 rfl (fun w hw => (hs0.keep hw Fr.nil)) (toNat_lt ho2) rfl rfl) ?_
      refine xq rfl trivial (o_mv rfl) ?_
      refine xq rfl trivial (o_eql rfl rfl) ?_
      refine xo_nil (xq_then ?_)
      refine xw_bool 18 rfl (fun hc3 => ?_) (fun hc3 => ?_)
      · have hq3 : (decide (l0[i5.toNat]! 0 = tx1)) = true := hc3
        have hp3 : l0[i5.toNat]! 0 = tx1 := of_decide_eq_true hq3
        rw [if_pos hp3] at h
        refine xw_cond_t rfl rfl (xw_seq (xw_region ?_))
        refine xq rfl trivial (o_mv rfl) ?_
        refine xq rfl trivial (o_as rfl) ?_
        refine xo_nil (xq_then (xw_ret (xq_blk_ret (xq_then_ret ?_))))
        exact xq_out (r := (.inr i5 : (Unit) ⊕ (Int))) (e' := [(4, .int .i64 i5)]) ([]) (lc rfl ln) (fun _ h => h) h (by intro hh; cases hh) ⟨rfl, rfl, rfl⟩
      · have hq3 : (decide (l0[i5.toNat]! 0 = tx1)) = false := hc3
        have hp3 : ¬ (l0[i5.toNat]! 0 = tx1) := of_decide_eq_false hq3
        rw [if_neg hp3] at h
        refine xw_cond_f rfl rfl (xw_skip ?_)
        refine xq_blk 1 ?_
        refine xq_then (xw_region ?_)
        refine xq rfl trivial (o_mv rfl) ?_
        obtain ⟨ho4, h⟩ := h
        refine xq rfl trivial (o_add rfl rfl rfl ho4) ?_
        refine xq rfl trivial (o_as rfl) ?_
        refine xo_nil ?_
        exact xq_next (s' := (i5 + 1 : Int)) (e' := [(0, v0), (1, .int .i64 tx1), (5, .int .i64 (i5 + 1))]) ([]) (lc rfl (lc rfl (lc rfl ln))) (fun _ h => h) h ⟨rfl, rfl⟩
    · have hq1 : (decide (i5 < (l0.length : Int))) = false := hc1
      have hp1 : ¬ (i5 < (l0.length : Int)) := of_decide_eq_false hq1
      rw [if_neg hp1] at h
      refine xw_cond_f rfl rfl (xw_exit (xq_then_exit ?_))
      exact xq_out (r := (.inl () : (Unit) ⊕ (Int))) (e' := []) ([]) ln (fun _ h => h) h (by intro hh; cases hh) ⟨rfl, rfl, rfl⟩
  · rcases x1 with _ | x4
    · rintro _ _ _ ⟨rfl, rfl, rfl⟩
      replace h : findR_k1a r := h
      unfold findR_k1a at h
      refine xq_blk_eq ?_
      refine xq_then (xw_seq (xw_region ?_))
      refine xq rfl trivial (o_as rfl) ?_
      refine xo_nil (xq_then (xw_ret ?_))
      subst h
      exact con_ret1 (.inl rfl) Try.results20 rfl [] (fun _ h => h) (⟨rfl, rfl⟩)
    rintro _ _ _ ⟨rfl, rfl, rfl⟩
    replace h : findR_k1b x4 r := h
    unfold findR_k1b at h
    refine xq_blk_ret (xq_then_ret ?_)
    subst h
    exact con_ret1 (.inl rfl) Try.results20 rfl [] (fun _ h => h) (⟨rfl, rfl⟩)

theorem ints_con (a0 : (List Int)) (b1 : (List Int)) (v0 : Value) (v1 : Value) (w : World) (hs0 : SL w 1 ic v0 a0) (hs1 : SL w 1 ic v1 b1) (r : Bool) (h : ints_S a0 b1 r) : Con Try.prog 18 #[v0, v1] w (Is (.bool r) []) := by
  unfold ints_S at h
  refine con_enter (n := 26) [(0, _), (1, _)] Try.func18 rfl Try.ntmps18 rfl (lac rfl (lac rfl lan)) ?_
  refine xw_seq (xw_region ?_)
  refine xq rfl trivial (o_as rfl) ?_
  refine xo_nil (xq_then (xw_seq (xw_seq (xw_region ?_))))
  refine xq rfl trivial (o_mv rfl) ?_
  refine xq rfl trivial (o_lenL rfl Try.underlying57 rfl (SL.val hs0)) ?_
  refine xq rfl trivial (o_mv rfl) ?_
  refine xq rfl trivial (o_lenL rfl Try.underlying57 rfl (SL.val hs1)) ?_
  refine xq rfl trivial (o_neq rfl rfl) ?_
  refine xo_nil (xq_then ?_)
  refine xw_bool 10 rfl (fun hc1 => ?_) (fun hc1 => ?_)
  · have hq1 : (decide ((a0.length : Int) = (b1.length : Int))) = false := (bnT hc1)
    have hp1 : ¬ ((a0.length : Int) = (b1.length : Int)) := of_decide_eq_false hq1
    rw [if_neg hp1] at h
    refine xw_cond_t rfl rfl (xw_seq (xw_region ?_))
    refine xq rfl trivial (o_as rfl) ?_
    refine xo_nil (xq_then (xw_ret (xq_then_ret ?_)))
    subst h
    exact con_ret1 (.inl rfl) Try.results18 rfl [] (fun _ h => h) (⟨rfl, rfl⟩)
  · have hq1 : (decide ((a0.length : Int) = (b1.length : Int))) = true := (bnF hc1)
    have hp1 : (a0.length : Int) = (b1.length : Int) := of_decide_eq_true hq1
    rw [if_pos hp1] at h
    refine xw_cond_f rfl rfl (xw_skip (xq_then (xw_seq (xw_seq (xw_region ?_)))))
    refine xq rfl trivial (o_as rfl) ?_
    refine xo_nil (xq_then ?_)
    refine xw_block ?_
    obtain ⟨x1, hx1, h⟩ := h
    refine xw_wh (fun (i5 : Int) e H => e = [(0, v0), (1, v1), (5, .int .i64 i5)] ∧ H = []) (fun x ex e H => match x with | .inl _ => ex = .exit 0 ∧ e = [] ∧ H = [] | .inr _ => ex = .ret ∧ e = [(4, .bool false)] ∧ H = []) hx1 ⟨[(0, v0), (1, v1), (5, .int .i64 0)], [], (lc rfl (lc rfl (lc rfl ln))), fun _ h => h, ⟨rfl, rfl⟩⟩ ?_ ?_
    · rintro i5 o _ _ ⟨rfl, rfl⟩ hb
      have h : ints_l1 a0 b1 i5 o := hb
      clear hb
      unfold ints_l1 at h
      refine xw_seq (xw_seq (xw_region ?_))
      refine xq rfl trivial (o_mv rfl) ?_
      refine xq rfl trivial (o_mv rfl) ?_
      refine xq rfl trivial (o_lenL rfl Try.underlying57 rfl (SL.val hs0)) ?_
      refine xq rfl trivial (o_lss rfl rfl) ?_
      refine xo_nil (xq_then ?_)
      refine xw_bool 14 rfl (fun hc2 => ?_) (fun hc2 => ?_)
      · have hq2 : (decide (i5 < (a0.length : Int))) = true := hc2
        have hp2 : i5 < (a0.length : Int) := of_decide_eq_true hq2
        rw [if_pos hp2] at h
        refine xw_cond_t rfl rfl (xw_skip (xq_then (xw_seq ?_)))
        refine xw_block ?_
        refine xw_seq ?_
        refine xd_start (by kernel_rfl) (by kernel_rfl) (fun hok => ?_)
        refine xd_b hok 0 [(0, _)] ([]) rsN rfl rfl rfl (lc rfl ln) (by kernel_rfl) trivial (fun H' hy hK => o_mv rfl) ?_
        refine xd_b hok 1 [(5, _)] ([]) rsN rfl rfl rfl (lc rfl ln) (by kernel_rfl) trivial (fun H' hy hK => o_mv rfl) ?_
        obtain ⟨ho3, h⟩ := h
        refine xd_b hok 2 [(17, _), (18, _)] ([]) rsN rfl rfl rfl (lc rfl (lc rfl ln)) (by kernel_rfl) trivial (fun H' hy hK => o_ixL el57 rfl rfl (fun w hw => (hs0.keep hw (fun k hk => (hK k hk).elim (fun h => Fr.nil k h) id))) rfl ho3) ?_
        refine xd_b hok 3 [(19, _)] ([]) rsN rfl rfl rfl (lc rfl ln) (by kernel_rfl) trivial (fun H' hy hK => o_ldL1 (off := 0) (u := .int .i64 (a0[i5.toNat]!)) rfl ts3 rfl (fun w hw => (hs0.keep hw (fun k hk => (hK k hk).elim (fun h => Fr.nil k h) id))) (toNat_lt ho3) rfl rfl) ?_
        refine xd_b hok 4 [(1, _)] ([]) rsN rfl rfl rfl (lc rfl ln) (by kernel_rfl) trivial (fun H' hy hK => o_mv rfl) ?_
        refine xd_b hok 5 [(5, _)] ([]) rsN rfl rfl rfl (lc rfl ln) (by kernel_rfl) trivial (fun H' hy hK => o_mv rfl) ?_
        obtain ⟨ho4, h⟩ := h
        refine xd_b hok 6 [(21, _), (22, _)] ([]) rsN rfl rfl rfl (lc rfl (lc rfl ln)) (by kernel_rfl) trivial (fun H' hy hK => o_ixL el57 rfl rfl (fun w hw => (hs1.keep hw (fun k hk => (hK k hk).elim (fun h => Fr.nil k h) id))) rfl ho4) ?_
        refine xd_b hok 7 [(23, _)] ([]) rsN rfl rfl rfl (lc rfl ln) (by kernel_rfl) trivial (fun H' hy hK => o_ldL1 (off := 0) (u := .int .i64 (b1[i5.toNat]!)) rfl ts3 rfl (fun w hw => (hs1.keep hw (fun k hk => (hK k hk).elim (fun h => Fr.nil k h) id))) (toNat_lt ho4) rfl rfl) ?_
        refine xd_b hok 8 [(20, _), (24, _)] ([]) rsN rfl rfl rfl (lc rfl (lc rfl ln)) (by kernel_rfl) trivial (fun H' hy hK => o_neq rfl rfl) ?_
        refine xd_end hok (by kernel_rfl) ?_
        refine xq_then ?_
        refine xw_bool 25 rfl (fun hc5 => ?_) (fun hc5 => ?_)
        · have hq5 : (decide (a0[i5.toNat]! = b1[i5.toNat]!)) = false := (bnT hc5)
          have hp5 : ¬ (a0[i5.toNat]! = b1[i5.toNat]!) := of_decide_eq_false hq5
          rw [if_neg hp5] at h
          refine xw_cond_t rfl rfl (xw_seq (xw_region ?_))
          refine xq rfl trivial (o_as rfl) ?_
          refine xo_nil (xq_then (xw_ret (xq_blk_ret (xq_then_ret ?_))))
          exact xq_out (r := (.inr () : (Unit) ⊕ (Unit))) (e' := [(4, .bool false)]) ([]) (lc rfl ln) (fun _ h => h) h (by intro hh; cases hh) ⟨rfl, rfl, rfl⟩
        · have hq5 : (decide (a0[i5.toNat]! = b1[i5.toNat]!)) = true := (bnF hc5)
          have hp5 : a0[i5.toNat]! = b1[i5.toNat]! := of_decide_eq_true hq5
          rw [if_pos hp5] at h
          refine xw_cond_f rfl rfl (xw_skip ?_)
          refine xq_blk 1 ?_
          refine xq_then (xw_region ?_)
          refine xq rfl trivial (o_mv rfl) ?_
          obtain ⟨ho6, h⟩ := h
          refine xq rfl trivial (o_add rfl rfl rfl ho6) ?_
          refine xq rfl trivial (o_as rfl) ?_
          refine xo_nil ?_
          exact xq_next (s' := (i5 + 1 : Int)) (e' := [(0, v0), (1, v1), (5, .int .i64 (i5 + 1))]) ([]) (lc rfl (lc rfl (lc rfl ln))) (fun _ h => h) h ⟨rfl, rfl⟩
      · have hq2 : (decide (i5 < (a0.length : Int))) = false := hc2
        have hp2 : ¬ (i5 < (a0.length : Int)) := of_decide_eq_false hq2
        rw [if_neg hp2] at h
        refine xw_cond_f rfl rfl (xw_exit (xq_then_exit ?_))
        exact xq_out (r := (.inl () : (Unit) ⊕ (Unit))) (e' := []) ([]) ln (fun _ h => h) h (by intro hh; cases hh) ⟨rfl, rfl, rfl⟩
    · rcases x1 with _ | x1
      · rintro _ _ _ ⟨rfl, rfl, rfl⟩
        replace h : ints_k1a r := h
        unfold ints_k1a at h
        refine xq_blk_eq ?_
        refine xq_then (xw_seq (xw_region ?_))
        refine xq rfl trivial (o_as rfl) ?_
        refine xo_nil (xq_then (xw_ret ?_))
        subst h
        exact con_ret1 (.inl rfl) Try.results18 rfl [] (fun _ h => h) (⟨rfl, rfl⟩)
      cases x1
      rintro _ _ _ ⟨rfl, rfl, rfl⟩
      replace h : ints_k1b r := h
      unfold ints_k1b at h
      refine xq_blk_ret (xq_then_ret ?_)
      subst h
      exact con_ret1 (.inl rfl) Try.results18 rfl [] (fun _ h => h) (⟨rfl, rfl⟩)

end Go.Proofs.Ytndkjhaiopcpeaa
