/- The code answers as the relations say. -/
import Derived.Test.YtljklmlodfbdnaaGreatTab
import Derived.Test.YtljklmlodfbdnaaGreatMSS
import Derived.Test.YtljklmlodfbdnaaGreatE25
import Derived.Test.YtljklmlodfbdnaaGreatEB
import Derived.Test.YtljklmlodfbdnaaGreatMAS
import Derived.Test.YtljklmlodfbdnaaGreatMAW
set_option maxHeartbeats 1000000
set_option linter.unusedVariables false
set_option linter.unusedSimpArgs false
set_option maxRecDepth 100000
namespace Go.Proofs.YtljklmlodfbdnaaGreat
open Go Go.E

theorem msgs_con (a0 : (List (Nat → Int))) (b1 : (List (Nat → Int))) (v0 : Value) (v1 : Value) (w : World) (hs0 : SL w 28 iv v0 a0) (hs1 : SL w 28 iv v1 b1) (r : Bool) (h : msgs_S a0 b1 r) : Con Tryz.prog 17 #[v0, v1] w (Is (.bool r) []) := by
  unfold msgs_S at h
  refine con_enter (n := 26) [(0, _), (1, _)] Tryz.func17 rfl Tryz.ntmps17 rfl (lac rfl (lac rfl lan)) ?_
  refine xw_seq (xw_region ?_)
  refine xq rfl trivial (o_as rfl) ?_
  refine xo_nil (xq_then (xw_seq (xw_seq (xw_region ?_))))
  refine xq rfl trivial (o_mv rfl) ?_
  refine xq rfl trivial (o_lenL rfl Tryz.underlying35 rfl (SL.val hs0)) ?_
  refine xq rfl trivial (o_mv rfl) ?_
  refine xq rfl trivial (o_lenL rfl Tryz.underlying35 rfl (SL.val hs1)) ?_
  refine xq rfl trivial (o_neq rfl rfl) ?_
  refine xo_nil (xq_then ?_)
  refine xw_bool 10 rfl (fun hc1 => ?_) (fun hc1 => ?_)
  · have hq1 : (decide ((a0.length : Int) = (b1.length : Int))) = false := (bnT hc1)
    have hp1 : ¬ ((a0.length : Int) = (b1.length : Int)) := of_decide_eq_false hq1
    rw [if_neg hp1] at h
    refine xw_cond_t rfl rfl (xw_seq (xw_region ?_))
    refine xq rfl trivial (o_as rfl) ?_
    refine xo_nil (xq_then (xw_ret (xq_then_ret ?_)))
    subst h
    exact con_ret1 (.inl rfl) Tryz.results17 rfl [] (fun _ h => h) (⟨rfl, rfl⟩)
  · have hq1 : (decide ((a0.length : Int) = (b1.length : Int))) = true := (bnF hc1)
    have hp1 : (a0.length : Int) = (b1.length : Int) := of_decide_eq_true hq1
    rw [if_pos hp1] at h
    refine xw_cond_f rfl rfl (xw_skip (xq_then (xw_seq (xw_seq (xw_region ?_)))))
    refine xq rfl trivial (o_as rfl) ?_
    refine xo_nil (xq_then ?_)
    refine xw_block ?_
    obtain ⟨x1, hx1, h⟩ := h
    refine xw_wh (fun (i5 : Int) e H => e = [(0, v0), (1, v1), (5, .int .i64 i5)] ∧ H = []) (fun x ex e H => match x with | .inl _ => ex = .exit 0 ∧ e = [] ∧ H = [] | .inr _ => ex = .ret ∧ e = [(4, .bool false)] ∧ H = []) hx1 ⟨[(0, v0), (1, v1), (5, .int .i64 0)], [], (lc rfl (lc rfl (lc rfl ln))), fun _ h => h, ⟨rfl, rfl⟩⟩ ?_ ?_
    · rintro i5 o _ _ ⟨rfl, rfl⟩ hb
      have h : msgs_l1 a0 b1 i5 o := hb
      clear hb
      unfold msgs_l1 at h
      refine xw_seq (xw_seq (xw_region ?_))
      refine xq rfl trivial (o_mv rfl) ?_
      refine xq rfl trivial (o_mv rfl) ?_
      refine xq rfl trivial (o_lenL rfl Tryz.underlying35 rfl (SL.val hs0)) ?_
      refine xq rfl trivial (o_lss rfl rfl) ?_
      refine xo_nil (xq_then ?_)
      refine xw_bool 14 rfl (fun hc2 => ?_) (fun hc2 => ?_)
      · have hq2 : (decide (i5 < (a0.length : Int))) = true := hc2
        have hp2 : i5 < (a0.length : Int) := of_decide_eq_true hq2
        rw [if_pos hp2] at h
        refine xw_cond_t rfl rfl (xw_skip (xq_then (xw_seq ?_)))
        refine xw_block ?_
        refine xw_seq ?_
        refine xd_start (by kernel_rfl) (by kernel_rfl) (fun hok => ?_)
        refine xd_b hok 0 [(0, _)] ([]) rsN rfl rfl rfl (lc rfl ln) (by kernel_rfl) trivial (fun H' hy hK => o_mv rfl) ?_
        refine xd_b hok 1 [(5, _)] ([]) rsN rfl rfl rfl (lc rfl ln) (by kernel_rfl) trivial (fun H' hy hK => o_mv rfl) ?_
        obtain ⟨ho3, h⟩ := h
        refine xd_b hok 2 [(17, _), (18, _)] ([]) rsN rfl rfl rfl (lc rfl (lc rfl ln)) (by kernel_rfl) trivial (fun H' hy hK => o_ixL el35 rfl rfl (fun w hw => (hs0.keep hw (fun k hk => (hK k hk).elim (fun h => Fr.nil k h) id))) rfl ho3) ?_
        refine xd_b hok 3 [(19, _)] ([]) rsN rfl rfl rfl (lc rfl ln) (by kernel_rfl) trivial (fun H' hy hK => o_ldLI rfl ts45 rfl (fun w hw => (hs0.keep hw (fun k hk => (hK k hk).elim (fun h => Fr.nil k h) id))) (toNat_lt ho3) rfl) ?_
        refine xd_b hok 4 [(1, _)] ([]) rsN rfl rfl rfl (lc rfl ln) (by kernel_rfl) trivial (fun H' hy hK => o_mv rfl) ?_
        refine xd_b hok 5 [(5, _)] ([]) rsN rfl rfl rfl (lc rfl ln) (by kernel_rfl) trivial (fun H' hy hK => o_mv rfl) ?_
        obtain ⟨ho4, h⟩ := h
        refine xd_b hok 6 [(21, _), (22, _)] ([]) rsN rfl rfl rfl (lc rfl (lc rfl ln)) (by kernel_rfl) trivial (fun H' hy hK => o_ixL el35 rfl rfl (fun w hw => (hs1.keep hw (fun k hk => (hK k hk).elim (fun h => Fr.nil k h) id))) rfl ho4) ?_
        refine xd_b hok 7 [(23, _)] ([]) rsN rfl rfl rfl (lc rfl ln) (by kernel_rfl) trivial (fun H' hy hK => o_ldLI rfl ts45 rfl (fun w hw => (hs1.keep hw (fun k hk => (hK k hk).elim (fun h => Fr.nil k h) id))) (toNat_lt ho4) rfl) ?_
        refine xd_b hok 8 [(20, _), (24, _)] ([]) rsN rfl rfl rfl (lc rfl (lc rfl ln)) (by kernel_rfl) trivial (fun H' hy hK => o_neqA eq45 rfl rfl) ?_
        refine xd_end hok (by kernel_rfl) ?_
        refine xq_then ?_
        refine xw_bool 25 rfl (fun hc5 => ?_) (fun hc5 => ?_)
        · have hq5 : ((eqN 28 (a0[i5.toNat]!) (b1[i5.toNat]!))) = false := (bnT hc5)
          have hp5 : ¬ (((eqN 28 (a0[i5.toNat]!) (b1[i5.toNat]!))) = true) := bne' hq5
          rw [if_neg hp5] at h
          refine xw_cond_t rfl rfl (xw_seq (xw_region ?_))
          refine xq rfl trivial (o_as rfl) ?_
          refine xo_nil (xq_then (xw_ret (xq_blk_ret (xq_then_ret ?_))))
          exact xq_out (r := (.inr () : (Unit) ⊕ (Unit))) (e' := [(4, .bool false)]) ([]) (lc rfl ln) (fun _ h => h) h (by intro hh; cases hh) ⟨rfl, rfl, rfl⟩
        · have hq5 : ((eqN 28 (a0[i5.toNat]!) (b1[i5.toNat]!))) = true := (bnF hc5)
          have hp5 : ((eqN 28 (a0[i5.toNat]!) (b1[i5.toNat]!))) = true := hq5
          rw [if_pos hp5] at h
          refine xw_cond_f rfl rfl (xw_skip ?_)
          refine xq_blk 1 ?_
          refine xq_then (xw_region ?_)
          refine xq rfl trivial (o_mv rfl) ?_
          obtain ⟨ho6, h⟩ := h
          refine xq rfl trivial (o_add rfl rfl rfl ho6) ?_
          refine xq rfl trivial (o_as rfl) ?_
          refine xo_nil ?_
          exact xq_next (s' := (i5 + 1 : Int)) (e' := [(0, v0), (1, v1), (5, .int .i64 (i5 + 1))]) ([]) (lc rfl (lc rfl (lc rfl ln))) (fun _ h => h) h ⟨rfl, rfl⟩
      · have hq2 : (decide (i5 < (a0.length : Int))) = false := hc2
        have hp2 : ¬ (i5 < (a0.length : Int)) := of_decide_eq_false hq2
        rw [if_neg hp2] at h
        refine xw_cond_f rfl rfl (xw_exit (xq_then_exit ?_))
        exact xq_out (r := (.inl () : (Unit) ⊕ (Unit))) (e' := []) ([]) ln (fun _ h => h) h (by intro hh; cases hh) ⟨rfl, rfl, rfl⟩
    · rcases x1 with _ | x1
      · rintro _ _ _ ⟨rfl, rfl, rfl⟩
        replace h : msgs_k1a r := h
        unfold msgs_k1a at h
        refine xq_blk_eq ?_
        refine xq_then (xw_seq (xw_region ?_))
        refine xq rfl trivial (o_as rfl) ?_
        refine xo_nil (xq_then (xw_ret ?_))
        subst h
        exact con_ret1 (.inl rfl) Tryz.results17 rfl [] (fun _ h => h) (⟨rfl, rfl⟩)
      cases x1
      rintro _ _ _ ⟨rfl, rfl, rfl⟩
      replace h : msgs_k1b r := h
      unfold msgs_k1b at h
      refine xq_blk_ret (xq_then_ret ?_)
      subst h
      exact con_ret1 (.inl rfl) Tryz.results17 rfl [] (fun _ h => h) (⟨rfl, rfl⟩)

end Go.Proofs.YtljklmlodfbdnaaGreat
