/- The code answers as the relations say. -/
import Derived.Test.YtljklmlodfbdnaaGreatTab
import Derived.Test.YtljklmlodfbdnaaGreatMCS
import Derived.Test.YtljklmlodfbdnaaGreatErr
set_option maxHeartbeats 1000000
set_option linter.unusedVariables false
set_option linter.unusedSimpArgs false
set_option maxRecDepth 100000
namespace Go.Proofs.YtljklmlodfbdnaaGreat
open Go Go.E

theorem errIs_c2 (a b : Int) (w : World) (h : errIs_P a b) : Con Tryz.prog 33 #[errV 86 a, errV 86 b] w (Is (.bool (errIs_F a b)) []) := errIs_c a b w h

theorem code_con (e0 : Int) (w : World) (r : Int) (h : code_S e0 r) : Con Tryz.prog 13 #[errV 86 e0] w (Is (.int .i64 r) []) := by
  unfold code_S at h
  refine con_enter (n := 15) [(0, _)] Tryz.func13 rfl Tryz.ntmps13 rfl (lac rfl lan) ?_
  refine xw_seq (xw_region ?_)
  refine xq rfl trivial (o_as rfl) ?_
  refine xo_nil (xq_then (xw_seq (xw_seq (xw_region ?_))))
  refine xq rfl trivial (o_mv rfl) ?_
  refine xq rfl trivial (o_eqE Tryz.underlying28 rfl (fun _ => rfl) rfl rfl) ?_
  refine xo_nil (xq_then ?_)
  refine xw_bool 5 rfl (fun hc1 => ?_) (fun hc1 => ?_)
  · have hq1 : (decide (e0 = 0)) = true := hc1
    have hp1 : e0 = 0 := of_decide_eq_true hq1
    rw [if_pos hp1] at h
    refine xw_cond_t rfl rfl (xw_seq (xw_region ?_))
    refine xq rfl trivial (o_as rfl) ?_
    refine xo_nil (xq_then (xw_ret (xq_then_ret ?_)))
    subst h
    exact con_ret1 (.inl rfl) Tryz.results13 rfl [] (fun _ h => h) (⟨rfl, rfl⟩)
  · have hq1 : (decide (e0 = 0)) = false := hc1
    have hp1 : ¬ (e0 = 0) := of_decide_eq_false hq1
    rw [if_neg hp1] at h
    refine xw_cond_f rfl rfl (xw_skip (xq_then (xw_seq (xw_seq (xw_region ?_)))))
    refine xq rfl trivial (o_as rfl) ?_
    refine xo_nil (xq_then ?_)
    refine xw_block ?_
    obtain ⟨x1, hx1, h⟩ := h
    refine xw_wh (fun (i3 : Int) e H => e = [(0, errV 86 e0), (3, .int .i64 i3)] ∧ H = []) (fun x ex e H => match x with | .inl _ => ex = .exit 0 ∧ e = [] ∧ H = [] | .inr x2 => ex = .ret ∧ e = [(2, .int .i64 x2)] ∧ H = []) hx1 ⟨[(0, errV 86 e0), (3, .int .i64 1)], [], (lc rfl (lc rfl ln)), fun _ h => h, ⟨rfl, rfl⟩⟩ ?_ ?_
    · rintro i3 o _ _ ⟨rfl, rfl⟩ hb
      have h : code_l1 e0 i3 o := hb
      clear hb
      unfold code_l1 at h
      refine xw_seq (xw_seq (xw_region ?_))
      refine xq rfl trivial (o_mv rfl) ?_
      refine xq rfl trivial (o_leq rfl rfl) ?_
      refine xo_nil (xq_then ?_)
      refine xw_bool 7 rfl (fun hc2 => ?_) (fun hc2 => ?_)
      · have hq2 : (decide (i3 ≤ 15)) = true := hc2
        have hp2 : i3 ≤ 15 := of_decide_eq_true hq2
        rw [if_pos hp2] at h
        refine xw_cond_t rfl rfl (xw_skip (xq_then (xw_seq ?_)))
        refine xw_block ?_
        refine xw_seq (xw_region ?_)
        refine xq rfl trivial (o_mv rfl) ?_
        refine xq rfl trivial (o_mv rfl) ?_
        obtain ⟨ho3, h⟩ := h
        refine xq rfl trivial (o_mkE rfl Tryz.underlying86 rfl ho3) ?_
        obtain ⟨ho4, h⟩ := h
        refine xcallq rfl trivial kf33 rfl (fun w1 hw1 => errIs_c2 _ _ w1 ho4) ?_
        refine xo_nil (xq_then ?_)
        refine xw_bool 13 rfl (fun hc5 => ?_) (fun hc5 => ?_)
        · have hq5 : ((errIs_F e0 i3)) = true := hc5
          have hp5 : ((errIs_F e0 i3)) = true := hq5
          rw [if_pos hp5] at h
          refine xw_cond_t rfl rfl (xw_seq (xw_region ?_))
          refine xq rfl trivial (o_mv rfl) ?_
          refine xq rfl trivial (o_as rfl) ?_
          refine xo_nil (xq_then (xw_ret (xq_blk_ret (xq_then_ret ?_))))
          exact xq_out (r := (.inr i3 : (Unit) ⊕ (Int))) (e' := [(2, .int .i64 i3)]) ([]) (lc rfl ln) (fun _ h => h) h (by intro hh; cases hh) ⟨rfl, rfl, rfl⟩
        · have hq5 : ((errIs_F e0 i3)) = false := hc5
          have hp5 : ¬ (((errIs_F e0 i3)) = true) := bne' hq5
          rw [if_neg hp5] at h
          refine xw_cond_f rfl rfl (xw_skip ?_)
          refine xq_blk 1 ?_
          refine xq_then (xw_region ?_)
          refine xq rfl trivial (o_mv rfl) ?_
          obtain ⟨ho6, h⟩ := h
          refine xq rfl trivial (o_add rfl rfl rfl ho6) ?_
          refine xq rfl trivial (o_as rfl) ?_
          refine xo_nil ?_
          exact xq_next (s' := (i3 + 1 : Int)) (e' := [(0, errV 86 e0), (3, .int .i64 (i3 + 1))]) ([]) (lc rfl (lc rfl ln)) (fun _ h => h) h ⟨rfl, rfl⟩
      · have hq2 : (decide (i3 ≤ 15)) = false := hc2
        have hp2 : ¬ (i3 ≤ 15) := of_decide_eq_false hq2
        rw [if_neg hp2] at h
        refine xw_cond_f rfl rfl (xw_exit (xq_then_exit ?_))
        exact xq_out (r := (.inl () : (Unit) ⊕ (Int))) (e' := []) ([]) ln (fun _ h => h) h (by intro hh; cases hh) ⟨rfl, rfl, rfl⟩
    · rcases x1 with _ | x2
      · rintro _ _ _ ⟨rfl, rfl, rfl⟩
        replace h : code_k1a r := h
        unfold code_k1a at h
        refine xq_blk_eq ?_
        refine xq_then (xw_seq (xw_region ?_))
        refine xq rfl trivial (o_as rfl) ?_
        refine xo_nil (xq_then (xw_ret ?_))
        subst h
        exact con_ret1 (.inl rfl) Tryz.results13 rfl [] (fun _ h => h) (⟨rfl, rfl⟩)
      rintro _ _ _ ⟨rfl, rfl, rfl⟩
      replace h : code_k1b x2 r := h
      unfold code_k1b at h
      refine xq_blk_ret (xq_then_ret ?_)
      subst h
      exact con_ret1 (.inl rfl) Tryz.results13 rfl [] (fun _ h => h) (⟨rfl, rfl⟩)

end Go.Proofs.YtljklmlodfbdnaaGreat
