/- The code answers as the relations say. -/
import Derived.Test.YtmcohikcgdfhcaaTab
import Derived.Test.YtmcohikcgdfhcaaF4S
import Derived.Test.YtmcohikcgdfhcaaE4W
set_option maxHeartbeats 1000000
set_option linter.unusedVariables false
set_option linter.unusedSimpArgs false
set_option maxRecDepth 100000
namespace Go.Proofs.Ytmcohikcgdfhcaa
open Go Go.E

theorem code_c (e0 : Int) (w : World) : Con Try.prog 12 #[errV 59 e0] w (Is (.int .i64 (code_F e0)) []) :=
  code_con e0 w _ (code_ok e0)

theorem refEnc_c (m0 : (Nat → Int)) (w : World) (hP : refEnc_P m0) : Con Try.prog 15 #[AI 28 m0] w (fun v F => ∃ (u0 : Value) (C0 : GH), v = u0 ∧ F = (C0 ++ []) ∧ OJ 5 1 u8c C0 u0 (refEnc_F m0) ∧ Cov w [] C0) :=
  refEnc_con m0 w _ (refEnc_ok m0 hP)

theorem alive4_con (w : World) (r : Bool) (h : alive4_S r) : Con Try.prog 8 #[] w (Is (.bool r) []) := by
  unfold alive4_S at h
  refine con_enter (n := 32) [] Try.func8 rfl Try.ntmps8 rfl lan ?_
  refine xw_seq (xw_region ?_)
  refine xq rfl trivial (o_as rfl) ?_
  refine xo_nil (xq_then (xw_seq (xw_region ?_)))
  refine xq rfl trivial (o_build fk34 ze34 (.int fl34_0 rfl rfl (.int fl34_2 rfl rfl (.int fl34_3 rfl rfl (.nil _))))) ?_
  refine xcall rfl trivial kf10 rfl (fun w1 hw1 => encA_c _ w1) ?_
  rintro w1 _ _ hw1 ⟨vs1, Bs1, rfl, rfl, hJs1, hcBs1⟩
  refine ⟨_, Mg.news (Cov.fresh hcBs1) (.nil _), ?_⟩
  replace hcBs1 := Cov.base (w0 := w) hcBs1 hw1.size
  refine xq rfl trivial (o_mv rfl) ?_
  refine xq rfl trivial (o_ext rfl rfl) ?_
  refine xq rfl trivial (o_ext rfl rfl) ?_
  refine xq rfl trivial (o_as rfl) ?_
  refine xq rfl trivial (o_as rfl) ?_
  refine xo_nil (xq_then (xw_seq (xw_seq (xw_region ?_))))
  refine xq rfl trivial (o_mv rfl) ?_
  refine xq rfl trivial (o_neE Try.underlying37 rfl (fun _ => rfl) rfl rfl) ?_
  refine xq rfl trivial (o_mv rfl) ?_
  refine xo_bool 11 rfl (fun hg2 => ?_) (fun hg2 => ?_)
  · have hq2 : (decide ((enc_F (updI (updI (updI (fun _ => 0) 0 4) 2 2) 3 7)).2 = 0)) = false := (bnT hg2)
    have hp2 : ¬ ((enc_F (updI (updI (updI (fun _ => 0) 0 4) 2 2) 3 7)).2 = 0) := of_decide_eq_false hq2
    rw [if_neg hp2] at h
    refine xs rfl ⟨_, _, rfl, rfl, rfl⟩ (xs rfl ⟨_, _, rfl, rfl, rfl⟩ (xs rfl ⟨_, _, rfl, rfl, rfl⟩ ?_))
    refine xq rfl trivial (o_pick_t rfl rfl) ?_
    refine xq rfl trivial (o_mv rfl) ?_
    refine xs rfl ⟨_, _, rfl, rfl, rfl⟩ (xs rfl ⟨_, _, rfl, rfl, rfl⟩ (xs rfl ⟨_, _, rfl, rfl, rfl⟩ (xs rfl ⟨_, _, rfl, rfl, rfl⟩ (xs rfl ⟨_, _, rfl, rfl, rfl⟩ ?_))))
    refine xq rfl trivial (o_pick_t rfl rfl) ?_
    refine xo_nil (xq_then (xw_cond_t rfl rfl (xw_seq (xw_region ?_))))
    refine xq rfl trivial (o_as rfl) ?_
    refine xo_nil (xq_then (xw_ret (xq_then_ret ?_)))
    subst h
    exact con_ret1 (.inl rfl) Try.results8 rfl [] (Kp.st (Kp.segNew (Cov.fresh hcBs1) Kp.nil)) (⟨rfl, rfl⟩)
  · have hq2 : (decide ((enc_F (updI (updI (updI (fun _ => 0) 0 4) 2 2) 3 7)).2 = 0)) = true := (bnF hg2)
    have hp2 : (enc_F (updI (updI (updI (fun _ => 0) 0 4) 2 2) 3 7)).2 = 0 := of_decide_eq_true hq2
    rw [if_pos hp2] at h
    refine xq rfl ⟨_, rfl, rfl⟩ (o_mv rfl) ?_
    refine xq rfl ⟨_, rfl, rfl⟩ (o_lenL rfl Try.underlying35 rfl (OJ.val hJs1)) ?_
    refine xq rfl ⟨_, rfl, rfl⟩ (o_neq rfl rfl) ?_
    refine xq rfl trivial (o_pick_f rfl rfl) ?_
    refine xq rfl trivial (o_mv rfl) ?_
    refine xo_bool 16 rfl (fun hg3 => ?_) (fun hg3 => ?_)
    · have hq3 : (decide ((((enc_F (updI (updI (updI (fun _ => 0) 0 4) 2 2) 3 7)).1).length : Int) = 88)) = false := (bnT hg3)
      have hp3 : ¬ ((((enc_F (updI (updI (updI (fun _ => 0) 0 4) 2 2) 3 7)).1).length : Int) = 88) := of_decide_eq_false hq3
      rw [if_neg hp3] at h
      refine xs rfl ⟨_, _, rfl, rfl, rfl⟩ (xs rfl ⟨_, _, rfl, rfl, rfl⟩ (xs rfl ⟨_, _, rfl, rfl, rfl⟩ (xs rfl ⟨_, _, rfl, rfl, rfl⟩ (xs rfl ⟨_, _, rfl, rfl, rfl⟩ ?_))))
      refine xq rfl trivial (o_pick_t rfl rfl) ?_
      refine xo_nil (xq_then (xw_cond_t rfl rfl (xw_seq (xw_region ?_))))
      refine xq rfl trivial (o_as rfl) ?_
      refine xo_nil (xq_then (xw_ret (xq_then_ret ?_)))
      subst h
      exact con_ret1 (.inl rfl) Try.results8 rfl [] (Kp.st (Kp.segNew (Cov.fresh hcBs1) Kp.nil)) (⟨rfl, rfl⟩)
    · have hq3 : (decide ((((enc_F (updI (updI (updI (fun _ => 0) 0 4) 2 2) 3 7)).1).length : Int) = 88)) = true := (bnF hg3)
      have hp3 : (((enc_F (updI (updI (updI (fun _ => 0) 0 4) 2 2) 3 7)).1).length : Int) = 88 := of_decide_eq_true hq3
      rw [if_pos hp3] at h
      refine xq rfl ⟨_, rfl, rfl⟩ (o_mv rfl) ?_
      obtain ⟨ho4, h⟩ := h
      refine xq rfl ⟨_, rfl, rfl⟩ (o_cutH el35 rfl (fun w hw => (hJs1.sl hw (Pull.sub (.here _ _)))) rfl ho4) ?_
      refine xo rfl ⟨_, rfl, rfl⟩ (o_bsl el35 ze5 (cells_one rfl) rfl rfl (.one rfl rfl rfl rfl (.one rfl rfl rfl rfl (.one rfl rfl rfl rfl (.one rfl rfl rfl rfl (.one rfl rfl rfl rfl (.one rfl rfl rfl rfl (.one rfl rfl rfl rfl (.nil _))))))))) ?_
      rintro _ _ ⟨b19, hb19, rfl, rfl⟩
      obtain ⟨ho5, h⟩ := h
      refine xcallq rfl ⟨_, rfl, rfl⟩ kf14 rfl (fun w1 hw1 => same_c _ _ _ _ w1 ((hJs1.cut (Nat.zero_le _) (toNat_le ho4) (by decide)).sl hw1 (Pull.sub (.thereC _ (.here _ _)))) (SL.lit (l := [4, 0, 2, 0, 0, 0, 7]) hw1 (List.Mem.head _) rfl (by omega) (by simp [maxLen]) (by exact (fun i hi => match i, hi with | 0, _ => rfl | 1, _ => rfl | 2, _ => rfl | 3, _ => rfl | 4, _ => rfl | 5, _ => rfl | 6, _ => rfl | q + 7, h => absurd h (by omega)))) ho5) ?_
      refine xq rfl ⟨_, rfl, rfl⟩ (o_not rfl) ?_
      refine xq rfl trivial (o_pick_f rfl rfl) ?_
      refine xo_nil (xq_then ?_)
      refine xw_bool 22 rfl (fun hc6 => ?_) (fun hc6 => ?_)
      · have hq6 : ((same_F ((((enc_F (updI (updI (updI (fun _ => 0) 0 4) 2 2) 3 7)).1).take 7).drop 0) ([4, 0, 2, 0, 0, 0, 7]))) = false := (bnT hc6)
        have hp6 : ¬ (((same_F ((((enc_F (updI (updI (updI (fun _ => 0) 0 4) 2 2) 3 7)).1).take 7).drop 0) ([4, 0, 2, 0, 0, 0, 7]))) = true) := bne' hq6
        rw [if_neg hp6] at h
        refine xw_cond_t rfl rfl (xw_seq (xw_region ?_))
        refine xq rfl trivial (o_as rfl) ?_
        refine xo_nil (xq_then (xw_ret (xq_then_ret ?_)))
        subst h
        exact con_ret1 (.inl rfl) Try.results8 rfl [] (Kp.st (Kp.new hb19 (Kp.segNew (Cov.fresh hcBs1) Kp.nil))) (⟨rfl, rfl⟩)
      · have hq6 : ((same_F ((((enc_F (updI (updI (updI (fun _ => 0) 0 4) 2 2) 3 7)).1).take 7).drop 0) ([4, 0, 2, 0, 0, 0, 7]))) = true := (bnF hc6)
        have hp6 : ((same_F ((((enc_F (updI (updI (updI (fun _ => 0) 0 4) 2 2) 3 7)).1).take 7).drop 0) ([4, 0, 2, 0, 0, 0, 7]))) = true := hq6
        rw [if_pos hp6] at h
        refine xw_cond_f rfl rfl (xw_skip (xq_then (xw_seq (xw_seq (xw_region ?_)))))
        refine xq rfl trivial (o_as rfl) ?_
        refine xo_nil (xq_then ?_)
        refine xw_block ?_
        obtain ⟨x1, hx1, h⟩ := h
        refine xw_wh (fun (i3 : Int) e H => e = [(1, vs1), (3, .int .i64 i3)] ∧ H = Bs1 ++ ([])) (fun x ex e H => match x with | .inl _ => ex = .exit 0 ∧ e = [] ∧ H = Bs1 ++ ([]) | .inr _ => ex = .ret ∧ e = [(0, .bool false)] ∧ H = Bs1 ++ ([])) hx1 ⟨[(1, vs1), (3, .int .i64 7)], Bs1 ++ ([]), (lc rfl (lc rfl ln)), Kp.st (Kp.new hb19 (Kp.segKeep Kp.nil)), ⟨rfl, rfl⟩⟩ ?_ ?_
        · rintro i3 o _ _ ⟨rfl, rfl⟩ hb
          have h : alive4_l1 i3 o := hb
          clear hb
          unfold alive4_l1 at h
          refine xw_seq (xw_seq (xw_region ?_))
          refine xq rfl trivial (o_mv rfl) ?_
          refine xq rfl trivial (o_lss rfl rfl) ?_
          refine xo_nil (xq_then ?_)
          refine xw_bool 24 rfl (fun hc7 => ?_) (fun hc7 => ?_)
          · have hq7 : (decide (i3 < 88)) = true := hc7
            have hp7 : i3 < 88 := of_decide_eq_true hq7
            rw [if_pos hp7] at h
            refine xw_cond_t rfl rfl (xw_skip (xq_then (xw_seq ?_)))
            refine xw_block ?_
            refine xw_seq (xw_region ?_)
            refine xq rfl trivial (o_mv rfl) ?_
            refine xq rfl trivial (o_mv rfl) ?_
            obtain ⟨ho8, h⟩ := h
            refine xq rfl trivial (o_ixL el35 rfl rfl (fun w hw => (hJs1.sl hw (Pull.sub (.here _ _)))) rfl ho8) ?_
            refine xq rfl trivial (o_ldL1 (off := 0) (u := .int .u8 (((enc_F (updI (updI (updI (fun _ => 0) 0 4) 2 2) 3 7)).1)[i3.toNat]!)) rfl ts5 rfl (fun w hw => (hJs1.sl hw (Pull.sub (.here _ _)))) (toNat_lt ho8) rfl rfl) ?_
            refine xq rfl trivial (o_neq rfl rfl) ?_
            refine xo_nil (xq_then ?_)
            refine xw_bool 31 rfl (fun hc9 => ?_) (fun hc9 => ?_)
            · have hq9 : (decide (((enc_F (updI (updI (updI (fun _ => 0) 0 4) 2 2) 3 7)).1)[i3.toNat]! = 0)) = false := (bnT hc9)
              have hp9 : ¬ (((enc_F (updI (updI (updI (fun _ => 0) 0 4) 2 2) 3 7)).1)[i3.toNat]! = 0) := of_decide_eq_false hq9
              rw [if_neg hp9] at h
              refine xw_cond_t rfl rfl (xw_seq (xw_region ?_))
              refine xq rfl trivial (o_as rfl) ?_
              refine xo_nil (xq_then (xw_ret (xq_blk_ret (xq_then_ret ?_))))
              exact xq_out (r := (.inr () : (Unit) ⊕ (Unit))) (e' := [(0, .bool false)]) (Bs1 ++ ([])) (lc rfl ln) (fun _ h => h) h (by intro hh; cases hh) ⟨rfl, rfl, rfl⟩
            · have hq9 : (decide (((enc_F (updI (updI (updI (fun _ => 0) 0 4) 2 2) 3 7)).1)[i3.toNat]! = 0)) = true := (bnF hc9)
              have hp9 : ((enc_F (updI (updI (updI (fun _ => 0) 0 4) 2 2) 3 7)).1)[i3.toNat]! = 0 := of_decide_eq_true hq9
              rw [if_pos hp9] at h
              refine xw_cond_f rfl rfl (xw_skip ?_)
              refine xq_blk 1 ?_
              refine xq_then (xw_region ?_)
              refine xq rfl trivial (o_mv rfl) ?_
              obtain ⟨ho10, h⟩ := h
              refine xq rfl trivial (o_add rfl rfl rfl ho10) ?_
              refine xq rfl trivial (o_as rfl) ?_
              refine xo_nil ?_
              exact xq_next (s' := (i3 + 1 : Int)) (e' := [(1, vs1), (3, .int .i64 (i3 + 1))]) (Bs1 ++ ([])) (lc rfl (lc rfl ln)) (fun _ h => h) h ⟨rfl, rfl⟩
          · have hq7 : (decide (i3 < 88)) = false := hc7
            have hp7 : ¬ (i3 < 88) := of_decide_eq_false hq7
            rw [if_neg hp7] at h
            refine xw_cond_f rfl rfl (xw_exit (xq_then_exit ?_))
            exact xq_out (r := (.inl () : (Unit) ⊕ (Unit))) (e' := []) (Bs1 ++ ([])) ln (fun _ h => h) h (by intro hh; cases hh) ⟨rfl, rfl, rfl⟩
        · rcases x1 with _ | x1
          · rintro _ _ _ ⟨rfl, rfl, rfl⟩
            replace h : alive4_k1a r := h
            unfold alive4_k1a at h
            refine xq_blk_eq ?_
            refine xq_then (xw_seq (xw_region ?_))
            refine xq rfl trivial (o_as rfl) ?_
            refine xo_nil (xq_then (xw_ret ?_))
            subst h
            exact con_ret1 (.inl rfl) Try.results8 rfl [] (Kp.st (Kp.segNew (Cov.fresh hcBs1) Kp.nil)) (⟨rfl, rfl⟩)
          cases x1
          rintro _ _ _ ⟨rfl, rfl, rfl⟩
          replace h : alive4_k1b r := h
          unfold alive4_k1b at h
          refine xq_blk_ret (xq_then_ret ?_)
          subst h
          exact con_ret1 (.inl rfl) Try.results8 rfl [] (Kp.st (Kp.segNew (Cov.fresh hcBs1) Kp.nil)) (⟨rfl, rfl⟩)

end Go.Proofs.Ytmcohikcgdfhcaa
