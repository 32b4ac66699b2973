/- The code answers as the relations say. -/
import Derived.Test.YtcnbdkkmcdjncaaTab
import Derived.Test.YtcnbdkkmcdjncaaH11S
import Derived.Test.YtcnbdkkmcdjncaaG11W
set_option maxHeartbeats 1000000
set_option linter.unusedVariables false
set_option linter.unusedSimpArgs false
set_option maxRecDepth 100000
namespace Go.Proofs.Ytcnbdkkmcdjncaa
open Go Go.E

theorem gway_c (l0 : (List (Nat → Int))) (from1 : Int) (to2 : Int) (v0 : Value) (w : World) (hs0 : SL w 4 iv v0 l0) (hP : gway_P l0 from1 to2) : Con Try.prog 16 #[v0, .int .i64 from1, .int .i64 to2] w (fun v F => ∃ (u0 : Value) (C0 : GH), v = u0 ∧ F = (C0 ++ []) ∧ OJ 3 1 ic C0 u0 (gway_F l0 from1 to2) ∧ Cov w [] C0) :=
  gway_con l0 from1 to2 v0 w hs0 _ (gway_ok l0 from1 to2 hP)

theorem breaks11_con (l0 : (List (Nat → Int))) (v0 : Value) (w : World) (hs0 : SL w 4 iv v0 l0) (r : Bool) (h : breaks11_S l0 r) : Con Try.prog 6 #[v0] w (Is (.bool r) []) := by
  unfold breaks11_S at h
  refine con_enter (n := 114) [(0, _)] Try.func6 rfl Try.ntmps6 rfl (lac rfl lan) ?_
  refine xw_seq (xw_region ?_)
  refine xq rfl trivial (o_as rfl) ?_
  refine xo_nil (xq_then (xw_seq (xw_seq (xw_region ?_))))
  obtain ⟨ho1, h⟩ := h
  refine xcallq rfl trivial kf7 rfl (fun w1 hw1 => alive11_c w1 ho1) ?_
  refine xq rfl trivial (o_not rfl) ?_
  refine xo_nil (xq_then ?_)
  refine xw_bool 16 rfl (fun hc2 => ?_) (fun hc2 => ?_)
  · have hq2 : (alive11_F) = false := (bnT hc2)
    have hp2 : ¬ ((alive11_F) = true) := bne' hq2
    rw [if_neg hp2] at h
    refine xw_cond_t rfl rfl (xw_seq (xw_region ?_))
    refine xq rfl trivial (o_as rfl) ?_
    refine xo_nil (xq_then (xw_ret (xq_then_ret ?_)))
    subst h
    exact con_ret1 (.inl rfl) Try.results6 rfl [] (fun _ h => h) (⟨rfl, rfl⟩)
  · have hq2 : (alive11_F) = true := (bnF hc2)
    have hp2 : (alive11_F) = true := hq2
    rw [if_pos hp2] at h
    refine xw_cond_f rfl rfl (xw_skip (xq_then (xw_seq (xw_seq (xw_region ?_)))))
    refine xq rfl trivial (o_mv rfl) ?_
    refine xq rfl trivial (o_lenL rfl Try.underlying22 rfl (SL.val hs0)) ?_
    refine xq rfl trivial (o_gtr rfl rfl) ?_
    refine xo_nil (xq_then ?_)
    refine xw_bool 19 rfl (fun hc3 => ?_) (fun hc3 => ?_)
    · have hq3 : (decide (60 < (l0.length : Int))) = true := hc3
      have hp3 : 60 < (l0.length : Int) := of_decide_eq_true hq3
      rw [if_pos hp3] at h
      refine xw_cond_t rfl rfl (xw_seq (xw_region ?_))
      refine xq rfl trivial (o_as rfl) ?_
      refine xo_nil (xq_then (xw_ret (xq_then_ret ?_)))
      subst h
      exact con_ret1 (.inl rfl) Try.results6 rfl [] (fun _ h => h) (⟨rfl, rfl⟩)
    · have hq3 : (decide (60 < (l0.length : Int))) = false := hc3
      have hp3 : ¬ (60 < (l0.length : Int)) := of_decide_eq_false hq3
      rw [if_neg hp3] at h
      refine xw_cond_f rfl rfl (xw_skip (xq_then (xw_seq (xw_region ?_))))
      refine xq rfl trivial (o_mv rfl) ?_
      obtain ⟨ho4, h⟩ := h
      refine xcall rfl trivial kf11 rfl (fun w1 hw1 => wrest_c _ _ w1 (hs0.keep hw1 Fr.nil) ho4) ?_
      rintro w1 vs5 _ hw1 ⟨_, Bs5, rfl, rfl, hJs5, hcBs5⟩
      refine ⟨_, Mg.news (Cov.fresh hcBs5) (.nil _), ?_⟩
      replace hcBs5 := Cov.base (w0 := w) hcBs5 hw1.size
      refine xq rfl trivial (o_mv rfl) ?_
      obtain ⟨ho6, h⟩ := h
      refine xcall rfl trivial kf8 rfl (fun w1 hw1 => wof_c _ _ w1 (hs0.keep hw1 (Fr.seg hcBs5 Fr.nil)) ho6) ?_
      rintro w1 vs7 _ hw1 ⟨_, Bs7, rfl, rfl, hJs7, hcBs7⟩
      refine ⟨_, Mg.news (Cov.fresh hcBs7) (.nil _), ?_⟩
      replace hcBs7 := Cov.base (w0 := w) hcBs7 hw1.size
      refine xq rfl trivial (o_as rfl) ?_
      refine xq rfl trivial (o_as rfl) ?_
      refine xo_nil (xq_then (xw_seq (xw_region ?_)))
      refine xq rfl trivial (o_as rfl) ?_
      refine xo_nil (xq_then (xw_seq (xw_seq (xw_region ?_))))
      refine xq rfl trivial (o_as rfl) ?_
      refine xo_nil (xq_then ?_)
      refine xw_block ?_
      obtain ⟨x1, hx1, h⟩ := h
      refine xw_wh (fun s e H => match s with | (plain5, i6) => ∃ (v5_1 : Value) (B5_1 : GH), e = [(0, v0), (3, vs5), (4, vs7), (5, v5_1), (6, .int .i64 i6)] ∧ H = B5_1 ++ (Bs7 ++ (Bs5 ++ ([]))) ∧ OJ 37 4 iv B5_1 v5_1 plain5 ∧ Cov w [] B5_1) (fun x ex e H => match x with | .inl plain5 => ∃ (v5_1o : Value) (B5_1o : GH), ex = .exit 0 ∧ e = [(0, v0), (4, vs7), (5, v5_1o)] ∧ H = B5_1o ++ (Bs7 ++ (Bs5 ++ ([]))) ∧ OJ 37 4 iv B5_1o v5_1o plain5 ∧ Cov w [] B5_1o | .inr _ => ∃ (B5_1o : GH), ex = .ret ∧ e = [(2, .bool false)] ∧ H = B5_1o ++ (Bs7 ++ (Bs5 ++ ([]))) ∧ Cov w [] B5_1o) hx1 ⟨[(0, v0), (3, vs5), (4, vs7), (5, .slice none 0 0), (6, .int .i64 0)], [] ++ (Bs7 ++ (Bs5 ++ ([]))), (lc rfl (lc rfl (lc rfl (lc rfl (lc rfl ln))))), fun _ h => h, ⟨_, [], rfl, rfl, OJ.nil, (Cov.refl _)⟩⟩ ?_ ?_
      · rintro ⟨plain5, i6⟩ o _ _ ⟨v5_1, B5_1, rfl, rfl, hJ5_1, hcB5_1⟩ hb
        have h : breaks11_l1 l0 plain5 i6 o := hb
        clear hb
        unfold breaks11_l1 at h
        refine xw_seq (xw_seq (xw_region ?_))
        refine xq rfl trivial (o_mv rfl) ?_
        refine xq rfl trivial (o_mv rfl) ?_
        refine xq rfl trivial (o_lenL rfl Try.underlying22 rfl (OJ.val hJs5)) ?_
        refine xq rfl trivial (o_lss rfl rfl) ?_
        refine xo_nil (xq_then ?_)
        refine xw_bool 27 rfl (fun hc8 => ?_) (fun hc8 => ?_)
        · have hq8 : (decide (i6 < ((wrest_F l0).length : Int))) = true := hc8
          have hp8 : i6 < ((wrest_F l0).length : Int) := of_decide_eq_true hq8
          rw [if_pos hp8] at h
          refine xw_cond_t rfl rfl (xw_skip (xq_then (xw_seq ?_)))
          refine xw_block ?_
          refine xw_seq (xw_seq ?_)
          refine xd_start (by kernel_rfl) (by kernel_rfl) (fun hok => ?_)
          refine xd_b hok 0 [(3, _)] ([]) rsN rfl rfl rfl (lc rfl ln) (by kernel_rfl) trivial (fun H' hy hK => o_mv rfl) ?_
          refine xd_b hok 1 [(6, _)] ([]) rsN rfl rfl rfl (lc rfl ln) (by kernel_rfl) trivial (fun H' hy hK => o_mv rfl) ?_
          obtain ⟨ho9, h⟩ := h
          refine xd_b hok 2 [(30, _), (31, _)] (Bs5 ++ ([])) (rsA (Pull.sub (.there _ (.there _ (.here _ _)))) rsN) rfl rfl rfl (lc rfl (lc rfl ln)) (by kernel_rfl) trivial (fun H' hy hK => o_ixL el22 rfl rfl (fun w hw => (hJs5.sl hw (fun x hx => hy x (Pull.sub (.here _ _) x hx)))) rfl ho9) ?_
          refine xd_b hok 3 [(32, _)] (Bs5 ++ ([])) (rsA (Pull.sub (.there _ (.there _ (.here _ _)))) rsN) rfl rfl rfl (lc rfl ln) (by kernel_rfl) trivial (fun H' hy hK => o_faL fl37_0 rfl rfl (fun w hw => (hJs5.sl hw (fun x hx => hy x (Pull.sub (.here _ _) x hx)))) (toNat_lt ho9)) ?_
          refine xd_b hok 4 [(33, _)] (Bs5 ++ ([])) (rsA (Pull.sub (.there _ (.there _ (.here _ _)))) rsN) rfl rfl rfl (lc rfl ln) (by kernel_rfl) trivial (fun H' hy hK => o_ldL1 (off := 0) (u := .int .i64 ((wrest_F l0)[i6.toNat]! 0)) rfl ts3 rfl (fun w hw => (hJs5.sl hw (fun x hx => hy x (Pull.sub (.here _ _) x hx)))) (toNat_lt ho9) rfl rfl) ?_
          refine xd_b hok 5 [(3, _)] ([]) rsN rfl rfl rfl (lc rfl ln) (by kernel_rfl) trivial (fun H' hy hK => o_mv rfl) ?_
          refine xd_b hok 6 [(6, _)] ([]) rsN rfl rfl rfl (lc rfl ln) (by kernel_rfl) trivial (fun H' hy hK => o_mv rfl) ?_
          obtain ⟨ho10, h⟩ := h
          refine xd_b hok 7 [(35, _), (36, _)] (Bs5 ++ ([])) (rsA (Pull.sub (.there _ (.there _ (.here _ _)))) rsN) rfl rfl rfl (lc rfl (lc rfl ln)) (by kernel_rfl) trivial (fun H' hy hK => o_ixL el22 rfl rfl (fun w hw => (hJs5.sl hw (fun x hx => hy x (Pull.sub (.here _ _) x hx)))) rfl ho10) ?_
          refine xd_b hok 8 [(37, _)] (Bs5 ++ ([])) (rsA (Pull.sub (.there _ (.there _ (.here _ _)))) rsN) rfl rfl rfl (lc rfl ln) (by kernel_rfl) trivial (fun H' hy hK => o_faL fl37_2 rfl rfl (fun w hw => (hJs5.sl hw (fun x hx => hy x (Pull.sub (.here _ _) x hx)))) (toNat_lt ho10)) ?_
          refine xd_b hok 9 [(38, _)] (Bs5 ++ ([])) (rsA (Pull.sub (.there _ (.there _ (.here _ _)))) rsN) rfl rfl rfl (lc rfl ln) (by kernel_rfl) trivial (fun H' hy hK => o_ldL1 (off := 2) (u := .int .i64 ((wrest_F l0)[i6.toNat]! 2)) rfl ts3 rfl (fun w hw => (hJs5.sl hw (fun x hx => hy x (Pull.sub (.here _ _) x hx)))) (toNat_lt ho10) rfl rfl) ?_
          refine xd_b hok 10 [(34, _), (39, _)] ([]) rsN rfl rfl rfl (lc rfl (lc rfl ln)) (by kernel_rfl) trivial (fun H' hy hK => o_lss rfl rfl) ?_
          refine xd_end hok (by kernel_rfl) ?_
          refine xq_then ?_
          refine xw_bool 40 rfl (fun hc11 => ?_) (fun hc11 => ?_)
          · have hq11 : (decide ((wrest_F l0)[i6.toNat]! 0 < (wrest_F l0)[i6.toNat]! 2)) = true := hc11
            have hp11 : (wrest_F l0)[i6.toNat]! 0 < (wrest_F l0)[i6.toNat]! 2 := of_decide_eq_true hq11
            rw [if_pos hp11] at h
            refine xw_cond_t rfl rfl (xw_seq (xw_region ?_))
            refine xq rfl trivial (o_as rfl) ?_
            refine xo_nil (xq_then (xw_ret (xq_then_ret (xq_blk_ret (xq_then_ret ?_)))))
            exact xq_out (r := (.inr () : ((List (Nat → Int))) ⊕ (Unit))) (e' := [(2, .bool false)]) (B5_1 ++ (Bs7 ++ (Bs5 ++ ([])))) (lc rfl ln) (fun _ h => h) h (by intro hh; cases hh) ⟨B5_1, rfl, rfl, rfl, hcB5_1⟩
          · have hq11 : (decide ((wrest_F l0)[i6.toNat]! 0 < (wrest_F l0)[i6.toNat]! 2)) = false := hc11
            have hp11 : ¬ ((wrest_F l0)[i6.toNat]! 0 < (wrest_F l0)[i6.toNat]! 2) := of_decide_eq_false hq11
            rw [if_neg hp11] at h
            refine xw_cond_f rfl rfl (xw_skip (xq_then (xw_seq ?_)))
            refine xd_start (by kernel_rfl) (by kernel_rfl) (fun hok => ?_)
            refine xd_b hok 0 [(3, _)] ([]) rsN rfl rfl rfl (lc rfl ln) (by kernel_rfl) trivial (fun H' hy hK => o_mv rfl) ?_
            refine xd_b hok 1 [(6, _)] ([]) rsN rfl rfl rfl (lc rfl ln) (by kernel_rfl) trivial (fun H' hy hK => o_mv rfl) ?_
            obtain ⟨ho12, h⟩ := h
            refine xd_b hok 2 [(41, _), (42, _)] (Bs5 ++ ([])) (rsA (Pull.sub (.there _ (.there _ (.here _ _)))) rsN) rfl rfl rfl (lc rfl (lc rfl ln)) (by kernel_rfl) trivial (fun H' hy hK => o_ixL el22 rfl rfl (fun w hw => (hJs5.sl hw (fun x hx => hy x (Pull.sub (.here _ _) x hx)))) rfl ho12) ?_
            refine xd_b hok 3 [(43, _)] (Bs5 ++ ([])) (rsA (Pull.sub (.there _ (.there _ (.here _ _)))) rsN) rfl rfl rfl (lc rfl ln) (by kernel_rfl) trivial (fun H' hy hK => o_faL fl37_0 rfl rfl (fun w hw => (hJs5.sl hw (fun x hx => hy x (Pull.sub (.here _ _) x hx)))) (toNat_lt ho12)) ?_
            refine xd_b hok 4 [(44, _)] (Bs5 ++ ([])) (rsA (Pull.sub (.there _ (.there _ (.here _ _)))) rsN) rfl rfl rfl (lc rfl ln) (by kernel_rfl) trivial (fun H' hy hK => o_ldL1 (off := 0) (u := .int .i64 ((wrest_F l0)[i6.toNat]! 0)) rfl ts3 rfl (fun w hw => (hJs5.sl hw (fun x hx => hy x (Pull.sub (.here _ _) x hx)))) (toNat_lt ho12) rfl rfl) ?_
            refine xd_b hok 5 [(3, _)] ([]) rsN rfl rfl rfl (lc rfl ln) (by kernel_rfl) trivial (fun H' hy hK => o_mv rfl) ?_
            refine xd_b hok 6 [(6, _)] ([]) rsN rfl rfl rfl (lc rfl ln) (by kernel_rfl) trivial (fun H' hy hK => o_mv rfl) ?_
            obtain ⟨ho13, h⟩ := h
            refine xd_b hok 7 [(46, _), (47, _)] (Bs5 ++ ([])) (rsA (Pull.sub (.there _ (.there _ (.here _ _)))) rsN) rfl rfl rfl (lc rfl (lc rfl ln)) (by kernel_rfl) trivial (fun H' hy hK => o_ixL el22 rfl rfl (fun w hw => (hJs5.sl hw (fun x hx => hy x (Pull.sub (.here _ _) x hx)))) rfl ho13) ?_
            refine xd_b hok 8 [(48, _)] (Bs5 ++ ([])) (rsA (Pull.sub (.there _ (.there _ (.here _ _)))) rsN) rfl rfl rfl (lc rfl ln) (by kernel_rfl) trivial (fun H' hy hK => o_faL fl37_2 rfl rfl (fun w hw => (hJs5.sl hw (fun x hx => hy x (Pull.sub (.here _ _) x hx)))) (toNat_lt ho13)) ?_
            refine xd_b hok 9 [(49, _)] (Bs5 ++ ([])) (rsA (Pull.sub (.there _ (.there _ (.here _ _)))) rsN) rfl rfl rfl (lc rfl ln) (by kernel_rfl) trivial (fun H' hy hK => o_ldL1 (off := 2) (u := .int .i64 ((wrest_F l0)[i6.toNat]! 2)) rfl ts3 rfl (fun w hw => (hJs5.sl hw (fun x hx => hy x (Pull.sub (.here _ _) x hx)))) (toNat_lt ho13) rfl rfl) ?_
            refine xd_b hok 10 [(45, _), (50, _)] ([]) rsN rfl rfl rfl (lc rfl (lc rfl ln)) (by kernel_rfl) trivial (fun H' hy hK => o_neq rfl rfl) ?_
            refine xd_end hok (by kernel_rfl) ?_
            refine xq_then ?_
            refine xw_bool 51 rfl (fun hc14 => ?_) (fun hc14 => ?_)
            · have hq14 : (decide ((wrest_F l0)[i6.toNat]! 0 = (wrest_F l0)[i6.toNat]! 2)) = false := (bnT hc14)
              have hp14 : ¬ ((wrest_F l0)[i6.toNat]! 0 = (wrest_F l0)[i6.toNat]! 2) := of_decide_eq_false hq14
              rw [if_neg hp14] at h
              refine xw_cond_t rfl rfl (xw_region ?_)
              refine xq rfl trivial (o_mv rfl) ?_
              refine xq rfl trivial (o_mv rfl) ?_
              refine xq rfl trivial (o_mv rfl) ?_
              obtain ⟨ho15, h⟩ := h
              refine xq rfl trivial (o_ixL el22 rfl rfl (fun w hw => (hJs5.sl hw (Pull.sub (.there _ (.there _ (.here _ _)))))) rfl ho15) ?_
              refine xq rfl trivial (o_ldLI rfl ts37 rfl (fun w hw => (hJs5.sl hw (Pull.sub (.there _ (.there _ (.here _ _)))))) (toNat_lt ho15) rfl) ?_
              refine xo rfl trivial (o_bsl el22 ze37 rfl rfl rfl (.ints rfl rfl (.nil _))) ?_
              rintro _ _ ⟨b57, hb57, rfl, rfl⟩
              obtain ⟨ho17, h⟩ := h
              refine xo rfl trivial (OT.st (fun _ h => Pull.st (.thereC _ (.here _ _)) h) (o_appJ (l := plain5) (l' := [((wrest_F l0)[i6.toNat]!)]) (B := B5_1) ap22 rfl rfl hJ5_1 (fun w2 hw2 => (SL.lit (l := [((wrest_F l0)[i6.toNat]!)]) hw2 (List.mem_append_right _ (List.Mem.head _)) rfl (by omega) (by simp [maxLen]) (by exact (fun i hi => match i, hi with | 0, _ => rfl | 1, _ => rfl | 2, _ => rfl | 3, _ => rfl | q + 4, h => absurd h (by omega))))) (fun _ _ => rfl) ho17 (len_max ho17 (by decide)))) ?_
              rintro vs16 _ ⟨Bs16, rfl, hns16, hJs16⟩
              have hcBs16 := Cov.trans hcB5_1 hns16
              refine xo_st ((b57, BK 4 _ 37) :: (Bs16 ++ (Bs7 ++ (Bs5 ++ ([]))))) (fun _ h => Pull.push (.thereC _ (.here _ _)) h) ?_
              refine xq rfl trivial (o_as rfl) ?_
              refine xo_nil ?_
              refine xq_blk 1 ?_
              refine xq_then (xw_region ?_)
              refine xq rfl trivial (o_mv rfl) ?_
              obtain ⟨ho18, h⟩ := h
              refine xq rfl trivial (o_add rfl rfl rfl ho18) ?_
              refine xq rfl trivial (o_as rfl) ?_
              refine xo_nil ?_
              exact xq_next (s' := (((plain5 ++ [((wrest_F l0)[i6.toNat]!)]), i6 + 1) : (List (Nat → Int)) × Int)) (e' := [(0, v0), (3, vs5), (4, vs7), (5, vs16), (6, .int .i64 (i6 + 1))]) (Bs16 ++ (Bs7 ++ (Bs5 ++ ([])))) (lc rfl (lc rfl (lc rfl (lc rfl (lc rfl ln))))) (Kp.st (Kp.new hb57 (Kp.segKeep (Kp.segKeep (Kp.segKeep Kp.nil))))) h ⟨vs16, Bs16, rfl, rfl, hJs16, hcBs16⟩
            · have hq14 : (decide ((wrest_F l0)[i6.toNat]! 0 = (wrest_F l0)[i6.toNat]! 2)) = true := (bnF hc14)
              have hp14 : (wrest_F l0)[i6.toNat]! 0 = (wrest_F l0)[i6.toNat]! 2 := of_decide_eq_true hq14
              rw [if_pos hp14] at h
              refine xw_cond_f rfl rfl (xw_skip ?_)
              refine xq_blk 1 ?_
              refine xq_then (xw_region ?_)
              refine xq rfl trivial (o_mv rfl) ?_
              obtain ⟨ho19, h⟩ := h
              refine xq rfl trivial (o_add rfl rfl rfl ho19) ?_
              refine xq rfl trivial (o_as rfl) ?_
              refine xo_nil ?_
              exact xq_next (s' := ((plain5, i6 + 1) : (List (Nat → Int)) × Int)) (e' := [(0, v0), (3, vs5), (4, vs7), (5, v5_1), (6, .int .i64 (i6 + 1))]) (B5_1 ++ (Bs7 ++ (Bs5 ++ ([])))) (lc rfl (lc rfl (lc rfl (lc rfl (lc rfl ln))))) (fun _ h => h) h ⟨v5_1, B5_1, rfl, rfl, hJ5_1, hcB5_1⟩
        · have hq8 : (decide (i6 < ((wrest_F l0).length : Int))) = false := hc8
          have hp8 : ¬ (i6 < ((wrest_F l0).length : Int)) := of_decide_eq_false hq8
          rw [if_neg hp8] at h
          refine xw_cond_f rfl rfl (xw_exit (xq_then_exit ?_))
          exact xq_out (r := (.inl plain5 : ((List (Nat → Int))) ⊕ (Unit))) (e' := [(0, v0), (4, vs7), (5, v5_1)]) (B5_1 ++ (Bs7 ++ (Bs5 ++ ([])))) (lc rfl (lc rfl (lc rfl ln))) (fun _ h => h) h (by intro hh; cases hh) ⟨v5_1, B5_1, rfl, rfl, rfl, hJ5_1, hcB5_1⟩
      · rcases x1 with plain5 | x1
        · rintro _ _ _ ⟨v5_1o, B5_1o, rfl, rfl, rfl, hJ5_1o, hcB5_1o⟩
          replace h : breaks11_k1a l0 plain5 r := h
          unfold breaks11_k1a at h
          refine xq_blk_eq ?_
          refine xq_then (xw_seq (xw_seq (xw_region ?_)))
          refine xq rfl trivial (o_mv rfl) ?_
          obtain ⟨ho20, h⟩ := h
          refine xcall rfl trivial kf14 rfl (fun w1 hw1 => gorder_c _ _ w1 (hJ5_1o.sl hw1 (Pull.sub (.here _ _))) ho20) ?_
          rintro w1 _ _ hw1 ⟨vs21, Bs21, rfl, rfl, hJs21, hcBs21⟩
          refine ⟨_, Mg.news (Cov.fresh hcBs21) (.nil _), ?_⟩
          replace hcBs21 := Cov.base (w0 := w) hcBs21 hw1.size
          refine xq rfl trivial (o_mv rfl) ?_
          refine xq rfl trivial (o_ext rfl rfl) ?_
          refine xq rfl trivial (o_ext rfl rfl) ?_
          refine xq rfl trivial (o_as rfl) ?_
          refine xq rfl trivial (o_as rfl) ?_
          refine xo_nil (xq_then (xw_seq (xw_region ?_)))
          refine xq rfl trivial (o_mv rfl) ?_
          refine xq rfl trivial (o_neE Try.underlying40 rfl (fun _ => rfl) rfl rfl) ?_
          refine xo_nil (xq_then ?_)
          refine xw_bool 65 rfl (fun hc22 => ?_) (fun hc22 => ?_)
          · have hq22 : (decide ((gorder_F plain5).2 = 0)) = false := (bnT hc22)
            have hp22 : ¬ ((gorder_F plain5).2 = 0) := of_decide_eq_false hq22
            rw [if_neg hp22] at h
            refine xw_cond_t rfl rfl (xw_seq (xw_region ?_))
            refine xq rfl trivial (o_as rfl) ?_
            refine xo_nil (xq_then (xw_ret (xq_then_ret ?_)))
            subst h
            exact con_ret1 (.inl rfl) Try.results6 rfl [] (Kp.st (Kp.segNew (Cov.fresh hcBs21) (Kp.segNew (Cov.fresh hcB5_1o) (Kp.segNew (Cov.fresh hcBs7) (Kp.segNew (Cov.fresh hcBs5) Kp.nil))))) (⟨rfl, rfl⟩)
          · have hq22 : (decide ((gorder_F plain5).2 = 0)) = true := (bnF hc22)
            have hp22 : (gorder_F plain5).2 = 0 := of_decide_eq_true hq22
            rw [if_pos hp22] at h
            refine xw_cond_f rfl rfl (xw_skip (xq_then (xw_seq (xw_region ?_))))
            refine xq rfl trivial (o_mv rfl) ?_
            obtain ⟨ho23, h⟩ := h
            refine xcall rfl trivial kf15 rfl (fun w1 hw1 => nodesR_c _ _ w1 (hs0.keep hw1 (Fr.seg hcBs21 (Fr.seg hcB5_1o (Fr.seg hcBs7 (Fr.seg hcBs5 Fr.nil))))) ho23) ?_
            rintro w1 vs24 _ hw1 ⟨_, Bs24, rfl, rfl, hJs24, hcBs24⟩
            refine ⟨_, Mg.news (Cov.fresh hcBs24) (.nil _), ?_⟩
            replace hcBs24 := Cov.base (w0 := w) hcBs24 hw1.size
            refine xq rfl trivial (o_as rfl) ?_
            refine xo_nil (xq_then (xw_seq (xw_seq (xw_region ?_))))
            refine xq rfl trivial (o_as rfl) ?_
            refine xo_nil (xq_then ?_)
            refine xw_block ?_
            obtain ⟨x2, hx2, h⟩ := h
            refine xw_wh (fun (i10 : Int) e H => e = [(0, v0), (4, vs7), (9, vs24), (10, .int .i64 i10)] ∧ H = Bs24 ++ (Bs7 ++ ([]))) (fun x ex e H => match x with | .inl _ => ex = .exit 2 ∧ e = [] ∧ H = Bs24 ++ (Bs7 ++ ([])) | .inr _ => ex = .ret ∧ e = [(2, .bool false)] ∧ H = Bs24 ++ (Bs7 ++ ([]))) hx2 ⟨[(0, v0), (4, vs7), (9, vs24), (10, .int .i64 0)], Bs24 ++ (Bs7 ++ ([])), (lc rfl (lc rfl (lc rfl (lc rfl ln)))), Kp.st (Kp.segKeep (Kp.segNew (Cov.fresh hcBs21) (Kp.segNew (Cov.fresh hcB5_1o) (Kp.segKeep (Kp.segNew (Cov.fresh hcBs5) Kp.nil))))), ⟨rfl, rfl⟩⟩ ?_ ?_
            · rintro i10 o _ _ ⟨rfl, rfl⟩ hb
              have h : breaks11_l2 l0 i10 o := hb
              clear hb
              unfold breaks11_l2 at h
              refine xw_seq (xw_seq (xw_region ?_))
              refine xq rfl trivial (o_mv rfl) ?_
              refine xq rfl trivial (o_mv rfl) ?_
              refine xq rfl trivial (o_lenL rfl Try.underlying38 rfl (OJ.val hJs24)) ?_
              refine xq rfl trivial (o_lss rfl rfl) ?_
              refine xo_nil (xq_then ?_)
              refine xw_bool 71 rfl (fun hc25 => ?_) (fun hc25 => ?_)
              · have hq25 : (decide (i10 < ((nodesR_F l0).length : Int))) = true := hc25
                have hp25 : i10 < ((nodesR_F l0).length : Int) := of_decide_eq_true hq25
                rw [if_pos hp25] at h
                refine xw_cond_t rfl rfl (xw_skip (xq_then (xw_seq ?_)))
                refine xw_block ?_
                refine xw_seq ?_
                refine xd_start (by kernel_rfl) (by kernel_rfl) (fun hok => ?_)
                refine xd_b hok 0 [(0, _)] ([]) rsN rfl rfl rfl (lc rfl ln) (by kernel_rfl) trivial (fun H' hy hK => o_mv rfl) ?_
                refine xd_b hok 1 [(9, _)] ([]) rsN rfl rfl rfl (lc rfl ln) (by kernel_rfl) trivial (fun H' hy hK => o_mv rfl) ?_
                refine xd_b hok 2 [(10, _)] ([]) rsN rfl rfl rfl (lc rfl ln) (by kernel_rfl) trivial (fun H' hy hK => o_mv rfl) ?_
                obtain ⟨ho26, h⟩ := h
                refine xd_b hok 3 [(75, _), (76, _)] (Bs24 ++ ([])) (rsA (Pull.sub (.here _ _)) rsN) rfl rfl rfl (lc rfl (lc rfl ln)) (by kernel_rfl) trivial (fun H' hy hK => o_ixL el38 rfl rfl (fun w hw => (hJs24.sl hw (fun x hx => hy x (Pull.sub (.here _ _) x hx)))) rfl ho26) ?_
                refine xd_b hok 4 [(77, _)] (Bs24 ++ ([])) (rsA (Pull.sub (.here _ _)) rsN) rfl rfl rfl (lc rfl ln) (by kernel_rfl) trivial (fun H' hy hK => o_ldL1 (off := 0) (u := .int .i64 ((nodesR_F l0)[i10.toNat]!)) rfl ts3 rfl (fun w hw => (hJs24.sl hw (fun x hx => hy x (Pull.sub (.here _ _) x hx)))) (toNat_lt ho26) rfl rfl) ?_
                refine xd_b hok 5 [(9, _)] ([]) rsN rfl rfl rfl (lc rfl ln) (by kernel_rfl) trivial (fun H' hy hK => o_mv rfl) ?_
                refine xd_b hok 6 [(10, _)] ([]) rsN rfl rfl rfl (lc rfl ln) (by kernel_rfl) trivial (fun H' hy hK => o_mv rfl) ?_
                obtain ⟨ho27, h⟩ := h
                refine xd_b hok 7 [(79, _), (80, _)] (Bs24 ++ ([])) (rsA (Pull.sub (.here _ _)) rsN) rfl rfl rfl (lc rfl (lc rfl ln)) (by kernel_rfl) trivial (fun H' hy hK => o_ixL el38 rfl rfl (fun w hw => (hJs24.sl hw (fun x hx => hy x (Pull.sub (.here _ _) x hx)))) rfl ho27) ?_
                refine xd_b hok 8 [(81, _)] (Bs24 ++ ([])) (rsA (Pull.sub (.here _ _)) rsN) rfl rfl rfl (lc rfl ln) (by kernel_rfl) trivial (fun H' hy hK => o_ldL1 (off := 0) (u := .int .i64 ((nodesR_F l0)[i10.toNat]!)) rfl ts3 rfl (fun w hw => (hJs24.sl hw (fun x hx => hy x (Pull.sub (.here _ _) x hx)))) (toNat_lt ho27) rfl rfl) ?_
                obtain ⟨ho28, h⟩ := h
                refine xd_fl hok 2 9 [(74, _), (78, _), (82, _)] rfl rfl (by kernel_rfl) (by kernel_rfl) (lc rfl (lc rfl (lc rfl ln))) (by kernel_rfl) trivial (OT.st (fun _ h => h) (ot_callF (Cs := []) (Rs := [Bs24, Bs7]) kf16 rfl (fun w1 hw1 => Con.cat1 ((fun (hw1 : St w (Bs24 ++ (Bs7 ++ ([]))) w1) => gway_c _ _ _ _ w1 (hs0.keep hw1 (Fr.seg hcBs24 (Fr.seg hcBs7 Fr.nil))) ho28) hw1)) (by exact fun _ _ _ h => h.1))) ?_
                rintro vs29 _ ⟨w1, _, rfl, hle, -, _, Bs29, rfl, rfl, hJs29, hcBs29⟩
                replace hcBs29 := Cov.base (w0 := w) hcBs29 hle
                refine xd_sh1 (H' := Bs29 ++ (Bs24 ++ (Bs7 ++ ([])))) rfl ?_
                refine ⟨(Ks.segN hcBs29 (Ks.segK (fun k hk => by simp [hk]) (Ks.segK (fun k hk => by simp [hk]) Ks.nil))), ?_⟩
                refine xd_b hok 10 [(83, _)] ([]) rsN rfl rfl rfl (lc rfl ln) (by kernel_rfl) trivial (fun H' hy hK => o_as rfl) ?_
                refine xd_end hok (by kernel_rfl) ?_
                refine xq_then (xw_seq (xw_seq (xw_region ?_)))
                refine xq rfl trivial (o_mv rfl) ?_
                refine xq rfl trivial (o_lenL rfl Try.underlying38 rfl (OJ.val hJs29)) ?_
                refine xq rfl trivial (o_lss rfl rfl) ?_
                refine xo_nil (xq_then ?_)
                refine xw_bool 86 rfl (fun hc30 => ?_) (fun hc30 => ?_)
                · have hq30 : (decide (((gway_F l0 ((nodesR_F l0)[i10.toNat]!) ((nodesR_F l0)[i10.toNat]!)).length : Int) < 3)) = true := hc30
                  have hp30 : ((gway_F l0 ((nodesR_F l0)[i10.toNat]!) ((nodesR_F l0)[i10.toNat]!)).length : Int) < 3 := of_decide_eq_true hq30
                  rw [if_pos hp30] at h
                  refine xw_cond_t rfl rfl (xw_exit (xq_then_exit ?_))
                  refine xq_blk_eq ?_
                  refine xq_then (xw_region ?_)
                  refine xq rfl trivial (o_mv rfl) ?_
                  obtain ⟨ho31, h⟩ := h
                  refine xq rfl trivial (o_add rfl rfl rfl ho31) ?_
                  refine xq rfl trivial (o_as rfl) ?_
                  refine xo_nil ?_
                  exact xq_next (s' := (i10 + 1 : Int)) (e' := [(0, v0), (4, vs7), (9, vs24), (10, .int .i64 (i10 + 1))]) (Bs24 ++ (Bs7 ++ ([]))) (lc rfl (lc rfl (lc rfl (lc rfl ln)))) (Kp.st (Kp.segNew (Cov.fresh hcBs29) (Kp.segKeep (Kp.segKeep Kp.nil)))) h ⟨rfl, rfl⟩
                · have hq30 : (decide (((gway_F l0 ((nodesR_F l0)[i10.toNat]!) ((nodesR_F l0)[i10.toNat]!)).length : Int) < 3)) = false := hc30
                  have hp30 : ¬ (((gway_F l0 ((nodesR_F l0)[i10.toNat]!) ((nodesR_F l0)[i10.toNat]!)).length : Int) < 3) := of_decide_eq_false hq30
                  rw [if_neg hp30] at h
                  refine xw_cond_f rfl rfl (xw_skip (xq_then (xw_seq (xw_region ?_))))
                  refine xq rfl trivial (o_as rfl) ?_
                  refine xo_nil (xq_then (xw_seq (xw_seq (xw_region ?_))))
                  refine xq rfl trivial (o_as rfl) ?_
                  refine xo_nil (xq_then ?_)
                  refine xw_block ?_
                  obtain ⟨hurt12, hx3, h⟩ := h
                  refine xw_wh (fun s e H => match s with | (hurt12, k13) => e = [(0, v0), (4, vs7), (9, vs24), (10, .int .i64 i10), (11, vs29), (12, .bool (hurt12)), (13, .int .i64 k13)] ∧ H = Bs29 ++ (Bs24 ++ (Bs7 ++ ([])))) (fun (hurt12 : Bool) ex e H => ex = .exit 4 ∧ e = [(0, v0), (4, vs7), (9, vs24), (10, .int .i64 i10), (12, .bool (hurt12))] ∧ H = Bs29 ++ (Bs24 ++ (Bs7 ++ ([])))) hx3 ⟨[(0, v0), (4, vs7), (9, vs24), (10, .int .i64 i10), (11, vs29), (12, .bool false), (13, .int .i64 0)], Bs29 ++ (Bs24 ++ (Bs7 ++ ([]))), (lc rfl (lc rfl (lc rfl (lc rfl (lc rfl (lc rfl (lc rfl ln))))))), fun _ h => h, ⟨rfl, rfl⟩⟩ ?_ ?_
                  · rintro ⟨hurt12, k13⟩ o _ _ ⟨rfl, rfl⟩ hb
                    have h : breaks11_l3 l0 i10 hurt12 k13 o := hb
                    clear hb
                    unfold breaks11_l3 at h
                    refine xw_seq (xw_seq (xw_region ?_))
                    refine xq rfl trivial (o_mv rfl) ?_
                    refine xq rfl trivial (o_mv rfl) ?_
                    refine xq rfl trivial (o_lenL rfl Try.underlying38 rfl (OJ.val hJs29)) ?_
                    refine xq rfl trivial (o_lss rfl rfl) ?_
                    refine xo_nil (xq_then ?_)
                    refine xw_bool 90 rfl (fun hc32 => ?_) (fun hc32 => ?_)
                    · have hq32 : (decide (k13 < ((gway_F l0 ((nodesR_F l0)[i10.toNat]!) ((nodesR_F l0)[i10.toNat]!)).length : Int))) = true := hc32
                      have hp32 : k13 < ((gway_F l0 ((nodesR_F l0)[i10.toNat]!) ((nodesR_F l0)[i10.toNat]!)).length : Int) := of_decide_eq_true hq32
                      rw [if_pos hp32] at h
                      refine xw_cond_t rfl rfl (xw_skip (xq_then (xw_seq ?_)))
                      refine xw_block ?_
                      refine xw_seq (xw_region ?_)
                      refine xq rfl trivial (o_as rfl) ?_
                      refine xo_nil (xq_then ?_)
                      refine xw_block ?_
                      obtain ⟨hurt12a, hx4, h⟩ := h
                      refine xw_wh (fun s e H => match s with | (hurt12a, x14) => e = [(0, v0), (4, vs7), (9, vs24), (10, .int .i64 i10), (11, vs29), (12, .bool (hurt12a)), (13, .int .i64 k13), (14, .int .i64 x14)] ∧ H = Bs29 ++ (Bs24 ++ (Bs7 ++ ([])))) (fun (hurt12a : Bool) ex e H => ex = .exit 6 ∧ e = [(0, v0), (4, vs7), (9, vs24), (10, .int .i64 i10), (11, vs29), (12, .bool (hurt12a)), (13, .int .i64 k13)] ∧ H = Bs29 ++ (Bs24 ++ (Bs7 ++ ([])))) hx4 ⟨[(0, v0), (4, vs7), (9, vs24), (10, .int .i64 i10), (11, vs29), (12, .bool (hurt12)), (13, .int .i64 k13), (14, .int .i64 0)], Bs29 ++ (Bs24 ++ (Bs7 ++ ([]))), (lc rfl (lc rfl (lc rfl (lc rfl (lc rfl (lc rfl (lc rfl (lc rfl ln)))))))), fun _ h => h, ⟨rfl, rfl⟩⟩ ?_ ?_
                      · rintro ⟨hurt12a, x14⟩ o _ _ ⟨rfl, rfl⟩ hb
                        have h : breaks11_l4 l0 i10 k13 hurt12a x14 o := hb
                        clear hb
                        unfold breaks11_l4 at h
                        refine xw_seq (xw_seq (xw_region ?_))
                        refine xq rfl trivial (o_mv rfl) ?_
                        refine xq rfl trivial (o_mv rfl) ?_
                        refine xq rfl trivial (o_lenL rfl Try.underlying24 rfl (OJ.val hJs7)) ?_
                        refine xq rfl trivial (o_lss rfl rfl) ?_
                        refine xo_nil (xq_then ?_)
                        refine xw_bool 96 rfl (fun hc33 => ?_) (fun hc33 => ?_)
                        · have hq33 : (decide (x14 < ((wof_F l0).length : Int))) = true := hc33
                          have hp33 : x14 < ((wof_F l0).length : Int) := of_decide_eq_true hq33
                          rw [if_pos hp33] at h
                          refine xw_cond_t rfl rfl (xw_skip (xq_then (xw_seq ?_)))
                          refine xw_block ?_
                          obtain ⟨ho34, ho35, h⟩ := h
                          refine xw_cut [(0, _), (4, _), (9, _), (10, _), (11, _), (13, _), (14, _)] (lc rfl (lc rfl (lc rfl (lc rfl (lc rfl (lc rfl (lc rfl ln))))))) [(12, .bool ((hurt12a) || (decide ((wof_F l0)[x14.toNat]! 0 = (gway_F l0 ((nodesR_F l0)[i10.toNat]!) ((nodesR_F l0)[i10.toNat]!))[k13.toNat]!))))] ?_ ?_
                          · refine xd_start (by kernel_rfl) (by kernel_rfl) (fun hok => ?_)
                            refine xd_b hok 0 [(12, _)] ([]) rsN rfl rfl rfl (lc rfl ln) (by kernel_rfl) trivial (fun H' hy hK => o_mv rfl) ?_
                            refine xd_b hok 1 [(99, _)] ([]) rsN rfl rfl rfl (lc rfl ln) (by kernel_rfl) trivial (fun H' hy hK => o_mv rfl) ?_
                            refine xd_bool 100 rfl (fun hg36 => ?_) (fun hg36 => ?_)
                            · have hq36 : (hurt12a) = true := hg36
                              have hp36 : (hurt12a) = true := hq36
                              refine xd_skip hok 2 [(4, _), (100, _)] rfl rfl rfl (lc rfl (lc rfl ln)) (by kernel_rfl) ⟨_, _, rfl, rfl, rfl⟩ ?_
                              refine xd_skip hok 3 [(14, _), (100, _)] rfl rfl rfl (lc rfl (lc rfl ln)) (by kernel_rfl) ⟨_, _, rfl, rfl, rfl⟩ ?_
                              refine xd_skip hok 4 [(101, _), (102, _), (100, _)] rfl rfl rfl (lc rfl (lc rfl (lc rfl ln))) (by kernel_rfl) ⟨_, _, rfl, rfl, rfl⟩ ?_
                              refine xd_skip hok 5 [(103, _), (100, _)] rfl rfl rfl (lc rfl (lc rfl ln)) (by kernel_rfl) ⟨_, _, rfl, rfl, rfl⟩ ?_
                              refine xd_skip hok 6 [(104, _), (100, _)] rfl rfl rfl (lc rfl (lc rfl ln)) (by kernel_rfl) ⟨_, _, rfl, rfl, rfl⟩ ?_
                              refine xd_skip hok 7 [(11, _), (100, _)] rfl rfl rfl (lc rfl (lc rfl ln)) (by kernel_rfl) ⟨_, _, rfl, rfl, rfl⟩ ?_
                              refine xd_skip hok 8 [(13, _), (100, _)] rfl rfl rfl (lc rfl (lc rfl ln)) (by kernel_rfl) ⟨_, _, rfl, rfl, rfl⟩ ?_
                              refine xd_skip hok 9 [(106, _), (107, _), (100, _)] rfl rfl rfl (lc rfl (lc rfl (lc rfl ln))) (by kernel_rfl) ⟨_, _, rfl, rfl, rfl⟩ ?_
                              refine xd_skip hok 10 [(108, _), (100, _)] rfl rfl rfl (lc rfl (lc rfl ln)) (by kernel_rfl) ⟨_, _, rfl, rfl, rfl⟩ ?_
                              refine xd_skip hok 11 [(105, _), (109, _), (100, _)] rfl rfl rfl (lc rfl (lc rfl (lc rfl ln))) (by kernel_rfl) ⟨_, _, rfl, rfl, rfl⟩ ?_
                              refine xd_b hok 12 [(100, _), (110, _)] ([]) rsN rfl rfl rfl (lc rfl (lc rfl ln)) (by kernel_rfl) trivial (fun H' hy hK => o_pick_t rfl rfl) ?_
                              refine xd_b hok 13 [(111, _)] ([]) rsN rfl rfl rfl (lc rfl ln) (by kernel_rfl) trivial (fun H' hy hK => o_as rfl) ?_
                              refine xd_end hok (by kernel_rfl) ?_
                              exact xq_cut ((lce rfl (by first | rfl | (simp only [hq33, hq36, if_pos hp33, if_pos hp36, bS]; done) | (simp only [hq33, hq36, if_pos hp33, if_pos hp36, bS, reduceIte, Bool.false_eq_true]; done) | (simp [hp33, hp36]; done) | (simp_all; done)) (lc rfl (lc rfl (lc rfl (lc rfl (lc rfl (lc rfl (lc rfl ln))))))))) (fun _ h => h)
                            · have hq36 : (hurt12a) = false := hg36
                              have hp36 : ¬ ((hurt12a) = true) := bne' hq36
                              refine xd_b hok 2 [(4, _), (100, _)] ([]) rsN rfl rfl rfl (lc rfl (lc rfl ln)) (by kernel_rfl) ⟨_, rfl, rfl⟩ (fun H' hy hK => o_mv rfl) ?_
                              refine xd_b hok 3 [(14, _), (100, _)] ([]) rsN rfl rfl rfl (lc rfl (lc rfl ln)) (by kernel_rfl) ⟨_, rfl, rfl⟩ (fun H' hy hK => o_mv rfl) ?_
                              refine xd_b hok 4 [(101, _), (102, _), (100, _)] (Bs7 ++ ([])) (rsA (Pull.sub (.there _ (.there _ (.here _ _)))) rsN) rfl rfl rfl (lc rfl (lc rfl (lc rfl ln))) (by kernel_rfl) ⟨_, rfl, rfl⟩ (fun H' hy hK => o_ixL el24 rfl rfl (fun w hw => (hJs7.sl hw (fun x hx => hy x (Pull.sub (.here _ _) x hx)))) rfl (ho34 (by first | exact hg36 | (simp only [hq33, hq36, if_pos hp33, if_neg hp36, bS]; done) | (simp only [hq33, hq36, if_pos hp33, if_neg hp36, bS, reduceIte, Bool.false_eq_true]; done) | (simp [hp33, hp36]; done) | (simp_all; done)))) ?_
                              refine xd_b hok 5 [(103, _), (100, _)] (Bs7 ++ ([])) (rsA (Pull.sub (.there _ (.there _ (.here _ _)))) rsN) rfl rfl rfl (lc rfl (lc rfl ln)) (by kernel_rfl) ⟨_, rfl, rfl⟩ (fun H' hy hK => o_faL fl29_0 rfl rfl (fun w hw => (hJs7.sl hw (fun x hx => hy x (Pull.sub (.here _ _) x hx)))) (toNat_lt (ho34 (by first | exact hg36 | (simp only [hq33, hq36, if_pos hp33, if_neg hp36, bS]; done) | (simp only [hq33, hq36, if_pos hp33, if_neg hp36, bS, reduceIte, Bool.false_eq_true]; done) | (simp [hp33, hp36]; done) | (simp_all; done))))) ?_
                              refine xd_b hok 6 [(104, _), (100, _)] (Bs7 ++ ([])) (rsA (Pull.sub (.there _ (.there _ (.here _ _)))) rsN) rfl rfl rfl (lc rfl (lc rfl ln)) (by kernel_rfl) ⟨_, rfl, rfl⟩ (fun H' hy hK => o_ldL1 (off := 0) (u := .int .i64 ((wof_F l0)[x14.toNat]! 0)) rfl ts3 rfl (fun w hw => (hJs7.sl hw (fun x hx => hy x (Pull.sub (.here _ _) x hx)))) (toNat_lt (ho34 (by first | exact hg36 | (simp only [hq33, hq36, if_pos hp33, if_neg hp36, bS]; done) | (simp only [hq33, hq36, if_pos hp33, if_neg hp36, bS, reduceIte, Bool.false_eq_true]; done) | (simp [hp33, hp36]; done) | (simp_all; done)))) rfl rfl) ?_
                              refine xd_b hok 7 [(11, _), (100, _)] ([]) rsN rfl rfl rfl (lc rfl (lc rfl ln)) (by kernel_rfl) ⟨_, rfl, rfl⟩ (fun H' hy hK => o_mv rfl) ?_
                              refine xd_b hok 8 [(13, _), (100, _)] ([]) rsN rfl rfl rfl (lc rfl (lc rfl ln)) (by kernel_rfl) ⟨_, rfl, rfl⟩ (fun H' hy hK => o_mv rfl) ?_
                              refine xd_b hok 9 [(106, _), (107, _), (100, _)] (Bs29 ++ ([])) (rsA (Pull.sub (.here _ _)) rsN) rfl rfl rfl (lc rfl (lc rfl (lc rfl ln))) (by kernel_rfl) ⟨_, rfl, rfl⟩ (fun H' hy hK => o_ixL el38 rfl rfl (fun w hw => (hJs29.sl hw (fun x hx => hy x (Pull.sub (.here _ _) x hx)))) rfl (ho35 (by first | exact hg36 | (simp only [hq33, hq36, if_pos hp33, if_neg hp36, bS]; done) | (simp only [hq33, hq36, if_pos hp33, if_neg hp36, bS, reduceIte, Bool.false_eq_true]; done) | (simp [hp33, hp36]; done) | (simp_all; done)))) ?_
                              refine xd_b hok 10 [(108, _), (100, _)] (Bs29 ++ ([])) (rsA (Pull.sub (.here _ _)) rsN) rfl rfl rfl (lc rfl (lc rfl ln)) (by kernel_rfl) ⟨_, rfl, rfl⟩ (fun H' hy hK => o_ldL1 (off := 0) (u := .int .i64 ((gway_F l0 ((nodesR_F l0)[i10.toNat]!) ((nodesR_F l0)[i10.toNat]!))[k13.toNat]!)) rfl ts3 rfl (fun w hw => (hJs29.sl hw (fun x hx => hy x (Pull.sub (.here _ _) x hx)))) (toNat_lt (ho35 (by first | exact hg36 | (simp only [hq33, hq36, if_pos hp33, if_neg hp36, bS]; done) | (simp only [hq33, hq36, if_pos hp33, if_neg hp36, bS, reduceIte, Bool.false_eq_true]; done) | (simp [hp33, hp36]; done) | (simp_all; done)))) rfl rfl) ?_
                              refine xd_b hok 11 [(105, _), (109, _), (100, _)] ([]) rsN rfl rfl rfl (lc rfl (lc rfl (lc rfl ln))) (by kernel_rfl) ⟨_, rfl, rfl⟩ (fun H' hy hK => o_eql rfl rfl) ?_
                              refine xd_b hok 12 [(100, _), (110, _)] ([]) rsN rfl rfl rfl (lc rfl (lc rfl ln)) (by kernel_rfl) trivial (fun H' hy hK => o_pick_f rfl rfl) ?_
                              refine xd_b hok 13 [(111, _)] ([]) rsN rfl rfl rfl (lc rfl ln) (by kernel_rfl) trivial (fun H' hy hK => o_as rfl) ?_
                              refine xd_end hok (by kernel_rfl) ?_
                              exact xq_cut ((lce rfl (by first | rfl | (simp only [hq33, hq36, if_pos hp33, if_neg hp36, bS]; done) | (simp only [hq33, hq36, if_pos hp33, if_neg hp36, bS, reduceIte, Bool.false_eq_true]; done) | (simp [hp33, hp36]; done) | (simp_all; done)) (lc rfl (lc rfl (lc rfl (lc rfl (lc rfl (lc rfl (lc rfl ln))))))))) (fun _ h => h)
                          · refine xq_blk 7 ?_
                            refine xq_then (xw_region ?_)
                            refine xq rfl trivial (o_mv rfl) ?_
                            obtain ⟨ho37, h⟩ := h
                            refine xq rfl trivial (o_add rfl rfl rfl ho37) ?_
                            refine xq rfl trivial (o_as rfl) ?_
                            refine xo_nil ?_
                            exact xq_next (s' := (((hurt12a) || (decide ((wof_F l0)[x14.toNat]! 0 = (gway_F l0 ((nodesR_F l0)[i10.toNat]!) ((nodesR_F l0)[i10.toNat]!))[k13.toNat]!)), x14 + 1) : Bool × Int)) (e' := [(0, v0), (4, vs7), (9, vs24), (10, .int .i64 i10), (11, vs29), (12, .bool ((hurt12a) || (decide ((wof_F l0)[x14.toNat]! 0 = (gway_F l0 ((nodesR_F l0)[i10.toNat]!) ((nodesR_F l0)[i10.toNat]!))[k13.toNat]!)))), (13, .int .i64 k13), (14, .int .i64 (x14 + 1))]) (Bs29 ++ (Bs24 ++ (Bs7 ++ ([])))) (lc rfl (lc rfl (lc rfl (lc rfl (lc rfl (lc rfl (lc rfl (lc rfl ln)))))))) (fun _ h => h) h ⟨rfl, rfl⟩
                        · have hq33 : (decide (x14 < ((wof_F l0).length : Int))) = false := hc33
                          have hp33 : ¬ (x14 < ((wof_F l0).length : Int)) := of_decide_eq_false hq33
                          rw [if_neg hp33] at h
                          refine xw_cond_f rfl rfl (xw_exit (xq_then_exit ?_))
                          exact xq_out (r := (hurt12a : Bool)) (e' := [(0, v0), (4, vs7), (9, vs24), (10, .int .i64 i10), (11, vs29), (12, .bool (hurt12a)), (13, .int .i64 k13)]) (Bs29 ++ (Bs24 ++ (Bs7 ++ ([])))) (lc rfl (lc rfl (lc rfl (lc rfl (lc rfl (lc rfl (lc rfl ln))))))) (fun _ h => h) h (by intro hh; cases hh) ⟨rfl, rfl, rfl⟩
                      · rintro _ _ _ ⟨rfl, rfl, rfl⟩
                        replace h : breaks11_k4a k13 hurt12a o := h
                        unfold breaks11_k4a at h
                        refine xq_blk_eq ?_
                        refine xq_blk 5 ?_
                        refine xq_then (xw_region ?_)
                        refine xq rfl trivial (o_mv rfl) ?_
                        obtain ⟨ho38, h⟩ := h
                        refine xq rfl trivial (o_add rfl rfl rfl ho38) ?_
                        refine xq rfl trivial (o_as rfl) ?_
                        refine xo_nil ?_
                        exact xq_next (s' := ((hurt12a, k13 + 1) : Bool × Int)) (e' := [(0, v0), (4, vs7), (9, vs24), (10, .int .i64 i10), (11, vs29), (12, .bool (hurt12a)), (13, .int .i64 (k13 + 1))]) (Bs29 ++ (Bs24 ++ (Bs7 ++ ([])))) (lc rfl (lc rfl (lc rfl (lc rfl (lc rfl (lc rfl (lc rfl ln))))))) (fun _ h => h) h ⟨rfl, rfl⟩
                    · have hq32 : (decide (k13 < ((gway_F l0 ((nodesR_F l0)[i10.toNat]!) ((nodesR_F l0)[i10.toNat]!)).length : Int))) = false := hc32
                      have hp32 : ¬ (k13 < ((gway_F l0 ((nodesR_F l0)[i10.toNat]!) ((nodesR_F l0)[i10.toNat]!)).length : Int)) := of_decide_eq_false hq32
                      rw [if_neg hp32] at h
                      refine xw_cond_f rfl rfl (xw_exit (xq_then_exit ?_))
                      exact xq_out (r := (hurt12 : Bool)) (e' := [(0, v0), (4, vs7), (9, vs24), (10, .int .i64 i10), (12, .bool (hurt12))]) (Bs29 ++ (Bs24 ++ (Bs7 ++ ([])))) (lc rfl (lc rfl (lc rfl (lc rfl (lc rfl ln))))) (fun _ h => h) h (by intro hh; cases hh) ⟨rfl, rfl, rfl⟩
                  · rintro _ _ _ ⟨rfl, rfl, rfl⟩
                    replace h : breaks11_k3a i10 hurt12 o := h
                    unfold breaks11_k3a at h
                    refine xq_blk_eq ?_
                    refine xq_then (xw_seq (xw_region ?_))
                    refine xq rfl trivial (o_mv rfl) ?_
                    refine xq rfl trivial (o_not rfl) ?_
                    refine xo_nil (xq_then ?_)
                    refine xw_bool 113 rfl (fun hc39 => ?_) (fun hc39 => ?_)
                    · have hq39 : (hurt12) = false := (bnT hc39)
                      have hp39 : ¬ ((hurt12) = true) := bne' hq39
                      rw [if_neg hp39] at h
                      refine xw_cond_t rfl rfl (xw_seq (xw_region ?_))
                      refine xq rfl trivial (o_as rfl) ?_
                      refine xo_nil (xq_then (xw_ret (xq_blk_ret (xq_then_ret ?_))))
                      exact xq_out (r := (.inr () : (Unit) ⊕ (Unit))) (e' := [(2, .bool false)]) (Bs24 ++ (Bs7 ++ ([]))) (lc rfl ln) (Kp.st (Kp.segNew (Cov.fresh hcBs29) (Kp.segKeep (Kp.segKeep Kp.nil)))) h (by intro hh; cases hh) ⟨rfl, rfl, rfl⟩
                    · have hq39 : (hurt12) = true := (bnF hc39)
                      have hp39 : (hurt12) = true := hq39
                      rw [if_pos hp39] at h
                      refine xw_cond_f rfl rfl (xw_skip ?_)
                      refine xq_blk 3 ?_
                      refine xq_then (xw_region ?_)
                      refine xq rfl trivial (o_mv rfl) ?_
                      obtain ⟨ho40, h⟩ := h
                      refine xq rfl trivial (o_add rfl rfl rfl ho40) ?_
                      refine xq rfl trivial (o_as rfl) ?_
                      refine xo_nil ?_
                      exact xq_next (s' := (i10 + 1 : Int)) (e' := [(0, v0), (4, vs7), (9, vs24), (10, .int .i64 (i10 + 1))]) (Bs24 ++ (Bs7 ++ ([]))) (lc rfl (lc rfl (lc rfl (lc rfl ln)))) (Kp.st (Kp.segNew (Cov.fresh hcBs29) (Kp.segKeep (Kp.segKeep Kp.nil)))) h ⟨rfl, rfl⟩
              · have hq25 : (decide (i10 < ((nodesR_F l0).length : Int))) = false := hc25
                have hp25 : ¬ (i10 < ((nodesR_F l0).length : Int)) := of_decide_eq_false hq25
                rw [if_neg hp25] at h
                refine xw_cond_f rfl rfl (xw_exit (xq_then_exit ?_))
                exact xq_out (r := (.inl () : (Unit) ⊕ (Unit))) (e' := []) (Bs24 ++ (Bs7 ++ ([]))) ln (fun _ h => h) h (by intro hh; cases hh) ⟨rfl, rfl, rfl⟩
            · rcases x2 with _ | x2
              · rintro _ _ _ ⟨rfl, rfl, rfl⟩
                replace h : breaks11_k2a r := h
                unfold breaks11_k2a at h
                refine xq_blk_eq ?_
                refine xq_then (xw_seq (xw_region ?_))
                refine xq rfl trivial (o_as rfl) ?_
                refine xo_nil (xq_then (xw_ret ?_))
                subst h
                exact con_ret1 (.inl rfl) Try.results6 rfl [] (Kp.st (Kp.segNew (Cov.fresh hcBs24) (Kp.segNew (Cov.fresh hcBs7) Kp.nil))) (⟨rfl, rfl⟩)
              cases x2
              rintro _ _ _ ⟨rfl, rfl, rfl⟩
              replace h : breaks11_k2b r := h
              unfold breaks11_k2b at h
              refine xq_blk_ret (xq_then_ret ?_)
              subst h
              exact con_ret1 (.inl rfl) Try.results6 rfl [] (Kp.st (Kp.segNew (Cov.fresh hcBs24) (Kp.segNew (Cov.fresh hcBs7) Kp.nil))) (⟨rfl, rfl⟩)
        cases x1
        rintro _ _ _ ⟨B5_1o, rfl, rfl, rfl, hcB5_1o⟩
        replace h : breaks11_k1b r := h
        unfold breaks11_k1b at h
        refine xq_blk_ret (xq_then_ret ?_)
        subst h
        exact con_ret1 (.inl rfl) Try.results6 rfl [] (Kp.st (Kp.segNew (Cov.fresh hcB5_1o) (Kp.segNew (Cov.fresh hcBs7) (Kp.segNew (Cov.fresh hcBs5) Kp.nil)))) (⟨rfl, rfl⟩)

end Go.Proofs.Ytcnbdkkmcdjncaa
