/- The code answers as the relations say. -/
import Derived.Test.YtjmfnohbeoiddaaTab
import Derived.Test.YtjmfnohbeoiddaaI12S
import Derived.Test.YtjmfnohbeoiddaaH12W
set_option maxHeartbeats 1000000
set_option linter.unusedVariables false
set_option linter.unusedSimpArgs false
set_option maxRecDepth 100000
namespace Go.Proofs.Ytjmfnohbeoiddaa
open Go Go.E

theorem nodesR_c (l0 : (List (Nat → Int))) (v0 : Value) (w : World) (hs0 : SL w 4 iv v0 l0) (hP : nodesR_P l0) : Con Try.prog 34 #[v0] w (fun v F => ∃ (u0 : Value) (C0 : GH), v = u0 ∧ F = (C0 ++ []) ∧ OJ 3 1 ic C0 u0 (nodesR_F l0) ∧ Cov w [] C0) :=
  nodesR_con l0 v0 w hs0 _ (nodesR_ok l0 hP)

theorem reachR_c (l0 : (List (Nat → Int))) (from1 : Int) (v0 : Value) (w : World) (hs0 : SL w 4 iv v0 l0) (hP : reachR_P l0 from1) : Con Try.prog 36 #[v0, .int .i64 from1] w (fun v F => ∃ (u0 : Value) (C0 : GH), v = u0 ∧ F = (C0 ++ []) ∧ OJ 3 1 ic C0 u0 (reachR_F l0 from1) ∧ Cov w [] C0) :=
  reachR_con l0 from1 v0 w hs0 _ (reachR_ok l0 from1 hP)

theorem circR_con (l0 : (List (Nat → Int))) (v0 : Value) (w : World) (hs0 : SL w 4 iv v0 l0) (r : (List Int)) (h : circR_S l0 r) : Con Try.prog 19 #[v0] w (fun v F => ∃ (u0 : Value) (C0 : GH), v = u0 ∧ F = (C0 ++ []) ∧ OJ 3 1 ic C0 u0 r ∧ Cov w [] C0) := by
  unfold circR_S at h
  refine con_enter (n := 33) [(0, _)] Try.func19 rfl Try.ntmps19 rfl (lac rfl lan) ?_
  refine xw_seq (xw_region ?_)
  refine xq rfl trivial (o_as rfl) ?_
  refine xo_nil (xq_then (xw_seq (xw_region ?_)))
  refine xq rfl trivial (o_mv rfl) ?_
  obtain ⟨ho1, h⟩ := h
  refine xcall rfl trivial kf34 rfl (fun w1 hw1 => nodesR_c _ _ w1 (hs0.keep hw1 Fr.nil) ho1) ?_
  rintro w1 vs2 _ hw1 ⟨_, Bs2, rfl, rfl, hJs2, hcBs2⟩
  refine ⟨_, Mg.news (Cov.fresh hcBs2) (.nil _), ?_⟩
  replace hcBs2 := Cov.base (w0 := w) hcBs2 hw1.size
  refine xq rfl trivial (o_as rfl) ?_
  refine xo_nil (xq_then (xw_seq (xw_region ?_)))
  refine xq rfl trivial (o_as rfl) ?_
  refine xo_nil (xq_then (xw_seq (xw_seq (xw_region ?_))))
  refine xq rfl trivial (o_as rfl) ?_
  refine xo_nil (xq_then ?_)
  refine xw_block ?_
  obtain ⟨out4, hx1, h⟩ := h
  refine xw_wh (fun s e H => match s with | (out4, i5) => ∃ (v4_1 : Value) (B4_1 : GH), e = [(0, v0), (3, vs2), (4, v4_1), (5, .int .i64 i5)] ∧ H = B4_1 ++ (Bs2 ++ ([])) ∧ OJ 3 1 ic B4_1 v4_1 out4 ∧ Cov w [] B4_1) (fun (out4 : (List Int)) ex e H => ∃ (v4_1o : Value) (B4_1o : GH), ex = .exit 0 ∧ e = [(4, v4_1o)] ∧ H = B4_1o ++ (Bs2 ++ ([])) ∧ OJ 3 1 ic B4_1o v4_1o out4 ∧ Cov w [] B4_1o) hx1 ⟨[(0, v0), (3, vs2), (4, .slice none 0 0), (5, .int .i64 0)], [] ++ (Bs2 ++ ([])), (lc rfl (lc rfl (lc rfl (lc rfl ln)))), fun _ h => h, ⟨_, [], rfl, rfl, OJ.nil, (Cov.refl _)⟩⟩ ?_ ?_
  · rintro ⟨out4, i5⟩ o _ _ ⟨v4_1, B4_1, rfl, rfl, hJ4_1, hcB4_1⟩ hb
    have h : circR_l1 l0 out4 i5 o := hb
    clear hb
    unfold circR_l1 at h
    refine xw_seq (xw_seq (xw_region ?_))
    refine xq rfl trivial (o_mv rfl) ?_
    refine xq rfl trivial (o_mv rfl) ?_
    refine xq rfl trivial (o_lenL rfl Try.underlying57 rfl (OJ.val hJs2)) ?_
    refine xq rfl trivial (o_lss rfl rfl) ?_
    refine xo_nil (xq_then ?_)
    refine xw_bool 11 rfl (fun hc3 => ?_) (fun hc3 => ?_)
    · have hq3 : (decide (i5 < ((nodesR_F l0).length : Int))) = true := hc3
      have hp3 : i5 < ((nodesR_F l0).length : Int) := of_decide_eq_true hq3
      rw [if_pos hp3] at h
      refine xw_cond_t rfl rfl (xw_skip (xq_then (xw_seq ?_)))
      refine xw_block ?_
      refine xw_seq ?_
      refine xd_start (by kernel_rfl) (by kernel_rfl) (fun hok => ?_)
      refine xd_b hok 0 [(0, _)] ([]) rsN rfl rfl rfl (lc rfl ln) (by kernel_rfl) trivial (fun H' hy hK => o_mv rfl) ?_
      refine xd_b hok 1 [(3, _)] ([]) rsN rfl rfl rfl (lc rfl ln) (by kernel_rfl) trivial (fun H' hy hK => o_mv rfl) ?_
      refine xd_b hok 2 [(5, _)] ([]) rsN rfl rfl rfl (lc rfl ln) (by kernel_rfl) trivial (fun H' hy hK => o_mv rfl) ?_
      obtain ⟨ho4, h⟩ := h
      refine xd_b hok 3 [(15, _), (16, _)] (Bs2 ++ ([])) (rsA (Pull.sub (.there _ (.here _ _))) rsN) rfl rfl rfl (lc rfl (lc rfl ln)) (by kernel_rfl) trivial (fun H' hy hK => o_ixL el57 rfl rfl (fun w hw => (hJs2.sl hw (fun x hx => hy x (Pull.sub (.here _ _) x hx)))) rfl ho4) ?_
      refine xd_b hok 4 [(17, _)] (Bs2 ++ ([])) (rsA (Pull.sub (.there _ (.here _ _))) rsN) rfl rfl rfl (lc rfl ln) (by kernel_rfl) trivial (fun H' hy hK => o_ldL1 (off := 0) (u := .int .i64 ((nodesR_F l0)[i5.toNat]!)) rfl ts3 rfl (fun w hw => (hJs2.sl hw (fun x hx => hy x (Pull.sub (.here _ _) x hx)))) (toNat_lt ho4) rfl rfl) ?_
      refine xd_b hok 6 [(3, _)] ([]) rsN rfl rfl rfl (lc rfl ln) (by kernel_rfl) trivial (fun H' hy hK => o_mv rfl) ?_
      refine xd_b hok 7 [(5, _)] ([]) rsN rfl rfl rfl (lc rfl ln) (by kernel_rfl) trivial (fun H' hy hK => o_mv rfl) ?_
      obtain ⟨ho5, h⟩ := h
      refine xd_b hok 8 [(20, _), (21, _)] (Bs2 ++ ([])) (rsA (Pull.sub (.there _ (.here _ _))) rsN) rfl rfl rfl (lc rfl (lc rfl ln)) (by kernel_rfl) trivial (fun H' hy hK => o_ixL el57 rfl rfl (fun w hw => (hJs2.sl hw (fun x hx => hy x (Pull.sub (.here _ _) x hx)))) rfl ho5) ?_
      refine xd_b hok 9 [(22, _)] (Bs2 ++ ([])) (rsA (Pull.sub (.there _ (.here _ _))) rsN) rfl rfl rfl (lc rfl ln) (by kernel_rfl) trivial (fun H' hy hK => o_ldL1 (off := 0) (u := .int .i64 ((nodesR_F l0)[i5.toNat]!)) rfl ts3 rfl (fun w hw => (hJs2.sl hw (fun x hx => hy x (Pull.sub (.here _ _) x hx)))) (toNat_lt ho5) rfl rfl) ?_
      obtain ⟨ho6, h⟩ := h
      refine xd_step hok 5 [(14, _), (18, _)] rfl rfl (by kernel_rfl) (lc rfl (lc rfl ln)) (by kernel_rfl) trivial (OT.st (fun _ h => h) (ot_callF (Cs := []) (Rs := [B4_1, Bs2]) kf36 rfl (fun w1 hw1 => Con.cat1 ((fun (hw1 : St w (B4_1 ++ (Bs2 ++ ([]))) w1) => reachR_c _ _ _ w1 (hs0.keep hw1 (Fr.seg hcB4_1 (Fr.seg hcBs2 Fr.nil))) ho6) hw1)) (by exact fun _ _ _ h => h.1))) ?_
      rintro vs7 _ ⟨w1, _, rfl, hle, -, _, Bs7, rfl, rfl, hJs7, hcBs7⟩
      replace hcBs7 := Cov.base (w0 := w) hcBs7 hle
      refine xd_sh2 (H' := Bs7 ++ (B4_1 ++ (Bs2 ++ ([])))) rfl ?_
      refine ⟨(rsA (rsA (Pull.sub (.there _ (.there _ (.here _ _)))) rsN) (rsA (rsA (Pull.sub (.there _ (.there _ (.here _ _)))) rsN) (rsA rsN (rsA rsN (rsA (rsA (Pull.sub (.there _ (.there _ (.here _ _)))) rsN) (rsA (rsA (Pull.sub (.there _ (.there _ (.here _ _)))) rsN) (rsA rsN (rsA rsN (rsA rsN rsN))))))))), (Ks.segN hcBs7 (Ks.segK (fun k hk => by simp [hk]) (Ks.segK (fun k hk => by simp [hk]) Ks.nil))), ?_⟩
      obtain ⟨ho8, h⟩ := h
      refine xd_b hok 10 [(19, _), (23, _)] (Bs7 ++ ([])) (rsA (Pull.sub (.here _ _)) rsN) rfl rfl rfl (lc rfl (lc rfl ln)) (by kernel_rfl) trivial (fun H' hy hK => o_callq kf35 rfl (fun w1 hw1 => hasR_c _ _ _ w1 (hJs7.sl hw1 (fun x hx => hy x (Pull.sub (.here _ _) x hx))) ho8)) ?_
      refine xd_end hok (by kernel_rfl) ?_
      refine xq_then ?_
      refine xw_bool 24 rfl (fun hc9 => ?_) (fun hc9 => ?_)
      · have hq9 : ((hasR_F (reachR_F l0 ((nodesR_F l0)[i5.toNat]!)) ((nodesR_F l0)[i5.toNat]!))) = true := hc9
        have hp9 : ((hasR_F (reachR_F l0 ((nodesR_F l0)[i5.toNat]!)) ((nodesR_F l0)[i5.toNat]!))) = true := hq9
        rw [if_pos hp9] at h
        refine xw_cond_t rfl rfl (xw_region ?_)
        refine xq rfl trivial (o_mv rfl) ?_
        refine xq rfl trivial (o_mv rfl) ?_
        refine xq rfl trivial (o_mv rfl) ?_
        obtain ⟨ho10, h⟩ := h
        refine xq rfl trivial (o_ixL el57 rfl rfl (fun w hw => (hJs2.sl hw (Pull.sub (.there _ (.there _ (.here _ _)))))) rfl ho10) ?_
        refine xq rfl trivial (o_ldL1 (off := 0) (u := .int .i64 ((nodesR_F l0)[i5.toNat]!)) rfl ts3 rfl (fun w hw => (hJs2.sl hw (Pull.sub (.there _ (.there _ (.here _ _)))))) (toNat_lt ho10) rfl rfl) ?_
        refine xo rfl trivial (o_bsl el57 ze3 (cells_one rfl) rfl rfl (.int rfl rfl (.nil _))) ?_
        rintro _ _ ⟨b30, hb30, rfl, rfl⟩
        obtain ⟨ho12, h⟩ := h
        refine xo rfl trivial (OT.st (fun _ h => Pull.st (.thereC _ (.there _ (.here _ _))) h) (o_appJ (l := out4) (l' := [(nodesR_F l0)[i5.toNat]!]) (B := B4_1) ap57 rfl rfl hJ4_1 (fun w2 hw2 => (SL.lit (l := [(nodesR_F l0)[i5.toNat]!]) hw2 (List.mem_append_right _ (List.Mem.head _)) rfl (by omega) (by simp [maxLen]) (by exact (fun i hi => match i, hi with | 0, _ => rfl | q + 1, h => absurd h (by omega))))) (fun _ _ => rfl) ho12 (len_max ho12 (by decide)))) ?_
        rintro vs11 _ ⟨Bs11, rfl, hns11, hJs11⟩
        have hcBs11 := Cov.trans hcB4_1 hns11
        refine xo_st ((b30, BK 1 _ 3) :: (Bs7 ++ (Bs11 ++ (Bs2 ++ ([]))))) (fun _ h => Pull.push (.thereC _ (.there _ (.here _ _))) h) ?_
        refine xq rfl trivial (o_as rfl) ?_
        refine xo_nil ?_
        refine xq_blk 1 ?_
        refine xq_then (xw_region ?_)
        refine xq rfl trivial (o_mv rfl) ?_
        obtain ⟨ho13, h⟩ := h
        refine xq rfl trivial (o_add rfl rfl rfl ho13) ?_
        refine xq rfl trivial (o_as rfl) ?_
        refine xo_nil ?_
        exact xq_next (s' := (((out4 ++ [(nodesR_F l0)[i5.toNat]!]), i5 + 1) : (List Int) × Int)) (e' := [(0, v0), (3, vs2), (4, vs11), (5, .int .i64 (i5 + 1))]) (Bs11 ++ (Bs2 ++ ([]))) (lc rfl (lc rfl (lc rfl (lc rfl ln)))) (Kp.st (Kp.new hb30 (Kp.segNew (Cov.fresh hcBs7) (Kp.segKeep (Kp.segKeep Kp.nil))))) h ⟨vs11, Bs11, rfl, rfl, hJs11, hcBs11⟩
      · have hq9 : ((hasR_F (reachR_F l0 ((nodesR_F l0)[i5.toNat]!)) ((nodesR_F l0)[i5.toNat]!))) = false := hc9
        have hp9 : ¬ (((hasR_F (reachR_F l0 ((nodesR_F l0)[i5.toNat]!)) ((nodesR_F l0)[i5.toNat]!))) = true) := bne' hq9
        rw [if_neg hp9] at h
        refine xw_cond_f rfl rfl (xw_skip ?_)
        refine xq_blk 1 ?_
        refine xq_then (xw_region ?_)
        refine xq rfl trivial (o_mv rfl) ?_
        obtain ⟨ho14, h⟩ := h
        refine xq rfl trivial (o_add rfl rfl rfl ho14) ?_
        refine xq rfl trivial (o_as rfl) ?_
        refine xo_nil ?_
        exact xq_next (s' := ((out4, i5 + 1) : (List Int) × Int)) (e' := [(0, v0), (3, vs2), (4, v4_1), (5, .int .i64 (i5 + 1))]) (B4_1 ++ (Bs2 ++ ([]))) (lc rfl (lc rfl (lc rfl (lc rfl ln)))) (Kp.st (Kp.segNew (Cov.fresh hcBs7) (Kp.segKeep (Kp.segKeep Kp.nil)))) h ⟨v4_1, B4_1, rfl, rfl, hJ4_1, hcB4_1⟩
    · have hq3 : (decide (i5 < ((nodesR_F l0).length : Int))) = false := hc3
      have hp3 : ¬ (i5 < ((nodesR_F l0).length : Int)) := of_decide_eq_false hq3
      rw [if_neg hp3] at h
      refine xw_cond_f rfl rfl (xw_exit (xq_then_exit ?_))
      exact xq_out (r := (out4 : (List Int))) (e' := [(4, v4_1)]) (B4_1 ++ (Bs2 ++ ([]))) (lc rfl ln) (fun _ h => h) h (by intro hh; cases hh) ⟨v4_1, B4_1, rfl, rfl, rfl, hJ4_1, hcB4_1⟩
  · rintro _ _ _ ⟨v4_1o, B4_1o, rfl, rfl, rfl, hJ4_1o, hcB4_1o⟩
    replace h : circR_k1a out4 r := h
    unfold circR_k1a at h
    refine xq_blk_eq ?_
    refine xq_then (xw_seq (xw_region ?_))
    refine xq rfl trivial (o_mv rfl) ?_
    refine xq rfl trivial (o_as rfl) ?_
    refine xo_nil (xq_then (xw_ret ?_))
    subst h
    exact con_ret1 (.inl rfl) Try.results19 rfl (B4_1o ++ []) (Kp.st (Kp.segKeep (Kp.segNew (Cov.fresh hcBs2) Kp.nil))) (⟨_, B4_1o, rfl, rfl, hJ4_1o, hcB4_1o⟩)

end Go.Proofs.Ytjmfnohbeoiddaa
