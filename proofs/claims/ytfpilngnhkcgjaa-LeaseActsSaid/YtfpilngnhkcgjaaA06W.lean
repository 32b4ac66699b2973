/- The code answers as the relations say. -/
import Derived.Test.YtfpilngnhkcgjaaTab
import Derived.Test.YtfpilngnhkcgjaaA06S
import Derived.Test.YtfpilngnhkcgjaaMCW
import Derived.Test.YtfpilngnhkcgjaaSK
set_option maxHeartbeats 1000000
set_option linter.unusedVariables false
set_option linter.unusedSimpArgs false
set_option maxRecDepth 100000
namespace Go.Proofs.Ytfpilngnhkcgjaa
open Go Go.E

theorem code_c (e0 : Int) (w : World) : Con Try.prog 15 #[errV 54 e0] w (Is (.int .i64 (code_F e0)) []) :=
  code_con e0 w _ (code_ok e0)

theorem ltime_con (now0 : Int) (w : World) (r : Bool) (h : ltime_S now0 r) : Con Try.prog 19 #[.int .i64 now0] w (Is (.bool r) []) := by
  unfold ltime_S at h
  refine con_enter (n := 9) [(0, _)] Try.func19 rfl Try.ntmps19 rfl (lac rfl lan) ?_
  refine xw_seq (xw_region ?_)
  refine xq rfl trivial (o_as rfl) ?_
  refine xo_nil (xq_then (xw_seq ?_))
  refine xw_cut [] ln [(2, .bool ((decide (0 ≤ now0)) && (decide (now0 ≤ 1099511627776))))] ?_ ?_
  · refine xw_region ?_
    refine xq rfl trivial (o_mv rfl) ?_
    refine xq rfl trivial (o_geq rfl rfl) ?_
    refine xq rfl trivial (o_mv rfl) ?_
    refine xo_bool 5 rfl (fun hg1 => ?_) (fun hg1 => ?_)
    · have hq1 : (decide (0 ≤ now0)) = true := hg1
      have hp1 : 0 ≤ now0 := of_decide_eq_true hq1
      refine xq rfl ⟨_, rfl, rfl⟩ (o_mv rfl) ?_
      refine xq rfl ⟨_, rfl, rfl⟩ (o_leq rfl rfl) ?_
      refine xq rfl trivial (o_pick_t rfl rfl) ?_
      refine xq rfl trivial (o_as rfl) ?_
      refine xo_nil ?_
      exact xq_cut ((lce rfl (by first | rfl | (simp only [hq1, if_pos hp1, bS]; done) | (simp [hp1]; done) | (simp_all; done)) ln)) (fun _ h => h)
    · have hq1 : (decide (0 ≤ now0)) = false := hg1
      have hp1 : ¬ (0 ≤ now0) := of_decide_eq_false hq1
      refine xs rfl ⟨_, _, rfl, rfl, rfl⟩ (xs rfl ⟨_, _, rfl, rfl, rfl⟩ ?_)
      refine xq rfl trivial (o_pick_f rfl rfl) ?_
      refine xq rfl trivial (o_as rfl) ?_
      refine xo_nil ?_
      exact xq_cut ((lce rfl (by first | rfl | (simp only [hq1, if_neg hp1, bS]; done) | (simp [hp1]; done) | (simp_all; done)) ln)) (fun _ h => h)
  · refine xq_then (xw_ret ?_)
    subst h
    exact con_ret1 (.inl rfl) Try.results19 rfl [] (fun _ h => h) (⟨rfl, rfl⟩)

theorem ltime_c (now0 : Int) (w : World) : Con Try.prog 19 #[.int .i64 now0] w (Is (.bool (ltime_F now0)) []) :=
  ltime_con now0 w _ (ltime_ok now0)

theorem renew_con (l0span : Int) (l0since : (List (Int × Int))) (id1 : Int) (now2 : Int) (p0 : Nat) (v0_1 : Value) (S0_1 : GH) (w : World) (hJ0_1 : MJ kI kI ieq S0_1 v0_1 l0since) (hC : Has w (cat [[(p0, BK 2 (cl [.int .i64 l0span, v0_1]) 57)], S0_1])) (r : Int × (List (Int × Int))) (h : renew_S l0span l0since id1 now2 r) : Con Try.prog 9 #[.pointer (some ⟨p0, 0, none⟩), .int .i64 id1, .int .i64 now2] w (CatG fun v Ls => Cov w (cat [[(p0, BK 2 (cl [.int .i64 l0span, v0_1]) 57)], S0_1]) (cat Ls) ∧ ∃ (v0_1' : Value) (S0_1' : GH), v = errV 54 r.1 ∧ Ls = [[(p0, BK 2 (cl [.int .i64 l0span, v0_1']) 57)], S0_1'] ∧ MJ kI kI ieq S0_1' v0_1' r.2 ∧ Cov w S0_1 S0_1') := by
  unfold renew_S at h
  refine con_enter (n := 32) [(0, _), (1, _), (2, _)] Try.func9 rfl Try.ntmps9 rfl (lac rfl (lac rfl (lac rfl lan))) ?_
  refine xw_has hC ?_
  refine xw_st ((p0, BK 2 (cl [.int .i64 l0span, v0_1]) 57) :: (S0_1 ++ ([]))) (fun _ h => h) ?_
  refine xw_seq (xw_region ?_)
  refine xq rfl trivial (o_as rfl) ?_
  refine xo_nil (xq_then (xw_seq (xw_seq ?_)))
  refine xw_cut [(0, _), (1, _), (2, _)] (lc rfl (lc rfl (lc rfl ln))) [(17, .bool ((decide (id1 < 1)) || (!((ltime_F now2)))))] ?_ ?_
  · refine xw_region ?_
    refine xq rfl trivial (o_mv rfl) ?_
    refine xq rfl trivial (o_eqn Try.underlying25 rfl rfl rfl rfl) ?_
    refine xq rfl trivial (o_mv rfl) ?_
    refine xq rfl ⟨_, rfl, rfl⟩ (o_mv rfl) ?_
    refine xq rfl ⟨_, rfl, rfl⟩ (o_lss rfl rfl) ?_
    refine xq rfl trivial (o_pick_f rfl rfl) ?_
    refine xq rfl trivial (o_mv rfl) ?_
    refine xo_bool 13 rfl (fun hg1 => ?_) (fun hg1 => ?_)
    · have hq1 : (decide (id1 < 1)) = true := hg1
      have hp1 : id1 < 1 := of_decide_eq_true hq1
      refine xs rfl ⟨_, _, rfl, rfl, rfl⟩ (xs rfl ⟨_, _, rfl, rfl, rfl⟩ (xs rfl ⟨_, _, rfl, rfl, rfl⟩ ?_))
      refine xq rfl trivial (o_pick_t rfl rfl) ?_
      refine xo_nil ?_
      exact xq_cut ((lce rfl (by first | rfl | (simp only [hq1, if_pos hp1, bS]; done) | (simp [hp1]; done) | (simp_all; done)) (lc rfl (lc rfl (lc rfl ln))))) (fun _ h => h)
    · have hq1 : (decide (id1 < 1)) = false := hg1
      have hp1 : ¬ (id1 < 1) := of_decide_eq_false hq1
      refine xq rfl ⟨_, rfl, rfl⟩ (o_mv rfl) ?_
      refine xcallq rfl ⟨_, rfl, rfl⟩ kf19 rfl (fun w1 hw1 => ltime_c _ w1) ?_
      refine xq rfl ⟨_, rfl, rfl⟩ (o_not rfl) ?_
      refine xq rfl trivial (o_pick_f rfl rfl) ?_
      refine xo_nil ?_
      exact xq_cut ((lce rfl (by first | rfl | (simp only [hq1, if_neg hp1, bS]; done) | (simp [hp1]; done) | (simp_all; done)) (lc rfl (lc rfl (lc rfl ln))))) (fun _ h => h)
  · refine xq_then ?_
    refine xw_bool 17 rfl (fun hc2 => ?_) (fun hc2 => ?_)
    · have hq2 : ((decide (id1 < 1)) || (!((ltime_F now2)))) = true := hc2
      have hp2 : ((decide (id1 < 1)) || (!((ltime_F now2)))) = true := hq2
      rw [if_pos hp2] at h
      refine xw_cond_t rfl rfl (xw_seq (xw_region ?_))
      refine xq rfl trivial (o_mki rfl Try.underlying54 rfl) ?_
      refine xq rfl trivial (o_as rfl) ?_
      refine xo_nil (xq_then (xw_ret (xq_then_ret ?_)))
      subst h
      exact con_ret1 (.inl rfl) Try.results9 rfl (cat [[(p0, BK 2 (cl [.int .i64 l0span, v0_1]) 57)], S0_1]) (fun _ h => h) (⟨_, rfl, (Cov.cons (Cov.app (A := S0_1) (A' := S0_1) (Cov.refl _) Cov.nil)), v0_1, S0_1, rfl, rfl, hJ0_1, (Cov.refl _)⟩)
    · have hq2 : ((decide (id1 < 1)) || (!((ltime_F now2)))) = false := hc2
      have hp2 : ¬ (((decide (id1 < 1)) || (!((ltime_F now2)))) = true) := bne' hq2
      rw [if_neg hp2] at h
      refine xw_cond_f rfl rfl (xw_skip (xq_then (xw_seq ?_)))
      refine xd_start (by kernel_rfl) (by kernel_rfl) (fun hok => ?_)
      refine xd_b hok 0 [(0, _)] ([]) rsN rfl rfl rfl (lc rfl ln) (by kernel_rfl) trivial (fun H' hy hK => o_mv rfl) ?_
      refine xd_b hok 1 [(19, _)] ([]) rsN rfl rfl rfl (lc rfl ln) (by kernel_rfl) trivial (fun H' hy hK => o_nilp rfl) ?_
      first | refine xd_b hok 2 [(20, _)] ([]) rsN rfl rfl rfl (lc rfl ln) (by kernel_rfl) trivial (fun H' hy hK => o_fa0 fl57_1 rfl) ?_ | refine xd_b hok 2 [(20, _)] ([]) rsN rfl rfl rfl (lc rfl ln) (by kernel_rfl) trivial (fun H' hy hK => o_fa fl57_1 rfl) ?_
      refine xd_b hok 3 [(21, _)] ((p0, BK 2 (cl [.int .i64 l0span, v0_1]) 57) :: ([])) (rsC (List.Mem.head _) rsN) rfl rfl rfl (lc rfl ln) (by kernel_rfl) trivial (fun H' hy hK => o_ld (v := v0_1) rfl ts55 (hy _ (List.Mem.head _)) (by decide) rfl) ?_
      refine xd_b hok 4 [(1, _)] ([]) rsN rfl rfl rfl (lc rfl ln) (by kernel_rfl) trivial (fun H' hy hK => o_mv rfl) ?_
      refine xd_b hok 5 [(0, _)] ([]) rsN rfl rfl rfl (lc rfl ln) (by kernel_rfl) trivial (fun H' hy hK => o_mv rfl) ?_
      refine xd_b hok 6 [(24, _)] ([]) rsN rfl rfl rfl (lc rfl ln) (by kernel_rfl) trivial (fun H' hy hK => o_nilp rfl) ?_
      first | refine xd_b hok 7 [(25, _)] ([]) rsN rfl rfl rfl (lc rfl ln) (by kernel_rfl) trivial (fun H' hy hK => o_fa0 fl57_1 rfl) ?_ | refine xd_b hok 7 [(25, _)] ([]) rsN rfl rfl rfl (lc rfl ln) (by kernel_rfl) trivial (fun H' hy hK => o_fa fl57_1 rfl) ?_
      refine xd_b hok 8 [(26, _)] ((p0, BK 2 (cl [.int .i64 l0span, v0_1]) 57) :: ([])) (rsC (List.Mem.head _) rsN) rfl rfl rfl (lc rfl ln) (by kernel_rfl) trivial (fun H' hy hK => o_ld (v := v0_1) rfl ts55 (hy _ (List.Mem.head _)) (by decide) rfl) ?_
      refine xd_b hok 9 [(1, _)] ([]) rsN rfl rfl rfl (lc rfl ln) (by kernel_rfl) trivial (fun H' hy hK => o_mv rfl) ?_
      refine xd_b hok 11 [(2, _)] ([]) rsN rfl rfl rfl (lc rfl ln) (by kernel_rfl) trivial (fun H' hy hK => o_mv rfl) ?_
      refine xd_b hok 10 [(27, _), (28, _)] (S0_1 ++ ([])) (rsA (Pull.sub (.thereC _ (.here _ _))) rsN) rfl rfl rfl (lc rfl (lc rfl ln)) (by kernel_rfl) trivial (fun H' hy hK => o_lk (z := 0) (k := id1) kt3 Try.underlying55 ze3 rfl rfl hJ0_1 (fun x hx => hy x (Pull.sub (.here _ _) x hx))) ?_
      refine xd_step hok 12 [(29, _), (30, _)] rfl rfl (by kernel_rfl) (lc rfl (lc rfl ln)) (by kernel_rfl) trivial (o_max2 rfl) ?_
      rintro _ _ ⟨rfl, rfl⟩
      refine ⟨(rsA (rsA (Pull.sub (.thereC _ (.here _ _))) rsN) (rsA rsN (rsA rsN (rsA (rsC (List.Mem.head _) rsN) (rsA rsN (rsA rsN (rsA rsN (rsA rsN (rsA (rsC (List.Mem.head _) rsN) (rsA rsN (rsA rsN (rsA rsN rsN)))))))))))), (Ks.consK (by simp) (Ks.segK (fun k hk => by simp [hk]) Ks.nil)), ?_⟩
      refine xd_fl0 hok 0 13 [(22, _), (23, _), (31, _)] rfl rfl (by kernel_rfl) (by kernel_rfl) (lc rfl (lc rfl (lc rfl ln))) (by kernel_rfl) trivial (OT.push (fun q_ => (p0, BK 2 (cl [.int .i64 l0span, v0_1]) 57) :: (q_ ++ ([]))) (fun _ => (.thereC _ (.here _ _))) (OT.st (fun _ h => Pull.st (.thereC _ (.here _ _)) h) (o_mset (k := id1) (e := (if (mget ieq l0since id1 0) < now2 then now2 else (mget ieq l0since id1 0))) kt3 Try.underlying55 rfl rfl rfl hJ0_1))) ?_
      rintro _ _ ⟨Bs3, rfl, hns3, hJs3⟩
      have hcBs3 := Cov.trans (Cov.refl _) hns3
      refine ⟨(Ks.consK (by simp) (Ks.segC hcBs3 (fun k hk => by simp [hk]) Ks.nil)), ?_⟩
      refine xd_show (H' := (p0, BK 2 (cl [.int .i64 l0span, v0_1]) 57) :: (Bs3 ++ ([]))) rfl ?_
      refine xd_end hok (by kernel_rfl) ?_
      refine xq_then (xw_seq (xw_region ?_))
      refine xq rfl trivial (o_as rfl) ?_
      refine xo_nil (xq_then (xw_ret ?_))
      subst h
      exact con_ret1 (.inl rfl) Try.results9 rfl (cat [[(p0, BK 2 (cl [.int .i64 l0span, v0_1]) 57)], Bs3]) (fun _ h => h) (⟨_, rfl, (Cov.cons (Cov.app (A := S0_1) (A' := Bs3) hcBs3 Cov.nil)), v0_1, Bs3, rfl, rfl, hJs3, hcBs3⟩)

theorem renew_c (l0span : Int) (l0since : (List (Int × Int))) (id1 : Int) (now2 : Int) (p0 : Nat) (v0_1 : Value) (S0_1 : GH) (w : World) (hJ0_1 : MJ kI kI ieq S0_1 v0_1 l0since) (hC : Has w (cat [[(p0, BK 2 (cl [.int .i64 l0span, v0_1]) 57)], S0_1])) : Con Try.prog 9 #[.pointer (some ⟨p0, 0, none⟩), .int .i64 id1, .int .i64 now2] w (CatG fun v Ls => Cov w (cat [[(p0, BK 2 (cl [.int .i64 l0span, v0_1]) 57)], S0_1]) (cat Ls) ∧ ∃ (v0_1' : Value) (S0_1' : GH), v = errV 54 ((renew_F l0span l0since id1 now2).1) ∧ Ls = [[(p0, BK 2 (cl [.int .i64 l0span, v0_1']) 57)], S0_1'] ∧ MJ kI kI ieq S0_1' v0_1' ((renew_F l0span l0since id1 now2).2) ∧ Cov w S0_1 S0_1') :=
  renew_con l0span l0since id1 now2 p0 v0_1 S0_1 w hJ0_1 hC _ (renew_ok l0span l0since id1 now2)

theorem lend_con (l0span : Int) (l0since : (List (Int × Int))) (id1 : Int) (p0 : Nat) (v0_1 : Value) (S0_1 : GH) (w : World) (hJ0_1 : MJ kI kI ieq S0_1 v0_1 l0since) (hC : Has w (cat [[(p0, BK 2 (cl [.int .i64 l0span, v0_1]) 57)], S0_1])) (r : Int × (List (Int × Int))) (h : lend_S l0span l0since id1 r) : Con Try.prog 12 #[.pointer (some ⟨p0, 0, none⟩), .int .i64 id1] w (CatG fun v Ls => Cov w (cat [[(p0, BK 2 (cl [.int .i64 l0span, v0_1]) 57)], S0_1]) (cat Ls) ∧ ∃ (v0_1' : Value) (S0_1' : GH), v = errV 54 r.1 ∧ Ls = [[(p0, BK 2 (cl [.int .i64 l0span, v0_1']) 57)], S0_1'] ∧ MJ kI kI ieq S0_1' v0_1' r.2 ∧ Cov w S0_1 S0_1') := by
  unfold lend_S at h
  refine con_enter (n := 27) [(0, _), (1, _)] Try.func12 rfl Try.ntmps12 rfl (lac rfl (lac rfl lan)) ?_
  refine xw_has hC ?_
  refine xw_st ((p0, BK 2 (cl [.int .i64 l0span, v0_1]) 57) :: (S0_1 ++ ([]))) (fun _ h => h) ?_
  refine xw_seq (xw_region ?_)
  refine xq rfl trivial (o_as rfl) ?_
  refine xo_nil (xq_then (xw_seq (xw_seq (xw_region ?_))))
  refine xq rfl trivial (o_mv rfl) ?_
  refine xq rfl trivial (o_eqn Try.underlying25 rfl rfl rfl rfl) ?_
  refine xo_nil (xq_then (xw_cond_f rfl rfl (xw_skip (xq_then (xw_seq (xw_seq (xw_region ?_)))))))
  refine xq rfl trivial (o_mv rfl) ?_
  refine xq rfl trivial (o_nilp rfl) ?_
  first | refine xq rfl trivial (o_fa0 fl57_1 rfl) ?_ | refine xq rfl trivial (o_fa fl57_1 rfl) ?_
  refine xq rfl trivial (o_ld (v := v0_1) rfl ts55 (List.Mem.head _) (by decide) rfl) ?_
  refine xq rfl trivial (o_mv rfl) ?_
  refine xq rfl trivial (o_lkok (z := 0) (k := id1) kt3 Try.underlying55 ze3 rfl rfl hJ0_1 (Pull.sub (.thereC _ (.here _ _)))) ?_
  refine xq rfl trivial (o_mv rfl) ?_
  refine xq rfl trivial (o_ext rfl rfl) ?_
  refine xq rfl trivial (o_ext rfl rfl) ?_
  refine xq rfl trivial (o_as rfl) ?_
  refine xq rfl trivial (o_as rfl) ?_
  refine xo_nil (xq_then (xw_seq (xw_region ?_)))
  refine xq rfl trivial (o_mv rfl) ?_
  refine xq rfl trivial (o_not rfl) ?_
  refine xo_nil (xq_then ?_)
  refine xw_bool 20 rfl (fun hc1 => ?_) (fun hc1 => ?_)
  · have hq1 : ((mhas ieq l0since id1)) = false := (bnT hc1)
    have hp1 : ¬ (((mhas ieq l0since id1)) = true) := bne' hq1
    rw [if_neg hp1] at h
    refine xw_cond_t rfl rfl (xw_seq (xw_region ?_))
    refine xq rfl trivial (o_mki rfl Try.underlying54 rfl) ?_
    refine xq rfl trivial (o_as rfl) ?_
    refine xo_nil (xq_then (xw_ret (xq_then_ret ?_)))
    subst h
    exact con_ret1 (.inl rfl) Try.results12 rfl (cat [[(p0, BK 2 (cl [.int .i64 l0span, v0_1]) 57)], S0_1]) (fun _ h => h) (⟨_, rfl, (Cov.cons (Cov.app (A := S0_1) (A' := S0_1) (Cov.refl _) Cov.nil)), v0_1, S0_1, rfl, rfl, hJ0_1, (Cov.refl _)⟩)
  · have hq1 : ((mhas ieq l0since id1)) = true := (bnF hc1)
    have hp1 : ((mhas ieq l0since id1)) = true := hq1
    rw [if_pos hp1] at h
    refine xw_cond_f rfl rfl (xw_skip (xq_then (xw_seq (xw_region ?_))))
    refine xq rfl trivial (o_mv rfl) ?_
    refine xq rfl trivial (o_nilp rfl) ?_
    first | refine xq rfl trivial (o_fa0 fl57_1 rfl) ?_ | refine xq rfl trivial (o_fa fl57_1 rfl) ?_
    refine xq rfl trivial (o_ld (v := v0_1) rfl ts55 (List.Mem.head _) (by decide) rfl) ?_
    refine xq rfl trivial (o_mv rfl) ?_
    refine xo0 trivial (OT.st (fun _ h => Pull.st (.thereC _ (.here _ _)) h) (o_mdel (k := id1) kt3 Try.underlying55 rfl rfl hJ0_1)) ?_
    rintro _ _ ⟨Bs2, rfl, hns2, hJs2, -⟩
    have hcBs2 := Cov.trans (Cov.refl _) hns2
    refine xo_st ((p0, BK 2 (cl [.int .i64 l0span, v0_1]) 57) :: (Bs2 ++ ([]))) (fun _ h => Pull.push (.thereC _ (.here _ _)) h) ?_
    refine xo_nil (xq_then (xw_seq (xw_region ?_)))
    refine xq rfl trivial (o_as rfl) ?_
    refine xo_nil (xq_then (xw_ret ?_))
    subst h
    exact con_ret1 (.inl rfl) Try.results12 rfl (cat [[(p0, BK 2 (cl [.int .i64 l0span, v0_1]) 57)], Bs2]) (fun _ h => h) (⟨_, rfl, (Cov.cons (Cov.app (A := S0_1) (A' := Bs2) hcBs2 Cov.nil)), v0_1, Bs2, rfl, rfl, hJs2, hcBs2⟩)

theorem lend_c (l0span : Int) (l0since : (List (Int × Int))) (id1 : Int) (p0 : Nat) (v0_1 : Value) (S0_1 : GH) (w : World) (hJ0_1 : MJ kI kI ieq S0_1 v0_1 l0since) (hC : Has w (cat [[(p0, BK 2 (cl [.int .i64 l0span, v0_1]) 57)], S0_1])) : Con Try.prog 12 #[.pointer (some ⟨p0, 0, none⟩), .int .i64 id1] w (CatG fun v Ls => Cov w (cat [[(p0, BK 2 (cl [.int .i64 l0span, v0_1]) 57)], S0_1]) (cat Ls) ∧ ∃ (v0_1' : Value) (S0_1' : GH), v = errV 54 ((lend_F l0span l0since id1).1) ∧ Ls = [[(p0, BK 2 (cl [.int .i64 l0span, v0_1']) 57)], S0_1'] ∧ MJ kI kI ieq S0_1' v0_1' ((lend_F l0span l0since id1).2) ∧ Cov w S0_1 S0_1') :=
  lend_con l0span l0since id1 p0 v0_1 S0_1 w hJ0_1 hC _ (lend_ok l0span l0since id1)

theorem since_con (l0span : Int) (l0since : (List (Int × Int))) (id1 : Int) (p0 : Nat) (v0_1 : Value) (S0_1 : GH) (w : World) (hJ0_1 : MJ kI kI ieq S0_1 v0_1 l0since) (hC : Has w (cat [[(p0, BK 2 (cl [.int .i64 l0span, v0_1]) 57)], S0_1])) (r : Int × Int) (h : since_S l0span l0since id1 r) : Con Try.prog 14 #[.pointer (some ⟨p0, 0, none⟩), .int .i64 id1] w (CatG fun v Ls => Cov w (cat [[(p0, BK 2 (cl [.int .i64 l0span, v0_1]) 57)], S0_1]) (cat Ls) ∧ v = .tuple #[.int .i64 r.1, errV 54 r.2] ∧ Ls = [[(p0, BK 2 (cl [.int .i64 l0span, v0_1]) 57)], S0_1]) := by
  unfold since_S at h
  refine con_enter (n := 24) [(0, _), (1, _)] Try.func14 rfl Try.ntmps14 rfl (lac rfl (lac rfl lan)) ?_
  refine xw_has hC ?_
  refine xw_st ((p0, BK 2 (cl [.int .i64 l0span, v0_1]) 57) :: (S0_1 ++ ([]))) (fun _ h => h) ?_
  refine xw_seq (xw_region ?_)
  refine xq rfl trivial (o_as rfl) ?_
  refine xq rfl trivial (o_as rfl) ?_
  refine xo_nil (xq_then (xw_seq (xw_seq (xw_region ?_))))
  refine xq rfl trivial (o_mv rfl) ?_
  refine xq rfl trivial (o_eqn Try.underlying25 rfl rfl rfl rfl) ?_
  refine xo_nil (xq_then (xw_cond_f rfl rfl (xw_skip (xq_then (xw_seq (xw_region ?_))))))
  refine xq rfl trivial (o_mv rfl) ?_
  refine xq rfl trivial (o_nilp rfl) ?_
  first | refine xq rfl trivial (o_fa0 fl57_1 rfl) ?_ | refine xq rfl trivial (o_fa fl57_1 rfl) ?_
  refine xq rfl trivial (o_ld (v := v0_1) rfl ts55 (List.Mem.head _) (by decide) rfl) ?_
  refine xq rfl trivial (o_mv rfl) ?_
  refine xq rfl trivial (o_lkok (z := 0) (k := id1) kt3 Try.underlying55 ze3 rfl rfl hJ0_1 (Pull.sub (.thereC _ (.here _ _)))) ?_
  refine xq rfl trivial (o_mv rfl) ?_
  refine xq rfl trivial (o_ext rfl rfl) ?_
  refine xq rfl trivial (o_ext rfl rfl) ?_
  refine xq rfl trivial (o_as rfl) ?_
  refine xq rfl trivial (o_as rfl) ?_
  refine xo_nil (xq_then (xw_seq (xw_seq (xw_region ?_))))
  refine xq rfl trivial (o_mv rfl) ?_
  refine xq rfl trivial (o_not rfl) ?_
  refine xo_nil (xq_then ?_)
  refine xw_bool 21 rfl (fun hc1 => ?_) (fun hc1 => ?_)
  · have hq1 : ((mhas ieq l0since id1)) = false := (bnT hc1)
    have hp1 : ¬ (((mhas ieq l0since id1)) = true) := bne' hq1
    rw [if_neg hp1] at h
    refine xw_cond_t rfl rfl (xw_seq (xw_region ?_))
    refine xq rfl trivial (o_mki rfl Try.underlying54 rfl) ?_
    refine xq rfl trivial (o_as rfl) ?_
    refine xq rfl trivial (o_as rfl) ?_
    refine xo_nil (xq_then (xw_ret (xq_then_ret ?_)))
    subst h
    exact con_ret2 (.inl rfl) Try.results14 rfl rfl (cat [[(p0, BK 2 (cl [.int .i64 l0span, v0_1]) 57)], S0_1]) (fun _ h => h) (⟨_, rfl, (Cov.cons (Cov.app (A := S0_1) (A' := S0_1) (Cov.refl _) Cov.nil)), rfl, rfl⟩)
  · have hq1 : ((mhas ieq l0since id1)) = true := (bnF hc1)
    have hp1 : ((mhas ieq l0since id1)) = true := hq1
    rw [if_pos hp1] at h
    refine xw_cond_f rfl rfl (xw_skip (xq_then (xw_seq (xw_region ?_))))
    refine xq rfl trivial (o_mv rfl) ?_
    refine xq rfl trivial (o_as rfl) ?_
    refine xq rfl trivial (o_as rfl) ?_
    refine xo_nil (xq_then (xw_ret ?_))
    subst h
    exact con_ret2 (.inl rfl) Try.results14 rfl rfl (cat [[(p0, BK 2 (cl [.int .i64 l0span, v0_1]) 57)], S0_1]) (fun _ h => h) (⟨_, rfl, (Cov.cons (Cov.app (A := S0_1) (A' := S0_1) (Cov.refl _) Cov.nil)), rfl, rfl⟩)

theorem since_c (l0span : Int) (l0since : (List (Int × Int))) (id1 : Int) (p0 : Nat) (v0_1 : Value) (S0_1 : GH) (w : World) (hJ0_1 : MJ kI kI ieq S0_1 v0_1 l0since) (hC : Has w (cat [[(p0, BK 2 (cl [.int .i64 l0span, v0_1]) 57)], S0_1])) : Con Try.prog 14 #[.pointer (some ⟨p0, 0, none⟩), .int .i64 id1] w (CatG fun v Ls => Cov w (cat [[(p0, BK 2 (cl [.int .i64 l0span, v0_1]) 57)], S0_1]) (cat Ls) ∧ v = .tuple #[.int .i64 ((since_F l0span l0since id1).1), errV 54 ((since_F l0span l0since id1).2)] ∧ Ls = [[(p0, BK 2 (cl [.int .i64 l0span, v0_1]) 57)], S0_1]) :=
  since_con l0span l0since id1 p0 v0_1 S0_1 w hJ0_1 hC _ (since_ok l0span l0since id1)

theorem lall_con (l0span : Int) (l0since : (List (Int × Int))) (p0 : Nat) (v0_1 : Value) (S0_1 : GH) (w : World) (hJ0_1 : MJ kI kI ieq S0_1 v0_1 l0since) (hC : Has w (cat [[(p0, BK 2 (cl [.int .i64 l0span, v0_1]) 57)], S0_1])) (r : (List Int)) (h : lall_S l0span l0since r) : Con Try.prog 13 #[.pointer (some ⟨p0, 0, none⟩)] w (CatG fun v Ls => Cov w (cat [[(p0, BK 2 (cl [.int .i64 l0span, v0_1]) 57)], S0_1]) (cat Ls) ∧ ∃ (u0 : Value) (C0 : GH), v = u0 ∧ Ls = [[(p0, BK 2 (cl [.int .i64 l0span, v0_1]) 57)], S0_1, C0] ∧ OJ 3 1 ic C0 u0 r ∧ Cov w [] C0) := by
  unfold lall_S at h
  refine con_enter (n := 11) [(0, _)] Try.func13 rfl Try.ntmps13 rfl (lac rfl lan) ?_
  refine xw_has hC ?_
  refine xw_st ((p0, BK 2 (cl [.int .i64 l0span, v0_1]) 57) :: (S0_1 ++ ([]))) (fun _ h => h) ?_
  refine xw_seq (xw_region ?_)
  refine xq rfl trivial (o_as rfl) ?_
  refine xo_nil (xq_then (xw_seq (xw_seq (xw_region ?_))))
  refine xq rfl trivial (o_mv rfl) ?_
  refine xq rfl trivial (o_eqn Try.underlying25 rfl rfl rfl rfl) ?_
  refine xo_nil (xq_then (xw_cond_f rfl rfl (xw_skip (xq_then (xw_seq (xw_region ?_))))))
  refine xq rfl trivial (o_mv rfl) ?_
  refine xq rfl trivial (o_nilp rfl) ?_
  first | refine xq rfl trivial (o_fa0 fl57_1 rfl) ?_ | refine xq rfl trivial (o_fa fl57_1 rfl) ?_
  refine xq rfl trivial (o_ld (v := v0_1) rfl ts55 (List.Mem.head _) (by decide) rfl) ?_
  refine xoR rfl trivial (ot_in (l := [(0, _)]) kf21 rfl Try.func21 rfl Try.ntmps21 rfl (lac rfl lan) ?_)
  refine xw_seq (xw_region ?_)
  refine xo rfl trivial (o_box1 rfl (MJ.one hJ0_1)) ?_
  rintro _ _ ⟨b1, hb1, rfl, rfl⟩
  refine xq rfl trivial (o_as rfl) ?_
  refine xo_nil (xq_then (xw_seq (xw_region ?_)))
  refine xq rfl trivial (o_mkf rfl rfl) ?_
  refine xq rfl trivial (o_as rfl) ?_
  refine xo_nil (xq_then (xw_ret ?_))
  refine con_ret1 (.inl rfl) Try.results21 rfl _ (fun _ h => h) (?_)
  obtain ⟨ho1, h⟩ := h
  refine xcall rfl trivial kf20 rfl (fun w1 hw1 => sk26_c (hw1.own _ _ (List.Mem.head _)) hJ0_1 (fun x hx => hw1.own x.1 x.2 (Pull.sub (.thereC _ (.thereC _ (.here _ _))) x hx)) ho1) ?_
  rintro w1 vs2 _ hw1 ⟨_, Bs2, rfl, rfl, hJs2, hcBs2⟩
  refine ⟨_, .news (Cov.fresh hcBs2) (.nil _), ?_⟩
  replace hcBs2 := Cov.base (w0 := w) hcBs2 hw1.size
  refine xq rfl trivial (o_as rfl) ?_
  refine xo_nil (xq_then (xw_ret ?_))
  subst h
  exact con_ret1 (.inl rfl) Try.results13 rfl (cat [[(p0, BK 2 (cl [.int .i64 l0span, v0_1]) 57)], S0_1, Bs2]) (fun _ h => St.permI [1, 2, 0] [Bs2, [(p0, _)], S0_1] rfl (Kp.st (Kp.segKeep (Kp.new hb1 (Kp.keep (Kp.segKeep Kp.nil)))) _ h)) (⟨_, rfl, (Cov.cons (Cov.app (A := S0_1) (A' := S0_1) (Cov.refl _) (Cov.app0 hcBs2 Cov.nil))), _, Bs2, rfl, rfl, hJs2, hcBs2⟩)

theorem lall_c (l0span : Int) (l0since : (List (Int × Int))) (p0 : Nat) (v0_1 : Value) (S0_1 : GH) (w : World) (hJ0_1 : MJ kI kI ieq S0_1 v0_1 l0since) (hC : Has w (cat [[(p0, BK 2 (cl [.int .i64 l0span, v0_1]) 57)], S0_1])) (hP : lall_P l0span l0since) : Con Try.prog 13 #[.pointer (some ⟨p0, 0, none⟩)] w (CatG fun v Ls => Cov w (cat [[(p0, BK 2 (cl [.int .i64 l0span, v0_1]) 57)], S0_1]) (cat Ls) ∧ ∃ (u0 : Value) (C0 : GH), v = u0 ∧ Ls = [[(p0, BK 2 (cl [.int .i64 l0span, v0_1]) 57)], S0_1, C0] ∧ OJ 3 1 ic C0 u0 (lall_F l0span l0since) ∧ Cov w [] C0) :=
  lall_con l0span l0since p0 v0_1 S0_1 w hJ0_1 hC _ (lall_ok l0span l0since hP)

theorem due_con (l0span : Int) (l0since : (List (Int × Int))) (now1 : Int) (p0 : Nat) (v0_1 : Value) (S0_1 : GH) (w : World) (hJ0_1 : MJ kI kI ieq S0_1 v0_1 l0since) (hC : Has w (cat [[(p0, BK 2 (cl [.int .i64 l0span, v0_1]) 57)], S0_1])) (r : (List Int)) (h : due_S l0span l0since now1 r) : Con Try.prog 10 #[.pointer (some ⟨p0, 0, none⟩), .int .i64 now1] w (CatG fun v Ls => Cov w (cat [[(p0, BK 2 (cl [.int .i64 l0span, v0_1]) 57)], S0_1]) (cat Ls) ∧ ∃ (u0 : Value) (C0 : GH), v = u0 ∧ Ls = [[(p0, BK 2 (cl [.int .i64 l0span, v0_1]) 57)], S0_1, C0] ∧ OJ 3 1 ic C0 u0 r ∧ Cov w [] C0) := by
  unfold due_S at h
  refine con_enter (n := 38) [(0, _), (1, _)] Try.func10 rfl Try.ntmps10 rfl (lac rfl (lac rfl lan)) ?_
  refine xw_has hC ?_
  refine xw_st ((p0, BK 2 (cl [.int .i64 l0span, v0_1]) 57) :: (S0_1 ++ ([]))) (fun _ h => h) ?_
  refine xw_seq (xw_region ?_)
  refine xq rfl trivial (o_as rfl) ?_
  refine xo_nil (xq_then (xw_seq (xw_region ?_)))
  refine xq rfl trivial (o_as rfl) ?_
  refine xo_nil (xq_then (xw_seq (xw_seq (xw_region ?_))))
  refine xq rfl trivial (o_mv rfl) ?_
  obtain ⟨ho1, h⟩ := h
  refine xo rfl trivial (OT.st (fun _ h => h) (ot_callF (Cs := [[(p0, _)], S0_1]) (Rs := []) kf13 rfl (fun w1 hw1 => lall_c _ _ _ _ _ w1 hJ0_1 (St.hasC hw1) ho1) (fun _ _ _ h => h.1))) ?_
  rintro vs4 _ ⟨w1, _, rfl, hle, -, _, Bs4, rfl, rfl, hJs4, hcBs4⟩
  replace hcBs4 := Cov.base (w0 := w) hcBs4 hle
  refine xo_st ((p0, BK 2 (cl [.int .i64 l0span, v0_1]) 57) :: (S0_1 ++ (Bs4 ++ ([])))) (fun _ h => h) ?_
  refine xq rfl trivial (o_lenL rfl Try.underlying31 rfl (OJ.val hJs4)) ?_
  refine xq rfl trivial (o_mv rfl) ?_
  refine xo_nil (xq_then ?_)
  refine xw_block ?_
  obtain ⟨out5, hx1, h⟩ := h
  refine xw_wh (fun s e H => match s with | (out5, x11) => ∃ (v5_1 : Value) (B5_1 : GH), e = [(0, .pointer (some ⟨p0, 0, none⟩)), (1, .int .i64 now1), (5, v5_1), (9, vs4), (10, .int .i64 ((lall_F l0span l0since).length : Int)), (11, .int .i64 x11)] ∧ H = B5_1 ++ ((p0, BK 2 (cl [.int .i64 l0span, v0_1]) 57) :: (S0_1 ++ (Bs4 ++ ([])))) ∧ OJ 3 1 ic B5_1 v5_1 out5 ∧ Cov w [] B5_1) (fun (out5 : (List Int)) ex e H => ∃ (v5_1o : Value) (B5_1o : GH), ex = .exit 0 ∧ e = [(5, v5_1o)] ∧ H = B5_1o ++ ((p0, BK 2 (cl [.int .i64 l0span, v0_1]) 57) :: (S0_1 ++ (Bs4 ++ ([])))) ∧ OJ 3 1 ic B5_1o v5_1o out5 ∧ Cov w [] B5_1o) hx1 ⟨[(0, .pointer (some ⟨p0, 0, none⟩)), (1, .int .i64 now1), (5, .slice none 0 0), (9, vs4), (10, .int .i64 ((lall_F l0span l0since).length : Int)), (11, .int .i64 0)], [] ++ ((p0, BK 2 (cl [.int .i64 l0span, v0_1]) 57) :: (S0_1 ++ (Bs4 ++ ([])))), (lc rfl (lc rfl (lc rfl (lc rfl (lc rfl (lc rfl ln)))))), fun _ h => h, ⟨_, [], rfl, rfl, OJ.nil, (Cov.refl _)⟩⟩ ?_ ?_
  · rintro ⟨out5, x11⟩ o _ _ ⟨v5_1, B5_1, rfl, rfl, hJ5_1, hcB5_1⟩ hb
    have h : due_l1 l0span l0since now1 out5 x11 o := hb
    clear hb
    unfold due_l1 at h
    refine xw_seq (xw_region ?_)
    refine xq rfl trivial (o_lss rfl rfl) ?_
    refine xo_nil (xq_then (xw_seq ?_))
    refine xw_bool 12 rfl (fun hc5 => ?_) (fun hc5 => ?_)
    · have hq5 : (decide (x11 < ((lall_F l0span l0since).length : Int))) = true := hc5
      have hp5 : x11 < ((lall_F l0span l0since).length : Int) := of_decide_eq_true hq5
      rw [if_pos hp5] at h
      refine xw_cond_t rfl rfl (xw_skip (xq_then (xw_seq ?_)))
      refine xw_block ?_
      refine xw_seq (xw_region ?_)
      obtain ⟨ho6, h⟩ := h
      refine xq rfl trivial (o_ixL el31 rfl rfl (fun w hw => (hJs4.sl hw (Pull.sub (.there _ (.thereC _ (.there _ (.here _ _))))))) rfl ho6) ?_
      refine xq rfl trivial (o_ldL1 (off := 0) (u := .int .i64 ((lall_F l0span l0since)[x11.toNat]!)) rfl ts3 rfl (fun w hw => (hJs4.sl hw (Pull.sub (.there _ (.thereC _ (.there _ (.here _ _))))))) (toNat_lt ho6) rfl rfl) ?_
      refine xq rfl trivial (o_as rfl) ?_
      refine xo_nil (xq_then (xw_seq ?_))
      obtain ⟨ho7, h⟩ := h
      refine xw_cut [(0, _), (1, _), (5, _), (7, _), (9, _), (10, _), (11, _)] (lc rfl (lc rfl (lc rfl (lc rfl (lc rfl (lc rfl (lc rfl ln))))))) [(31, .bool (((ltime_F now1)) && (decide (l0span ≤ now1 - (mget ieq l0since ((lall_F l0span l0since)[x11.toNat]!) 0)))))] ?_ ?_
      · refine xd_start (by kernel_rfl) (by kernel_rfl) (fun hok => ?_)
        refine xd_b hok 0 [(1, _)] ([]) rsN rfl rfl rfl (lc rfl ln) (by kernel_rfl) trivial (fun H' hy hK => o_mv rfl) ?_
        refine xd_b hok 1 [(15, _)] ([]) rsN rfl rfl rfl (lc rfl ln) (by kernel_rfl) trivial (fun H' hy hK => o_callq kf19 rfl (fun w1 hw1 => ltime_c _ w1)) ?_
        refine xd_b hok 2 [(16, _)] ([]) rsN rfl rfl rfl (lc rfl ln) (by kernel_rfl) trivial (fun H' hy hK => o_mv rfl) ?_
        refine xd_bool 17 rfl (fun hg8 => ?_) (fun hg8 => ?_)
        · have hq8 : ((ltime_F now1)) = true := hg8
          have hp8 : ((ltime_F now1)) = true := hq8
          refine xd_b hok 3 [(1, _), (17, _)] ([]) rsN rfl rfl rfl (lc rfl (lc rfl ln)) (by kernel_rfl) ⟨_, rfl, rfl⟩ (fun H' hy hK => o_mv rfl) ?_
          refine xd_b hok 4 [(0, _), (17, _)] ([]) rsN rfl rfl rfl (lc rfl (lc rfl ln)) (by kernel_rfl) ⟨_, rfl, rfl⟩ (fun H' hy hK => o_mv rfl) ?_
          refine xd_b hok 5 [(19, _), (17, _)] ([]) rsN rfl rfl rfl (lc rfl (lc rfl ln)) (by kernel_rfl) ⟨_, rfl, rfl⟩ (fun H' hy hK => o_nilp rfl) ?_
          first | refine xd_b hok 6 [(20, _), (17, _)] ([]) rsN rfl rfl rfl (lc rfl (lc rfl ln)) (by kernel_rfl) ⟨_, rfl, rfl⟩ (fun H' hy hK => o_fa0 fl57_1 rfl) ?_ | refine xd_b hok 6 [(20, _), (17, _)] ([]) rsN rfl rfl rfl (lc rfl (lc rfl ln)) (by kernel_rfl) ⟨_, rfl, rfl⟩ (fun H' hy hK => o_fa fl57_1 rfl) ?_
          refine xd_b hok 7 [(21, _), (17, _)] ((p0, BK 2 (cl [.int .i64 l0span, v0_1]) 57) :: ([])) (rsC (List.mem_append_right _ (List.Mem.head _)) rsN) rfl rfl rfl (lc rfl (lc rfl ln)) (by kernel_rfl) ⟨_, rfl, rfl⟩ (fun H' hy hK => o_ld (v := v0_1) rfl ts55 (hy _ (List.Mem.head _)) (by decide) rfl) ?_
          refine xd_b hok 8 [(7, _), (17, _)] ([]) rsN rfl rfl rfl (lc rfl (lc rfl ln)) (by kernel_rfl) ⟨_, rfl, rfl⟩ (fun H' hy hK => o_mv rfl) ?_
          refine xd_b hok 11 [(0, _), (17, _)] ([]) rsN rfl rfl rfl (lc rfl (lc rfl ln)) (by kernel_rfl) ⟨_, rfl, rfl⟩ (fun H' hy hK => o_mv rfl) ?_
          refine xd_b hok 12 [(26, _), (17, _)] ([]) rsN rfl rfl rfl (lc rfl (lc rfl ln)) (by kernel_rfl) ⟨_, rfl, rfl⟩ (fun H' hy hK => o_nilp rfl) ?_
          first | refine xd_b hok 13 [(27, _), (17, _)] ([]) rsN rfl rfl rfl (lc rfl (lc rfl ln)) (by kernel_rfl) ⟨_, rfl, rfl⟩ (fun H' hy hK => o_fa0 fl57_0 rfl) ?_ | refine xd_b hok 13 [(27, _), (17, _)] ([]) rsN rfl rfl rfl (lc rfl (lc rfl ln)) (by kernel_rfl) ⟨_, rfl, rfl⟩ (fun H' hy hK => o_fa fl57_0 rfl) ?_
          refine xd_b hok 14 [(28, _), (17, _)] ((p0, BK 2 (cl [.int .i64 l0span, v0_1]) 57) :: ([])) (rsC (List.mem_append_right _ (List.Mem.head _)) rsN) rfl rfl rfl (lc rfl (lc rfl ln)) (by kernel_rfl) ⟨_, rfl, rfl⟩ (fun H' hy hK => o_ld (v := .int .i64 l0span) rfl ts3 (hy _ (List.Mem.head _)) (by decide) rfl) ?_
          refine xd_b hok 9 [(22, _), (23, _), (17, _)] (S0_1 ++ ([])) (rsA (Pull.sub (.there _ (.thereC _ (.here _ _)))) rsN) rfl rfl rfl (lc rfl (lc rfl (lc rfl ln))) (by kernel_rfl) ⟨_, rfl, rfl⟩ (fun H' hy hK => o_lk (z := 0) (k := (lall_F l0span l0since)[x11.toNat]!) kt3 Try.underlying55 ze3 rfl rfl hJ0_1 (fun x hx => hy x (Pull.sub (.here _ _) x hx))) ?_
          refine xd_b hok 10 [(18, _), (24, _), (17, _)] ([]) rsN rfl rfl rfl (lc rfl (lc rfl (lc rfl ln))) (by kernel_rfl) ⟨_, rfl, rfl⟩ (fun H' hy hK => o_sub rfl rfl rfl (ho7 (by first | exact hg8 | (simp only [hq5, hq8, if_pos hp5, if_pos hp8, bS]; done) | (simp [hp5, hp8]; done) | (simp_all; done)))) ?_
          refine xd_b hok 15 [(25, _), (29, _), (17, _)] ([]) rsN rfl rfl rfl (lc rfl (lc rfl (lc rfl ln))) (by kernel_rfl) ⟨_, rfl, rfl⟩ (fun H' hy hK => o_geq rfl rfl) ?_
          refine xd_b hok 16 [(17, _), (30, _)] ([]) rsN rfl rfl rfl (lc rfl (lc rfl ln)) (by kernel_rfl) trivial (fun H' hy hK => o_pick_t rfl rfl) ?_
          refine xd_end hok (by kernel_rfl) ?_
          exact xq_cut ((lce rfl (by first | rfl | (simp only [hq5, hq8, if_pos hp5, if_pos hp8, bS]; done) | (simp [hp5, hp8]; done) | (simp_all; done)) (lc rfl (lc rfl (lc rfl (lc rfl (lc rfl (lc rfl (lc rfl ln))))))))) (fun _ h => h)
        · have hq8 : ((ltime_F now1)) = false := hg8
          have hp8 : ¬ (((ltime_F now1)) = true) := bne' hq8
          refine xd_skip hok 3 [(1, _), (17, _)] rfl rfl rfl (lc rfl (lc rfl ln)) (by kernel_rfl) ⟨_, _, rfl, rfl, rfl⟩ ?_
          refine xd_skip hok 4 [(0, _), (17, _)] rfl rfl rfl (lc rfl (lc rfl ln)) (by kernel_rfl) ⟨_, _, rfl, rfl, rfl⟩ ?_
          refine xd_skip hok 5 [(19, _), (17, _)] rfl rfl rfl (lc rfl (lc rfl ln)) (by kernel_rfl) ⟨_, _, rfl, rfl, rfl⟩ ?_
          refine xd_skip hok 6 [(20, _), (17, _)] rfl rfl rfl (lc rfl (lc rfl ln)) (by kernel_rfl) ⟨_, _, rfl, rfl, rfl⟩ ?_
          refine xd_skip hok 7 [(21, _), (17, _)] rfl rfl rfl (lc rfl (lc rfl ln)) (by kernel_rfl) ⟨_, _, rfl, rfl, rfl⟩ ?_
          refine xd_skip hok 8 [(7, _), (17, _)] rfl rfl rfl (lc rfl (lc rfl ln)) (by kernel_rfl) ⟨_, _, rfl, rfl, rfl⟩ ?_
          refine xd_skip hok 9 [(22, _), (23, _), (17, _)] rfl rfl rfl (lc rfl (lc rfl (lc rfl ln))) (by kernel_rfl) ⟨_, _, rfl, rfl, rfl⟩ ?_
          refine xd_skip hok 10 [(18, _), (24, _), (17, _)] rfl rfl rfl (lc rfl (lc rfl (lc rfl ln))) (by kernel_rfl) ⟨_, _, rfl, rfl, rfl⟩ ?_
          refine xd_skip hok 11 [(0, _), (17, _)] rfl rfl rfl (lc rfl (lc rfl ln)) (by kernel_rfl) ⟨_, _, rfl, rfl, rfl⟩ ?_
          refine xd_skip hok 12 [(26, _), (17, _)] rfl rfl rfl (lc rfl (lc rfl ln)) (by kernel_rfl) ⟨_, _, rfl, rfl, rfl⟩ ?_
          refine xd_skip hok 13 [(27, _), (17, _)] rfl rfl rfl (lc rfl (lc rfl ln)) (by kernel_rfl) ⟨_, _, rfl, rfl, rfl⟩ ?_
          refine xd_skip hok 14 [(28, _), (17, _)] rfl rfl rfl (lc rfl (lc rfl ln)) (by kernel_rfl) ⟨_, _, rfl, rfl, rfl⟩ ?_
          refine xd_skip hok 15 [(25, _), (29, _), (17, _)] rfl rfl rfl (lc rfl (lc rfl (lc rfl ln))) (by kernel_rfl) ⟨_, _, rfl, rfl, rfl⟩ ?_
          refine xd_b hok 16 [(17, _), (30, _)] ([]) rsN rfl rfl rfl (lc rfl (lc rfl ln)) (by kernel_rfl) trivial (fun H' hy hK => o_pick_f rfl rfl) ?_
          refine xd_end hok (by kernel_rfl) ?_
          exact xq_cut ((lce rfl (by first | rfl | (simp only [hq5, hq8, if_pos hp5, if_neg hp8, bS]; done) | (simp [hp5, hp8]; done) | (simp_all; done)) (lc rfl (lc rfl (lc rfl (lc rfl (lc rfl (lc rfl (lc rfl ln))))))))) (fun _ h => h)
      · refine xq_then ?_
        refine xw_bool 31 rfl (fun hc9 => ?_) (fun hc9 => ?_)
        · have hq9 : (((ltime_F now1)) && (decide (l0span ≤ now1 - (mget ieq l0since ((lall_F l0span l0since)[x11.toNat]!) 0)))) = true := hc9
          have hp9 : (((ltime_F now1)) && (decide (l0span ≤ now1 - (mget ieq l0since ((lall_F l0span l0since)[x11.toNat]!) 0)))) = true := hq9
          rw [if_pos hp9] at h
          refine xw_cond_t rfl rfl (xw_region ?_)
          refine xq rfl trivial (o_mv rfl) ?_
          refine xq rfl trivial (o_mv rfl) ?_
          refine xo rfl trivial (o_bsl el31 ze3 (cells_one rfl) rfl rfl (.int rfl rfl (.nil _))) ?_
          rintro _ _ ⟨b34, hb34, rfl, rfl⟩
          obtain ⟨ho11, h⟩ := h
          refine xo rfl trivial (OT.st (fun _ h => Pull.st (.thereC _ (.here _ _)) h) (o_appJ (l := out5) (l' := [(lall_F l0span l0since)[x11.toNat]!]) (B := B5_1) ap31 rfl rfl hJ5_1 (fun w2 hw2 => (SL.lit (l := [(lall_F l0span l0since)[x11.toNat]!]) hw2 (List.mem_append_right _ (List.Mem.head _)) rfl (by omega) (by simp [maxLen]) (by exact (fun i hi => match i, hi with | 0, _ => rfl | q + 1, h => absurd h (by omega))))) (fun _ _ => rfl) ho11 (len_max ho11 (by decide)))) ?_
          rintro vs10 _ ⟨Bs10, rfl, hns10, hJs10⟩
          have hcBs10 := Cov.trans hcB5_1 hns10
          refine xo_st ((b34, BK 1 _ 3) :: (Bs10 ++ ((p0, BK 2 (cl [.int .i64 l0span, v0_1]) 57) :: (S0_1 ++ (Bs4 ++ ([])))))) (fun _ h => Pull.push (.thereC _ (.here _ _)) h) ?_
          refine xq rfl trivial (o_as rfl) ?_
          refine xo_nil ?_
          refine xq_blk 1 ?_
          refine xq_then (xw_region ?_)
          obtain ⟨ho12, h⟩ := h
          refine xq rfl trivial (o_add rfl rfl rfl ho12) ?_
          refine xq rfl trivial (o_mv rfl) ?_
          refine xo_nil ?_
          exact xq_next (s' := (((out5 ++ [(lall_F l0span l0since)[x11.toNat]!]), x11 + 1) : (List Int) × Int)) (e' := [(0, .pointer (some ⟨p0, 0, none⟩)), (1, .int .i64 now1), (5, vs10), (9, vs4), (10, .int .i64 ((lall_F l0span l0since).length : Int)), (11, .int .i64 (x11 + 1))]) (Bs10 ++ ((p0, BK 2 (cl [.int .i64 l0span, v0_1]) 57) :: (S0_1 ++ (Bs4 ++ ([]))))) (lc rfl (lc rfl (lc rfl (lc rfl (lc rfl (lc rfl ln)))))) (Kp.st (Kp.new hb34 (Kp.segKeep (Kp.keep (Kp.segKeep (Kp.segKeep Kp.nil)))))) h ⟨vs10, Bs10, rfl, rfl, hJs10, hcBs10⟩
        · have hq9 : (((ltime_F now1)) && (decide (l0span ≤ now1 - (mget ieq l0since ((lall_F l0span l0since)[x11.toNat]!) 0)))) = false := hc9
          have hp9 : ¬ ((((ltime_F now1)) && (decide (l0span ≤ now1 - (mget ieq l0since ((lall_F l0span l0since)[x11.toNat]!) 0)))) = true) := bne' hq9
          rw [if_neg hp9] at h
          refine xw_cond_f rfl rfl (xw_skip ?_)
          refine xq_blk 1 ?_
          refine xq_then (xw_region ?_)
          obtain ⟨ho13, h⟩ := h
          refine xq rfl trivial (o_add rfl rfl rfl ho13) ?_
          refine xq rfl trivial (o_mv rfl) ?_
          refine xo_nil ?_
          exact xq_next (s' := ((out5, x11 + 1) : (List Int) × Int)) (e' := [(0, .pointer (some ⟨p0, 0, none⟩)), (1, .int .i64 now1), (5, v5_1), (9, vs4), (10, .int .i64 ((lall_F l0span l0since).length : Int)), (11, .int .i64 (x11 + 1))]) (B5_1 ++ ((p0, BK 2 (cl [.int .i64 l0span, v0_1]) 57) :: (S0_1 ++ (Bs4 ++ ([]))))) (lc rfl (lc rfl (lc rfl (lc rfl (lc rfl (lc rfl ln)))))) (fun _ h => h) h ⟨v5_1, B5_1, rfl, rfl, hJ5_1, hcB5_1⟩
    · have hq5 : (decide (x11 < ((lall_F l0span l0since).length : Int))) = false := hc5
      have hp5 : ¬ (x11 < ((lall_F l0span l0since).length : Int)) := of_decide_eq_false hq5
      rw [if_neg hp5] at h
      refine xw_cond_f rfl rfl (xw_exit (xq_then_exit ?_))
      exact xq_out (r := (out5 : (List Int))) (e' := [(5, v5_1)]) (B5_1 ++ ((p0, BK 2 (cl [.int .i64 l0span, v0_1]) 57) :: (S0_1 ++ (Bs4 ++ ([]))))) (lc rfl ln) (fun _ h => h) h (by intro hh; cases hh) ⟨v5_1, B5_1, rfl, rfl, rfl, hJ5_1, hcB5_1⟩
  · rintro _ _ _ ⟨v5_1o, B5_1o, rfl, rfl, rfl, hJ5_1o, hcB5_1o⟩
    replace h : due_k1a out5 r := h
    unfold due_k1a at h
    refine xq_blk_eq ?_
    refine xq_then (xw_seq (xw_region ?_))
    refine xq rfl trivial (o_mv rfl) ?_
    refine xq rfl trivial (o_as rfl) ?_
    refine xo_nil (xq_then (xw_ret ?_))
    subst h
    exact con_ret1 (.inl rfl) Try.results10 rfl (cat [[(p0, BK 2 (cl [.int .i64 l0span, v0_1]) 57)], S0_1, B5_1o]) (fun _ h => St.permI [1, 2, 0] [B5_1o, [(p0, _)], S0_1] rfl (Kp.st (Kp.segKeep (Kp.keep (Kp.segKeep (Kp.segNew (Cov.fresh hcBs4) Kp.nil)))) _ h)) (⟨_, rfl, (Cov.cons (Cov.app (A := S0_1) (A' := S0_1) (Cov.refl _) (Cov.app0 hcB5_1o Cov.nil))), _, B5_1o, rfl, rfl, hJ5_1o, hcB5_1o⟩)

theorem ints_con (a0 : (List Int)) (b1 : (List Int)) (v0 : Value) (v1 : Value) (w : World) (hs0 : SL w 1 ic v0 a0) (hs1 : SL w 1 ic v1 b1) (r : Bool) (h : ints_S a0 b1 r) : Con Try.prog 11 #[v0, v1] w (Is (.bool r) []) := by
  unfold ints_S at h
  refine con_enter (n := 26) [(0, _), (1, _)] Try.func11 rfl Try.ntmps11 rfl (lac rfl (lac rfl lan)) ?_
  refine xw_seq (xw_region ?_)
  refine xq rfl trivial (o_as rfl) ?_
  refine xo_nil (xq_then (xw_seq (xw_seq (xw_region ?_))))
  refine xq rfl trivial (o_mv rfl) ?_
  refine xq rfl trivial (o_lenL rfl Try.underlying31 rfl (SL.val hs0)) ?_
  refine xq rfl trivial (o_mv rfl) ?_
  refine xq rfl trivial (o_lenL rfl Try.underlying31 rfl (SL.val hs1)) ?_
  refine xq rfl trivial (o_neq rfl rfl) ?_
  refine xo_nil (xq_then ?_)
  refine xw_bool 10 rfl (fun hc1 => ?_) (fun hc1 => ?_)
  · have hq1 : (decide ((a0.length : Int) = (b1.length : Int))) = false := (bnT hc1)
    have hp1 : ¬ ((a0.length : Int) = (b1.length : Int)) := of_decide_eq_false hq1
    rw [if_neg hp1] at h
    refine xw_cond_t rfl rfl (xw_seq (xw_region ?_))
    refine xq rfl trivial (o_as rfl) ?_
    refine xo_nil (xq_then (xw_ret (xq_then_ret ?_)))
    subst h
    exact con_ret1 (.inl rfl) Try.results11 rfl [] (fun _ h => h) (⟨rfl, rfl⟩)
  · have hq1 : (decide ((a0.length : Int) = (b1.length : Int))) = true := (bnF hc1)
    have hp1 : (a0.length : Int) = (b1.length : Int) := of_decide_eq_true hq1
    rw [if_pos hp1] at h
    refine xw_cond_f rfl rfl (xw_skip (xq_then (xw_seq (xw_seq (xw_region ?_)))))
    refine xq rfl trivial (o_as rfl) ?_
    refine xo_nil (xq_then ?_)
    refine xw_block ?_
    obtain ⟨x1, hx1, h⟩ := h
    refine xw_wh (fun (i5 : Int) e H => e = [(0, v0), (1, v1), (5, .int .i64 i5)] ∧ H = []) (fun x ex e H => match x with | .inl _ => ex = .exit 0 ∧ e = [] ∧ H = [] | .inr _ => ex = .ret ∧ e = [(4, .bool false)] ∧ H = []) hx1 ⟨[(0, v0), (1, v1), (5, .int .i64 0)], [], (lc rfl (lc rfl (lc rfl ln))), fun _ h => h, ⟨rfl, rfl⟩⟩ ?_ ?_
    · rintro i5 o _ _ ⟨rfl, rfl⟩ hb
      have h : ints_l1 a0 b1 i5 o := hb
      clear hb
      unfold ints_l1 at h
      refine xw_seq (xw_seq (xw_region ?_))
      refine xq rfl trivial (o_mv rfl) ?_
      refine xq rfl trivial (o_mv rfl) ?_
      refine xq rfl trivial (o_lenL rfl Try.underlying31 rfl (SL.val hs0)) ?_
      refine xq rfl trivial (o_lss rfl rfl) ?_
      refine xo_nil (xq_then ?_)
      refine xw_bool 14 rfl (fun hc2 => ?_) (fun hc2 => ?_)
      · have hq2 : (decide (i5 < (a0.length : Int))) = true := hc2
        have hp2 : i5 < (a0.length : Int) := of_decide_eq_true hq2
        rw [if_pos hp2] at h
        refine xw_cond_t rfl rfl (xw_skip (xq_then (xw_seq ?_)))
        refine xw_block ?_
        refine xw_seq ?_
        refine xd_start (by kernel_rfl) (by kernel_rfl) (fun hok => ?_)
        refine xd_b hok 0 [(0, _)] ([]) rsN rfl rfl rfl (lc rfl ln) (by kernel_rfl) trivial (fun H' hy hK => o_mv rfl) ?_
        refine xd_b hok 1 [(5, _)] ([]) rsN rfl rfl rfl (lc rfl ln) (by kernel_rfl) trivial (fun H' hy hK => o_mv rfl) ?_
        obtain ⟨ho3, h⟩ := h
        refine xd_b hok 2 [(17, _), (18, _)] ([]) rsN rfl rfl rfl (lc rfl (lc rfl ln)) (by kernel_rfl) trivial (fun H' hy hK => o_ixL el31 rfl rfl (fun w hw => (hs0.keep hw (fun k hk => (hK k hk).elim (fun h => Fr.nil k h) id))) rfl ho3) ?_
        refine xd_b hok 3 [(19, _)] ([]) rsN rfl rfl rfl (lc rfl ln) (by kernel_rfl) trivial (fun H' hy hK => o_ldL1 (off := 0) (u := .int .i64 (a0[i5.toNat]!)) rfl ts3 rfl (fun w hw => (hs0.keep hw (fun k hk => (hK k hk).elim (fun h => Fr.nil k h) id))) (toNat_lt ho3) rfl rfl) ?_
        refine xd_b hok 4 [(1, _)] ([]) rsN rfl rfl rfl (lc rfl ln) (by kernel_rfl) trivial (fun H' hy hK => o_mv rfl) ?_
        refine xd_b hok 5 [(5, _)] ([]) rsN rfl rfl rfl (lc rfl ln) (by kernel_rfl) trivial (fun H' hy hK => o_mv rfl) ?_
        obtain ⟨ho4, h⟩ := h
        refine xd_b hok 6 [(21, _), (22, _)] ([]) rsN rfl rfl rfl (lc rfl (lc rfl ln)) (by kernel_rfl) trivial (fun H' hy hK => o_ixL el31 rfl rfl (fun w hw => (hs1.keep hw (fun k hk => (hK k hk).elim (fun h => Fr.nil k h) id))) rfl ho4) ?_
        refine xd_b hok 7 [(23, _)] ([]) rsN rfl rfl rfl (lc rfl ln) (by kernel_rfl) trivial (fun H' hy hK => o_ldL1 (off := 0) (u := .int .i64 (b1[i5.toNat]!)) rfl ts3 rfl (fun w hw => (hs1.keep hw (fun k hk => (hK k hk).elim (fun h => Fr.nil k h) id))) (toNat_lt ho4) rfl rfl) ?_
        refine xd_b hok 8 [(20, _), (24, _)] ([]) rsN rfl rfl rfl (lc rfl (lc rfl ln)) (by kernel_rfl) trivial (fun H' hy hK => o_neq rfl rfl) ?_
        refine xd_end hok (by kernel_rfl) ?_
        refine xq_then ?_
        refine xw_bool 25 rfl (fun hc5 => ?_) (fun hc5 => ?_)
        · have hq5 : (decide (a0[i5.toNat]! = b1[i5.toNat]!)) = false := (bnT hc5)
          have hp5 : ¬ (a0[i5.toNat]! = b1[i5.toNat]!) := of_decide_eq_false hq5
          rw [if_neg hp5] at h
          refine xw_cond_t rfl rfl (xw_seq (xw_region ?_))
          refine xq rfl trivial (o_as rfl) ?_
          refine xo_nil (xq_then (xw_ret (xq_blk_ret (xq_then_ret ?_))))
          exact xq_out (r := (.inr () : (Unit) ⊕ (Unit))) (e' := [(4, .bool false)]) ([]) (lc rfl ln) (fun _ h => h) h (by intro hh; cases hh) ⟨rfl, rfl, rfl⟩
        · have hq5 : (decide (a0[i5.toNat]! = b1[i5.toNat]!)) = true := (bnF hc5)
          have hp5 : a0[i5.toNat]! = b1[i5.toNat]! := of_decide_eq_true hq5
          rw [if_pos hp5] at h
          refine xw_cond_f rfl rfl (xw_skip ?_)
          refine xq_blk 1 ?_
          refine xq_then (xw_region ?_)
          refine xq rfl trivial (o_mv rfl) ?_
          obtain ⟨ho6, h⟩ := h
          refine xq rfl trivial (o_add rfl rfl rfl ho6) ?_
          refine xq rfl trivial (o_as rfl) ?_
          refine xo_nil ?_
          exact xq_next (s' := (i5 + 1 : Int)) (e' := [(0, v0), (1, v1), (5, .int .i64 (i5 + 1))]) ([]) (lc rfl (lc rfl (lc rfl ln))) (fun _ h => h) h ⟨rfl, rfl⟩
      · have hq2 : (decide (i5 < (a0.length : Int))) = false := hc2
        have hp2 : ¬ (i5 < (a0.length : Int)) := of_decide_eq_false hq2
        rw [if_neg hp2] at h
        refine xw_cond_f rfl rfl (xw_exit (xq_then_exit ?_))
        exact xq_out (r := (.inl () : (Unit) ⊕ (Unit))) (e' := []) ([]) ln (fun _ h => h) h (by intro hh; cases hh) ⟨rfl, rfl, rfl⟩
    · rcases x1 with _ | x1
      · rintro _ _ _ ⟨rfl, rfl, rfl⟩
        replace h : ints_k1a r := h
        unfold ints_k1a at h
        refine xq_blk_eq ?_
        refine xq_then (xw_seq (xw_region ?_))
        refine xq rfl trivial (o_as rfl) ?_
        refine xo_nil (xq_then (xw_ret ?_))
        subst h
        exact con_ret1 (.inl rfl) Try.results11 rfl [] (fun _ h => h) (⟨rfl, rfl⟩)
      cases x1
      rintro _ _ _ ⟨rfl, rfl, rfl⟩
      replace h : ints_k1b r := h
      unfold ints_k1b at h
      refine xq_blk_ret (xq_then_ret ?_)
      subst h
      exact con_ret1 (.inl rfl) Try.results11 rfl [] (fun _ h => h) (⟨rfl, rfl⟩)

end Go.Proofs.Ytfpilngnhkcgjaa
