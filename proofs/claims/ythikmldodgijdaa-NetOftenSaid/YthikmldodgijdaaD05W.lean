/- The code answers as the relations say. -/
import Derived.Test.YthikmldodgijdaaTab
import Derived.Test.YthikmldodgijdaaD05S
import Derived.Test.YthikmldodgijdaaC05W
set_option maxHeartbeats 1000000
set_option linter.unusedVariables false
set_option linter.unusedSimpArgs false
set_option maxRecDepth 100000
namespace Go.Proofs.Ythikmldodgijdaa
open Go Go.E

theorem pickR_con (n0Limit : Int) (n0L : (List (Nat → Int))) (k1 : Int) (p0 : Nat) (v0_1 : Value) (S0_1 : GH) (w : World) (hJ0_1 : OJ 39 28 iv S0_1 v0_1 n0L) (hC : Has w (cat [[(p0, BK 2 (cl [.int .i64 n0Limit, v0_1]) 48)], S0_1])) (r : Int) (h : pickR_S n0Limit n0L k1 r) : Con Try.prog 25 #[.pointer (some ⟨p0, 0, none⟩), .int .i64 k1] w (CatG fun v Ls => Cov w (cat [[(p0, BK 2 (cl [.int .i64 n0Limit, v0_1]) 48)], S0_1]) (cat Ls) ∧ v = .int .i64 r ∧ Ls = [[(p0, BK 2 (cl [.int .i64 n0Limit, v0_1]) 48)], S0_1]) := by
  unfold pickR_S at h
  refine con_enter (n := 22) [(0, _), (1, _)] Try.func25 rfl Try.ntmps25 rfl (lac rfl (lac rfl lan)) ?_
  refine xw_has hC ?_
  refine xw_st ((p0, BK 2 (cl [.int .i64 n0Limit, v0_1]) 48) :: (S0_1 ++ ([]))) (fun _ h => h) ?_
  refine xw_seq (xw_region ?_)
  refine xq rfl trivial (o_as rfl) ?_
  refine xo_nil (xq_then (xw_seq (xw_region ?_)))
  refine xq rfl trivial (o_mv rfl) ?_
  refine xq rfl trivial (o_mv rfl) ?_
  refine xq rfl trivial (o_nilp rfl) ?_
  first | refine xq rfl trivial (o_fa0 fl48_1 rfl) ?_ | refine xq rfl trivial (o_fa fl48_1 rfl) ?_
  refine xq rfl trivial (o_ld (v := v0_1) rfl ts30 (List.Mem.head _) (by decide) rfl) ?_
  refine xq rfl trivial (o_lenL rfl Try.underlying30 rfl (OJ.val hJ0_1)) ?_
  obtain ⟨ho1, h⟩ := h
  refine xq rfl trivial (o_rem rfl rfl ho1 rfl) ?_
  refine xq rfl trivial (o_as rfl) ?_
  refine xo_nil (xq_then (xw_seq (xw_seq (xw_region ?_))))
  refine xq rfl trivial (o_mv rfl) ?_
  refine xq rfl trivial (o_lss rfl rfl) ?_
  refine xo_nil (xq_then ?_)
  have hk := h.2
  replace h := h.1
  refine xw_cut [] ln [(1, .int .i64 (if k1.tmod (n0L.length : Int) < 0 then (k1.tmod (n0L.length : Int)) + (n0L.length : Int) else k1.tmod (n0L.length : Int)))] ?_ ?_
  · refine xw_bool 13 rfl (fun hc2 => ?_) (fun hc2 => ?_)
    · have hq2 : (decide (k1.tmod (n0L.length : Int) < 0)) = true := hc2
      have hp2 : k1.tmod (n0L.length : Int) < 0 := of_decide_eq_true hq2
      rw [if_pos hp2] at h
      refine xw_cond_t rfl rfl (xw_region ?_)
      refine xq rfl trivial (o_mv rfl) ?_
      refine xq rfl trivial (o_mv rfl) ?_
      refine xq rfl trivial (o_nilp rfl) ?_
      first | refine xq rfl trivial (o_fa0 fl48_1 rfl) ?_ | refine xq rfl trivial (o_fa fl48_1 rfl) ?_
      refine xq rfl trivial (o_ld (v := v0_1) rfl ts30 (List.Mem.head _) (by decide) rfl) ?_
      refine xq rfl trivial (o_lenL rfl Try.underlying30 rfl (OJ.val hJ0_1)) ?_
      obtain ⟨ho3, h⟩ := h
      refine xq rfl trivial (o_add rfl rfl rfl ho3) ?_
      refine xq rfl trivial (o_as rfl) ?_
      refine xo_nil ?_
      exact xq_cut (lce rfl (by first | rfl | (simp only [hq2, if_pos hp2, bS]; done) | (simp [hp2]; done) | (simp_all; done)) ln) (fun _ hh => hh)
    · have hq2 : (decide (k1.tmod (n0L.length : Int) < 0)) = false := hc2
      have hp2 : ¬ (k1.tmod (n0L.length : Int) < 0) := of_decide_eq_false hq2
      rw [if_neg hp2] at h
      refine xw_cond_f rfl rfl (xw_skip ?_)
      exact xq_cut (lce rfl (by first | rfl | (simp only [hq2, if_neg hp2, bS]; done) | (simp [hp2]; done) | (simp_all; done)) ln) (fun _ hh => hh)
  · replace h := hk
    refine xq_then (xw_seq (xw_region ?_))
    refine xq rfl trivial (o_mv rfl) ?_
    refine xq rfl trivial (o_as rfl) ?_
    refine xo_nil (xq_then (xw_ret ?_))
    subst h
    exact con_ret1 (.inl rfl) Try.results25 rfl (cat [[(p0, BK 2 (cl [.int .i64 n0Limit, v0_1]) 48)], S0_1]) (fun _ h => h) (⟨_, rfl, (Cov.cons (Cov.app (A := S0_1) (A' := S0_1) (Cov.refl _) Cov.nil)), rfl, rfl⟩)

theorem pickR_c (n0Limit : Int) (n0L : (List (Nat → Int))) (k1 : Int) (p0 : Nat) (v0_1 : Value) (S0_1 : GH) (w : World) (hJ0_1 : OJ 39 28 iv S0_1 v0_1 n0L) (hC : Has w (cat [[(p0, BK 2 (cl [.int .i64 n0Limit, v0_1]) 48)], S0_1])) (hP : pickR_P n0Limit n0L k1) : Con Try.prog 25 #[.pointer (some ⟨p0, 0, none⟩), .int .i64 k1] w (CatG fun v Ls => Cov w (cat [[(p0, BK 2 (cl [.int .i64 n0Limit, v0_1]) 48)], S0_1]) (cat Ls) ∧ v = .int .i64 (pickR_F n0Limit n0L k1) ∧ Ls = [[(p0, BK 2 (cl [.int .i64 n0Limit, v0_1]) 48)], S0_1]) :=
  pickR_con n0Limit n0L k1 p0 v0_1 S0_1 w hJ0_1 hC _ (pickR_ok n0Limit n0L k1 hP)

theorem doR_con (n0Limit : Int) (n0L : (List (Nat → Int))) (a1 : (Nat → Int)) (p0 : Nat) (v0_1 : Value) (S0_1 : GH) (w : World) (hJ0_1 : OJ 39 28 iv S0_1 v0_1 n0L) (hC : Has w (cat [[(p0, BK 2 (cl [.int .i64 n0Limit, v0_1]) 48)], S0_1])) (r : (Nat → Int) × Int × (List (Nat → Int))) (h : doR_S n0Limit n0L a1 r) : Con Try.prog 15 #[.pointer (some ⟨p0, 0, none⟩), AI 30 a1] w (CatG fun v Ls => Cov w (cat [[(p0, BK 2 (cl [.int .i64 n0Limit, v0_1]) 48)], S0_1]) (cat Ls) ∧ ∃ (v0_1' : Value) (S0_1' : GH), v = .tuple #[AI 28 r.1, .int .i64 r.2.1] ∧ Ls = [[(p0, BK 2 (cl [.int .i64 n0Limit, v0_1']) 48)], S0_1'] ∧ OJ 39 28 iv S0_1' v0_1' r.2.2 ∧ OJ 39 28 iv S0_1' v0_1 n0L ∧ Cov w S0_1 S0_1') := by
  unfold doR_S at h
  refine con_enter (n := 126) [(0, _), (1, _)] Try.func15 rfl Try.ntmps15 rfl (lac rfl (lac rfl lan)) ?_
  refine xw_has hC ?_
  refine xw_st ((p0, BK 2 (cl [.int .i64 n0Limit, v0_1]) 48) :: (S0_1 ++ ([]))) (fun _ h => h) ?_
  refine xw_seq (xw_region ?_)
  refine xo rfl trivial (o_boxA rfl) ?_
  rintro _ _ ⟨b3, hb3, rfl, rfl⟩
  refine xo rfl trivial (o_alloc ze39 rfl) ?_
  rintro _ _ ⟨b4, hb4, rfl, rfl⟩
  refine xq rfl trivial (o_as rfl) ?_
  refine xo_nil (xq_then (xw_seq (xw_seq (xw_region ?_))))
  first | refine xq rfl trivial (o_fa0 fl43_0 rfl) ?_ | refine xq rfl trivial (o_fa fl43_0 rfl) ?_
  refine xq rfl trivial (o_ldI (v := a1 0) rfl ts3 (List.Mem.tail _ (List.Mem.head _)) (by omega) rfl) ?_
  refine xq rfl trivial (o_eql rfl rfl) ?_
  refine xo_nil (xq_then ?_)
  refine xw_bool 10 rfl (fun hc1 => ?_) (fun hc1 => ?_)
  · have hq1 : (decide (a1 0 = 0)) = true := hc1
    have hp1 : a1 0 = 0 := of_decide_eq_true hq1
    rw [if_pos hp1] at h
    refine xw_cond_t rfl rfl (xw_seq (xw_seq (xw_region ?_)))
    first | refine xq rfl trivial (o_fa0 fl43_2 rfl) ?_ | refine xq rfl trivial (o_fa fl43_2 rfl) ?_
    refine xq rfl trivial (o_ldSI rfl ts39 (List.Mem.tail _ (List.Mem.head _)) (by omega) (fun _ _ => rfl)) ?_
    refine xcallq rfl trivial kf22 rfl (fun w1 hw1 => ref04Ok_c _ w1) ?_
    refine xq rfl trivial (o_not rfl) ?_
    refine xo_nil (xq_then ?_)
    refine xw_bool 14 rfl (fun hc2 => ?_) (fun hc2 => ?_)
    · have hq2 : ((okB (fun i => a1 (2 + i)))) = false := (bnT hc2)
      have hp2 : ¬ (((okB (fun i => a1 (2 + i)))) = true) := bne' hq2
      rw [if_neg hp2] at h
      refine xw_cond_t rfl rfl (xw_seq (xw_region ?_))
      refine xq rfl trivial (o_build fk39 ze39 (.nil _)) ?_
      refine xq0 trivial (o_stWI rfl rfl ts39 (List.Mem.head _) (.here _ _ _ _)) ?_
      refine xq rfl trivial (o_as rfl) ?_
      refine xo_nil (xq_then (xw_ret (xq_then_ret (xq_then_ret ?_))))
      subst h
      exact con_retN (.inl rfl) (l := [.cell 4 39, .tmp 5]) Try.results15 (.cell rfl ts39 (List.Mem.head _) (.tmp rfl .nil)) rfl (cat [[(p0, BK 2 (cl [.int .i64 n0Limit, v0_1]) 48)], S0_1]) (Kp.st (Kp.new hb4 (Kp.new hb3 (Kp.keep (Kp.segKeep Kp.nil))))) (⟨_, rfl, (Cov.cons (Cov.app (A := S0_1) (A' := S0_1) (Cov.refl _) Cov.nil)), v0_1, S0_1, rfl, rfl, hJ0_1, hJ0_1, (Cov.refl _)⟩)
    · have hq2 : ((okB (fun i => a1 (2 + i)))) = true := (bnF hc2)
      have hp2 : ((okB (fun i => a1 (2 + i)))) = true := hq2
      rw [if_pos hp2] at h
      refine xw_cond_f rfl rfl (xw_skip (xq_then (xw_seq (xw_seq ?_))))
      refine xd_start (by kernel_rfl) (by kernel_rfl) (fun hok => ?_)
      refine xd_b hok 0 [(0, _)] ([]) rsN rfl rfl rfl (lc rfl ln) (by kernel_rfl) trivial (fun H' hy hK => o_mv rfl) ?_
      refine xd_b hok 1 [(16, _)] ([]) rsN rfl rfl rfl (lc rfl ln) (by kernel_rfl) trivial (fun H' hy hK => o_nilp rfl) ?_
      first | refine xd_b hok 2 [(17, _)] ([]) rsN rfl rfl rfl (lc rfl ln) (by kernel_rfl) trivial (fun H' hy hK => o_fa0 fl48_1 rfl) ?_ | refine xd_b hok 2 [(17, _)] ([]) rsN rfl rfl rfl (lc rfl ln) (by kernel_rfl) trivial (fun H' hy hK => o_fa fl48_1 rfl) ?_
      refine xd_b hok 3 [(18, _)] ((p0, BK 2 (cl [.int .i64 n0Limit, v0_1]) 48) :: ([])) (rsC (List.Mem.tail _ (List.Mem.tail _ (List.Mem.head _))) rsN) rfl rfl rfl (lc rfl ln) (by kernel_rfl) trivial (fun H' hy hK => o_ld (v := v0_1) rfl ts30 (hy _ (List.Mem.head _)) (by decide) rfl) ?_
      refine xd_b hok 4 [(19, _)] ([]) rsN rfl rfl rfl (lc rfl ln) (by kernel_rfl) trivial (fun H' hy hK => o_lenL rfl Try.underlying30 rfl (OJ.val hJ0_1)) ?_
      refine xd_b hok 5 [(0, _)] ([]) rsN rfl rfl rfl (lc rfl ln) (by kernel_rfl) trivial (fun H' hy hK => o_mv rfl) ?_
      refine xd_b hok 6 [(21, _)] ([]) rsN rfl rfl rfl (lc rfl ln) (by kernel_rfl) trivial (fun H' hy hK => o_nilp rfl) ?_
      first | refine xd_b hok 7 [(22, _)] ([]) rsN rfl rfl rfl (lc rfl ln) (by kernel_rfl) trivial (fun H' hy hK => o_fa0 fl48_0 rfl) ?_ | refine xd_b hok 7 [(22, _)] ([]) rsN rfl rfl rfl (lc rfl ln) (by kernel_rfl) trivial (fun H' hy hK => o_fa fl48_0 rfl) ?_
      refine xd_b hok 8 [(23, _)] ((p0, BK 2 (cl [.int .i64 n0Limit, v0_1]) 48) :: ([])) (rsC (List.Mem.tail _ (List.Mem.tail _ (List.Mem.head _))) rsN) rfl rfl rfl (lc rfl ln) (by kernel_rfl) trivial (fun H' hy hK => o_ld (v := .int .i64 n0Limit) rfl ts3 (hy _ (List.Mem.head _)) (by decide) rfl) ?_
      refine xd_b hok 9 [(20, _), (24, _)] ([]) rsN rfl rfl rfl (lc rfl (lc rfl ln)) (by kernel_rfl) trivial (fun H' hy hK => o_geq rfl rfl) ?_
      refine xd_end hok (by kernel_rfl) ?_
      refine xq_then ?_
      refine xw_bool 25 rfl (fun hc3 => ?_) (fun hc3 => ?_)
      · have hq3 : (decide (n0Limit ≤ (n0L.length : Int))) = true := hc3
        have hp3 : n0Limit ≤ (n0L.length : Int) := of_decide_eq_true hq3
        rw [if_pos hp3] at h
        refine xw_cond_t rfl rfl (xw_seq (xw_region ?_))
        refine xq rfl trivial (o_build fk39 ze39 (.nil _)) ?_
        refine xq0 trivial (o_stWI rfl rfl ts39 (List.Mem.head _) (.here _ _ _ _)) ?_
        refine xq rfl trivial (o_as rfl) ?_
        refine xo_nil (xq_then (xw_ret (xq_then_ret (xq_then_ret ?_))))
        subst h
        exact con_retN (.inl rfl) (l := [.cell 4 39, .tmp 5]) Try.results15 (.cell rfl ts39 (List.Mem.head _) (.tmp rfl .nil)) rfl (cat [[(p0, BK 2 (cl [.int .i64 n0Limit, v0_1]) 48)], S0_1]) (Kp.st (Kp.new hb4 (Kp.new hb3 (Kp.keep (Kp.segKeep Kp.nil))))) (⟨_, rfl, (Cov.cons (Cov.app (A := S0_1) (A' := S0_1) (Cov.refl _) Cov.nil)), v0_1, S0_1, rfl, rfl, hJ0_1, hJ0_1, (Cov.refl _)⟩)
      · have hq3 : (decide (n0Limit ≤ (n0L.length : Int))) = false := hc3
        have hp3 : ¬ (n0Limit ≤ (n0L.length : Int)) := of_decide_eq_false hq3
        rw [if_neg hp3] at h
        refine xw_cond_f rfl rfl (xw_skip (xq_then (xw_seq ?_)))
        refine xd_start (by kernel_rfl) (by kernel_rfl) (fun hok => ?_)
        refine xd_b hok 0 [(0, _)] ([]) rsN rfl rfl rfl (lc rfl ln) (by kernel_rfl) trivial (fun H' hy hK => o_mv rfl) ?_
        refine xd_b hok 2 [(0, _)] ([]) rsN rfl rfl rfl (lc rfl ln) (by kernel_rfl) trivial (fun H' hy hK => o_mv rfl) ?_
        refine xd_b hok 3 [(29, _)] ([]) rsN rfl rfl rfl (lc rfl ln) (by kernel_rfl) trivial (fun H' hy hK => o_nilp rfl) ?_
        first | refine xd_b hok 4 [(30, _)] ([]) rsN rfl rfl rfl (lc rfl ln) (by kernel_rfl) trivial (fun H' hy hK => o_fa0 fl48_1 rfl) ?_ | refine xd_b hok 4 [(30, _)] ([]) rsN rfl rfl rfl (lc rfl ln) (by kernel_rfl) trivial (fun H' hy hK => o_fa fl48_1 rfl) ?_
        refine xd_b hok 5 [(31, _)] ((p0, BK 2 (cl [.int .i64 n0Limit, v0_1]) 48) :: ([])) (rsC (List.Mem.tail _ (List.Mem.tail _ (List.Mem.head _))) rsN) rfl rfl rfl (lc rfl ln) (by kernel_rfl) trivial (fun H' hy hK => o_ld (v := v0_1) rfl ts30 (hy _ (List.Mem.head _)) (by decide) rfl) ?_
        first | refine xd_b hok 7 [(3, _)] ([]) rsN rfl rfl rfl (lc rfl ln) (by kernel_rfl) trivial (fun H' hy hK => o_fa0 fl43_2 rfl) ?_ | refine xd_b hok 7 [(3, _)] ([]) rsN rfl rfl rfl (lc rfl ln) (by kernel_rfl) trivial (fun H' hy hK => o_fa fl43_2 rfl) ?_
        refine xd_b hok 8 [(34, _)] ((b3, BK 30 (iv a1) 43) :: ([])) (rsC (List.Mem.tail _ (List.Mem.head _)) rsN) rfl rfl rfl (lc rfl ln) (by kernel_rfl) trivial (fun H' hy hK => o_ldSI rfl ts39 (hy _ (List.Mem.head _)) (by omega) (fun _ _ => rfl)) ?_
        refine xd_step2 hok 1 9 [] [(35, _)] rfl rfl rfl rfl (by kernel_rfl) ln (lc rfl ln) (by kernel_rfl) (by kernel_rfl) trivial trivial (o_bsl el30 ze39 rfl rfl rfl (.nil _)) (o_bsl el30 ze39 rfl rfl rfl (.ints rfl rfl (.nil _))) ?_ ?_
        · rintro _ _ ⟨b28, hb28, rfl, rfl⟩
          refine ⟨(rsA (rsC (List.Mem.tail _ (List.Mem.tail _ (List.Mem.head _))) rsN) (rsA rsN (rsA (rsC (List.Mem.tail _ (List.Mem.tail _ (List.Mem.tail _ (List.Mem.head _)))) rsN) (rsA rsN (rsA rsN (rsA rsN (rsA rsN rsN))))))), (Ks.consN hb28 (Ks.consK (by simp) (Ks.consK (by simp) (Ks.consK (by simp) (Ks.segK (fun k hk => by simp [hk]) Ks.nil))))), ?_⟩
          obtain ⟨ho5, h⟩ := h
          refine xd_step2 hok 6 9 [(28, _), (32, _)] [(35, _)] rfl rfl rfl rfl (by kernel_rfl) (lc rfl (lc rfl ln)) (lc rfl ln) (by kernel_rfl) (by kernel_rfl) trivial trivial (OT.st (fun _ h => Pull.st (.hereC _ _) h) (o_appJ (l := []) (l' := n0L) (B := [_]) ap30 rfl rfl (OJ.lit (l := []) (List.Mem.head _) rfl (by omega) (by simp [maxLen]) (by exact (fun i hi => match i, hi with  | q + 0, h => absurd h (by omega)))) (fun w2 hw2 => (hJ0_1.sl hw2 (Pull.sub (.there _ (.thereC _ (.thereC _ (.thereC _ (.here _ _)))))))) (fun _ _ => rfl) ho5 (len_max ho5 (by decide)))) (o_bsl el30 ze39 rfl rfl rfl (.ints rfl rfl (.nil _))) ?_ ?_
          · rintro vs4 _ ⟨Bs4, rfl, hns4, hJs4⟩
            have hcBs4 := Cov.trans (Cov.new hb28) hns4
            refine ⟨(rsA (rsC (List.mem_append_right _ (List.Mem.tail _ (List.Mem.head _))) rsN) (rsA rsN (rsA (rsC (List.mem_append_right _ (List.Mem.tail _ (List.Mem.tail _ (List.Mem.head _)))) rsN) (rsA rsN (rsA rsN (rsA rsN (rsA rsN rsN))))))), (Ks.segN hcBs4 (Ks.consK (by simp) (Ks.consK (by simp) (Ks.consK (by simp) (Ks.segK (fun k hk => by simp [hk]) Ks.nil))))), ?_⟩
            refine xd_step hok 9 [(35, _)] rfl rfl (by kernel_rfl) (lc rfl ln) (by kernel_rfl) trivial (o_bsl el30 ze39 rfl rfl rfl (.ints rfl rfl (.nil _))) ?_
            rintro _ _ ⟨b36, hb36, rfl, rfl⟩
            refine ⟨(rsA (rsC (List.Mem.tail _ (List.mem_append_right _ (List.Mem.tail _ (List.Mem.head _)))) rsN) (rsA rsN (rsA (rsC (List.Mem.tail _ (List.mem_append_right _ (List.Mem.tail _ (List.Mem.tail _ (List.Mem.head _))))) rsN) (rsA rsN (rsA rsN (rsA rsN (rsA rsN rsN))))))), (Ks.consN hb36 (Ks.segN hcBs4 (Ks.consK (by simp) (Ks.consK (by simp) (Ks.consK (by simp) (Ks.segK (fun k hk => by simp [hk]) Ks.nil)))))), ?_⟩
            obtain ⟨ho7, h⟩ := h
            refine xd_step hok 10 [(33, _), (36, _)] rfl rfl (by kernel_rfl) (lc rfl (lc rfl ln)) (by kernel_rfl) trivial (OT.push (fun q_ => (b36, BK 28 _ 39) :: (q_ ++ ((b4, BK 28 (iv (fun _ => 0)) 39) :: ((b3, BK 30 (iv a1) 43) :: ((p0, BK 2 (cl [.int .i64 n0Limit, v0_1]) 48) :: (S0_1 ++ ([]))))))) (fun _ => (.thereC _ (.here _ _))) (OT.st (fun _ h => Pull.st (.thereC _ (.here _ _)) h) (o_appJ (l := ([] ++ n0L)) (l' := [(fun i => a1 (2 + i))]) (B := Bs4) ap30 rfl rfl hJs4 (fun w2 hw2 => (SL.lit (l := [(fun i => a1 (2 + i))]) hw2 (List.mem_append_right _ (List.Mem.head _)) rfl (by omega) (by simp [maxLen]) (by exact (fun i hi => match i, hi with | 0, _ => rfl | 1, _ => rfl | 2, _ => rfl | 3, _ => rfl | 4, _ => rfl | 5, _ => rfl | 6, _ => rfl | 7, _ => rfl | 8, _ => rfl | 9, _ => rfl | 10, _ => rfl | 11, _ => rfl | 12, _ => rfl | 13, _ => rfl | 14, _ => rfl | 15, _ => rfl | 16, _ => rfl | 17, _ => rfl | 18, _ => rfl | 19, _ => rfl | 20, _ => rfl | 21, _ => rfl | 22, _ => rfl | 23, _ => rfl | 24, _ => rfl | 25, _ => rfl | 26, _ => rfl | 27, _ => rfl | q + 28, h => absurd h (by omega))))) (fun _ _ => rfl) ho7 (len_max ho7 (by decide))))) ?_
            rintro vs6 _ ⟨Bs6, rfl, hns6, hJs6⟩
            have hcBs6 := Cov.trans hcBs4 hns6
            refine ⟨(rsA (rsC (List.Mem.tail _ (List.mem_append_right _ (List.Mem.tail _ (List.Mem.head _)))) rsN) (rsA rsN (rsA (rsC (List.Mem.tail _ (List.mem_append_right _ (List.Mem.tail _ (List.Mem.tail _ (List.Mem.head _))))) rsN) (rsA rsN (rsA rsN (rsA rsN (rsA rsN rsN))))))), (Ks.consN hb36 (Ks.segN hcBs6 (Ks.consK (by simp) (Ks.consK (by simp) (Ks.consK (by simp) (Ks.segK (fun k hk => by simp [hk]) Ks.nil)))))), ?_⟩
            refine xd_show (H' := (b36, BK 28 _ 39) :: (Bs6 ++ ((b4, BK 28 (iv (fun _ => 0)) 39) :: ((b3, BK 30 (iv a1) 43) :: ((p0, BK 2 (cl [.int .i64 n0Limit, v0_1]) 48) :: (S0_1 ++ ([]))))))) rfl ?_
            refine xd_b hok 11 [(27, _)] ([]) rsN rfl rfl rfl (lc rfl ln) (by kernel_rfl) trivial (fun H' hy hK => o_nilp rfl) ?_
            first | refine xd_b hok 12 [(38, _)] ([]) rsN rfl rfl rfl (lc rfl ln) (by kernel_rfl) trivial (fun H' hy hK => o_fa0 fl48_1 rfl) ?_ | refine xd_b hok 12 [(38, _)] ([]) rsN rfl rfl rfl (lc rfl ln) (by kernel_rfl) trivial (fun H' hy hK => o_fa fl48_1 rfl) ?_
            obtain ⟨Bs8, hEBs8⟩ : ∃ B : GH, B = S0_1 ++ Bs6 := ⟨_, rfl⟩
            have hcBs8 : Cov w S0_1 Bs8 := hEBs8 ▸ Cov.more (Cov.refl _) hcBs6
            have hJm9 : OJ 39 28 iv Bs8 v0_1 n0L := hEBs8 ▸ OJ.left hJ0_1
            have hJm10 : OJ 39 28 iv Bs8 vs6 (([] ++ n0L) ++ [(fun i => a1 (2 + i))]) := hEBs8 ▸ OJ.right hJs6
            refine xd_fl0 hok 1 13 [(39, _), (37, _)] rfl rfl (by kernel_rfl) (by kernel_rfl) (lc rfl (lc rfl ln)) (by kernel_rfl) trivial (OT.convH (H2 := (b36, BK 28 _ 39) :: ((b4, BK 28 (iv (fun _ => 0)) 39) :: ((b3, BK 30 (iv a1) 43) :: ((p0, BK 2 (cl [.int .i64 n0Limit, vs6]) 48) :: (Bs8 ++ ([])))))) (fun _ h => by rw [hEBs8]; exact St.join [[(b36, _)], [(b4, _)], [(b3, _)], [(p0, _)]] [] _ _ (St.permI [0, 2, 3, 4, 5, 1] [[(b36, _)], Bs6, [(b4, _)], [(b3, _)], [(p0, _)], S0_1] rfl h)) (o_stC (l' := [.int .i64 n0Limit, vs6]) rfl rfl ts30 (oneOf (OJ.val hJs6)) (List.Mem.tail _ (List.mem_append_right _ (List.Mem.tail _ (List.Mem.tail _ (List.Mem.head _))))) rfl (by decide) rfl (.there _ _ _ _ _ (Upd.seg (.there _ _ _ _ _ (.there _ _ _ _ _ (.here _ _ _ _))))))) ?_
            rintro _ _ ⟨rfl, rfl⟩
            refine ⟨(Ks.consN hb36 (Ks.consK (by simp) (Ks.consK (by simp) (Ks.consK (by simp) (Ks.segC hcBs8 (fun k hk => by simp [hk]) Ks.nil))))), ?_⟩
            refine xd_end hok (by kernel_rfl) ?_
            refine xq_then (xw_seq (xw_region ?_))
            refine xq rfl trivial (o_build fk39 ze39 (.nil _)) ?_
            refine xq0 trivial (o_stWI rfl rfl ts39 (List.Mem.tail _ (List.Mem.head _)) (.there _ _ _ _ _ (.here _ _ _ _))) ?_
            refine xq rfl trivial (o_as rfl) ?_
            refine xo_nil (xq_then (xw_ret (xq_then_ret ?_)))
            subst h
            exact con_retN (.inl rfl) (l := [.cell 4 39, .tmp 5]) Try.results15 (.cell rfl ts39 (List.Mem.tail _ (List.Mem.head _)) (.tmp rfl .nil)) rfl (cat [[(p0, BK 2 (cl [.int .i64 n0Limit, vs6]) 48)], Bs8]) (Kp.st (Kp.new hb36 (Kp.new hb4 (Kp.new hb3 (Kp.keep (Kp.segKeep Kp.nil)))))) (⟨_, rfl, (Cov.cons (Cov.app (A := S0_1) (A' := Bs8) hcBs8 Cov.nil)), vs6, Bs8, rfl, rfl, hJm10, hJm9, hcBs8⟩)
          · rintro _ _ ⟨b36, hb36, rfl, rfl⟩
            refine ⟨(rsA (rsC (List.Mem.tail _ (List.Mem.tail _ (List.Mem.tail _ (List.Mem.head _)))) rsN) (rsA rsN (rsA (rsC (List.Mem.tail _ (List.Mem.tail _ (List.Mem.tail _ (List.Mem.tail _ (List.Mem.head _))))) rsN) (rsA rsN (rsA rsN (rsA rsN (rsA rsN rsN))))))), (Ks.consN hb36 (Ks.consN hb28 (Ks.consK (by simp) (Ks.consK (by simp) (Ks.consK (by simp) (Ks.segK (fun k hk => by simp [hk]) Ks.nil)))))), ?_⟩
            refine xd_step hok 6 [(28, _), (32, _)] rfl rfl (by kernel_rfl) (lc rfl (lc rfl ln)) (by kernel_rfl) trivial (OT.push (fun q_ => (b36, BK 28 _ 39) :: (q_ ++ ((b4, BK 28 (iv (fun _ => 0)) 39) :: ((b3, BK 30 (iv a1) 43) :: ((p0, BK 2 (cl [.int .i64 n0Limit, v0_1]) 48) :: (S0_1 ++ ([]))))))) (fun _ => (.thereC _ (.here _ _))) (OT.st (fun _ h => Pull.st (.thereC _ (.hereC _ _)) h) (o_appJ (l := []) (l' := n0L) (B := [_]) ap30 rfl rfl (OJ.lit (l := []) (List.Mem.head _) rfl (by omega) (by simp [maxLen]) (by exact (fun i hi => match i, hi with  | q + 0, h => absurd h (by omega)))) (fun w2 hw2 => (hJ0_1.sl hw2 (Pull.sub (.there _ (.thereC _ (.thereC _ (.thereC _ (.thereC _ (.here _ _))))))))) (fun _ _ => rfl) ho5 (len_max ho5 (by decide))))) ?_
            rintro vs11 _ ⟨Bs11, rfl, hns11, hJs11⟩
            have hcBs11 := Cov.trans (Cov.new hb28) hns11
            refine ⟨(rsA (rsC (List.Mem.tail _ (List.mem_append_right _ (List.Mem.tail _ (List.Mem.head _)))) rsN) (rsA rsN (rsA (rsC (List.Mem.tail _ (List.mem_append_right _ (List.Mem.tail _ (List.Mem.tail _ (List.Mem.head _))))) rsN) (rsA rsN (rsA rsN (rsA rsN (rsA rsN rsN))))))), (Ks.consN hb36 (Ks.segN hcBs11 (Ks.consK (by simp) (Ks.consK (by simp) (Ks.consK (by simp) (Ks.segK (fun k hk => by simp [hk]) Ks.nil)))))), ?_⟩
            refine xd_show (H' := (b36, BK 28 _ 39) :: (Bs11 ++ ((b4, BK 28 (iv (fun _ => 0)) 39) :: ((b3, BK 30 (iv a1) 43) :: ((p0, BK 2 (cl [.int .i64 n0Limit, v0_1]) 48) :: (S0_1 ++ ([]))))))) rfl ?_
            obtain ⟨ho13, h⟩ := h
            refine xd_step hok 10 [(33, _), (36, _)] rfl rfl (by kernel_rfl) (lc rfl (lc rfl ln)) (by kernel_rfl) trivial (OT.push (fun q_ => (b36, BK 28 _ 39) :: (q_ ++ ((b4, BK 28 (iv (fun _ => 0)) 39) :: ((b3, BK 30 (iv a1) 43) :: ((p0, BK 2 (cl [.int .i64 n0Limit, v0_1]) 48) :: (S0_1 ++ ([]))))))) (fun _ => (.thereC _ (.here _ _))) (OT.st (fun _ h => Pull.st (.thereC _ (.here _ _)) h) (o_appJ (l := ([] ++ n0L)) (l' := [(fun i => a1 (2 + i))]) (B := Bs11) ap30 rfl rfl hJs11 (fun w2 hw2 => (SL.lit (l := [(fun i => a1 (2 + i))]) hw2 (List.mem_append_right _ (List.Mem.head _)) rfl (by omega) (by simp [maxLen]) (by exact (fun i hi => match i, hi with | 0, _ => rfl | 1, _ => rfl | 2, _ => rfl | 3, _ => rfl | 4, _ => rfl | 5, _ => rfl | 6, _ => rfl | 7, _ => rfl | 8, _ => rfl | 9, _ => rfl | 10, _ => rfl | 11, _ => rfl | 12, _ => rfl | 13, _ => rfl | 14, _ => rfl | 15, _ => rfl | 16, _ => rfl | 17, _ => rfl | 18, _ => rfl | 19, _ => rfl | 20, _ => rfl | 21, _ => rfl | 22, _ => rfl | 23, _ => rfl | 24, _ => rfl | 25, _ => rfl | 26, _ => rfl | 27, _ => rfl | q + 28, h => absurd h (by omega))))) (fun _ _ => rfl) ho13 (len_max ho13 (by decide))))) ?_
            rintro vs12 _ ⟨Bs12, rfl, hns12, hJs12⟩
            have hcBs12 := Cov.trans hcBs11 hns12
            refine ⟨(rsA (rsC (List.Mem.tail _ (List.mem_append_right _ (List.Mem.tail _ (List.Mem.head _)))) rsN) (rsA rsN (rsA (rsC (List.Mem.tail _ (List.mem_append_right _ (List.Mem.tail _ (List.Mem.tail _ (List.Mem.head _))))) rsN) (rsA rsN (rsA rsN (rsA rsN (rsA rsN rsN))))))), (Ks.consN hb36 (Ks.segN hcBs12 (Ks.consK (by simp) (Ks.consK (by simp) (Ks.consK (by simp) (Ks.segK (fun k hk => by simp [hk]) Ks.nil)))))), ?_⟩
            refine xd_show (H' := (b36, BK 28 _ 39) :: (Bs12 ++ ((b4, BK 28 (iv (fun _ => 0)) 39) :: ((b3, BK 30 (iv a1) 43) :: ((p0, BK 2 (cl [.int .i64 n0Limit, v0_1]) 48) :: (S0_1 ++ ([]))))))) rfl ?_
            refine xd_b hok 11 [(27, _)] ([]) rsN rfl rfl rfl (lc rfl ln) (by kernel_rfl) trivial (fun H' hy hK => o_nilp rfl) ?_
            first | refine xd_b hok 12 [(38, _)] ([]) rsN rfl rfl rfl (lc rfl ln) (by kernel_rfl) trivial (fun H' hy hK => o_fa0 fl48_1 rfl) ?_ | refine xd_b hok 12 [(38, _)] ([]) rsN rfl rfl rfl (lc rfl ln) (by kernel_rfl) trivial (fun H' hy hK => o_fa fl48_1 rfl) ?_
            obtain ⟨Bs14, hEBs14⟩ : ∃ B : GH, B = S0_1 ++ Bs12 := ⟨_, rfl⟩
            have hcBs14 : Cov w S0_1 Bs14 := hEBs14 ▸ Cov.more (Cov.refl _) hcBs12
            have hJm15 : OJ 39 28 iv Bs14 v0_1 n0L := hEBs14 ▸ OJ.left hJ0_1
            have hJm16 : OJ 39 28 iv Bs14 vs12 (([] ++ n0L) ++ [(fun i => a1 (2 + i))]) := hEBs14 ▸ OJ.right hJs12
            refine xd_fl0 hok 1 13 [(39, _), (37, _)] rfl rfl (by kernel_rfl) (by kernel_rfl) (lc rfl (lc rfl ln)) (by kernel_rfl) trivial (OT.convH (H2 := (b36, BK 28 _ 39) :: ((b4, BK 28 (iv (fun _ => 0)) 39) :: ((b3, BK 30 (iv a1) 43) :: ((p0, BK 2 (cl [.int .i64 n0Limit, vs12]) 48) :: (Bs14 ++ ([])))))) (fun _ h => by rw [hEBs14]; exact St.join [[(b36, _)], [(b4, _)], [(b3, _)], [(p0, _)]] [] _ _ (St.permI [0, 2, 3, 4, 5, 1] [[(b36, _)], Bs12, [(b4, _)], [(b3, _)], [(p0, _)], S0_1] rfl h)) (o_stC (l' := [.int .i64 n0Limit, vs12]) rfl rfl ts30 (oneOf (OJ.val hJs12)) (List.Mem.tail _ (List.mem_append_right _ (List.Mem.tail _ (List.Mem.tail _ (List.Mem.head _))))) rfl (by decide) rfl (.there _ _ _ _ _ (Upd.seg (.there _ _ _ _ _ (.there _ _ _ _ _ (.here _ _ _ _))))))) ?_
            rintro _ _ ⟨rfl, rfl⟩
            refine ⟨(Ks.consN hb36 (Ks.consK (by simp) (Ks.consK (by simp) (Ks.consK (by simp) (Ks.segC hcBs14 (fun k hk => by simp [hk]) Ks.nil))))), ?_⟩
            refine xd_end hok (by kernel_rfl) ?_
            refine xq_then (xw_seq (xw_region ?_))
            refine xq rfl trivial (o_build fk39 ze39 (.nil _)) ?_
            refine xq0 trivial (o_stWI rfl rfl ts39 (List.Mem.tail _ (List.Mem.head _)) (.there _ _ _ _ _ (.here _ _ _ _))) ?_
            refine xq rfl trivial (o_as rfl) ?_
            refine xo_nil (xq_then (xw_ret (xq_then_ret ?_)))
            subst h
            exact con_retN (.inl rfl) (l := [.cell 4 39, .tmp 5]) Try.results15 (.cell rfl ts39 (List.Mem.tail _ (List.Mem.head _)) (.tmp rfl .nil)) rfl (cat [[(p0, BK 2 (cl [.int .i64 n0Limit, vs12]) 48)], Bs14]) (Kp.st (Kp.new hb36 (Kp.new hb4 (Kp.new hb3 (Kp.keep (Kp.segKeep Kp.nil)))))) (⟨_, rfl, (Cov.cons (Cov.app (A := S0_1) (A' := Bs14) hcBs14 Cov.nil)), vs12, Bs14, rfl, rfl, hJm16, hJm15, hcBs14⟩)
        · rintro _ _ ⟨b36, hb36, rfl, rfl⟩
          refine ⟨(rsA (rsC (List.Mem.tail _ (List.Mem.tail _ (List.Mem.head _))) rsN) (rsA rsN (rsA (rsC (List.Mem.tail _ (List.Mem.tail _ (List.Mem.tail _ (List.Mem.head _)))) rsN) (rsA rsN (rsA rsN (rsA rsN (rsA rsN rsN))))))), (Ks.consN hb36 (Ks.consK (by simp) (Ks.consK (by simp) (Ks.consK (by simp) (Ks.segK (fun k hk => by simp [hk]) Ks.nil))))), ?_⟩
          refine xd_step hok 1 [] rfl rfl (by kernel_rfl) ln (by kernel_rfl) trivial (o_bsl el30 ze39 rfl rfl rfl (.nil _)) ?_
          rintro _ _ ⟨b28, hb28, rfl, rfl⟩
          refine ⟨(rsA (rsC (List.Mem.tail _ (List.Mem.tail _ (List.Mem.tail _ (List.Mem.head _)))) rsN) (rsA rsN (rsA (rsC (List.Mem.tail _ (List.Mem.tail _ (List.Mem.tail _ (List.Mem.tail _ (List.Mem.head _))))) rsN) (rsA rsN (rsA rsN (rsA rsN (rsA rsN rsN))))))), (Ks.consN hb28 (Ks.consN hb36 (Ks.consK (by simp) (Ks.consK (by simp) (Ks.consK (by simp) (Ks.segK (fun k hk => by simp [hk]) Ks.nil)))))), ?_⟩
          obtain ⟨ho18, h⟩ := h
          refine xd_step hok 6 [(28, _), (32, _)] rfl rfl (by kernel_rfl) (lc rfl (lc rfl ln)) (by kernel_rfl) trivial (OT.st (fun _ h => Pull.st (.hereC _ _) h) (o_appJ (l := []) (l' := n0L) (B := [_]) ap30 rfl rfl (OJ.lit (l := []) (List.Mem.head _) rfl (by omega) (by simp [maxLen]) (by exact (fun i hi => match i, hi with  | q + 0, h => absurd h (by omega)))) (fun w2 hw2 => (hJ0_1.sl hw2 (Pull.sub (.there _ (.thereC _ (.thereC _ (.thereC _ (.thereC _ (.here _ _))))))))) (fun _ _ => rfl) ho18 (len_max ho18 (by decide)))) ?_
          rintro vs17 _ ⟨Bs17, rfl, hns17, hJs17⟩
          have hcBs17 := Cov.trans (Cov.new hb28) hns17
          refine ⟨(rsA (rsC (List.mem_append_right _ (List.Mem.tail _ (List.Mem.tail _ (List.Mem.head _)))) rsN) (rsA rsN (rsA (rsC (List.mem_append_right _ (List.Mem.tail _ (List.Mem.tail _ (List.Mem.tail _ (List.Mem.head _))))) rsN) (rsA rsN (rsA rsN (rsA rsN (rsA rsN rsN))))))), (Ks.segN hcBs17 (Ks.consN hb36 (Ks.consK (by simp) (Ks.consK (by simp) (Ks.consK (by simp) (Ks.segK (fun k hk => by simp [hk]) Ks.nil)))))), ?_⟩
          obtain ⟨ho20, h⟩ := h
          refine xd_step hok 10 [(33, _), (36, _)] rfl rfl (by kernel_rfl) (lc rfl (lc rfl ln)) (by kernel_rfl) trivial (OT.st (fun _ h => Pull.st (.here _ _) h) (o_appJ (l := ([] ++ n0L)) (l' := [(fun i => a1 (2 + i))]) (B := Bs17) ap30 rfl rfl hJs17 (fun w2 hw2 => (SL.lit (l := [(fun i => a1 (2 + i))]) hw2 (List.mem_append_right _ (List.Mem.head _)) rfl (by omega) (by simp [maxLen]) (by exact (fun i hi => match i, hi with | 0, _ => rfl | 1, _ => rfl | 2, _ => rfl | 3, _ => rfl | 4, _ => rfl | 5, _ => rfl | 6, _ => rfl | 7, _ => rfl | 8, _ => rfl | 9, _ => rfl | 10, _ => rfl | 11, _ => rfl | 12, _ => rfl | 13, _ => rfl | 14, _ => rfl | 15, _ => rfl | 16, _ => rfl | 17, _ => rfl | 18, _ => rfl | 19, _ => rfl | 20, _ => rfl | 21, _ => rfl | 22, _ => rfl | 23, _ => rfl | 24, _ => rfl | 25, _ => rfl | 26, _ => rfl | 27, _ => rfl | q + 28, h => absurd h (by omega))))) (fun _ _ => rfl) ho20 (len_max ho20 (by decide)))) ?_
          rintro vs19 _ ⟨Bs19, rfl, hns19, hJs19⟩
          have hcBs19 := Cov.trans hcBs17 hns19
          refine ⟨(rsA (rsC (List.mem_append_right _ (List.Mem.tail _ (List.Mem.tail _ (List.Mem.head _)))) rsN) (rsA rsN (rsA (rsC (List.mem_append_right _ (List.Mem.tail _ (List.Mem.tail _ (List.Mem.tail _ (List.Mem.head _))))) rsN) (rsA rsN (rsA rsN (rsA rsN (rsA rsN rsN))))))), (Ks.segN hcBs19 (Ks.consN hb36 (Ks.consK (by simp) (Ks.consK (by simp) (Ks.consK (by simp) (Ks.segK (fun k hk => by simp [hk]) Ks.nil)))))), ?_⟩
          refine xd_b hok 11 [(27, _)] ([]) rsN rfl rfl rfl (lc rfl ln) (by kernel_rfl) trivial (fun H' hy hK => o_nilp rfl) ?_
          first | refine xd_b hok 12 [(38, _)] ([]) rsN rfl rfl rfl (lc rfl ln) (by kernel_rfl) trivial (fun H' hy hK => o_fa0 fl48_1 rfl) ?_ | refine xd_b hok 12 [(38, _)] ([]) rsN rfl rfl rfl (lc rfl ln) (by kernel_rfl) trivial (fun H' hy hK => o_fa fl48_1 rfl) ?_
          obtain ⟨Bs21, hEBs21⟩ : ∃ B : GH, B = S0_1 ++ Bs19 := ⟨_, rfl⟩
          have hcBs21 : Cov w S0_1 Bs21 := hEBs21 ▸ Cov.more (Cov.refl _) hcBs19
          have hJm22 : OJ 39 28 iv Bs21 v0_1 n0L := hEBs21 ▸ OJ.left hJ0_1
          have hJm23 : OJ 39 28 iv Bs21 vs19 (([] ++ n0L) ++ [(fun i => a1 (2 + i))]) := hEBs21 ▸ OJ.right hJs19
          refine xd_fl0 hok 1 13 [(39, _), (37, _)] rfl rfl (by kernel_rfl) (by kernel_rfl) (lc rfl (lc rfl ln)) (by kernel_rfl) trivial (OT.convH (H2 := (b36, BK 28 _ 39) :: ((b4, BK 28 (iv (fun _ => 0)) 39) :: ((b3, BK 30 (iv a1) 43) :: ((p0, BK 2 (cl [.int .i64 n0Limit, vs19]) 48) :: (Bs21 ++ ([])))))) (fun _ h => by rw [hEBs21]; exact St.join [[(b36, _)], [(b4, _)], [(b3, _)], [(p0, _)]] [] _ _ (St.permI [1, 2, 3, 4, 5, 0] [Bs19, [(b36, _)], [(b4, _)], [(b3, _)], [(p0, _)], S0_1] rfl h)) (o_stC (l' := [.int .i64 n0Limit, vs19]) rfl rfl ts30 (oneOf (OJ.val hJs19)) (List.mem_append_right _ (List.Mem.tail _ (List.Mem.tail _ (List.Mem.tail _ (List.Mem.head _))))) rfl (by decide) rfl (Upd.seg (.there _ _ _ _ _ (.there _ _ _ _ _ (.there _ _ _ _ _ (.here _ _ _ _))))))) ?_
          rintro _ _ ⟨rfl, rfl⟩
          refine ⟨(Ks.consN hb36 (Ks.consK (by simp) (Ks.consK (by simp) (Ks.consK (by simp) (Ks.segC hcBs21 (fun k hk => by simp [hk]) Ks.nil))))), ?_⟩
          refine xd_end hok (by kernel_rfl) ?_
          refine xq_then (xw_seq (xw_region ?_))
          refine xq rfl trivial (o_build fk39 ze39 (.nil _)) ?_
          refine xq0 trivial (o_stWI rfl rfl ts39 (List.Mem.tail _ (List.Mem.head _)) (.there _ _ _ _ _ (.here _ _ _ _))) ?_
          refine xq rfl trivial (o_as rfl) ?_
          refine xo_nil (xq_then (xw_ret (xq_then_ret ?_)))
          subst h
          exact con_retN (.inl rfl) (l := [.cell 4 39, .tmp 5]) Try.results15 (.cell rfl ts39 (List.Mem.tail _ (List.Mem.head _)) (.tmp rfl .nil)) rfl (cat [[(p0, BK 2 (cl [.int .i64 n0Limit, vs19]) 48)], Bs21]) (Kp.st (Kp.new hb36 (Kp.new hb4 (Kp.new hb3 (Kp.keep (Kp.segKeep Kp.nil)))))) (⟨_, rfl, (Cov.cons (Cov.app (A := S0_1) (A' := Bs21) hcBs21 Cov.nil)), vs19, Bs21, rfl, rfl, hJm23, hJm22, hcBs21⟩)
  · have hq1 : (decide (a1 0 = 0)) = false := hc1
    have hp1 : ¬ (a1 0 = 0) := of_decide_eq_false hq1
    rw [if_neg hp1] at h
    refine xw_cond_f rfl rfl (xw_skip (xq_then (xw_seq (xw_seq (xw_region ?_)))))
    first | refine xq rfl trivial (o_fa0 fl43_0 rfl) ?_ | refine xq rfl trivial (o_fa fl43_0 rfl) ?_
    refine xq rfl trivial (o_ldI (v := a1 0) rfl ts3 (List.Mem.tail _ (List.Mem.head _)) (by omega) rfl) ?_
    refine xq rfl trivial (o_eql rfl rfl) ?_
    refine xo_nil (xq_then ?_)
    refine xw_bool 43 rfl (fun hc24 => ?_) (fun hc24 => ?_)
    · have hq24 : (decide (a1 0 = 4)) = true := hc24
      have hp24 : a1 0 = 4 := of_decide_eq_true hq24
      rw [if_pos hp24] at h
      refine xw_cond_t rfl rfl (xw_seq (xw_region ?_))
      refine xq rfl trivial (o_mv rfl) ?_
      refine xq rfl trivial (o_nilp rfl) ?_
      first | refine xq rfl trivial (o_fa0 fl48_1 rfl) ?_ | refine xq rfl trivial (o_fa fl48_1 rfl) ?_
      refine xq0 trivial (o_stC (l' := [.int .i64 n0Limit, .slice none 0 0]) rfl rfl ts30 rfl (List.Mem.tail _ (List.Mem.tail _ (List.Mem.head _))) rfl (by decide) rfl (.there _ _ _ _ _ (.there _ _ _ _ _ (.here _ _ _ _)))) ?_
      refine xo_nil (xq_then (xw_seq (xw_region ?_)))
      refine xq rfl trivial (o_build fk39 ze39 (.nil _)) ?_
      refine xq0 trivial (o_stWI rfl rfl ts39 (List.Mem.head _) (.here _ _ _ _)) ?_
      refine xq rfl trivial (o_as rfl) ?_
      refine xo_nil (xq_then (xw_ret (xq_then_ret ?_)))
      subst h
      exact con_retN (.inl rfl) (l := [.cell 4 39, .tmp 5]) Try.results15 (.cell rfl ts39 (List.Mem.head _) (.tmp rfl .nil)) rfl (cat [[(p0, BK 2 (cl [.int .i64 n0Limit, .slice none 0 0]) 48)], S0_1]) (Kp.st (Kp.new hb4 (Kp.new hb3 (Kp.keep (Kp.segKeep Kp.nil))))) (⟨_, rfl, (Cov.cons (Cov.app (A := S0_1) (A' := S0_1) (Cov.refl _) Cov.nil)), .slice none 0 0, S0_1, rfl, rfl, OJ.nil, hJ0_1, (Cov.refl _)⟩)
    · have hq24 : (decide (a1 0 = 4)) = false := hc24
      have hp24 : ¬ (a1 0 = 4) := of_decide_eq_false hq24
      rw [if_neg hp24] at h
      refine xw_cond_f rfl rfl (xw_skip (xq_then (xw_seq (xw_seq ?_))))
      refine xw_cut [(0, _), (3, _), (4, _)] (lc rfl (lc rfl (lc rfl ln))) [(55, .bool ((decide (a1 0 < 1)) || (decide (3 < a1 0))))] ?_ ?_
      · refine xw_region ?_
        first | refine xq rfl trivial (o_fa0 fl43_0 rfl) ?_ | refine xq rfl trivial (o_fa fl43_0 rfl) ?_
        refine xq rfl trivial (o_ldI (v := a1 0) rfl ts3 (List.Mem.tail _ (List.Mem.head _)) (by omega) rfl) ?_
        refine xq rfl trivial (o_lss rfl rfl) ?_
        refine xq rfl trivial (o_mv rfl) ?_
        refine xo_bool 51 rfl (fun hg25 => ?_) (fun hg25 => ?_)
        · have hq25 : (decide (a1 0 < 1)) = true := hg25
          have hp25 : a1 0 < 1 := of_decide_eq_true hq25
          refine xs rfl ⟨_, _, rfl, rfl, rfl⟩ (xs rfl ⟨_, _, rfl, rfl, rfl⟩ (xs rfl ⟨_, _, rfl, rfl, rfl⟩ ?_))
          refine xq rfl trivial (o_pick_t rfl rfl) ?_
          refine xo_nil ?_
          exact xq_cut ((lce rfl (by first | rfl | (simp only [hq1, hq24, hq25, if_neg hp1, if_neg hp24, if_pos hp25, bS]; done) | (simp [hp1, hp24, hp25]; done) | (simp_all; done)) (lc rfl (lc rfl (lc rfl ln))))) (fun _ h => h)
        · have hq25 : (decide (a1 0 < 1)) = false := hg25
          have hp25 : ¬ (a1 0 < 1) := of_decide_eq_false hq25
          first | refine xq rfl ⟨_, rfl, rfl⟩ (o_fa0 fl43_0 rfl) ?_ | refine xq rfl ⟨_, rfl, rfl⟩ (o_fa fl43_0 rfl) ?_
          refine xq rfl ⟨_, rfl, rfl⟩ (o_ldI (v := a1 0) rfl ts3 (List.Mem.tail _ (List.Mem.head _)) (by omega) rfl) ?_
          refine xq rfl ⟨_, rfl, rfl⟩ (o_gtr rfl rfl) ?_
          refine xq rfl trivial (o_pick_f rfl rfl) ?_
          refine xo_nil ?_
          exact xq_cut ((lce rfl (by first | rfl | (simp only [hq1, hq24, hq25, if_neg hp1, if_neg hp24, if_neg hp25, bS]; done) | (simp [hp1, hp24, hp25]; done) | (simp_all; done)) (lc rfl (lc rfl (lc rfl ln))))) (fun _ h => h)
      · refine xq_then ?_
        refine xw_bool 55 rfl (fun hc26 => ?_) (fun hc26 => ?_)
        · have hq26 : ((decide (a1 0 < 1)) || (decide (3 < a1 0))) = true := hc26
          have hp26 : ((decide (a1 0 < 1)) || (decide (3 < a1 0))) = true := hq26
          rw [if_pos hp26] at h
          refine xw_cond_t rfl rfl (xw_seq (xw_region ?_))
          refine xq rfl trivial (o_build fk39 ze39 (.nil _)) ?_
          refine xq0 trivial (o_stWI rfl rfl ts39 (List.Mem.head _) (.here _ _ _ _)) ?_
          refine xq rfl trivial (o_as rfl) ?_
          refine xo_nil (xq_then (xw_ret (xq_then_ret ?_)))
          subst h
          exact con_retN (.inl rfl) (l := [.cell 4 39, .tmp 5]) Try.results15 (.cell rfl ts39 (List.Mem.head _) (.tmp rfl .nil)) rfl (cat [[(p0, BK 2 (cl [.int .i64 n0Limit, v0_1]) 48)], S0_1]) (Kp.st (Kp.new hb4 (Kp.new hb3 (Kp.keep (Kp.segKeep Kp.nil))))) (⟨_, rfl, (Cov.cons (Cov.app (A := S0_1) (A' := S0_1) (Cov.refl _) Cov.nil)), v0_1, S0_1, rfl, rfl, hJ0_1, hJ0_1, (Cov.refl _)⟩)
        · have hq26 : ((decide (a1 0 < 1)) || (decide (3 < a1 0))) = false := hc26
          have hp26 : ¬ (((decide (a1 0 < 1)) || (decide (3 < a1 0))) = true) := bne' hq26
          rw [if_neg hp26] at h
          refine xw_cond_f rfl rfl (xw_skip (xq_then (xw_seq (xw_seq (xw_region ?_)))))
          refine xq rfl trivial (o_mv rfl) ?_
          refine xq rfl trivial (o_nilp rfl) ?_
          first | refine xq rfl trivial (o_fa0 fl48_1 rfl) ?_ | refine xq rfl trivial (o_fa fl48_1 rfl) ?_
          refine xq rfl trivial (o_ld (v := v0_1) rfl ts30 (List.Mem.tail _ (List.Mem.tail _ (List.Mem.head _))) (by decide) rfl) ?_
          refine xq rfl trivial (o_lenL rfl Try.underlying30 rfl (OJ.val hJ0_1)) ?_
          refine xq rfl trivial (o_eql rfl rfl) ?_
          refine xo_nil (xq_then ?_)
          refine xw_bool 62 rfl (fun hc27 => ?_) (fun hc27 => ?_)
          · have hq27 : (decide ((n0L.length : Int) = 0)) = true := hc27
            have hp27 : (n0L.length : Int) = 0 := of_decide_eq_true hq27
            rw [if_pos hp27] at h
            refine xw_cond_t rfl rfl (xw_seq (xw_region ?_))
            refine xq rfl trivial (o_build fk39 ze39 (.nil _)) ?_
            refine xq0 trivial (o_stWI rfl rfl ts39 (List.Mem.head _) (.here _ _ _ _)) ?_
            refine xq rfl trivial (o_as rfl) ?_
            refine xo_nil (xq_then (xw_ret (xq_then_ret ?_)))
            subst h
            exact con_retN (.inl rfl) (l := [.cell 4 39, .tmp 5]) Try.results15 (.cell rfl ts39 (List.Mem.head _) (.tmp rfl .nil)) rfl (cat [[(p0, BK 2 (cl [.int .i64 n0Limit, v0_1]) 48)], S0_1]) (Kp.st (Kp.new hb4 (Kp.new hb3 (Kp.keep (Kp.segKeep Kp.nil))))) (⟨_, rfl, (Cov.cons (Cov.app (A := S0_1) (A' := S0_1) (Cov.refl _) Cov.nil)), v0_1, S0_1, rfl, rfl, hJ0_1, hJ0_1, (Cov.refl _)⟩)
          · have hq27 : (decide ((n0L.length : Int) = 0)) = false := hc27
            have hp27 : ¬ ((n0L.length : Int) = 0) := of_decide_eq_false hq27
            rw [if_neg hp27] at h
            refine xw_cond_f rfl rfl (xw_skip (xq_then (xw_seq (xw_region ?_))))
            refine xq rfl trivial (o_mv rfl) ?_
            first | refine xq rfl trivial (o_fa0 fl43_1 rfl) ?_ | refine xq rfl trivial (o_fa fl43_1 rfl) ?_
            refine xq rfl trivial (o_ldI (v := a1 1) rfl ts3 (List.Mem.tail _ (List.Mem.head _)) (by omega) rfl) ?_
            obtain ⟨ho28, h⟩ := h
            refine xo rfl trivial (OT.st (fun _ h => St.permI [2, 3, 0, 1] [[(b4, _)], [(b3, _)], [(p0, _)], S0_1] rfl h) (ot_callF (Cs := [[(p0, _)], S0_1]) (Rs := [[(b4, _)], [(b3, _)]]) kf25 rfl (fun w1 hw1 => pickR_c _ _ _ _ _ _ w1 hJ0_1 (St.hasC hw1) ho28) (fun _ _ _ h => h.1))) ?_
            rintro _ _ ⟨w1, _, rfl, hle, -, rfl, rfl⟩
            refine xo_st ((p0, BK 2 (cl [.int .i64 n0Limit, v0_1]) 48) :: (S0_1 ++ ((b4, BK 28 (iv (fun _ => 0)) 39) :: ((b3, BK 30 (iv a1) 43) :: ([]))))) (fun _ h => h) ?_
            refine xq rfl trivial (o_as rfl) ?_
            refine xo_nil (xq_then (xw_seq (xw_region ?_)))
            refine xq rfl trivial (o_mv rfl) ?_
            refine xq rfl trivial (o_nilp rfl) ?_
            first | refine xq rfl trivial (o_fa0 fl48_1 rfl) ?_ | refine xq rfl trivial (o_fa fl48_1 rfl) ?_
            refine xq rfl trivial (o_ld (v := v0_1) rfl ts30 (List.Mem.head _) (by decide) rfl) ?_
            refine xq rfl trivial (o_mv rfl) ?_
            obtain ⟨ho31, h⟩ := h
            refine xq rfl trivial (o_ixL el30 rfl rfl (fun w hw => (hJ0_1.sl hw (Pull.sub (.thereC _ (.here _ _))))) rfl ho31) ?_
            refine xq rfl trivial (o_ldLI rfl ts39 rfl (fun w hw => (hJ0_1.sl hw (Pull.sub (.thereC _ (.here _ _))))) (toNat_lt ho31) rfl) ?_
            refine xo rfl trivial (o_alloc ze39 rfl) ?_
            rintro _ _ ⟨b7, hb7, rfl, rfl⟩
            refine xq0 trivial (o_stWI rfl rfl ts39 (List.Mem.head _) (.here _ _ _ _)) ?_
            refine xo_nil (xq_then (xw_seq (xw_seq (xw_region ?_))))
            first | refine xq rfl trivial (o_fa0 fl43_0 rfl) ?_ | refine xq rfl trivial (o_fa fl43_0 rfl) ?_
            refine xq rfl trivial (o_ldI (v := a1 0) rfl ts3 (List.Mem.tail _ (List.Mem.tail _ (List.mem_append_right _ (List.Mem.tail _ (List.Mem.head _))))) (by omega) rfl) ?_
            refine xq rfl trivial (o_eql rfl rfl) ?_
            refine xo_nil (xq_then ?_)
            refine xw_bool 77 rfl (fun hc32 => ?_) (fun hc32 => ?_)
            · have hq32 : (decide (a1 0 = 3)) = true := hc32
              have hp32 : a1 0 = 3 := of_decide_eq_true hq32
              rw [if_pos hp32] at h
              refine xw_cond_t rfl rfl (xw_seq (xw_seq ?_))
              refine xd_start (by kernel_rfl) (by kernel_rfl) (fun hok => ?_)
              refine xd_b hok 0 [(0, _)] ([]) rsN rfl rfl rfl (lc rfl ln) (by kernel_rfl) trivial (fun H' hy hK => o_mv rfl) ?_
              refine xd_b hok 1 [(78, _)] ([]) rsN rfl rfl rfl (lc rfl ln) (by kernel_rfl) trivial (fun H' hy hK => o_nilp rfl) ?_
              first | refine xd_b hok 2 [(79, _)] ([]) rsN rfl rfl rfl (lc rfl ln) (by kernel_rfl) trivial (fun H' hy hK => o_fa0 fl48_1 rfl) ?_ | refine xd_b hok 2 [(79, _)] ([]) rsN rfl rfl rfl (lc rfl ln) (by kernel_rfl) trivial (fun H' hy hK => o_fa fl48_1 rfl) ?_
              refine xd_b hok 3 [(80, _)] ((p0, BK 2 (cl [.int .i64 n0Limit, v0_1]) 48) :: ([])) (rsC (List.Mem.tail _ (List.Mem.head _)) rsN) rfl rfl rfl (lc rfl ln) (by kernel_rfl) trivial (fun H' hy hK => o_ld (v := v0_1) rfl ts30 (hy _ (List.Mem.head _)) (by decide) rfl) ?_
              refine xd_b hok 4 [(81, _)] ([]) rsN rfl rfl rfl (lc rfl ln) (by kernel_rfl) trivial (fun H' hy hK => o_lenL rfl Try.underlying30 rfl (OJ.val hJ0_1)) ?_
              refine xd_b hok 5 [(0, _)] ([]) rsN rfl rfl rfl (lc rfl ln) (by kernel_rfl) trivial (fun H' hy hK => o_mv rfl) ?_
              refine xd_b hok 6 [(83, _)] ([]) rsN rfl rfl rfl (lc rfl ln) (by kernel_rfl) trivial (fun H' hy hK => o_nilp rfl) ?_
              first | refine xd_b hok 7 [(84, _)] ([]) rsN rfl rfl rfl (lc rfl ln) (by kernel_rfl) trivial (fun H' hy hK => o_fa0 fl48_0 rfl) ?_ | refine xd_b hok 7 [(84, _)] ([]) rsN rfl rfl rfl (lc rfl ln) (by kernel_rfl) trivial (fun H' hy hK => o_fa fl48_0 rfl) ?_
              refine xd_b hok 8 [(85, _)] ((p0, BK 2 (cl [.int .i64 n0Limit, v0_1]) 48) :: ([])) (rsC (List.Mem.tail _ (List.Mem.head _)) rsN) rfl rfl rfl (lc rfl ln) (by kernel_rfl) trivial (fun H' hy hK => o_ld (v := .int .i64 n0Limit) rfl ts3 (hy _ (List.Mem.head _)) (by decide) rfl) ?_
              refine xd_b hok 9 [(82, _), (86, _)] ([]) rsN rfl rfl rfl (lc rfl (lc rfl ln)) (by kernel_rfl) trivial (fun H' hy hK => o_geq rfl rfl) ?_
              refine xd_end hok (by kernel_rfl) ?_
              refine xq_then ?_
              refine xw_bool 87 rfl (fun hc33 => ?_) (fun hc33 => ?_)
              · have hq33 : (decide (n0Limit ≤ (n0L.length : Int))) = true := hc33
                have hp33 : n0Limit ≤ (n0L.length : Int) := of_decide_eq_true hq33
                rw [if_pos hp33] at h
                refine xw_cond_t rfl rfl (xw_seq (xw_region ?_))
                refine xq rfl trivial (o_build fk39 ze39 (.nil _)) ?_
                refine xq0 trivial (o_stWI rfl rfl ts39 (List.Mem.tail _ (List.Mem.tail _ (List.mem_append_right _ (List.Mem.head _)))) (.there _ _ _ _ _ (.there _ _ _ _ _ (Upd.seg (.here _ _ _ _))))) ?_
                refine xq rfl trivial (o_as rfl) ?_
                refine xo_nil (xq_then (xw_ret (xq_then_ret (xq_then_ret ?_))))
                subst h
                exact con_retN (.inl rfl) (l := [.cell 4 39, .tmp 5]) Try.results15 (.cell rfl ts39 (List.Mem.tail _ (List.Mem.tail _ (List.mem_append_right _ (List.Mem.head _)))) (.tmp rfl .nil)) rfl (cat [[(p0, BK 2 (cl [.int .i64 n0Limit, v0_1]) 48)], S0_1]) (Kp.st (Kp.new hb7 (Kp.keep (Kp.segKeep (Kp.new hb4 (Kp.new hb3 Kp.nil)))))) (⟨_, rfl, (Cov.cons (Cov.app (A := S0_1) (A' := S0_1) (Cov.refl _) Cov.nil)), v0_1, S0_1, rfl, rfl, hJ0_1, hJ0_1, (Cov.refl _)⟩)
              · have hq33 : (decide (n0Limit ≤ (n0L.length : Int))) = false := hc33
                have hp33 : ¬ (n0Limit ≤ (n0L.length : Int)) := of_decide_eq_false hq33
                rw [if_neg hp33] at h
                refine xw_cond_f rfl rfl (xw_skip (xq_then (xw_seq ?_)))
                refine xd_start (by kernel_rfl) (by kernel_rfl) (fun hok => ?_)
                refine xd_b hok 0 [(0, _)] ([]) rsN rfl rfl rfl (lc rfl ln) (by kernel_rfl) trivial (fun H' hy hK => o_mv rfl) ?_
                refine xd_b hok 2 [(0, _)] ([]) rsN rfl rfl rfl (lc rfl ln) (by kernel_rfl) trivial (fun H' hy hK => o_mv rfl) ?_
                refine xd_b hok 3 [(91, _)] ([]) rsN rfl rfl rfl (lc rfl ln) (by kernel_rfl) trivial (fun H' hy hK => o_nilp rfl) ?_
                first | refine xd_b hok 4 [(92, _)] ([]) rsN rfl rfl rfl (lc rfl ln) (by kernel_rfl) trivial (fun H' hy hK => o_fa0 fl48_1 rfl) ?_ | refine xd_b hok 4 [(92, _)] ([]) rsN rfl rfl rfl (lc rfl ln) (by kernel_rfl) trivial (fun H' hy hK => o_fa fl48_1 rfl) ?_
                refine xd_b hok 5 [(93, _)] ((p0, BK 2 (cl [.int .i64 n0Limit, v0_1]) 48) :: ([])) (rsC (List.Mem.tail _ (List.Mem.head _)) rsN) rfl rfl rfl (lc rfl ln) (by kernel_rfl) trivial (fun H' hy hK => o_ld (v := v0_1) rfl ts30 (hy _ (List.Mem.head _)) (by decide) rfl) ?_
                refine xd_b hok 7 [(7, _)] ((b7, BK 28 (iv (n0L[(pickR_F n0Limit n0L (a1 1)).toNat]!)) 39) :: ([])) (rsC (List.Mem.head _) rsN) rfl rfl rfl (lc rfl ln) (by kernel_rfl) trivial (fun H' hy hK => o_ldW rfl ts39 (hy _ (List.Mem.head _))) ?_
                refine xd_step2 hok 1 8 [] [(96, _)] rfl rfl rfl rfl (by kernel_rfl) ln (lc rfl ln) (by kernel_rfl) (by kernel_rfl) trivial trivial (o_bsl el30 ze39 rfl rfl rfl (.nil _)) (o_bsl el30 ze39 rfl rfl rfl (.ints rfl rfl (.nil _))) ?_ ?_
                · rintro _ _ ⟨b90, hb90, rfl, rfl⟩
                  refine ⟨(rsA (rsC (List.Mem.tail _ (List.Mem.head _)) rsN) (rsA (rsC (List.Mem.tail _ (List.Mem.tail _ (List.Mem.head _))) rsN) (rsA rsN (rsA rsN (rsA rsN (rsA rsN rsN)))))), (Ks.consN hb90 (Ks.consK (by simp) (Ks.consK (by simp) (Ks.segK (fun k hk => by simp [hk]) (Ks.consK (by simp) (Ks.consK (by simp) Ks.nil)))))), ?_⟩
                  obtain ⟨ho35, h⟩ := h
                  refine xd_step2 hok 6 8 [(90, _), (94, _)] [(96, _)] rfl rfl rfl rfl (by kernel_rfl) (lc rfl (lc rfl ln)) (lc rfl ln) (by kernel_rfl) (by kernel_rfl) trivial trivial (OT.st (fun _ h => Pull.st (.hereC _ _) h) (o_appJ (l := []) (l' := n0L) (B := [_]) ap30 rfl rfl (OJ.lit (l := []) (List.Mem.head _) rfl (by omega) (by simp [maxLen]) (by exact (fun i hi => match i, hi with  | q + 0, h => absurd h (by omega)))) (fun w2 hw2 => (hJ0_1.sl hw2 (Pull.sub (.there _ (.thereC _ (.thereC _ (.here _ _))))))) (fun _ _ => rfl) ho35 (len_max ho35 (by decide)))) (o_bsl el30 ze39 rfl rfl rfl (.ints rfl rfl (.nil _))) ?_ ?_
                  · rintro vs34 _ ⟨Bs34, rfl, hns34, hJs34⟩
                    have hcBs34 := Cov.trans (Cov.new hb90) hns34
                    refine ⟨(rsA (rsC (List.mem_append_right _ (List.Mem.head _)) rsN) (rsA (rsC (List.mem_append_right _ (List.Mem.tail _ (List.Mem.head _))) rsN) (rsA rsN (rsA rsN (rsA rsN (rsA rsN rsN)))))), (Ks.segN hcBs34 (Ks.consK (by simp) (Ks.consK (by simp) (Ks.segK (fun k hk => by simp [hk]) (Ks.consK (by simp) (Ks.consK (by simp) Ks.nil)))))), ?_⟩
                    refine xd_step hok 8 [(96, _)] rfl rfl (by kernel_rfl) (lc rfl ln) (by kernel_rfl) trivial (o_bsl el30 ze39 rfl rfl rfl (.ints rfl rfl (.nil _))) ?_
                    rintro _ _ ⟨b97, hb97, rfl, rfl⟩
                    refine ⟨(rsA (rsC (List.Mem.tail _ (List.mem_append_right _ (List.Mem.head _))) rsN) (rsA (rsC (List.Mem.tail _ (List.mem_append_right _ (List.Mem.tail _ (List.Mem.head _)))) rsN) (rsA rsN (rsA rsN (rsA rsN (rsA rsN rsN)))))), (Ks.consN hb97 (Ks.segN hcBs34 (Ks.consK (by simp) (Ks.consK (by simp) (Ks.segK (fun k hk => by simp [hk]) (Ks.consK (by simp) (Ks.consK (by simp) Ks.nil))))))), ?_⟩
                    obtain ⟨ho37, h⟩ := h
                    refine xd_step hok 9 [(95, _), (97, _)] rfl rfl (by kernel_rfl) (lc rfl (lc rfl ln)) (by kernel_rfl) trivial (OT.push (fun q_ => (b97, BK 28 _ 39) :: (q_ ++ ((b7, BK 28 (iv (n0L[(pickR_F n0Limit n0L (a1 1)).toNat]!)) 39) :: ((p0, BK 2 (cl [.int .i64 n0Limit, v0_1]) 48) :: (S0_1 ++ ((b4, BK 28 (iv (fun _ => 0)) 39) :: ((b3, BK 30 (iv a1) 43) :: ([])))))))) (fun _ => (.thereC _ (.here _ _))) (OT.st (fun _ h => Pull.st (.thereC _ (.here _ _)) h) (o_appJ (l := ([] ++ n0L)) (l' := [(n0L[(pickR_F n0Limit n0L (a1 1)).toNat]!)]) (B := Bs34) ap30 rfl rfl hJs34 (fun w2 hw2 => (SL.lit (l := [(n0L[(pickR_F n0Limit n0L (a1 1)).toNat]!)]) hw2 (List.mem_append_right _ (List.Mem.head _)) rfl (by omega) (by simp [maxLen]) (by exact (fun i hi => match i, hi with | 0, _ => rfl | 1, _ => rfl | 2, _ => rfl | 3, _ => rfl | 4, _ => rfl | 5, _ => rfl | 6, _ => rfl | 7, _ => rfl | 8, _ => rfl | 9, _ => rfl | 10, _ => rfl | 11, _ => rfl | 12, _ => rfl | 13, _ => rfl | 14, _ => rfl | 15, _ => rfl | 16, _ => rfl | 17, _ => rfl | 18, _ => rfl | 19, _ => rfl | 20, _ => rfl | 21, _ => rfl | 22, _ => rfl | 23, _ => rfl | 24, _ => rfl | 25, _ => rfl | 26, _ => rfl | 27, _ => rfl | q + 28, h => absurd h (by omega))))) (fun _ _ => rfl) ho37 (len_max ho37 (by decide))))) ?_
                    rintro vs36 _ ⟨Bs36, rfl, hns36, hJs36⟩
                    have hcBs36 := Cov.trans hcBs34 hns36
                    refine ⟨(rsA (rsC (List.Mem.tail _ (List.mem_append_right _ (List.Mem.head _))) rsN) (rsA (rsC (List.Mem.tail _ (List.mem_append_right _ (List.Mem.tail _ (List.Mem.head _)))) rsN) (rsA rsN (rsA rsN (rsA rsN (rsA rsN rsN)))))), (Ks.consN hb97 (Ks.segN hcBs36 (Ks.consK (by simp) (Ks.consK (by simp) (Ks.segK (fun k hk => by simp [hk]) (Ks.consK (by simp) (Ks.consK (by simp) Ks.nil))))))), ?_⟩
                    refine xd_show (H' := (b97, BK 28 _ 39) :: (Bs36 ++ ((b7, BK 28 (iv (n0L[(pickR_F n0Limit n0L (a1 1)).toNat]!)) 39) :: ((p0, BK 2 (cl [.int .i64 n0Limit, v0_1]) 48) :: (S0_1 ++ ((b4, BK 28 (iv (fun _ => 0)) 39) :: ((b3, BK 30 (iv a1) 43) :: ([])))))))) rfl ?_
                    refine xd_b hok 10 [(89, _)] ([]) rsN rfl rfl rfl (lc rfl ln) (by kernel_rfl) trivial (fun H' hy hK => o_nilp rfl) ?_
                    first | refine xd_b hok 11 [(99, _)] ([]) rsN rfl rfl rfl (lc rfl ln) (by kernel_rfl) trivial (fun H' hy hK => o_fa0 fl48_1 rfl) ?_ | refine xd_b hok 11 [(99, _)] ([]) rsN rfl rfl rfl (lc rfl ln) (by kernel_rfl) trivial (fun H' hy hK => o_fa fl48_1 rfl) ?_
                    obtain ⟨Bs38, hEBs38⟩ : ∃ B : GH, B = S0_1 ++ Bs36 := ⟨_, rfl⟩
                    have hcBs38 : Cov w S0_1 Bs38 := hEBs38 ▸ Cov.more (Cov.refl _) hcBs36
                    have hJm39 : OJ 39 28 iv Bs38 v0_1 n0L := hEBs38 ▸ OJ.left hJ0_1
                    have hJm40 : OJ 39 28 iv Bs38 vs36 (([] ++ n0L) ++ [(n0L[(pickR_F n0Limit n0L (a1 1)).toNat]!)]) := hEBs38 ▸ OJ.right hJs36
                    refine xd_fl0 hok 1 12 [(100, _), (98, _)] rfl rfl (by kernel_rfl) (by kernel_rfl) (lc rfl (lc rfl ln)) (by kernel_rfl) trivial (OT.convH (H2 := (b97, BK 28 _ 39) :: ((b7, BK 28 (iv (n0L[(pickR_F n0Limit n0L (a1 1)).toNat]!)) 39) :: ((p0, BK 2 (cl [.int .i64 n0Limit, vs36]) 48) :: (Bs38 ++ ((b4, BK 28 (iv (fun _ => 0)) 39) :: ((b3, BK 30 (iv a1) 43) :: ([]))))))) (fun _ h => by rw [hEBs38]; exact St.join [[(b97, _)], [(b7, _)], [(p0, _)]] [[(b4, _)], [(b3, _)]] _ _ (St.permI [0, 2, 3, 4, 1, 5, 6] [[(b97, _)], Bs36, [(b7, _)], [(p0, _)], S0_1, [(b4, _)], [(b3, _)]] rfl h)) (o_stC (l' := [.int .i64 n0Limit, vs36]) rfl rfl ts30 (oneOf (OJ.val hJs36)) (List.Mem.tail _ (List.mem_append_right _ (List.Mem.tail _ (List.Mem.head _)))) rfl (by decide) rfl (.there _ _ _ _ _ (Upd.seg (.there _ _ _ _ _ (.here _ _ _ _)))))) ?_
                    rintro _ _ ⟨rfl, rfl⟩
                    refine ⟨(Ks.consN hb97 (Ks.consK (by simp) (Ks.consK (by simp) (Ks.segC hcBs38 (fun k hk => by simp [hk]) (Ks.consK (by simp) (Ks.consK (by simp) Ks.nil)))))), ?_⟩
                    refine xd_end hok (by kernel_rfl) ?_
                    refine xq_then (xw_seq (xw_region ?_))
                    refine xq rfl trivial (o_build fk39 ze39 (.nil _)) ?_
                    refine xq0 trivial (o_stWI rfl rfl ts39 (List.Mem.tail _ (List.Mem.tail _ (List.Mem.tail _ (List.mem_append_right _ (List.Mem.head _))))) (.there _ _ _ _ _ (.there _ _ _ _ _ (.there _ _ _ _ _ (Upd.seg (.here _ _ _ _)))))) ?_
                    refine xq rfl trivial (o_as rfl) ?_
                    refine xo_nil (xq_then (xw_ret (xq_then_ret ?_)))
                    subst h
                    exact con_retN (.inl rfl) (l := [.cell 4 39, .tmp 5]) Try.results15 (.cell rfl ts39 (List.Mem.tail _ (List.Mem.tail _ (List.Mem.tail _ (List.mem_append_right _ (List.Mem.head _))))) (.tmp rfl .nil)) rfl (cat [[(p0, BK 2 (cl [.int .i64 n0Limit, vs36]) 48)], Bs38]) (Kp.st (Kp.new hb97 (Kp.new hb7 (Kp.keep (Kp.segKeep (Kp.new hb4 (Kp.new hb3 Kp.nil))))))) (⟨_, rfl, (Cov.cons (Cov.app (A := S0_1) (A' := Bs38) hcBs38 Cov.nil)), vs36, Bs38, rfl, rfl, hJm40, hJm39, hcBs38⟩)
                  · rintro _ _ ⟨b97, hb97, rfl, rfl⟩
                    refine ⟨(rsA (rsC (List.Mem.tail _ (List.Mem.tail _ (List.Mem.head _))) rsN) (rsA (rsC (List.Mem.tail _ (List.Mem.tail _ (List.Mem.tail _ (List.Mem.head _)))) rsN) (rsA rsN (rsA rsN (rsA rsN (rsA rsN rsN)))))), (Ks.consN hb97 (Ks.consN hb90 (Ks.consK (by simp) (Ks.consK (by simp) (Ks.segK (fun k hk => by simp [hk]) (Ks.consK (by simp) (Ks.consK (by simp) Ks.nil))))))), ?_⟩
                    refine xd_step hok 6 [(90, _), (94, _)] rfl rfl (by kernel_rfl) (lc rfl (lc rfl ln)) (by kernel_rfl) trivial (OT.push (fun q_ => (b97, BK 28 _ 39) :: (q_ ++ ((b7, BK 28 (iv (n0L[(pickR_F n0Limit n0L (a1 1)).toNat]!)) 39) :: ((p0, BK 2 (cl [.int .i64 n0Limit, v0_1]) 48) :: (S0_1 ++ ((b4, BK 28 (iv (fun _ => 0)) 39) :: ((b3, BK 30 (iv a1) 43) :: ([])))))))) (fun _ => (.thereC _ (.here _ _))) (OT.st (fun _ h => Pull.st (.thereC _ (.hereC _ _)) h) (o_appJ (l := []) (l' := n0L) (B := [_]) ap30 rfl rfl (OJ.lit (l := []) (List.Mem.head _) rfl (by omega) (by simp [maxLen]) (by exact (fun i hi => match i, hi with  | q + 0, h => absurd h (by omega)))) (fun w2 hw2 => (hJ0_1.sl hw2 (Pull.sub (.there _ (.thereC _ (.thereC _ (.thereC _ (.here _ _)))))))) (fun _ _ => rfl) ho35 (len_max ho35 (by decide))))) ?_
                    rintro vs41 _ ⟨Bs41, rfl, hns41, hJs41⟩
                    have hcBs41 := Cov.trans (Cov.new hb90) hns41
                    refine ⟨(rsA (rsC (List.Mem.tail _ (List.mem_append_right _ (List.Mem.head _))) rsN) (rsA (rsC (List.Mem.tail _ (List.mem_append_right _ (List.Mem.tail _ (List.Mem.head _)))) rsN) (rsA rsN (rsA rsN (rsA rsN (rsA rsN rsN)))))), (Ks.consN hb97 (Ks.segN hcBs41 (Ks.consK (by simp) (Ks.consK (by simp) (Ks.segK (fun k hk => by simp [hk]) (Ks.consK (by simp) (Ks.consK (by simp) Ks.nil))))))), ?_⟩
                    refine xd_show (H' := (b97, BK 28 _ 39) :: (Bs41 ++ ((b7, BK 28 (iv (n0L[(pickR_F n0Limit n0L (a1 1)).toNat]!)) 39) :: ((p0, BK 2 (cl [.int .i64 n0Limit, v0_1]) 48) :: (S0_1 ++ ((b4, BK 28 (iv (fun _ => 0)) 39) :: ((b3, BK 30 (iv a1) 43) :: ([])))))))) rfl ?_
                    obtain ⟨ho43, h⟩ := h
                    refine xd_step hok 9 [(95, _), (97, _)] rfl rfl (by kernel_rfl) (lc rfl (lc rfl ln)) (by kernel_rfl) trivial (OT.push (fun q_ => (b97, BK 28 _ 39) :: (q_ ++ ((b7, BK 28 (iv (n0L[(pickR_F n0Limit n0L (a1 1)).toNat]!)) 39) :: ((p0, BK 2 (cl [.int .i64 n0Limit, v0_1]) 48) :: (S0_1 ++ ((b4, BK 28 (iv (fun _ => 0)) 39) :: ((b3, BK 30 (iv a1) 43) :: ([])))))))) (fun _ => (.thereC _ (.here _ _))) (OT.st (fun _ h => Pull.st (.thereC _ (.here _ _)) h) (o_appJ (l := ([] ++ n0L)) (l' := [(n0L[(pickR_F n0Limit n0L (a1 1)).toNat]!)]) (B := Bs41) ap30 rfl rfl hJs41 (fun w2 hw2 => (SL.lit (l := [(n0L[(pickR_F n0Limit n0L (a1 1)).toNat]!)]) hw2 (List.mem_append_right _ (List.Mem.head _)) rfl (by omega) (by simp [maxLen]) (by exact (fun i hi => match i, hi with | 0, _ => rfl | 1, _ => rfl | 2, _ => rfl | 3, _ => rfl | 4, _ => rfl | 5, _ => rfl | 6, _ => rfl | 7, _ => rfl | 8, _ => rfl | 9, _ => rfl | 10, _ => rfl | 11, _ => rfl | 12, _ => rfl | 13, _ => rfl | 14, _ => rfl | 15, _ => rfl | 16, _ => rfl | 17, _ => rfl | 18, _ => rfl | 19, _ => rfl | 20, _ => rfl | 21, _ => rfl | 22, _ => rfl | 23, _ => rfl | 24, _ => rfl | 25, _ => rfl | 26, _ => rfl | 27, _ => rfl | q + 28, h => absurd h (by omega))))) (fun _ _ => rfl) ho43 (len_max ho43 (by decide))))) ?_
                    rintro vs42 _ ⟨Bs42, rfl, hns42, hJs42⟩
                    have hcBs42 := Cov.trans hcBs41 hns42
                    refine ⟨(rsA (rsC (List.Mem.tail _ (List.mem_append_right _ (List.Mem.head _))) rsN) (rsA (rsC (List.Mem.tail _ (List.mem_append_right _ (List.Mem.tail _ (List.Mem.head _)))) rsN) (rsA rsN (rsA rsN (rsA rsN (rsA rsN rsN)))))), (Ks.consN hb97 (Ks.segN hcBs42 (Ks.consK (by simp) (Ks.consK (by simp) (Ks.segK (fun k hk => by simp [hk]) (Ks.consK (by simp) (Ks.consK (by simp) Ks.nil))))))), ?_⟩
                    refine xd_show (H' := (b97, BK 28 _ 39) :: (Bs42 ++ ((b7, BK 28 (iv (n0L[(pickR_F n0Limit n0L (a1 1)).toNat]!)) 39) :: ((p0, BK 2 (cl [.int .i64 n0Limit, v0_1]) 48) :: (S0_1 ++ ((b4, BK 28 (iv (fun _ => 0)) 39) :: ((b3, BK 30 (iv a1) 43) :: ([])))))))) rfl ?_
                    refine xd_b hok 10 [(89, _)] ([]) rsN rfl rfl rfl (lc rfl ln) (by kernel_rfl) trivial (fun H' hy hK => o_nilp rfl) ?_
                    first | refine xd_b hok 11 [(99, _)] ([]) rsN rfl rfl rfl (lc rfl ln) (by kernel_rfl) trivial (fun H' hy hK => o_fa0 fl48_1 rfl) ?_ | refine xd_b hok 11 [(99, _)] ([]) rsN rfl rfl rfl (lc rfl ln) (by kernel_rfl) trivial (fun H' hy hK => o_fa fl48_1 rfl) ?_
                    obtain ⟨Bs44, hEBs44⟩ : ∃ B : GH, B = S0_1 ++ Bs42 := ⟨_, rfl⟩
                    have hcBs44 : Cov w S0_1 Bs44 := hEBs44 ▸ Cov.more (Cov.refl _) hcBs42
                    have hJm45 : OJ 39 28 iv Bs44 v0_1 n0L := hEBs44 ▸ OJ.left hJ0_1
                    have hJm46 : OJ 39 28 iv Bs44 vs42 (([] ++ n0L) ++ [(n0L[(pickR_F n0Limit n0L (a1 1)).toNat]!)]) := hEBs44 ▸ OJ.right hJs42
                    refine xd_fl0 hok 1 12 [(100, _), (98, _)] rfl rfl (by kernel_rfl) (by kernel_rfl) (lc rfl (lc rfl ln)) (by kernel_rfl) trivial (OT.convH (H2 := (b97, BK 28 _ 39) :: ((b7, BK 28 (iv (n0L[(pickR_F n0Limit n0L (a1 1)).toNat]!)) 39) :: ((p0, BK 2 (cl [.int .i64 n0Limit, vs42]) 48) :: (Bs44 ++ ((b4, BK 28 (iv (fun _ => 0)) 39) :: ((b3, BK 30 (iv a1) 43) :: ([]))))))) (fun _ h => by rw [hEBs44]; exact St.join [[(b97, _)], [(b7, _)], [(p0, _)]] [[(b4, _)], [(b3, _)]] _ _ (St.permI [0, 2, 3, 4, 1, 5, 6] [[(b97, _)], Bs42, [(b7, _)], [(p0, _)], S0_1, [(b4, _)], [(b3, _)]] rfl h)) (o_stC (l' := [.int .i64 n0Limit, vs42]) rfl rfl ts30 (oneOf (OJ.val hJs42)) (List.Mem.tail _ (List.mem_append_right _ (List.Mem.tail _ (List.Mem.head _)))) rfl (by decide) rfl (.there _ _ _ _ _ (Upd.seg (.there _ _ _ _ _ (.here _ _ _ _)))))) ?_
                    rintro _ _ ⟨rfl, rfl⟩
                    refine ⟨(Ks.consN hb97 (Ks.consK (by simp) (Ks.consK (by simp) (Ks.segC hcBs44 (fun k hk => by simp [hk]) (Ks.consK (by simp) (Ks.consK (by simp) Ks.nil)))))), ?_⟩
                    refine xd_end hok (by kernel_rfl) ?_
                    refine xq_then (xw_seq (xw_region ?_))
                    refine xq rfl trivial (o_build fk39 ze39 (.nil _)) ?_
                    refine xq0 trivial (o_stWI rfl rfl ts39 (List.Mem.tail _ (List.Mem.tail _ (List.Mem.tail _ (List.mem_append_right _ (List.Mem.head _))))) (.there _ _ _ _ _ (.there _ _ _ _ _ (.there _ _ _ _ _ (Upd.seg (.here _ _ _ _)))))) ?_
                    refine xq rfl trivial (o_as rfl) ?_
                    refine xo_nil (xq_then (xw_ret (xq_then_ret ?_)))
                    subst h
                    exact con_retN (.inl rfl) (l := [.cell 4 39, .tmp 5]) Try.results15 (.cell rfl ts39 (List.Mem.tail _ (List.Mem.tail _ (List.Mem.tail _ (List.mem_append_right _ (List.Mem.head _))))) (.tmp rfl .nil)) rfl (cat [[(p0, BK 2 (cl [.int .i64 n0Limit, vs42]) 48)], Bs44]) (Kp.st (Kp.new hb97 (Kp.new hb7 (Kp.keep (Kp.segKeep (Kp.new hb4 (Kp.new hb3 Kp.nil))))))) (⟨_, rfl, (Cov.cons (Cov.app (A := S0_1) (A' := Bs44) hcBs44 Cov.nil)), vs42, Bs44, rfl, rfl, hJm46, hJm45, hcBs44⟩)
                · rintro _ _ ⟨b97, hb97, rfl, rfl⟩
                  refine ⟨(rsA (rsC (List.Mem.tail _ (List.Mem.head _)) rsN) (rsA (rsC (List.Mem.tail _ (List.Mem.tail _ (List.Mem.head _))) rsN) (rsA rsN (rsA rsN (rsA rsN (rsA rsN rsN)))))), (Ks.consN hb97 (Ks.consK (by simp) (Ks.consK (by simp) (Ks.segK (fun k hk => by simp [hk]) (Ks.consK (by simp) (Ks.consK (by simp) Ks.nil)))))), ?_⟩
                  refine xd_step hok 1 [] rfl rfl (by kernel_rfl) ln (by kernel_rfl) trivial (o_bsl el30 ze39 rfl rfl rfl (.nil _)) ?_
                  rintro _ _ ⟨b90, hb90, rfl, rfl⟩
                  refine ⟨(rsA (rsC (List.Mem.tail _ (List.Mem.tail _ (List.Mem.head _))) rsN) (rsA (rsC (List.Mem.tail _ (List.Mem.tail _ (List.Mem.tail _ (List.Mem.head _)))) rsN) (rsA rsN (rsA rsN (rsA rsN (rsA rsN rsN)))))), (Ks.consN hb90 (Ks.consN hb97 (Ks.consK (by simp) (Ks.consK (by simp) (Ks.segK (fun k hk => by simp [hk]) (Ks.consK (by simp) (Ks.consK (by simp) Ks.nil))))))), ?_⟩
                  obtain ⟨ho48, h⟩ := h
                  refine xd_step hok 6 [(90, _), (94, _)] rfl rfl (by kernel_rfl) (lc rfl (lc rfl ln)) (by kernel_rfl) trivial (OT.st (fun _ h => Pull.st (.hereC _ _) h) (o_appJ (l := []) (l' := n0L) (B := [_]) ap30 rfl rfl (OJ.lit (l := []) (List.Mem.head _) rfl (by omega) (by simp [maxLen]) (by exact (fun i hi => match i, hi with  | q + 0, h => absurd h (by omega)))) (fun w2 hw2 => (hJ0_1.sl hw2 (Pull.sub (.there _ (.thereC _ (.thereC _ (.thereC _ (.here _ _)))))))) (fun _ _ => rfl) ho48 (len_max ho48 (by decide)))) ?_
                  rintro vs47 _ ⟨Bs47, rfl, hns47, hJs47⟩
                  have hcBs47 := Cov.trans (Cov.new hb90) hns47
                  refine ⟨(rsA (rsC (List.mem_append_right _ (List.Mem.tail _ (List.Mem.head _))) rsN) (rsA (rsC (List.mem_append_right _ (List.Mem.tail _ (List.Mem.tail _ (List.Mem.head _)))) rsN) (rsA rsN (rsA rsN (rsA rsN (rsA rsN rsN)))))), (Ks.segN hcBs47 (Ks.consN hb97 (Ks.consK (by simp) (Ks.consK (by simp) (Ks.segK (fun k hk => by simp [hk]) (Ks.consK (by simp) (Ks.consK (by simp) Ks.nil))))))), ?_⟩
                  obtain ⟨ho50, h⟩ := h
                  refine xd_step hok 9 [(95, _), (97, _)] rfl rfl (by kernel_rfl) (lc rfl (lc rfl ln)) (by kernel_rfl) trivial (OT.st (fun _ h => Pull.st (.here _ _) h) (o_appJ (l := ([] ++ n0L)) (l' := [(n0L[(pickR_F n0Limit n0L (a1 1)).toNat]!)]) (B := Bs47) ap30 rfl rfl hJs47 (fun w2 hw2 => (SL.lit (l := [(n0L[(pickR_F n0Limit n0L (a1 1)).toNat]!)]) hw2 (List.mem_append_right _ (List.Mem.head _)) rfl (by omega) (by simp [maxLen]) (by exact (fun i hi => match i, hi with | 0, _ => rfl | 1, _ => rfl | 2, _ => rfl | 3, _ => rfl | 4, _ => rfl | 5, _ => rfl | 6, _ => rfl | 7, _ => rfl | 8, _ => rfl | 9, _ => rfl | 10, _ => rfl | 11, _ => rfl | 12, _ => rfl | 13, _ => rfl | 14, _ => rfl | 15, _ => rfl | 16, _ => rfl | 17, _ => rfl | 18, _ => rfl | 19, _ => rfl | 20, _ => rfl | 21, _ => rfl | 22, _ => rfl | 23, _ => rfl | 24, _ => rfl | 25, _ => rfl | 26, _ => rfl | 27, _ => rfl | q + 28, h => absurd h (by omega))))) (fun _ _ => rfl) ho50 (len_max ho50 (by decide)))) ?_
                  rintro vs49 _ ⟨Bs49, rfl, hns49, hJs49⟩
                  have hcBs49 := Cov.trans hcBs47 hns49
                  refine ⟨(rsA (rsC (List.mem_append_right _ (List.Mem.tail _ (List.Mem.head _))) rsN) (rsA (rsC (List.mem_append_right _ (List.Mem.tail _ (List.Mem.tail _ (List.Mem.head _)))) rsN) (rsA rsN (rsA rsN (rsA rsN (rsA rsN rsN)))))), (Ks.segN hcBs49 (Ks.consN hb97 (Ks.consK (by simp) (Ks.consK (by simp) (Ks.segK (fun k hk => by simp [hk]) (Ks.consK (by simp) (Ks.consK (by simp) Ks.nil))))))), ?_⟩
                  refine xd_b hok 10 [(89, _)] ([]) rsN rfl rfl rfl (lc rfl ln) (by kernel_rfl) trivial (fun H' hy hK => o_nilp rfl) ?_
                  first | refine xd_b hok 11 [(99, _)] ([]) rsN rfl rfl rfl (lc rfl ln) (by kernel_rfl) trivial (fun H' hy hK => o_fa0 fl48_1 rfl) ?_ | refine xd_b hok 11 [(99, _)] ([]) rsN rfl rfl rfl (lc rfl ln) (by kernel_rfl) trivial (fun H' hy hK => o_fa fl48_1 rfl) ?_
                  obtain ⟨Bs51, hEBs51⟩ : ∃ B : GH, B = S0_1 ++ Bs49 := ⟨_, rfl⟩
                  have hcBs51 : Cov w S0_1 Bs51 := hEBs51 ▸ Cov.more (Cov.refl _) hcBs49
                  have hJm52 : OJ 39 28 iv Bs51 v0_1 n0L := hEBs51 ▸ OJ.left hJ0_1
                  have hJm53 : OJ 39 28 iv Bs51 vs49 (([] ++ n0L) ++ [(n0L[(pickR_F n0Limit n0L (a1 1)).toNat]!)]) := hEBs51 ▸ OJ.right hJs49
                  refine xd_fl0 hok 1 12 [(100, _), (98, _)] rfl rfl (by kernel_rfl) (by kernel_rfl) (lc rfl (lc rfl ln)) (by kernel_rfl) trivial (OT.convH (H2 := (b97, BK 28 _ 39) :: ((b7, BK 28 (iv (n0L[(pickR_F n0Limit n0L (a1 1)).toNat]!)) 39) :: ((p0, BK 2 (cl [.int .i64 n0Limit, vs49]) 48) :: (Bs51 ++ ((b4, BK 28 (iv (fun _ => 0)) 39) :: ((b3, BK 30 (iv a1) 43) :: ([]))))))) (fun _ h => by rw [hEBs51]; exact St.join [[(b97, _)], [(b7, _)], [(p0, _)]] [[(b4, _)], [(b3, _)]] _ _ (St.permI [1, 2, 3, 4, 0, 5, 6] [Bs49, [(b97, _)], [(b7, _)], [(p0, _)], S0_1, [(b4, _)], [(b3, _)]] rfl h)) (o_stC (l' := [.int .i64 n0Limit, vs49]) rfl rfl ts30 (oneOf (OJ.val hJs49)) (List.mem_append_right _ (List.Mem.tail _ (List.Mem.tail _ (List.Mem.head _)))) rfl (by decide) rfl (Upd.seg (.there _ _ _ _ _ (.there _ _ _ _ _ (.here _ _ _ _)))))) ?_
                  rintro _ _ ⟨rfl, rfl⟩
                  refine ⟨(Ks.consN hb97 (Ks.consK (by simp) (Ks.consK (by simp) (Ks.segC hcBs51 (fun k hk => by simp [hk]) (Ks.consK (by simp) (Ks.consK (by simp) Ks.nil)))))), ?_⟩
                  refine xd_end hok (by kernel_rfl) ?_
                  refine xq_then (xw_seq (xw_region ?_))
                  refine xq rfl trivial (o_build fk39 ze39 (.nil _)) ?_
                  refine xq0 trivial (o_stWI rfl rfl ts39 (List.Mem.tail _ (List.Mem.tail _ (List.Mem.tail _ (List.mem_append_right _ (List.Mem.head _))))) (.there _ _ _ _ _ (.there _ _ _ _ _ (.there _ _ _ _ _ (Upd.seg (.here _ _ _ _)))))) ?_
                  refine xq rfl trivial (o_as rfl) ?_
                  refine xo_nil (xq_then (xw_ret (xq_then_ret ?_)))
                  subst h
                  exact con_retN (.inl rfl) (l := [.cell 4 39, .tmp 5]) Try.results15 (.cell rfl ts39 (List.Mem.tail _ (List.Mem.tail _ (List.Mem.tail _ (List.mem_append_right _ (List.Mem.head _))))) (.tmp rfl .nil)) rfl (cat [[(p0, BK 2 (cl [.int .i64 n0Limit, vs49]) 48)], Bs51]) (Kp.st (Kp.new hb97 (Kp.new hb7 (Kp.keep (Kp.segKeep (Kp.new hb4 (Kp.new hb3 Kp.nil))))))) (⟨_, rfl, (Cov.cons (Cov.app (A := S0_1) (A' := Bs51) hcBs51 Cov.nil)), vs49, Bs51, rfl, rfl, hJm53, hJm52, hcBs51⟩)
            · have hq32 : (decide (a1 0 = 3)) = false := hc32
              have hp32 : ¬ (a1 0 = 3) := of_decide_eq_false hq32
              rw [if_neg hp32] at h
              refine xw_cond_f rfl rfl (xw_skip (xq_then (xw_seq ?_)))
              refine xd_start (by kernel_rfl) (by kernel_rfl) (fun hok => ?_)
              refine xd_b hok 0 [(0, _)] ([]) rsN rfl rfl rfl (lc rfl ln) (by kernel_rfl) trivial (fun H' hy hK => o_mv rfl) ?_
              refine xd_b hok 2 [(0, _)] ([]) rsN rfl rfl rfl (lc rfl ln) (by kernel_rfl) trivial (fun H' hy hK => o_mv rfl) ?_
              refine xd_b hok 3 [(104, _)] ([]) rsN rfl rfl rfl (lc rfl ln) (by kernel_rfl) trivial (fun H' hy hK => o_nilp rfl) ?_
              first | refine xd_b hok 4 [(105, _)] ([]) rsN rfl rfl rfl (lc rfl ln) (by kernel_rfl) trivial (fun H' hy hK => o_fa0 fl48_1 rfl) ?_ | refine xd_b hok 4 [(105, _)] ([]) rsN rfl rfl rfl (lc rfl ln) (by kernel_rfl) trivial (fun H' hy hK => o_fa fl48_1 rfl) ?_
              refine xd_b hok 5 [(106, _)] ((p0, BK 2 (cl [.int .i64 n0Limit, v0_1]) 48) :: ([])) (rsC (List.Mem.tail _ (List.Mem.head _)) rsN) rfl rfl rfl (lc rfl ln) (by kernel_rfl) trivial (fun H' hy hK => o_ld (v := v0_1) rfl ts30 (hy _ (List.Mem.head _)) (by decide) rfl) ?_
              refine xd_b hok 6 [(6, _)] ([]) rsN rfl rfl rfl (lc rfl ln) (by kernel_rfl) trivial (fun H' hy hK => o_mv rfl) ?_
              obtain ⟨ho54, h⟩ := h
              refine xd_b hok 7 [(107, _), (108, _)] (S0_1 ++ ([])) (rsA (Pull.sub (.thereC _ (.thereC _ (.here _ _)))) rsN) rfl rfl rfl (lc rfl (lc rfl ln)) (by kernel_rfl) trivial (fun H' hy hK => o_cutH el30 rfl (fun w hw => (hJ0_1.sl hw (fun x hx => hy x (Pull.sub (.here _ _) x hx)))) rfl ho54) ?_
              refine xd_b hok 9 [(0, _)] ([]) rsN rfl rfl rfl (lc rfl ln) (by kernel_rfl) trivial (fun H' hy hK => o_mv rfl) ?_
              refine xd_b hok 10 [(111, _)] ([]) rsN rfl rfl rfl (lc rfl ln) (by kernel_rfl) trivial (fun H' hy hK => o_nilp rfl) ?_
              first | refine xd_b hok 11 [(112, _)] ([]) rsN rfl rfl rfl (lc rfl ln) (by kernel_rfl) trivial (fun H' hy hK => o_fa0 fl48_1 rfl) ?_ | refine xd_b hok 11 [(112, _)] ([]) rsN rfl rfl rfl (lc rfl ln) (by kernel_rfl) trivial (fun H' hy hK => o_fa fl48_1 rfl) ?_
              refine xd_b hok 12 [(113, _)] ((p0, BK 2 (cl [.int .i64 n0Limit, v0_1]) 48) :: ([])) (rsC (List.Mem.tail _ (List.Mem.head _)) rsN) rfl rfl rfl (lc rfl ln) (by kernel_rfl) trivial (fun H' hy hK => o_ld (v := v0_1) rfl ts30 (hy _ (List.Mem.head _)) (by decide) rfl) ?_
              refine xd_b hok 13 [(6, _)] ([]) rsN rfl rfl rfl (lc rfl ln) (by kernel_rfl) trivial (fun H' hy hK => o_mv rfl) ?_
              obtain ⟨ho55, h⟩ := h
              refine xd_b hok 14 [(115, _)] ([]) rsN rfl rfl rfl (lc rfl ln) (by kernel_rfl) trivial (fun H' hy hK => o_add rfl rfl rfl ho55) ?_
              obtain ⟨ho56, h⟩ := h
              refine xd_b hok 15 [(114, _), (116, _)] (S0_1 ++ ([])) (rsA (Pull.sub (.thereC _ (.thereC _ (.here _ _)))) rsN) rfl rfl rfl (lc rfl (lc rfl ln)) (by kernel_rfl) trivial (fun H' hy hK => o_cutL el30 rfl (fun w hw => (hJ0_1.sl hw (fun x hx => hy x (Pull.sub (.here _ _) x hx)))) rfl ho56) ?_
              refine xd_step hok 1 [] rfl rfl (by kernel_rfl) ln (by kernel_rfl) trivial (o_bsl el30 ze39 rfl rfl rfl (.nil _)) ?_
              rintro _ _ ⟨b103, hb103, rfl, rfl⟩
              refine ⟨(rsA (rsA (Pull.sub (.thereC _ (.thereC _ (.thereC _ (.here _ _))))) rsN) (rsA rsN (rsA rsN (rsA (rsC (List.Mem.tail _ (List.Mem.tail _ (List.Mem.head _))) rsN) (rsA rsN (rsA rsN (rsA rsN (rsA (rsA (Pull.sub (.thereC _ (.thereC _ (.thereC _ (.here _ _))))) rsN) (rsA rsN (rsA (rsC (List.Mem.tail _ (List.Mem.tail _ (List.Mem.head _))) rsN) (rsA rsN (rsA rsN (rsA rsN (rsA rsN rsN)))))))))))))), (Ks.consN hb103 (Ks.consK (by simp) (Ks.consK (by simp) (Ks.segK (fun k hk => by simp [hk]) (Ks.consK (by simp) (Ks.consK (by simp) Ks.nil)))))), ?_⟩
              obtain ⟨ho58, h⟩ := h
              refine xd_step hok 8 [(103, _), (109, _)] rfl rfl (by kernel_rfl) (lc rfl (lc rfl ln)) (by kernel_rfl) trivial (OT.st (fun _ h => Pull.st (.hereC _ _) h) (o_appJ (l := []) (l' := (n0L.take (pickR_F n0Limit n0L (a1 1)).toNat).drop 0) (B := [_]) ap30 rfl rfl (OJ.lit (l := []) (List.Mem.head _) rfl (by omega) (by simp [maxLen]) (by exact (fun i hi => match i, hi with  | q + 0, h => absurd h (by omega)))) (fun w2 hw2 => ((hJ0_1.cut (Nat.zero_le _) (toNat_le ho54) (by decide)).sl hw2 (Pull.sub (.there _ (.thereC _ (.thereC _ (.here _ _))))))) (fun _ _ => rfl) ho58 (len_max ho58 (by decide)))) ?_
              rintro vs57 _ ⟨Bs57, rfl, hns57, hJs57⟩
              have hcBs57 := Cov.trans (Cov.new hb103) hns57
              refine ⟨(rsA (rsA (Pull.sub (.there _ (.thereC _ (.thereC _ (.here _ _))))) rsN) (rsA rsN (rsA rsN (rsA (rsC (List.mem_append_right _ (List.Mem.tail _ (List.Mem.head _))) rsN) (rsA rsN (rsA rsN (rsA rsN (rsA (rsA (Pull.sub (.there _ (.thereC _ (.thereC _ (.here _ _))))) rsN) (rsA rsN (rsA (rsC (List.mem_append_right _ (List.Mem.tail _ (List.Mem.head _))) rsN) (rsA rsN (rsA rsN (rsA rsN (rsA rsN rsN)))))))))))))), (Ks.segN hcBs57 (Ks.consK (by simp) (Ks.consK (by simp) (Ks.segK (fun k hk => by simp [hk]) (Ks.consK (by simp) (Ks.consK (by simp) Ks.nil)))))), ?_⟩
              obtain ⟨ho60, h⟩ := h
              refine xd_step hok 16 [(110, _), (117, _)] rfl rfl (by kernel_rfl) (lc rfl (lc rfl ln)) (by kernel_rfl) trivial (OT.st (fun _ h => Pull.st (.here _ _) h) (o_appJ (l := ([] ++ (n0L.take (pickR_F n0Limit n0L (a1 1)).toNat).drop 0)) (l' := (n0L.take n0L.length).drop ((pickR_F n0Limit n0L (a1 1)) + 1).toNat) (B := Bs57) ap30 rfl rfl hJs57 (fun w2 hw2 => ((hJ0_1.cut (toNat_le ho56) (Nat.le_refl _) (by decide)).sl hw2 (Pull.sub (.there _ (.thereC _ (.thereC _ (.here _ _))))))) (fun _ _ => rfl) ho60 (len_max ho60 (by decide)))) ?_
              rintro vs59 _ ⟨Bs59, rfl, hns59, hJs59⟩
              have hcBs59 := Cov.trans hcBs57 hns59
              refine ⟨(rsA (rsA (Pull.sub (.there _ (.thereC _ (.thereC _ (.here _ _))))) rsN) (rsA rsN (rsA rsN (rsA (rsC (List.mem_append_right _ (List.Mem.tail _ (List.Mem.head _))) rsN) (rsA rsN (rsA rsN (rsA rsN (rsA (rsA (Pull.sub (.there _ (.thereC _ (.thereC _ (.here _ _))))) rsN) (rsA rsN (rsA (rsC (List.mem_append_right _ (List.Mem.tail _ (List.Mem.head _))) rsN) (rsA rsN (rsA rsN (rsA rsN (rsA rsN rsN)))))))))))))), (Ks.segN hcBs59 (Ks.consK (by simp) (Ks.consK (by simp) (Ks.segK (fun k hk => by simp [hk]) (Ks.consK (by simp) (Ks.consK (by simp) Ks.nil)))))), ?_⟩
              refine xd_b hok 17 [(102, _)] ([]) rsN rfl rfl rfl (lc rfl ln) (by kernel_rfl) trivial (fun H' hy hK => o_nilp rfl) ?_
              first | refine xd_b hok 18 [(119, _)] ([]) rsN rfl rfl rfl (lc rfl ln) (by kernel_rfl) trivial (fun H' hy hK => o_fa0 fl48_1 rfl) ?_ | refine xd_b hok 18 [(119, _)] ([]) rsN rfl rfl rfl (lc rfl ln) (by kernel_rfl) trivial (fun H' hy hK => o_fa fl48_1 rfl) ?_
              obtain ⟨Bs61, hEBs61⟩ : ∃ B : GH, B = S0_1 ++ Bs59 := ⟨_, rfl⟩
              have hcBs61 : Cov w S0_1 Bs61 := hEBs61 ▸ Cov.more (Cov.refl _) hcBs59
              have hJm62 : OJ 39 28 iv Bs61 v0_1 n0L := hEBs61 ▸ OJ.left hJ0_1
              have hJm63 : OJ 39 28 iv Bs61 (cutV v0_1 28 0 (pickR_F n0Limit n0L (a1 1)).toNat) ((n0L.take (pickR_F n0Limit n0L (a1 1)).toNat).drop 0) := hEBs61 ▸ OJ.left (hJ0_1.cut (Nat.zero_le _) (toNat_le ho54) (by decide))
              have hJm64 : OJ 39 28 iv Bs61 (cutV v0_1 28 ((pickR_F n0Limit n0L (a1 1)) + 1).toNat n0L.length) ((n0L.take n0L.length).drop ((pickR_F n0Limit n0L (a1 1)) + 1).toNat) := hEBs61 ▸ OJ.left (hJ0_1.cut (toNat_le ho56) (Nat.le_refl _) (by decide))
              have hJm65 : OJ 39 28 iv Bs61 vs59 (([] ++ (n0L.take (pickR_F n0Limit n0L (a1 1)).toNat).drop 0) ++ (n0L.take n0L.length).drop ((pickR_F n0Limit n0L (a1 1)) + 1).toNat) := hEBs61 ▸ OJ.right hJs59
              refine xd_fl0 hok 1 19 [(120, _), (118, _)] rfl rfl (by kernel_rfl) (by kernel_rfl) (lc rfl (lc rfl ln)) (by kernel_rfl) trivial (OT.convH (H2 := (b7, BK 28 (iv (n0L[(pickR_F n0Limit n0L (a1 1)).toNat]!)) 39) :: ((p0, BK 2 (cl [.int .i64 n0Limit, vs59]) 48) :: (Bs61 ++ ((b4, BK 28 (iv (fun _ => 0)) 39) :: ((b3, BK 30 (iv a1) 43) :: ([])))))) (fun _ h => by rw [hEBs61]; exact St.join [[(b7, _)], [(p0, _)]] [[(b4, _)], [(b3, _)]] _ _ (St.permI [1, 2, 3, 0, 4, 5] [Bs59, [(b7, _)], [(p0, _)], S0_1, [(b4, _)], [(b3, _)]] rfl h)) (o_stC (l' := [.int .i64 n0Limit, vs59]) rfl rfl ts30 (oneOf (OJ.val hJs59)) (List.mem_append_right _ (List.Mem.tail _ (List.Mem.head _))) rfl (by decide) rfl (Upd.seg (.there _ _ _ _ _ (.here _ _ _ _))))) ?_
              rintro _ _ ⟨rfl, rfl⟩
              refine ⟨(Ks.consK (by simp) (Ks.consK (by simp) (Ks.segC hcBs61 (fun k hk => by simp [hk]) (Ks.consK (by simp) (Ks.consK (by simp) Ks.nil))))), ?_⟩
              refine xd_end hok (by kernel_rfl) ?_
              refine xq_then (xw_seq (xw_seq (xw_region ?_)))
              first | refine xq rfl trivial (o_fa0 fl43_0 rfl) ?_ | refine xq rfl trivial (o_fa fl43_0 rfl) ?_
              refine xq rfl trivial (o_ldI (v := a1 0) rfl ts3 (List.Mem.tail _ (List.Mem.tail _ (List.mem_append_right _ (List.Mem.tail _ (List.Mem.head _))))) (by omega) rfl) ?_
              refine xq rfl trivial (o_eql rfl rfl) ?_
              refine xo_nil (xq_then ?_)
              refine xw_bool 123 rfl (fun hc66 => ?_) (fun hc66 => ?_)
              · have hq66 : (decide (a1 0 = 2)) = true := hc66
                have hp66 : a1 0 = 2 := of_decide_eq_true hq66
                rw [if_pos hp66] at h
                refine xw_cond_t rfl rfl (xw_seq (xw_region ?_))
                refine xq rfl trivial (o_build fk39 ze39 (.nil _)) ?_
                refine xq0 trivial (o_stWI rfl rfl ts39 (List.Mem.tail _ (List.Mem.tail _ (List.mem_append_right _ (List.Mem.head _)))) (.there _ _ _ _ _ (.there _ _ _ _ _ (Upd.seg (.here _ _ _ _))))) ?_
                refine xq rfl trivial (o_as rfl) ?_
                refine xo_nil (xq_then (xw_ret (xq_then_ret ?_)))
                subst h
                exact con_retN (.inl rfl) (l := [.cell 4 39, .tmp 5]) Try.results15 (.cell rfl ts39 (List.Mem.tail _ (List.Mem.tail _ (List.mem_append_right _ (List.Mem.head _)))) (.tmp rfl .nil)) rfl (cat [[(p0, BK 2 (cl [.int .i64 n0Limit, vs59]) 48)], Bs61]) (Kp.st (Kp.new hb7 (Kp.keep (Kp.segKeep (Kp.new hb4 (Kp.new hb3 Kp.nil)))))) (⟨_, rfl, (Cov.cons (Cov.app (A := S0_1) (A' := Bs61) hcBs61 Cov.nil)), vs59, Bs61, rfl, rfl, hJm65, hJm62, hcBs61⟩)
              · have hq66 : (decide (a1 0 = 2)) = false := hc66
                have hp66 : ¬ (a1 0 = 2) := of_decide_eq_false hq66
                rw [if_neg hp66] at h
                refine xw_cond_f rfl rfl (xw_skip (xq_then (xw_seq (xw_region ?_))))
                refine xq rfl trivial (o_ldW rfl ts39 (List.Mem.head _)) ?_
                refine xq0 trivial (o_stWI rfl rfl ts39 (List.Mem.tail _ (List.Mem.tail _ (List.mem_append_right _ (List.Mem.head _)))) (.there _ _ _ _ _ (.there _ _ _ _ _ (Upd.seg (.here _ _ _ _))))) ?_
                refine xq rfl trivial (o_as rfl) ?_
                refine xo_nil (xq_then (xw_ret ?_))
                subst h
                exact con_retN (.inl rfl) (l := [.cell 4 39, .tmp 5]) Try.results15 (.cell rfl ts39 (List.Mem.tail _ (List.Mem.tail _ (List.mem_append_right _ (List.Mem.head _)))) (.tmp rfl .nil)) rfl (cat [[(p0, BK 2 (cl [.int .i64 n0Limit, vs59]) 48)], Bs61]) (Kp.st (Kp.new hb7 (Kp.keep (Kp.segKeep (Kp.new hb4 (Kp.new hb3 Kp.nil)))))) (⟨_, rfl, (Cov.cons (Cov.app (A := S0_1) (A' := Bs61) hcBs61 Cov.nil)), vs59, Bs61, rfl, rfl, hJm65, hJm62, hcBs61⟩)

theorem doR_c (n0Limit : Int) (n0L : (List (Nat → Int))) (a1 : (Nat → Int)) (p0 : Nat) (v0_1 : Value) (S0_1 : GH) (w : World) (hJ0_1 : OJ 39 28 iv S0_1 v0_1 n0L) (hC : Has w (cat [[(p0, BK 2 (cl [.int .i64 n0Limit, v0_1]) 48)], S0_1])) (hP : doR_P n0Limit n0L a1) : Con Try.prog 15 #[.pointer (some ⟨p0, 0, none⟩), AI 30 a1] w (CatG fun v Ls => Cov w (cat [[(p0, BK 2 (cl [.int .i64 n0Limit, v0_1]) 48)], S0_1]) (cat Ls) ∧ ∃ (v0_1' : Value) (S0_1' : GH), v = .tuple #[AI 28 ((doR_F n0Limit n0L a1).1), .int .i64 ((doR_F n0Limit n0L a1).2.1)] ∧ Ls = [[(p0, BK 2 (cl [.int .i64 n0Limit, v0_1']) 48)], S0_1'] ∧ OJ 39 28 iv S0_1' v0_1' ((doR_F n0Limit n0L a1).2.2) ∧ OJ 39 28 iv S0_1' v0_1 n0L ∧ Cov w S0_1 S0_1') :=
  doR_con n0Limit n0L a1 p0 v0_1 S0_1 w hJ0_1 hC _ (doR_ok n0Limit n0L a1 hP)

end Go.Proofs.Ythikmldodgijdaa
