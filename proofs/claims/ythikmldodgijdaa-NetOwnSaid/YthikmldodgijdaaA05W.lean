/- The code answers as the relations say. -/
import Derived.Test.YthikmldodgijdaaTab
import Derived.Test.YthikmldodgijdaaA05S
import Derived.Test.YthikmldodgijdaaMBW
import Derived.Test.YthikmldodgijdaaMCW
set_option maxHeartbeats 1000000
set_option linter.unusedVariables false
set_option linter.unusedSimpArgs false
set_option maxRecDepth 100000
namespace Go.Proofs.Ythikmldodgijdaa
open Go Go.E

theorem code_c (e0 : Int) (w : World) : Con Try.prog 12 #[errV 62 e0] w (Is (.int .i64 (code_F e0)) []) :=
  code_con e0 w _ (code_ok e0)

theorem cloneM_con (s0 : (List (Nat → Int))) (v0 : Value) (w : World) (hs0 : SL w 28 iv v0 s0) (r : (List (Nat → Int))) (h : cloneM_S s0 r) : Con Try.prog 23 #[v0] w (fun v F => ∃ (u0 : Value) (C0 : GH), v = u0 ∧ F = (C0 ++ []) ∧ OJ 39 28 iv C0 u0 r ∧ Cov w [] C0) := by
  unfold cloneM_S at h
  refine con_enter (n := 8) [(0, _)] Try.func23 rfl Try.ntmps23 rfl (lac rfl lan) ?_
  refine xw_seq (xw_region ?_)
  refine xq rfl trivial (o_as rfl) ?_
  refine xo_nil (xq_then (xw_seq (xw_seq (xw_region ?_))))
  refine xq rfl trivial (o_mv rfl) ?_
  rcases SL.nilOr hs0 with ⟨hn, hl⟩ | hn
  · replace h := h.1 hl
    refine xq rfl trivial (o_eqn Try.underlying30 rfl rfl (hn.2 _) hn.1) ?_
    refine xo_nil (xq_then (xw_cond_t rfl rfl (xw_seq (xw_region ?_))))
    refine xq rfl trivial (o_as rfl) ?_
    refine xo_nil (xq_then (xw_ret (xq_then_ret ?_)))
    subst h
    exact con_ret1 (.inl rfl) Try.results23 rfl [] (fun _ h => h) (⟨_, [], rfl, rfl, OJ.nil, Cov.refl _⟩)
  · replace h := h.2
    refine xq rfl trivial (o_eqn Try.underlying30 rfl rfl (hn.2 _) hn.1) ?_
    refine xo_nil (xq_then (xw_cond_f rfl rfl (xw_skip (xq_then (xw_seq (xw_region ?_))))))
    refine xo rfl trivial (o_bsl el30 ze39 rfl rfl rfl (.nil _)) ?_
    rintro _ _ ⟨b5, hb5, rfl, rfl⟩
    refine xq rfl trivial (o_mv rfl) ?_
    obtain ⟨ho2, h⟩ := h
    refine xo rfl trivial (OT.st (fun _ h => Pull.st (.hereC _ _) h) (o_appJ (l := []) (l' := s0) (B := [_]) ap30 rfl rfl (OJ.lit (l := []) (List.Mem.head _) rfl (by omega) (by simp [maxLen]) (by exact (fun i hi => match i, hi with  | q + 0, h => absurd h (by omega)))) (fun w2 hw2 => (hs0.keep hw2 (Fr.seg (Cov.new hb5) Fr.nil))) (fun _ _ => rfl) ho2 (len_max ho2 (by decide)))) ?_
    rintro vs1 _ ⟨Bs1, rfl, hns1, hJs1⟩
    have hcBs1 := Cov.trans (Cov.new hb5) hns1
    refine xq rfl trivial (o_as rfl) ?_
    refine xo_nil (xq_then (xw_ret ?_))
    subst h
    exact con_ret1 (.inl rfl) Try.results23 rfl (Bs1 ++ []) (fun _ h => h) (⟨_, Bs1, rfl, rfl, hJs1, hcBs1⟩)

theorem pick_con (n0limit : Int) (n0l : (List (Nat → Int))) (k1 : Int) (p0 : Nat) (v0_1 : Value) (S0_1 : GH) (w : World) (hJ0_1 : OJ 39 28 iv S0_1 v0_1 n0l) (hC : Has w (cat [[(p0, BK 2 (cl [.int .i64 n0limit, v0_1]) 64)], S0_1])) (r : Int × Int) (h : pick_S n0limit n0l k1 r) : Con Try.prog 37 #[.pointer (some ⟨p0, 0, none⟩), .int .i64 k1] w (CatG fun v Ls => Cov w (cat [[(p0, BK 2 (cl [.int .i64 n0limit, v0_1]) 64)], S0_1]) (cat Ls) ∧ v = .tuple #[.int .i64 r.1, errV 62 r.2] ∧ Ls = [[(p0, BK 2 (cl [.int .i64 n0limit, v0_1]) 64)], S0_1]) := by
  unfold pick_S at h
  refine con_enter (n := 35) [(0, _), (1, _)] Try.func37 rfl Try.ntmps37 rfl (lac rfl (lac rfl lan)) ?_
  refine xw_has hC ?_
  refine xw_st ((p0, BK 2 (cl [.int .i64 n0limit, v0_1]) 64) :: (S0_1 ++ ([]))) (fun _ h => h) ?_
  refine xw_seq (xw_region ?_)
  refine xq rfl trivial (o_as rfl) ?_
  refine xq rfl trivial (o_as rfl) ?_
  refine xo_nil (xq_then (xw_seq (xw_seq (xw_region ?_))))
  refine xq rfl trivial (o_mv rfl) ?_
  refine xq rfl trivial (o_eqn Try.underlying24 rfl rfl rfl rfl) ?_
  refine xo_nil (xq_then (xw_cond_f rfl rfl (xw_skip (xq_then (xw_seq (xw_seq (xw_region ?_)))))))
  refine xq rfl trivial (o_mv rfl) ?_
  refine xq rfl trivial (o_nilp rfl) ?_
  first | refine xq rfl trivial (o_fa0 fl64_1 rfl) ?_ | refine xq rfl trivial (o_fa fl64_1 rfl) ?_
  refine xq rfl trivial (o_ld (v := v0_1) rfl ts30 (List.Mem.head _) (by decide) rfl) ?_
  refine xq rfl trivial (o_lenL rfl Try.underlying30 rfl (OJ.val hJ0_1)) ?_
  refine xq rfl trivial (o_eql rfl rfl) ?_
  refine xo_nil (xq_then ?_)
  refine xw_bool 14 rfl (fun hc1 => ?_) (fun hc1 => ?_)
  · have hq1 : (decide ((n0l.length : Int) = 0)) = true := hc1
    have hp1 : (n0l.length : Int) = 0 := of_decide_eq_true hq1
    rw [if_pos hp1] at h
    refine xw_cond_t rfl rfl (xw_seq (xw_region ?_))
    refine xq rfl trivial (o_mki rfl Try.underlying62 rfl) ?_
    refine xq rfl trivial (o_as rfl) ?_
    refine xq rfl trivial (o_as rfl) ?_
    refine xo_nil (xq_then (xw_ret (xq_then_ret ?_)))
    subst h
    exact con_ret2 (.inl rfl) Try.results37 rfl rfl (cat [[(p0, BK 2 (cl [.int .i64 n0limit, v0_1]) 64)], S0_1]) (fun _ h => h) (⟨_, rfl, (Cov.cons (Cov.app (A := S0_1) (A' := S0_1) (Cov.refl _) Cov.nil)), rfl, rfl⟩)
  · have hq1 : (decide ((n0l.length : Int) = 0)) = false := hc1
    have hp1 : ¬ ((n0l.length : Int) = 0) := of_decide_eq_false hq1
    rw [if_neg hp1] at h
    refine xw_cond_f rfl rfl (xw_skip (xq_then (xw_seq ?_)))
    refine xd_start (by kernel_rfl) (by kernel_rfl) (fun hok => ?_)
    refine xd_b hok 0 [(1, _)] ([]) rsN rfl rfl rfl (lc rfl ln) (by kernel_rfl) trivial (fun H' hy hK => o_mv rfl) ?_
    refine xd_b hok 1 [(0, _)] ([]) rsN rfl rfl rfl (lc rfl ln) (by kernel_rfl) trivial (fun H' hy hK => o_mv rfl) ?_
    refine xd_b hok 2 [(17, _)] ([]) rsN rfl rfl rfl (lc rfl ln) (by kernel_rfl) trivial (fun H' hy hK => o_nilp rfl) ?_
    first | refine xd_b hok 3 [(18, _)] ([]) rsN rfl rfl rfl (lc rfl ln) (by kernel_rfl) trivial (fun H' hy hK => o_fa0 fl64_1 rfl) ?_ | refine xd_b hok 3 [(18, _)] ([]) rsN rfl rfl rfl (lc rfl ln) (by kernel_rfl) trivial (fun H' hy hK => o_fa fl64_1 rfl) ?_
    refine xd_b hok 4 [(19, _)] ((p0, BK 2 (cl [.int .i64 n0limit, v0_1]) 64) :: ([])) (rsC (List.Mem.head _) rsN) rfl rfl rfl (lc rfl ln) (by kernel_rfl) trivial (fun H' hy hK => o_ld (v := v0_1) rfl ts30 (hy _ (List.Mem.head _)) (by decide) rfl) ?_
    refine xd_b hok 5 [(20, _)] ([]) rsN rfl rfl rfl (lc rfl ln) (by kernel_rfl) trivial (fun H' hy hK => o_lenL rfl Try.underlying30 rfl (OJ.val hJ0_1)) ?_
    obtain ⟨ho2, h⟩ := h
    refine xd_b hok 6 [(16, _), (21, _)] ([]) rsN rfl rfl rfl (lc rfl (lc rfl ln)) (by kernel_rfl) trivial (fun H' hy hK => o_rem rfl rfl ho2 rfl) ?_
    refine xd_b hok 7 [(0, _)] ([]) rsN rfl rfl rfl (lc rfl ln) (by kernel_rfl) trivial (fun H' hy hK => o_mv rfl) ?_
    refine xd_b hok 8 [(23, _)] ([]) rsN rfl rfl rfl (lc rfl ln) (by kernel_rfl) trivial (fun H' hy hK => o_nilp rfl) ?_
    first | refine xd_b hok 9 [(24, _)] ([]) rsN rfl rfl rfl (lc rfl ln) (by kernel_rfl) trivial (fun H' hy hK => o_fa0 fl64_1 rfl) ?_ | refine xd_b hok 9 [(24, _)] ([]) rsN rfl rfl rfl (lc rfl ln) (by kernel_rfl) trivial (fun H' hy hK => o_fa fl64_1 rfl) ?_
    refine xd_b hok 10 [(25, _)] ((p0, BK 2 (cl [.int .i64 n0limit, v0_1]) 64) :: ([])) (rsC (List.Mem.head _) rsN) rfl rfl rfl (lc rfl ln) (by kernel_rfl) trivial (fun H' hy hK => o_ld (v := v0_1) rfl ts30 (hy _ (List.Mem.head _)) (by decide) rfl) ?_
    refine xd_b hok 11 [(26, _)] ([]) rsN rfl rfl rfl (lc rfl ln) (by kernel_rfl) trivial (fun H' hy hK => o_lenL rfl Try.underlying30 rfl (OJ.val hJ0_1)) ?_
    obtain ⟨ho3, h⟩ := h
    refine xd_b hok 12 [(22, _), (27, _)] ([]) rsN rfl rfl rfl (lc rfl (lc rfl ln)) (by kernel_rfl) trivial (fun H' hy hK => o_add rfl rfl rfl ho3) ?_
    refine xd_b hok 13 [(0, _)] ([]) rsN rfl rfl rfl (lc rfl ln) (by kernel_rfl) trivial (fun H' hy hK => o_mv rfl) ?_
    refine xd_b hok 14 [(29, _)] ([]) rsN rfl rfl rfl (lc rfl ln) (by kernel_rfl) trivial (fun H' hy hK => o_nilp rfl) ?_
    first | refine xd_b hok 15 [(30, _)] ([]) rsN rfl rfl rfl (lc rfl ln) (by kernel_rfl) trivial (fun H' hy hK => o_fa0 fl64_1 rfl) ?_ | refine xd_b hok 15 [(30, _)] ([]) rsN rfl rfl rfl (lc rfl ln) (by kernel_rfl) trivial (fun H' hy hK => o_fa fl64_1 rfl) ?_
    refine xd_b hok 16 [(31, _)] ((p0, BK 2 (cl [.int .i64 n0limit, v0_1]) 64) :: ([])) (rsC (List.Mem.head _) rsN) rfl rfl rfl (lc rfl ln) (by kernel_rfl) trivial (fun H' hy hK => o_ld (v := v0_1) rfl ts30 (hy _ (List.Mem.head _)) (by decide) rfl) ?_
    refine xd_b hok 17 [(32, _)] ([]) rsN rfl rfl rfl (lc rfl ln) (by kernel_rfl) trivial (fun H' hy hK => o_lenL rfl Try.underlying30 rfl (OJ.val hJ0_1)) ?_
    obtain ⟨ho4, h⟩ := h
    refine xd_b hok 18 [(28, _), (33, _)] ([]) rsN rfl rfl rfl (lc rfl (lc rfl ln)) (by kernel_rfl) trivial (fun H' hy hK => o_rem rfl rfl ho4 rfl) ?_
    refine xd_b hok 19 [(34, _)] ([]) rsN rfl rfl rfl (lc rfl ln) (by kernel_rfl) trivial (fun H' hy hK => o_as rfl) ?_
    refine xd_b hok 20 [] ([]) rsN rfl rfl rfl ln (by kernel_rfl) trivial (fun H' hy hK => o_as rfl) ?_
    refine xd_end hok (by kernel_rfl) ?_
    refine xq_then (xw_ret ?_)
    subst h
    exact con_ret2 (.inl rfl) Try.results37 rfl rfl (cat [[(p0, BK 2 (cl [.int .i64 n0limit, v0_1]) 64)], S0_1]) (fun _ h => h) (⟨_, rfl, (Cov.cons (Cov.app (A := S0_1) (A' := S0_1) (Cov.refl _) Cov.nil)), rfl, rfl⟩)

theorem pick_c (n0limit : Int) (n0l : (List (Nat → Int))) (k1 : Int) (p0 : Nat) (v0_1 : Value) (S0_1 : GH) (w : World) (hJ0_1 : OJ 39 28 iv S0_1 v0_1 n0l) (hC : Has w (cat [[(p0, BK 2 (cl [.int .i64 n0limit, v0_1]) 64)], S0_1])) (hP : pick_P n0limit n0l k1) : Con Try.prog 37 #[.pointer (some ⟨p0, 0, none⟩), .int .i64 k1] w (CatG fun v Ls => Cov w (cat [[(p0, BK 2 (cl [.int .i64 n0limit, v0_1]) 64)], S0_1]) (cat Ls) ∧ v = .tuple #[.int .i64 ((pick_F n0limit n0l k1).1), errV 62 ((pick_F n0limit n0l k1).2)] ∧ Ls = [[(p0, BK 2 (cl [.int .i64 n0limit, v0_1]) 64)], S0_1]) :=
  pick_con n0limit n0l k1 p0 v0_1 S0_1 w hJ0_1 hC _ (pick_ok n0limit n0l k1 hP)

theorem send_con (n0limit : Int) (n0l : (List (Nat → Int))) (m1 : (Nat → Int)) (p0 : Nat) (v0_1 : Value) (S0_1 : GH) (w : World) (hJ0_1 : OJ 39 28 iv S0_1 v0_1 n0l) (hC : Has w (cat [[(p0, BK 2 (cl [.int .i64 n0limit, v0_1]) 64)], S0_1])) (r : Int × (List (Nat → Int))) (h : send_S n0limit n0l m1 r) : Con Try.prog 17 #[.pointer (some ⟨p0, 0, none⟩), AI 28 m1] w (CatG fun v Ls => Cov w (cat [[(p0, BK 2 (cl [.int .i64 n0limit, v0_1]) 64)], S0_1]) (cat Ls) ∧ ∃ (v0_1' : Value) (S0_1' : GH), v = errV 62 r.1 ∧ Ls = [[(p0, BK 2 (cl [.int .i64 n0limit, v0_1']) 64)], S0_1'] ∧ OJ 39 28 iv S0_1' v0_1' r.2 ∧ Cov w S0_1 S0_1') := by
  unfold send_S at h
  refine con_enter (n := 35) [(0, _), (1, _)] Try.func17 rfl Try.ntmps17 rfl (lac rfl (lac rfl lan)) ?_
  refine xw_has hC ?_
  refine xw_st ((p0, BK 2 (cl [.int .i64 n0limit, v0_1]) 64) :: (S0_1 ++ ([]))) (fun _ h => h) ?_
  refine xw_seq (xw_region ?_)
  refine xo rfl trivial (o_boxA rfl) ?_
  rintro _ _ ⟨b3, hb3, rfl, rfl⟩
  refine xq rfl trivial (o_as rfl) ?_
  refine xo_nil (xq_then (xw_seq (xw_seq (xw_region ?_))))
  refine xq rfl trivial (o_mv rfl) ?_
  refine xq rfl trivial (o_eqn Try.underlying24 rfl rfl rfl rfl) ?_
  refine xo_nil (xq_then (xw_cond_f rfl rfl (xw_skip (xq_then (xw_seq (xw_seq (xw_region ?_)))))))
  refine xq rfl trivial (o_ldW rfl ts39 (List.Mem.head _)) ?_
  refine xcallq rfl trivial kf26 rfl (fun w1 hw1 => msgOk_c _ w1) ?_
  refine xq rfl trivial (o_as rfl) ?_
  refine xo_nil (xq_then (xw_seq (xw_region ?_)))
  refine xq rfl trivial (o_mv rfl) ?_
  refine xq rfl trivial (o_neE Try.underlying26 rfl (fun _ => rfl) rfl rfl) ?_
  refine xo_nil (xq_then ?_)
  refine xw_bool 12 rfl (fun hc1 => ?_) (fun hc1 => ?_)
  · have hq1 : (decide ((msgOk_F m1) = 0)) = false := (bnT hc1)
    have hp1 : ¬ ((msgOk_F m1) = 0) := of_decide_eq_false hq1
    rw [if_neg hp1] at h
    refine xw_cond_t rfl rfl (xw_seq (xw_region ?_))
    refine xq rfl trivial (o_mv rfl) ?_
    refine xq rfl trivial (o_as rfl) ?_
    refine xo_nil (xq_then (xw_ret (xq_then_ret ?_)))
    subst h
    exact con_ret1 (.inl rfl) Try.results17 rfl (cat [[(p0, BK 2 (cl [.int .i64 n0limit, v0_1]) 64)], S0_1]) (Kp.st (Kp.new hb3 (Kp.keep (Kp.segKeep Kp.nil)))) (⟨_, rfl, (Cov.cons (Cov.app (A := S0_1) (A' := S0_1) (Cov.refl _) Cov.nil)), v0_1, S0_1, rfl, rfl, hJ0_1, (Cov.refl _)⟩)
  · have hq1 : (decide ((msgOk_F m1) = 0)) = true := (bnF hc1)
    have hp1 : (msgOk_F m1) = 0 := of_decide_eq_true hq1
    rw [if_pos hp1] at h
    refine xw_cond_f rfl rfl (xw_skip (xq_then (xw_seq (xw_seq ?_))))
    refine xd_start (by kernel_rfl) (by kernel_rfl) (fun hok => ?_)
    refine xd_b hok 0 [(0, _)] ([]) rsN rfl rfl rfl (lc rfl ln) (by kernel_rfl) trivial (fun H' hy hK => o_mv rfl) ?_
    refine xd_b hok 1 [(14, _)] ([]) rsN rfl rfl rfl (lc rfl ln) (by kernel_rfl) trivial (fun H' hy hK => o_nilp rfl) ?_
    first | refine xd_b hok 2 [(15, _)] ([]) rsN rfl rfl rfl (lc rfl ln) (by kernel_rfl) trivial (fun H' hy hK => o_fa0 fl64_1 rfl) ?_ | refine xd_b hok 2 [(15, _)] ([]) rsN rfl rfl rfl (lc rfl ln) (by kernel_rfl) trivial (fun H' hy hK => o_fa fl64_1 rfl) ?_
    refine xd_b hok 3 [(16, _)] ((p0, BK 2 (cl [.int .i64 n0limit, v0_1]) 64) :: ([])) (rsC (List.Mem.tail _ (List.Mem.head _)) rsN) rfl rfl rfl (lc rfl ln) (by kernel_rfl) trivial (fun H' hy hK => o_ld (v := v0_1) rfl ts30 (hy _ (List.Mem.head _)) (by decide) rfl) ?_
    refine xd_b hok 4 [(17, _)] ([]) rsN rfl rfl rfl (lc rfl ln) (by kernel_rfl) trivial (fun H' hy hK => o_lenL rfl Try.underlying30 rfl (OJ.val hJ0_1)) ?_
    refine xd_b hok 5 [(0, _)] ([]) rsN rfl rfl rfl (lc rfl ln) (by kernel_rfl) trivial (fun H' hy hK => o_mv rfl) ?_
    refine xd_b hok 6 [(19, _)] ([]) rsN rfl rfl rfl (lc rfl ln) (by kernel_rfl) trivial (fun H' hy hK => o_nilp rfl) ?_
    first | refine xd_b hok 7 [(20, _)] ([]) rsN rfl rfl rfl (lc rfl ln) (by kernel_rfl) trivial (fun H' hy hK => o_fa0 fl64_0 rfl) ?_ | refine xd_b hok 7 [(20, _)] ([]) rsN rfl rfl rfl (lc rfl ln) (by kernel_rfl) trivial (fun H' hy hK => o_fa fl64_0 rfl) ?_
    refine xd_b hok 8 [(21, _)] ((p0, BK 2 (cl [.int .i64 n0limit, v0_1]) 64) :: ([])) (rsC (List.Mem.tail _ (List.Mem.head _)) rsN) rfl rfl rfl (lc rfl ln) (by kernel_rfl) trivial (fun H' hy hK => o_ld (v := .int .i64 n0limit) rfl ts3 (hy _ (List.Mem.head _)) (by decide) rfl) ?_
    refine xd_b hok 9 [(18, _), (22, _)] ([]) rsN rfl rfl rfl (lc rfl (lc rfl ln)) (by kernel_rfl) trivial (fun H' hy hK => o_eql rfl rfl) ?_
    refine xd_end hok (by kernel_rfl) ?_
    refine xq_then ?_
    refine xw_bool 23 rfl (fun hc2 => ?_) (fun hc2 => ?_)
    · have hq2 : (decide ((n0l.length : Int) = n0limit)) = true := hc2
      have hp2 : (n0l.length : Int) = n0limit := of_decide_eq_true hq2
      rw [if_pos hp2] at h
      refine xw_cond_t rfl rfl (xw_seq (xw_region ?_))
      refine xq rfl trivial (o_mki rfl Try.underlying62 rfl) ?_
      refine xq rfl trivial (o_as rfl) ?_
      refine xo_nil (xq_then (xw_ret (xq_then_ret ?_)))
      subst h
      exact con_ret1 (.inl rfl) Try.results17 rfl (cat [[(p0, BK 2 (cl [.int .i64 n0limit, v0_1]) 64)], S0_1]) (Kp.st (Kp.new hb3 (Kp.keep (Kp.segKeep Kp.nil)))) (⟨_, rfl, (Cov.cons (Cov.app (A := S0_1) (A' := S0_1) (Cov.refl _) Cov.nil)), v0_1, S0_1, rfl, rfl, hJ0_1, (Cov.refl _)⟩)
    · have hq2 : (decide ((n0l.length : Int) = n0limit)) = false := hc2
      have hp2 : ¬ ((n0l.length : Int) = n0limit) := of_decide_eq_false hq2
      rw [if_neg hp2] at h
      refine xw_cond_f rfl rfl (xw_skip (xq_then (xw_seq ?_)))
      refine xd_start (by kernel_rfl) (by kernel_rfl) (fun hok => ?_)
      refine xd_b hok 0 [(0, _)] ([]) rsN rfl rfl rfl (lc rfl ln) (by kernel_rfl) trivial (fun H' hy hK => o_mv rfl) ?_
      refine xd_b hok 1 [(0, _)] ([]) rsN rfl rfl rfl (lc rfl ln) (by kernel_rfl) trivial (fun H' hy hK => o_mv rfl) ?_
      refine xd_b hok 2 [(26, _)] ([]) rsN rfl rfl rfl (lc rfl ln) (by kernel_rfl) trivial (fun H' hy hK => o_nilp rfl) ?_
      first | refine xd_b hok 3 [(27, _)] ([]) rsN rfl rfl rfl (lc rfl ln) (by kernel_rfl) trivial (fun H' hy hK => o_fa0 fl64_1 rfl) ?_ | refine xd_b hok 3 [(27, _)] ([]) rsN rfl rfl rfl (lc rfl ln) (by kernel_rfl) trivial (fun H' hy hK => o_fa fl64_1 rfl) ?_
      refine xd_b hok 4 [(28, _)] ((p0, BK 2 (cl [.int .i64 n0limit, v0_1]) 64) :: ([])) (rsC (List.Mem.tail _ (List.Mem.head _)) rsN) rfl rfl rfl (lc rfl ln) (by kernel_rfl) trivial (fun H' hy hK => o_ld (v := v0_1) rfl ts30 (hy _ (List.Mem.head _)) (by decide) rfl) ?_
      refine xd_b hok 5 [(3, _)] ((b3, BK 28 (iv m1) 39) :: ([])) (rsC (List.Mem.head _) rsN) rfl rfl rfl (lc rfl ln) (by kernel_rfl) trivial (fun H' hy hK => o_ldW rfl ts39 (hy _ (List.Mem.head _))) ?_
      refine xd_step hok 6 [(30, _)] rfl rfl (by kernel_rfl) (lc rfl ln) (by kernel_rfl) trivial (o_bsl el30 ze39 rfl rfl rfl (.ints rfl rfl (.nil _))) ?_
      rintro _ _ ⟨b31, hb31, rfl, rfl⟩
      refine ⟨(rsA (rsC (List.Mem.tail _ (List.Mem.head _)) rsN) (rsA (rsC (List.Mem.tail _ (List.Mem.tail _ (List.Mem.head _))) rsN) (rsA rsN (rsA rsN (rsA rsN (rsA rsN rsN)))))), (Ks.consN hb31 (Ks.consK (by simp) (Ks.consK (by simp) (Ks.segK (fun k hk => by simp [hk]) Ks.nil)))), ?_⟩
      obtain ⟨ho4, h⟩ := h
      refine xd_step hok 7 [(29, _), (31, _)] rfl rfl (by kernel_rfl) (lc rfl (lc rfl ln)) (by kernel_rfl) trivial (OT.push (fun q_ => (b31, BK 28 _ 39) :: ((b3, BK 28 (iv m1) 39) :: ((p0, BK 2 (cl [.int .i64 n0limit, v0_1]) 64) :: (q_ ++ ([]))))) (fun _ => (.thereC _ (.thereC _ (.thereC _ (.here _ _))))) (OT.st (fun _ h => Pull.st (.thereC _ (.thereC _ (.thereC _ (.here _ _)))) h) (o_appJ (l := n0l) (l' := [m1]) (B := S0_1) ap30 rfl rfl hJ0_1 (fun w2 hw2 => (SL.lit (l := [m1]) hw2 (List.mem_append_right _ (List.Mem.head _)) rfl (by omega) (by simp [maxLen]) (by exact (fun i hi => match i, hi with | 0, _ => rfl | 1, _ => rfl | 2, _ => rfl | 3, _ => rfl | 4, _ => rfl | 5, _ => rfl | 6, _ => rfl | 7, _ => rfl | 8, _ => rfl | 9, _ => rfl | 10, _ => rfl | 11, _ => rfl | 12, _ => rfl | 13, _ => rfl | 14, _ => rfl | 15, _ => rfl | 16, _ => rfl | 17, _ => rfl | 18, _ => rfl | 19, _ => rfl | 20, _ => rfl | 21, _ => rfl | 22, _ => rfl | 23, _ => rfl | 24, _ => rfl | 25, _ => rfl | 26, _ => rfl | 27, _ => rfl | q + 28, h => absurd h (by omega))))) (fun _ _ => rfl) ho4 (len_max ho4 (by decide))))) ?_
      rintro vs3 _ ⟨Bs3, rfl, hns3, hJs3⟩
      have hcBs3 := Cov.trans (Cov.refl _) hns3
      refine ⟨(rsA (rsC (List.Mem.tail _ (List.Mem.head _)) rsN) (rsA (rsC (List.Mem.tail _ (List.Mem.tail _ (List.Mem.head _))) rsN) (rsA rsN (rsA rsN (rsA rsN (rsA rsN rsN)))))), (Ks.consN hb31 (Ks.consK (by simp) (Ks.consK (by simp) (Ks.segC hcBs3 (fun k hk => by simp [hk]) Ks.nil)))), ?_⟩
      refine xd_show (H' := (b31, BK 28 _ 39) :: ((b3, BK 28 (iv m1) 39) :: ((p0, BK 2 (cl [.int .i64 n0limit, v0_1]) 64) :: (Bs3 ++ ([]))))) rfl ?_
      refine xd_b hok 8 [(25, _)] ([]) rsN rfl rfl rfl (lc rfl ln) (by kernel_rfl) trivial (fun H' hy hK => o_nilp rfl) ?_
      first | refine xd_b hok 9 [(33, _)] ([]) rsN rfl rfl rfl (lc rfl ln) (by kernel_rfl) trivial (fun H' hy hK => o_fa0 fl64_1 rfl) ?_ | refine xd_b hok 9 [(33, _)] ([]) rsN rfl rfl rfl (lc rfl ln) (by kernel_rfl) trivial (fun H' hy hK => o_fa fl64_1 rfl) ?_
      refine xd_fl0 hok 1 10 [(34, _), (32, _)] rfl rfl (by kernel_rfl) (by kernel_rfl) (lc rfl (lc rfl ln)) (by kernel_rfl) trivial (o_stC (l' := [.int .i64 n0limit, vs3]) rfl rfl ts30 (oneOf (OJ.val hJs3)) (List.Mem.tail _ (List.Mem.tail _ (List.Mem.head _))) rfl (by decide) rfl (.there _ _ _ _ _ (.there _ _ _ _ _ (.here _ _ _ _)))) ?_
      rintro _ _ ⟨rfl, rfl⟩
      refine ⟨(Ks.consN hb31 (Ks.consK (by simp) (Ks.consK (by simp) (Ks.segC hcBs3 (fun k hk => by simp [hk]) Ks.nil)))), ?_⟩
      refine xd_end hok (by kernel_rfl) ?_
      refine xq_then (xw_seq (xw_region ?_))
      refine xq rfl trivial (o_as rfl) ?_
      refine xo_nil (xq_then (xw_ret ?_))
      subst h
      exact con_ret1 (.inl rfl) Try.results17 rfl (cat [[(p0, BK 2 (cl [.int .i64 n0limit, vs3]) 64)], Bs3]) (Kp.st (Kp.new hb31 (Kp.new hb3 (Kp.keep (Kp.segKeep Kp.nil))))) (⟨_, rfl, (Cov.cons (Cov.app (A := S0_1) (A' := Bs3) hcBs3 Cov.nil)), vs3, Bs3, rfl, rfl, hJs3, hcBs3⟩)

theorem send_c (n0limit : Int) (n0l : (List (Nat → Int))) (m1 : (Nat → Int)) (p0 : Nat) (v0_1 : Value) (S0_1 : GH) (w : World) (hJ0_1 : OJ 39 28 iv S0_1 v0_1 n0l) (hC : Has w (cat [[(p0, BK 2 (cl [.int .i64 n0limit, v0_1]) 64)], S0_1])) (hP : send_P n0limit n0l m1) : Con Try.prog 17 #[.pointer (some ⟨p0, 0, none⟩), AI 28 m1] w (CatG fun v Ls => Cov w (cat [[(p0, BK 2 (cl [.int .i64 n0limit, v0_1]) 64)], S0_1]) (cat Ls) ∧ ∃ (v0_1' : Value) (S0_1' : GH), v = errV 62 ((send_F n0limit n0l m1).1) ∧ Ls = [[(p0, BK 2 (cl [.int .i64 n0limit, v0_1']) 64)], S0_1'] ∧ OJ 39 28 iv S0_1' v0_1' ((send_F n0limit n0l m1).2) ∧ Cov w S0_1 S0_1') :=
  send_con n0limit n0l m1 p0 v0_1 S0_1 w hJ0_1 hC _ (send_ok n0limit n0l m1 hP)

theorem nlen_con (n0limit : Int) (n0l : (List (Nat → Int))) (p0 : Nat) (v0_1 : Value) (S0_1 : GH) (w : World) (hJ0_1 : OJ 39 28 iv S0_1 v0_1 n0l) (hC : Has w (cat [[(p0, BK 2 (cl [.int .i64 n0limit, v0_1]) 64)], S0_1])) (r : Int) (h : nlen_S n0limit n0l r) : Con Try.prog 16 #[.pointer (some ⟨p0, 0, none⟩)] w (CatG fun v Ls => Cov w (cat [[(p0, BK 2 (cl [.int .i64 n0limit, v0_1]) 64)], S0_1]) (cat Ls) ∧ v = .int .i64 r ∧ Ls = [[(p0, BK 2 (cl [.int .i64 n0limit, v0_1]) 64)], S0_1]) := by
  unfold nlen_S at h
  refine con_enter (n := 10) [(0, _)] Try.func16 rfl Try.ntmps16 rfl (lac rfl lan) ?_
  refine xw_has hC ?_
  refine xw_st ((p0, BK 2 (cl [.int .i64 n0limit, v0_1]) 64) :: (S0_1 ++ ([]))) (fun _ h => h) ?_
  refine xw_seq (xw_region ?_)
  refine xq rfl trivial (o_as rfl) ?_
  refine xo_nil (xq_then (xw_seq (xw_seq (xw_region ?_))))
  refine xq rfl trivial (o_mv rfl) ?_
  refine xq rfl trivial (o_eqn Try.underlying24 rfl rfl rfl rfl) ?_
  refine xo_nil (xq_then (xw_cond_f rfl rfl (xw_skip (xq_then (xw_seq (xw_region ?_))))))
  refine xq rfl trivial (o_mv rfl) ?_
  refine xq rfl trivial (o_nilp rfl) ?_
  first | refine xq rfl trivial (o_fa0 fl64_1 rfl) ?_ | refine xq rfl trivial (o_fa fl64_1 rfl) ?_
  refine xq rfl trivial (o_ld (v := v0_1) rfl ts30 (List.Mem.head _) (by decide) rfl) ?_
  refine xq rfl trivial (o_lenL rfl Try.underlying30 rfl (OJ.val hJ0_1)) ?_
  refine xq rfl trivial (o_as rfl) ?_
  refine xo_nil (xq_then (xw_ret ?_))
  subst h
  exact con_ret1 (.inl rfl) Try.results16 rfl (cat [[(p0, BK 2 (cl [.int .i64 n0limit, v0_1]) 64)], S0_1]) (fun _ h => h) (⟨_, rfl, (Cov.cons (Cov.app (A := S0_1) (A' := S0_1) (Cov.refl _) Cov.nil)), rfl, rfl⟩)

theorem nlen_c (n0limit : Int) (n0l : (List (Nat → Int))) (p0 : Nat) (v0_1 : Value) (S0_1 : GH) (w : World) (hJ0_1 : OJ 39 28 iv S0_1 v0_1 n0l) (hC : Has w (cat [[(p0, BK 2 (cl [.int .i64 n0limit, v0_1]) 64)], S0_1])) : Con Try.prog 16 #[.pointer (some ⟨p0, 0, none⟩)] w (CatG fun v Ls => Cov w (cat [[(p0, BK 2 (cl [.int .i64 n0limit, v0_1]) 64)], S0_1]) (cat Ls) ∧ v = .int .i64 (nlen_F n0limit n0l) ∧ Ls = [[(p0, BK 2 (cl [.int .i64 n0limit, v0_1]) 64)], S0_1]) :=
  nlen_con n0limit n0l p0 v0_1 S0_1 w hJ0_1 hC _ (nlen_ok n0limit n0l)

theorem deliver_con (n0limit : Int) (n0l : (List (Nat → Int))) (k1 : Int) (p0 : Nat) (v0_1 : Value) (S0_1 : GH) (w : World) (hJ0_1 : OJ 39 28 iv S0_1 v0_1 n0l) (hC : Has w (cat [[(p0, BK 2 (cl [.int .i64 n0limit, v0_1]) 64)], S0_1])) (r : (Nat → Int) × Int × (List (Nat → Int))) (h : deliver_S n0limit n0l k1 r) : Con Try.prog 18 #[.pointer (some ⟨p0, 0, none⟩), .int .i64 k1] w (CatG fun v Ls => Cov w (cat [[(p0, BK 2 (cl [.int .i64 n0limit, v0_1]) 64)], S0_1]) (cat Ls) ∧ ∃ (v0_1' : Value) (S0_1' : GH), v = .tuple #[AI 28 r.1, errV 62 r.2.1] ∧ Ls = [[(p0, BK 2 (cl [.int .i64 n0limit, v0_1']) 64)], S0_1'] ∧ OJ 39 28 iv S0_1' v0_1' r.2.2 ∧ Cov w S0_1 S0_1') := by
  unfold deliver_S at h
  refine con_enter (n := 12) [(0, _), (1, _)] Try.func18 rfl Try.ntmps18 rfl (lac rfl (lac rfl lan)) ?_
  refine xw_has hC ?_
  refine xw_st ((p0, BK 2 (cl [.int .i64 n0limit, v0_1]) 64) :: (S0_1 ++ ([]))) (fun _ h => h) ?_
  refine xw_seq (xw_region ?_)
  refine xo rfl trivial (o_box1 rfl rfl) ?_
  rintro _ _ ⟨b2, hb2, rfl, rfl⟩
  refine xo rfl trivial (o_alloc ze39 rfl) ?_
  rintro _ _ ⟨b4, hb4, rfl, rfl⟩
  refine xq rfl trivial (o_as rfl) ?_
  refine xo_nil (xq_then (xw_seq (xw_region ?_)))
  refine xq rfl trivial (o_ldV rfl ts24 (List.Mem.tail _ (List.Mem.head _))) ?_
  refine xq rfl trivial (o_mv rfl) ?_
  refine xq rfl trivial (o_mkf rfl rfl) ?_
  refine xoR rfl trivial (ot_in (l := [(0, _), (1, _), (2, _)]) kf27 rfl Try.func27 rfl Try.ntmps27 rfl (lac rfl (lac rfl (lac rfl lan))) ?_)
  refine xw_seq (xw_region ?_)
  refine xq rfl trivial (o_as rfl) ?_
  refine xo_nil (xq_then (xw_seq (xw_region ?_)))
  refine xq rfl trivial (o_mv rfl) ?_
  refine xq rfl trivial (o_mv rfl) ?_
  obtain ⟨ho1, h⟩ := h
  refine xo rfl trivial (OT.st (fun _ h => St.permI [2, 3, 0, 1] [[(b4, _)], [(b2, _)], [(p0, _)], S0_1] rfl h) (ot_callF (Cs := [[(p0, _)], S0_1]) (Rs := [[(b4, _)], [(b2, _)]]) kf37 rfl (fun w1 hw1 => pick_c _ _ _ _ _ _ w1 hJ0_1 (St.hasC hw1) ho1) (fun _ _ _ h => h.1))) ?_
  rintro _ _ ⟨w1, _, rfl, hle, -, rfl, rfl⟩
  refine xo_st ((p0, BK 2 (cl [.int .i64 n0limit, v0_1]) 64) :: (S0_1 ++ ((b4, BK 28 (iv (fun _ => 0)) 39) :: ((b2, BK 1 (fun _ => .pointer (some ⟨p0, 0, none⟩)) 24) :: ([]))))) (fun _ h => h) ?_
  refine xq rfl trivial (o_mv rfl) ?_
  refine xq rfl trivial (o_ext rfl rfl) ?_
  refine xq rfl trivial (o_ext rfl rfl) ?_
  refine xq rfl trivial (o_as rfl) ?_
  refine xq rfl trivial (o_as rfl) ?_
  refine xo_nil (xq_then (xw_seq (xw_seq (xw_region ?_))))
  refine xq rfl trivial (o_mv rfl) ?_
  refine xq rfl trivial (o_neE Try.underlying26 rfl (fun _ => rfl) rfl rfl) ?_
  refine xo_nil (xq_then ?_)
  refine xw_bool 16 rfl (fun hc4 => ?_) (fun hc4 => ?_)
  · have hq4 : (decide ((pick_F n0limit n0l k1).2 = 0)) = false := (bnT hc4)
    have hp4 : ¬ ((pick_F n0limit n0l k1).2 = 0) := of_decide_eq_false hq4
    rw [if_neg hp4] at h
    refine xw_cond_t rfl rfl (xw_seq (xw_region ?_))
    refine xq rfl trivial (o_mv rfl) ?_
    refine xq rfl trivial (o_as rfl) ?_
    refine xo_nil (xq_then (xw_ret (xq_then_ret ?_)))
    refine con_ret1 (.inl rfl) Try.results27 rfl _ (fun _ h => h) (?_)
    refine xq rfl trivial (o_as rfl) ?_
    refine xo_nil (xq_then (xw_seq (xw_region ?_)))
    refine xq rfl trivial (o_ldW rfl ts39 (List.Mem.tail _ (List.mem_append_right _ (List.Mem.head _)))) ?_
    refine xq rfl trivial (o_mv rfl) ?_
    refine xq0 trivial (o_stWI rfl rfl ts39 (List.Mem.tail _ (List.mem_append_right _ (List.Mem.head _))) (.there _ _ _ _ _ (Upd.seg (.here _ _ _ _)))) ?_
    refine xq rfl trivial (o_as rfl) ?_
    refine xo_nil (xq_then (xw_ret ?_))
    subst h
    exact con_retN (.inl rfl) (l := [.cell 4 39, .tmp 5]) Try.results18 (.cell rfl ts39 (List.Mem.tail _ (List.mem_append_right _ (List.Mem.head _))) (.tmp rfl .nil)) rfl (cat [[(p0, BK 2 (cl [.int .i64 n0limit, v0_1]) 64)], S0_1]) (Kp.st (Kp.keep (Kp.segKeep (Kp.new hb4 (Kp.new hb2 Kp.nil))))) (⟨_, rfl, (Cov.cons (Cov.app (A := S0_1) (A' := S0_1) (Cov.refl _) Cov.nil)), v0_1, S0_1, rfl, rfl, hJ0_1, (Cov.refl _)⟩)
  · have hq4 : (decide ((pick_F n0limit n0l k1).2 = 0)) = true := (bnF hc4)
    have hp4 : (pick_F n0limit n0l k1).2 = 0 := of_decide_eq_true hq4
    rw [if_pos hp4] at h
    refine xw_cond_f rfl rfl (xw_skip (xq_then (xw_seq (xw_region ?_))))
    refine xq rfl trivial (o_mv rfl) ?_
    refine xq rfl trivial (o_mv rfl) ?_
    refine xoR rfl trivial (ot_inv (l := [(0, _), (1, _), (2, _)]) rfl kf28 rfl Try.func28 rfl Try.ntmps28 rfl (lac rfl (lac rfl (lac rfl lan))) ?_)
    refine xw_seq (xw_region ?_)
    refine xq rfl trivial (o_as rfl) ?_
    refine xo_nil (xq_then (xw_seq (xw_region ?_)))
    refine xq rfl trivial (o_ldV rfl ts24 (List.Mem.tail _ (List.mem_append_right _ (List.Mem.tail _ (List.Mem.head _))))) ?_
    refine xq rfl trivial (o_nilp rfl) ?_
    first | refine xq rfl trivial (o_fa0 fl64_1 rfl) ?_ | refine xq rfl trivial (o_fa fl64_1 rfl) ?_
    refine xq rfl trivial (o_ld (v := v0_1) rfl ts30 (List.Mem.head _) (by decide) rfl) ?_
    refine xq rfl trivial (o_mv rfl) ?_
    obtain ⟨ho5, h⟩ := h
    refine xq rfl trivial (o_ixL el30 rfl rfl (fun w hw => (hJ0_1.sl hw (Pull.sub (.thereC _ (.here _ _))))) rfl ho5) ?_
    refine xq rfl trivial (o_ldLI rfl ts39 rfl (fun w hw => (hJ0_1.sl hw (Pull.sub (.thereC _ (.here _ _))))) (toNat_lt ho5) rfl) ?_
    refine xq0 trivial (o_stWI rfl rfl ts39 (List.Mem.tail _ (List.mem_append_right _ (List.Mem.head _))) (.there _ _ _ _ _ (Upd.seg (.here _ _ _ _)))) ?_
    refine xo_nil (xq_then (xw_seq ?_))
    refine xd_start (by kernel_rfl) (by kernel_rfl) (fun hok => ?_)
    refine xd_b hok 0 [(1, _)] ((b2, BK 1 (fun _ => .pointer (some ⟨p0, 0, none⟩)) 24) :: ([])) (rsC (List.Mem.tail _ (List.mem_append_right _ (List.Mem.tail _ (List.Mem.head _)))) rsN) rfl rfl rfl (lc rfl ln) (by kernel_rfl) trivial (fun H' hy hK => o_ldV rfl ts24 (hy _ (List.Mem.head _))) ?_
    refine xd_b hok 1 [(1, _)] ((b2, BK 1 (fun _ => .pointer (some ⟨p0, 0, none⟩)) 24) :: ([])) (rsC (List.Mem.tail _ (List.mem_append_right _ (List.Mem.tail _ (List.Mem.head _)))) rsN) rfl rfl rfl (lc rfl ln) (by kernel_rfl) trivial (fun H' hy hK => o_ldV rfl ts24 (hy _ (List.Mem.head _))) ?_
    refine xd_b hok 2 [(13, _)] ([]) rsN rfl rfl rfl (lc rfl ln) (by kernel_rfl) trivial (fun H' hy hK => o_nilp rfl) ?_
    first | refine xd_b hok 3 [(14, _)] ([]) rsN rfl rfl rfl (lc rfl ln) (by kernel_rfl) trivial (fun H' hy hK => o_fa0 fl64_1 rfl) ?_ | refine xd_b hok 3 [(14, _)] ([]) rsN rfl rfl rfl (lc rfl ln) (by kernel_rfl) trivial (fun H' hy hK => o_fa fl64_1 rfl) ?_
    refine xd_b hok 4 [(15, _)] ((p0, BK 2 (cl [.int .i64 n0limit, v0_1]) 64) :: ([])) (rsC (List.Mem.head _) rsN) rfl rfl rfl (lc rfl ln) (by kernel_rfl) trivial (fun H' hy hK => o_ld (v := v0_1) rfl ts30 (hy _ (List.Mem.head _)) (by decide) rfl) ?_
    refine xd_b hok 5 [(0, _)] ([]) rsN rfl rfl rfl (lc rfl ln) (by kernel_rfl) trivial (fun H' hy hK => o_mv rfl) ?_
    refine xd_b hok 6 [(0, _)] ([]) rsN rfl rfl rfl (lc rfl ln) (by kernel_rfl) trivial (fun H' hy hK => o_mv rfl) ?_
    obtain ⟨ho6, h⟩ := h
    refine xd_b hok 7 [(18, _)] ([]) rsN rfl rfl rfl (lc rfl ln) (by kernel_rfl) trivial (fun H' hy hK => o_add rfl rfl rfl ho6) ?_
    refine xd_step hok 8 [(16, _), (17, _), (19, _)] rfl rfl (by kernel_rfl) (lc rfl (lc rfl (lc rfl ln))) (by kernel_rfl) trivial (ot_in (l := [(0, _), (1, _), (2, _)]) kf29 rfl Try.func29 rfl Try.ntmps29 rfl (lac rfl (lac rfl (lac rfl lan))) ?_) (fun _ _ h => h)
    refine xw_seq (xw_region ?_)
    refine xq rfl trivial (o_as rfl) ?_
    refine xo_nil (xq_then (xw_seq (xw_region ?_)))
    refine xq rfl trivial (o_mv rfl) ?_
    refine xq rfl trivial (o_mv rfl) ?_
    refine xq rfl trivial (o_mv rfl) ?_
    refine xq rfl trivial (o_mv rfl) ?_
    refine xq rfl trivial (o_lenL rfl Try.underlying30 rfl (OJ.val hJ0_1)) ?_
    obtain ⟨ho7, h⟩ := h
    refine xq rfl trivial (o_cut3 el30 rfl (fun w hw => (hJ0_1.sl hw (Pull.sub (.thereC _ (.here _ _))))) rfl rfl rfl ho7) ?_
    refine xo_nil (xq_then (xw_seq (xw_seq (xw_region ?_))))
    refine xq rfl trivial (o_mv rfl) ?_
    refine xq rfl trivial (o_mv rfl) ?_
    refine xq rfl trivial (o_eql rfl rfl) ?_
    refine xo_nil (xq_then ?_)
    refine xw_bool 16 rfl (fun hc8 => ?_) (fun hc8 => ?_)
    · have hq8 : (decide ((pick_F n0limit n0l k1).1 = ((pick_F n0limit n0l k1).1) + 1)) = true := hc8
      have hp8 : (pick_F n0limit n0l k1).1 = ((pick_F n0limit n0l k1).1) + 1 := of_decide_eq_true hq8
      rw [if_pos hp8] at h
      refine xw_cond_t rfl rfl (xw_seq (xw_region ?_))
      refine xq rfl trivial (o_mv rfl) ?_
      refine xq rfl trivial (o_as rfl) ?_
      refine xo_nil (xq_then (xw_ret (xq_then_ret ?_)))
      refine con_ret1 (.inl rfl) Try.results29 rfl _ (fun _ h => h) (?_)
      refine ⟨(rsA rsN (rsA rsN (rsA rsN (rsA (rsC (List.Mem.head _) rsN) (rsA rsN (rsA rsN (rsA (rsC (List.Mem.tail _ (List.mem_append_right _ (List.Mem.tail _ (List.Mem.head _)))) rsN) (rsA (rsC (List.Mem.tail _ (List.mem_append_right _ (List.Mem.tail _ (List.Mem.head _)))) rsN) rsN)))))))), (Ks.consK (by simp) (Ks.segK (fun k hk => by simp [hk]) (Ks.consK (by simp) (Ks.consK (by simp) Ks.nil)))), ?_⟩
      refine xd_b hok 9 [(12, _)] ([]) rsN rfl rfl rfl (lc rfl ln) (by kernel_rfl) trivial (fun H' hy hK => o_nilp rfl) ?_
      first | refine xd_b hok 10 [(21, _)] ([]) rsN rfl rfl rfl (lc rfl ln) (by kernel_rfl) trivial (fun H' hy hK => o_fa0 fl64_1 rfl) ?_ | refine xd_b hok 10 [(21, _)] ([]) rsN rfl rfl rfl (lc rfl ln) (by kernel_rfl) trivial (fun H' hy hK => o_fa fl64_1 rfl) ?_
      refine xd_fl0 hok 1 11 [(22, _), (20, _)] rfl rfl (by kernel_rfl) (by kernel_rfl) (lc rfl (lc rfl ln)) (by kernel_rfl) trivial (o_stC (l' := [.int .i64 n0limit, v0_1]) rfl rfl ts30 (oneOf (OJ.val hJ0_1)) (List.Mem.head _) rfl (by decide) rfl (.here _ _ _ _)) ?_
      rintro _ _ ⟨rfl, rfl⟩
      refine ⟨(Ks.consK (by simp) (Ks.segK (fun k hk => by simp [hk]) (Ks.consK (by simp) (Ks.consK (by simp) Ks.nil)))), ?_⟩
      refine xd_end hok (by kernel_rfl) ?_
      refine xq_then (xw_seq (xw_region ?_))
      refine xq rfl trivial (o_as rfl) ?_
      refine xo_nil (xq_then (xw_ret ?_))
      refine con_ret1 (.inl rfl) Try.results28 rfl _ (fun _ h => h) (?_)
      refine xq rfl trivial (o_as rfl) ?_
      refine xo_nil (xq_then (xw_ret ?_))
      refine con_ret1 (.inl rfl) Try.results27 rfl _ (fun _ h => h) (?_)
      refine xq rfl trivial (o_as rfl) ?_
      refine xo_nil (xq_then (xw_seq (xw_region ?_)))
      refine xq rfl trivial (o_ldW rfl ts39 (List.Mem.tail _ (List.mem_append_right _ (List.Mem.head _)))) ?_
      refine xq rfl trivial (o_mv rfl) ?_
      refine xq0 trivial (o_stWI rfl rfl ts39 (List.Mem.tail _ (List.mem_append_right _ (List.Mem.head _))) (.there _ _ _ _ _ (Upd.seg (.here _ _ _ _)))) ?_
      refine xq rfl trivial (o_as rfl) ?_
      refine xo_nil (xq_then (xw_ret ?_))
      subst h
      exact con_retN (.inl rfl) (l := [.cell 4 39, .tmp 5]) Try.results18 (.cell rfl ts39 (List.Mem.tail _ (List.mem_append_right _ (List.Mem.head _))) (.tmp rfl .nil)) rfl (cat [[(p0, BK 2 (cl [.int .i64 n0limit, v0_1]) 64)], S0_1]) (Kp.st (Kp.keep (Kp.segKeep (Kp.new hb4 (Kp.new hb2 Kp.nil))))) (⟨_, rfl, (Cov.cons (Cov.app (A := S0_1) (A' := S0_1) (Cov.refl _) Cov.nil)), v0_1, S0_1, rfl, rfl, hJ0_1, (Cov.refl _)⟩)
    · have hq8 : (decide ((pick_F n0limit n0l k1).1 = ((pick_F n0limit n0l k1).1) + 1)) = false := hc8
      have hp8 : ¬ ((pick_F n0limit n0l k1).1 = ((pick_F n0limit n0l k1).1) + 1) := of_decide_eq_false hq8
      rw [if_neg hp8] at h
      refine xw_cond_f rfl rfl (xw_skip (xq_then (xw_seq (xw_region ?_))))
      refine xq rfl trivial (o_mv rfl) ?_
      refine xq rfl trivial (o_lenL rfl Try.underlying30 rfl (OJ.val hJ0_1)) ?_
      refine xq rfl trivial (o_as rfl) ?_
      refine xo_nil (xq_then (xw_seq ?_))
      refine xd_start (by kernel_rfl) (by kernel_rfl) (fun hok => ?_)
      refine xd_b hok 0 [(0, _)] ([]) rsN rfl rfl rfl (lc rfl ln) (by kernel_rfl) trivial (fun H' hy hK => o_mv rfl) ?_
      refine xd_b hok 1 [(1, _)] ([]) rsN rfl rfl rfl (lc rfl ln) (by kernel_rfl) trivial (fun H' hy hK => o_mv rfl) ?_
      obtain ⟨ho9, h⟩ := h
      refine xd_b hok 2 [(20, _), (21, _)] (S0_1 ++ ([])) (rsA (Pull.sub (.thereC _ (.here _ _))) rsN) rfl rfl rfl (lc rfl (lc rfl ln)) (by kernel_rfl) trivial (fun H' hy hK => o_cutH el30 rfl (fun w hw => (hJ0_1.sl hw (fun x hx => hy x (Pull.sub (.here _ _) x hx)))) rfl ho9) ?_
      refine xd_b hok 3 [(0, _)] ([]) rsN rfl rfl rfl (lc rfl ln) (by kernel_rfl) trivial (fun H' hy hK => o_mv rfl) ?_
      refine xd_b hok 4 [(2, _)] ([]) rsN rfl rfl rfl (lc rfl ln) (by kernel_rfl) trivial (fun H' hy hK => o_mv rfl) ?_
      obtain ⟨ho10, h⟩ := h
      refine xd_b hok 5 [(23, _), (24, _)] (S0_1 ++ ([])) (rsA (Pull.sub (.thereC _ (.here _ _))) rsN) rfl rfl rfl (lc rfl (lc rfl ln)) (by kernel_rfl) trivial (fun H' hy hK => o_cutL el30 rfl (fun w hw => (hJ0_1.sl hw (fun x hx => hy x (Pull.sub (.here _ _) x hx)))) rfl ho10) ?_
      refine xd_fl hok 1 6 [(22, _), (25, _)] rfl rfl (by kernel_rfl) (by kernel_rfl) (lc rfl (lc rfl ln)) (by kernel_rfl) trivial (OT.push (fun q_ => (p0, BK 2 (cl [.int .i64 n0limit, v0_1]) 64) :: (q_ ++ ((b4, BK 28 (iv (n0l[((pick_F n0limit n0l k1).1).toNat]!)) 39) :: ((b2, BK 1 (fun _ => .pointer (some ⟨p0, 0, none⟩)) 24) :: ([]))))) (fun _ => (.thereC _ (.here _ _))) (OT.st (fun _ h => Pull.st (.thereC _ (.here _ _)) h) (o_appDel (i := ((pick_F n0limit n0l k1).1).toNat) (j := (((pick_F n0limit n0l k1).1) + 1).toNat) ap30 rfl rfl hJ0_1 (by omega) (by omega) (fun _ _ => rfl)))) ?_
      rintro vs11 _ ⟨Bs11, rfl, hns11, hRs11⟩
      have hJs11 := hRs11.oj
      have hcBs11 := Cov.trans (Cov.refl _) hns11
      refine ⟨(Ks.consK (by simp) (Ks.segC hcBs11 (fun k hk => by simp [hk]) (Ks.consK (by simp) (Ks.consK (by simp) Ks.nil)))), ?_⟩
      refine xd_show (H' := (p0, BK 2 (cl [.int .i64 n0limit, v0_1]) 64) :: (Bs11 ++ ((b4, BK 28 (iv (n0l[((pick_F n0limit n0l k1).1).toNat]!)) 39) :: ((b2, BK 1 (fun _ => .pointer (some ⟨p0, 0, none⟩)) 24) :: ([]))))) rfl ?_
      refine xd_b hok 7 [(26, _)] ([]) rsN rfl rfl rfl (lc rfl ln) (by kernel_rfl) trivial (fun H' hy hK => o_as rfl) ?_
      refine xd_end hok (by kernel_rfl) ?_
      refine xq_then (xw_seq (xw_region ?_))
      refine xq rfl trivial (o_mv rfl) ?_
      refine xq rfl trivial (o_mv rfl) ?_
      refine xq rfl trivial (o_lenL rfl Try.underlying30 rfl (OJ.val hJs11)) ?_
      refine xq rfl trivial (o_mv rfl) ?_
      obtain ⟨ho12, h⟩ := h
      refine xq rfl trivial (o_cutR el30 rfl hRs11 rfl rfl ho12) ?_
      refine xo0 trivial (OT.st (fun _ h => Pull.st (.thereC _ (.here _ _)) h) (o_clear (ag := true) ap30 ze39 (one_AI _ _) rfl rfl hRs11 ⟨by omega, by omega⟩)) ?_
      rintro _ _ ⟨Bs13, rfl, hns13, hJs13⟩
      have hcBs13 := Cov.trans hcBs11 hns13
      refine xo_st ((p0, BK 2 (cl [.int .i64 n0limit, v0_1]) 64) :: (Bs13 ++ ((b4, BK 28 (iv (n0l[((pick_F n0limit n0l k1).1).toNat]!)) 39) :: ((b2, BK 1 (fun _ => .pointer (some ⟨p0, 0, none⟩)) 24) :: ([]))))) (fun _ h => Pull.push (.thereC _ (.here _ _)) h) ?_
      refine xo_nil (xq_then (xw_seq (xw_region ?_)))
      refine xq rfl trivial (o_mv rfl) ?_
      refine xq rfl trivial (o_as rfl) ?_
      refine xo_nil (xq_then (xw_ret ?_))
      refine con_ret1 (.inl rfl) Try.results29 rfl _ (fun _ h => h) (?_)
      refine ⟨(rsA rsN (rsA rsN (rsA rsN (rsA (rsC (List.Mem.head _) rsN) (rsA rsN (rsA rsN (rsA (rsC (List.Mem.tail _ (List.mem_append_right _ (List.Mem.tail _ (List.Mem.head _)))) rsN) (rsA (rsC (List.Mem.tail _ (List.mem_append_right _ (List.Mem.tail _ (List.Mem.head _)))) rsN) rsN)))))))), (Ks.consK (by simp) (Ks.segC hcBs13 (fun k hk => by simp [hk]) (Ks.consK (by simp) (Ks.consK (by simp) Ks.nil)))), ?_⟩
      refine xd_b hok 9 [(12, _)] ([]) rsN rfl rfl rfl (lc rfl ln) (by kernel_rfl) trivial (fun H' hy hK => o_nilp rfl) ?_
      first | refine xd_b hok 10 [(21, _)] ([]) rsN rfl rfl rfl (lc rfl ln) (by kernel_rfl) trivial (fun H' hy hK => o_fa0 fl64_1 rfl) ?_ | refine xd_b hok 10 [(21, _)] ([]) rsN rfl rfl rfl (lc rfl ln) (by kernel_rfl) trivial (fun H' hy hK => o_fa fl64_1 rfl) ?_
      refine xd_fl0 hok 1 11 [(22, _), (20, _)] rfl rfl (by kernel_rfl) (by kernel_rfl) (lc rfl (lc rfl ln)) (by kernel_rfl) trivial (o_stC (l' := [.int .i64 n0limit, vs11]) rfl rfl ts30 (oneOf (OJ.val hJs13)) (List.Mem.head _) rfl (by decide) rfl (.here _ _ _ _)) ?_
      rintro _ _ ⟨rfl, rfl⟩
      refine ⟨(Ks.consK (by simp) (Ks.segC hcBs13 (fun k hk => by simp [hk]) (Ks.consK (by simp) (Ks.consK (by simp) Ks.nil)))), ?_⟩
      refine xd_end hok (by kernel_rfl) ?_
      refine xq_then (xw_seq (xw_region ?_))
      refine xq rfl trivial (o_as rfl) ?_
      refine xo_nil (xq_then (xw_ret ?_))
      refine con_ret1 (.inl rfl) Try.results28 rfl _ (fun _ h => h) (?_)
      refine xq rfl trivial (o_as rfl) ?_
      refine xo_nil (xq_then (xw_ret ?_))
      refine con_ret1 (.inl rfl) Try.results27 rfl _ (fun _ h => h) (?_)
      refine xq rfl trivial (o_as rfl) ?_
      refine xo_nil (xq_then (xw_seq (xw_region ?_)))
      refine xq rfl trivial (o_ldW rfl ts39 (List.Mem.tail _ (List.mem_append_right _ (List.Mem.head _)))) ?_
      refine xq rfl trivial (o_mv rfl) ?_
      refine xq0 trivial (o_stWI rfl rfl ts39 (List.Mem.tail _ (List.mem_append_right _ (List.Mem.head _))) (.there _ _ _ _ _ (Upd.seg (.here _ _ _ _)))) ?_
      refine xq rfl trivial (o_as rfl) ?_
      refine xo_nil (xq_then (xw_ret ?_))
      subst h
      exact con_retN (.inl rfl) (l := [.cell 4 39, .tmp 5]) Try.results18 (.cell rfl ts39 (List.Mem.tail _ (List.mem_append_right _ (List.Mem.head _))) (.tmp rfl .nil)) rfl (cat [[(p0, BK 2 (cl [.int .i64 n0limit, vs11]) 64)], Bs13]) (Kp.st (Kp.keep (Kp.segKeep (Kp.new hb4 (Kp.new hb2 Kp.nil))))) (⟨_, rfl, (Cov.cons (Cov.app (A := S0_1) (A' := Bs13) hcBs13 Cov.nil)), vs11, Bs13, rfl, rfl, hJs13, hcBs13⟩)

theorem deliver_c (n0limit : Int) (n0l : (List (Nat → Int))) (k1 : Int) (p0 : Nat) (v0_1 : Value) (S0_1 : GH) (w : World) (hJ0_1 : OJ 39 28 iv S0_1 v0_1 n0l) (hC : Has w (cat [[(p0, BK 2 (cl [.int .i64 n0limit, v0_1]) 64)], S0_1])) (hP : deliver_P n0limit n0l k1) : Con Try.prog 18 #[.pointer (some ⟨p0, 0, none⟩), .int .i64 k1] w (CatG fun v Ls => Cov w (cat [[(p0, BK 2 (cl [.int .i64 n0limit, v0_1]) 64)], S0_1]) (cat Ls) ∧ ∃ (v0_1' : Value) (S0_1' : GH), v = .tuple #[AI 28 ((deliver_F n0limit n0l k1).1), errV 62 ((deliver_F n0limit n0l k1).2.1)] ∧ Ls = [[(p0, BK 2 (cl [.int .i64 n0limit, v0_1']) 64)], S0_1'] ∧ OJ 39 28 iv S0_1' v0_1' ((deliver_F n0limit n0l k1).2.2) ∧ Cov w S0_1 S0_1') :=
  deliver_con n0limit n0l k1 p0 v0_1 S0_1 w hJ0_1 hC _ (deliver_ok n0limit n0l k1 hP)

end Go.Proofs.Ythikmldodgijdaa
