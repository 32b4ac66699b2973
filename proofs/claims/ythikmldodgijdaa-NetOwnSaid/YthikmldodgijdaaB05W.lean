/- The code answers as the relations say. -/
import Derived.Test.YthikmldodgijdaaTab
import Derived.Test.YthikmldodgijdaaB05S
import Derived.Test.YthikmldodgijdaaA05W
set_option maxHeartbeats 1000000
set_option linter.unusedVariables false
set_option linter.unusedSimpArgs false
set_option maxRecDepth 100000
namespace Go.Proofs.Ythikmldodgijdaa
open Go Go.E

theorem cloneM_c (s0 : (List (Nat → Int))) (v0 : Value) (w : World) (hs0 : SL w 28 iv v0 s0) (hP : cloneM_P s0) : Con Try.prog 23 #[v0] w (fun v F => ∃ (u0 : Value) (C0 : GH), v = u0 ∧ F = (C0 ++ []) ∧ OJ 39 28 iv C0 u0 (cloneM_F s0) ∧ Cov w [] C0) :=
  cloneM_con s0 v0 w hs0 _ (cloneM_ok s0 hP)

theorem nall_con (n0limit : Int) (n0l : (List (Nat → Int))) (p0 : Nat) (v0_1 : Value) (S0_1 : GH) (w : World) (hJ0_1 : OJ 39 28 iv S0_1 v0_1 n0l) (hC : Has w (cat [[(p0, BK 2 (cl [.int .i64 n0limit, v0_1]) 64)], S0_1])) (r : (List (Nat → Int))) (h : nall_S n0limit n0l r) : Con Try.prog 10 #[.pointer (some ⟨p0, 0, none⟩)] w (CatG fun v Ls => Cov w (cat [[(p0, BK 2 (cl [.int .i64 n0limit, v0_1]) 64)], S0_1]) (cat Ls) ∧ ∃ (u0 : Value) (C0 : GH), v = u0 ∧ Ls = [[(p0, BK 2 (cl [.int .i64 n0limit, v0_1]) 64)], S0_1, C0] ∧ OJ 39 28 iv C0 u0 r ∧ Cov w [] C0) := by
  unfold nall_S at h
  refine con_enter (n := 10) [(0, _)] Try.func10 rfl Try.ntmps10 rfl (lac rfl lan) ?_
  refine xw_has hC ?_
  refine xw_st ((p0, BK 2 (cl [.int .i64 n0limit, v0_1]) 64) :: (S0_1 ++ ([]))) (fun _ h => h) ?_
  refine xw_seq (xw_region ?_)
  refine xq rfl trivial (o_as rfl) ?_
  refine xo_nil (xq_then (xw_seq (xw_seq (xw_region ?_))))
  refine xq rfl trivial (o_mv rfl) ?_
  refine xq rfl trivial (o_eqn Try.underlying24 rfl rfl rfl rfl) ?_
  refine xo_nil (xq_then (xw_cond_f rfl rfl (xw_skip (xq_then (xw_seq (xw_region ?_))))))
  refine xq rfl trivial (o_mv rfl) ?_
  refine xq rfl trivial (o_nilp rfl) ?_
  first | refine xq rfl trivial (o_fa0 fl64_1 rfl) ?_ | refine xq rfl trivial (o_fa fl64_1 rfl) ?_
  refine xq rfl trivial (o_ld (v := v0_1) rfl ts30 (List.Mem.head _) (by decide) rfl) ?_
  obtain ⟨ho1, h⟩ := h
  refine xcall rfl trivial kf23 rfl (fun w1 hw1 => cloneM_c _ _ w1 (hJ0_1.sl hw1 (Pull.sub (.thereC _ (.here _ _)))) ho1) ?_
  rintro w1 vs2 _ hw1 ⟨_, Bs2, rfl, rfl, hJs2, hcBs2⟩
  refine ⟨_, Mg.news (Cov.fresh hcBs2) (.nil _), ?_⟩
  replace hcBs2 := Cov.base (w0 := w) hcBs2 hw1.size
  refine xq rfl trivial (o_as rfl) ?_
  refine xo_nil (xq_then (xw_ret ?_))
  subst h
  exact con_ret1 (.inl rfl) Try.results10 rfl (cat [[(p0, BK 2 (cl [.int .i64 n0limit, v0_1]) 64)], S0_1, Bs2]) (fun _ h => St.permI [1, 2, 0] [Bs2, [(p0, _)], S0_1] rfl (h)) (⟨_, rfl, (Cov.cons (Cov.app (A := S0_1) (A' := S0_1) (Cov.refl _) (Cov.app0 hcBs2 Cov.nil))), _, Bs2, rfl, rfl, hJs2, hcBs2⟩)

theorem nall_c (n0limit : Int) (n0l : (List (Nat → Int))) (p0 : Nat) (v0_1 : Value) (S0_1 : GH) (w : World) (hJ0_1 : OJ 39 28 iv S0_1 v0_1 n0l) (hC : Has w (cat [[(p0, BK 2 (cl [.int .i64 n0limit, v0_1]) 64)], S0_1])) (hP : nall_P n0limit n0l) : Con Try.prog 10 #[.pointer (some ⟨p0, 0, none⟩)] w (CatG fun v Ls => Cov w (cat [[(p0, BK 2 (cl [.int .i64 n0limit, v0_1]) 64)], S0_1]) (cat Ls) ∧ ∃ (u0 : Value) (C0 : GH), v = u0 ∧ Ls = [[(p0, BK 2 (cl [.int .i64 n0limit, v0_1]) 64)], S0_1, C0] ∧ OJ 39 28 iv C0 u0 (nall_F n0limit n0l) ∧ Cov w [] C0) :=
  nall_con n0limit n0l p0 v0_1 S0_1 w hJ0_1 hC _ (nall_ok n0limit n0l hP)

theorem drop_con (n0limit : Int) (n0l : (List (Nat → Int))) (k1 : Int) (p0 : Nat) (v0_1 : Value) (S0_1 : GH) (w : World) (hJ0_1 : OJ 39 28 iv S0_1 v0_1 n0l) (hC : Has w (cat [[(p0, BK 2 (cl [.int .i64 n0limit, v0_1]) 64)], S0_1])) (r : Int × (List (Nat → Int))) (h : drop_S n0limit n0l k1 r) : Con Try.prog 19 #[.pointer (some ⟨p0, 0, none⟩), .int .i64 k1] w (CatG fun v Ls => Cov w (cat [[(p0, BK 2 (cl [.int .i64 n0limit, v0_1]) 64)], S0_1]) (cat Ls) ∧ ∃ (v0_1' : Value) (S0_1' : GH), v = errV 62 r.1 ∧ Ls = [[(p0, BK 2 (cl [.int .i64 n0limit, v0_1']) 64)], S0_1'] ∧ OJ 39 28 iv S0_1' v0_1' r.2 ∧ Cov w S0_1 S0_1') := by
  unfold drop_S at h
  refine con_enter (n := 14) [(0, _), (1, _)] Try.func19 rfl Try.ntmps19 rfl (lac rfl (lac rfl lan)) ?_
  refine xw_has hC ?_
  refine xw_st ((p0, BK 2 (cl [.int .i64 n0limit, v0_1]) 64) :: (S0_1 ++ ([]))) (fun _ h => h) ?_
  refine xw_seq (xw_region ?_)
  refine xq rfl trivial (o_as rfl) ?_
  refine xo_nil (xq_then (xw_seq (xw_region ?_)))
  refine xq rfl trivial (o_mv rfl) ?_
  refine xq rfl trivial (o_mv rfl) ?_
  obtain ⟨ho1, h⟩ := h
  refine xo rfl trivial (OT.st (fun _ h => h) (ot_callF (Cs := [[(p0, _)], S0_1]) (Rs := []) kf18 rfl (fun w1 hw1 => deliver_c _ _ _ _ _ _ w1 hJ0_1 (St.hasC hw1) ho1) (fun _ _ _ h => h.1))) ?_
  rintro _ _ ⟨w1, _, rfl, hle, -, vg3_0, Bg3_0, rfl, rfl, hJBg3_0, hcBg3_0⟩
  replace hcBg3_0 := Cov.trans (Cov.refl _) (Cov.base (w0 := w) hcBg3_0 hle)
  refine xo_st ((p0, BK 2 (cl [.int .i64 n0limit, vg3_0]) 64) :: (Bg3_0 ++ ([]))) (fun _ h => h) ?_
  refine xq rfl trivial (o_mv rfl) ?_
  refine xq rfl trivial (o_ext rfl rfl) ?_
  refine xq rfl trivial (o_ext rfl rfl) ?_
  refine xo rfl trivial (o_alloc ze39 rfl) ?_
  rintro _ _ ⟨b5, hb5, rfl, rfl⟩
  refine xq0 trivial (o_stWI rfl rfl ts39 (List.Mem.head _) (.here _ _ _ _)) ?_
  refine xq rfl trivial (o_as rfl) ?_
  refine xo_nil (xq_then (xw_seq (xw_region ?_)))
  refine xq rfl trivial (o_mv rfl) ?_
  refine xq rfl trivial (o_as rfl) ?_
  refine xo_nil (xq_then (xw_ret ?_))
  subst h
  exact con_ret1 (.inl rfl) Try.results19 rfl (cat [[(p0, BK 2 (cl [.int .i64 n0limit, vg3_0]) 64)], Bg3_0]) (Kp.st (Kp.new hb5 (Kp.keep (Kp.segKeep Kp.nil)))) (⟨_, rfl, (Cov.cons (Cov.app (A := S0_1) (A' := Bg3_0) hcBg3_0 Cov.nil)), vg3_0, Bg3_0, rfl, rfl, hJBg3_0, hcBg3_0⟩)

theorem drop_c (n0limit : Int) (n0l : (List (Nat → Int))) (k1 : Int) (p0 : Nat) (v0_1 : Value) (S0_1 : GH) (w : World) (hJ0_1 : OJ 39 28 iv S0_1 v0_1 n0l) (hC : Has w (cat [[(p0, BK 2 (cl [.int .i64 n0limit, v0_1]) 64)], S0_1])) (hP : drop_P n0limit n0l k1) : Con Try.prog 19 #[.pointer (some ⟨p0, 0, none⟩), .int .i64 k1] w (CatG fun v Ls => Cov w (cat [[(p0, BK 2 (cl [.int .i64 n0limit, v0_1]) 64)], S0_1]) (cat Ls) ∧ ∃ (v0_1' : Value) (S0_1' : GH), v = errV 62 ((drop_F n0limit n0l k1).1) ∧ Ls = [[(p0, BK 2 (cl [.int .i64 n0limit, v0_1']) 64)], S0_1'] ∧ OJ 39 28 iv S0_1' v0_1' ((drop_F n0limit n0l k1).2) ∧ Cov w S0_1 S0_1') :=
  drop_con n0limit n0l k1 p0 v0_1 S0_1 w hJ0_1 hC _ (drop_ok n0limit n0l k1 hP)

theorem twice_con (n0limit : Int) (n0l : (List (Nat → Int))) (k1 : Int) (p0 : Nat) (v0_1 : Value) (S0_1 : GH) (w : World) (hJ0_1 : OJ 39 28 iv S0_1 v0_1 n0l) (hC : Has w (cat [[(p0, BK 2 (cl [.int .i64 n0limit, v0_1]) 64)], S0_1])) (r : Int × (List (Nat → Int))) (h : twice_S n0limit n0l k1 r) : Con Try.prog 20 #[.pointer (some ⟨p0, 0, none⟩), .int .i64 k1] w (CatG fun v Ls => Cov w (cat [[(p0, BK 2 (cl [.int .i64 n0limit, v0_1]) 64)], S0_1]) (cat Ls) ∧ ∃ (v0_1' : Value) (S0_1' : GH), v = errV 62 r.1 ∧ Ls = [[(p0, BK 2 (cl [.int .i64 n0limit, v0_1']) 64)], S0_1'] ∧ OJ 39 28 iv S0_1' v0_1' r.2 ∧ Cov w S0_1 S0_1') := by
  unfold twice_S at h
  refine con_enter (n := 9) [(0, _), (1, _)] Try.func20 rfl Try.ntmps20 rfl (lac rfl (lac rfl lan)) ?_
  refine xw_has hC ?_
  refine xw_st ((p0, BK 2 (cl [.int .i64 n0limit, v0_1]) 64) :: (S0_1 ++ ([]))) (fun _ h => h) ?_
  refine xw_seq (xw_region ?_)
  refine xo rfl trivial (o_box1 rfl rfl) ?_
  rintro _ _ ⟨b2, hb2, rfl, rfl⟩
  refine xq rfl trivial (o_as rfl) ?_
  refine xo_nil (xq_then (xw_seq (xw_region ?_)))
  refine xq rfl trivial (o_ldV rfl ts24 (List.Mem.head _)) ?_
  refine xq rfl trivial (o_mv rfl) ?_
  refine xq rfl trivial (o_mkf rfl rfl) ?_
  refine xoR rfl trivial (ot_in (l := [(0, _), (1, _), (2, _)]) kf27 rfl Try.func27 rfl Try.ntmps27 rfl (lac rfl (lac rfl (lac rfl lan))) ?_)
  refine xw_seq (xw_region ?_)
  refine xq rfl trivial (o_as rfl) ?_
  refine xo_nil (xq_then (xw_seq (xw_region ?_)))
  refine xq rfl trivial (o_mv rfl) ?_
  refine xq rfl trivial (o_mv rfl) ?_
  obtain ⟨ho1, h⟩ := h
  refine xo rfl trivial (OT.st (fun _ h => St.permI [1, 2, 0] [[(b2, _)], [(p0, _)], S0_1] rfl h) (ot_callF (Cs := [[(p0, _)], S0_1]) (Rs := [[(b2, _)]]) kf37 rfl (fun w1 hw1 => pick_c _ _ _ _ _ _ w1 hJ0_1 (St.hasC hw1) ho1) (fun _ _ _ h => h.1))) ?_
  rintro _ _ ⟨w1, _, rfl, hle, -, rfl, rfl⟩
  refine xo_st ((p0, BK 2 (cl [.int .i64 n0limit, v0_1]) 64) :: (S0_1 ++ ((b2, BK 1 (fun _ => .pointer (some ⟨p0, 0, none⟩)) 24) :: ([])))) (fun _ h => h) ?_
  refine xq rfl trivial (o_mv rfl) ?_
  refine xq rfl trivial (o_ext rfl rfl) ?_
  refine xq rfl trivial (o_ext rfl rfl) ?_
  refine xq rfl trivial (o_as rfl) ?_
  refine xq rfl trivial (o_as rfl) ?_
  refine xo_nil (xq_then (xw_seq (xw_seq (xw_region ?_))))
  refine xq rfl trivial (o_mv rfl) ?_
  refine xq rfl trivial (o_neE Try.underlying26 rfl (fun _ => rfl) rfl rfl) ?_
  refine xo_nil (xq_then ?_)
  refine xw_bool 16 rfl (fun hc4 => ?_) (fun hc4 => ?_)
  · have hq4 : (decide ((pick_F n0limit n0l k1).2 = 0)) = false := (bnT hc4)
    have hp4 : ¬ ((pick_F n0limit n0l k1).2 = 0) := of_decide_eq_false hq4
    rw [if_neg hp4] at h
    refine xw_cond_t rfl rfl (xw_seq (xw_region ?_))
    refine xq rfl trivial (o_mv rfl) ?_
    refine xq rfl trivial (o_as rfl) ?_
    refine xo_nil (xq_then (xw_ret (xq_then_ret ?_)))
    refine con_ret1 (.inl rfl) Try.results27 rfl _ (fun _ h => h) (?_)
    refine xq rfl trivial (o_as rfl) ?_
    refine xo_nil (xq_then (xw_ret ?_))
    subst h
    exact con_ret1 (.inl rfl) Try.results20 rfl (cat [[(p0, BK 2 (cl [.int .i64 n0limit, v0_1]) 64)], S0_1]) (Kp.st (Kp.keep (Kp.segKeep (Kp.new hb2 Kp.nil)))) (⟨_, rfl, (Cov.cons (Cov.app (A := S0_1) (A' := S0_1) (Cov.refl _) Cov.nil)), v0_1, S0_1, rfl, rfl, hJ0_1, (Cov.refl _)⟩)
  · have hq4 : (decide ((pick_F n0limit n0l k1).2 = 0)) = true := (bnF hc4)
    have hp4 : (pick_F n0limit n0l k1).2 = 0 := of_decide_eq_true hq4
    rw [if_pos hp4] at h
    refine xw_cond_f rfl rfl (xw_skip (xq_then (xw_seq (xw_region ?_))))
    refine xq rfl trivial (o_mv rfl) ?_
    refine xq rfl trivial (o_mv rfl) ?_
    refine xoR rfl trivial (ot_inv (l := [(0, _), (1, _)]) rfl kf30 rfl Try.func30 rfl Try.ntmps30 rfl (lac rfl (lac rfl lan)) ?_)
    refine xw_seq (xw_region ?_)
    refine xq rfl trivial (o_as rfl) ?_
    refine xo_nil (xq_then (xw_seq ?_))
    refine xd_start (by kernel_rfl) (by kernel_rfl) (fun hok => ?_)
    refine xd_b hok 0 [(1, _)] ((b2, BK 1 (fun _ => .pointer (some ⟨p0, 0, none⟩)) 24) :: ([])) (rsC (List.Mem.tail _ (List.mem_append_right _ (List.Mem.head _))) rsN) rfl rfl rfl (lc rfl ln) (by kernel_rfl) trivial (fun H' hy hK => o_ldV rfl ts24 (hy _ (List.Mem.head _))) ?_
    refine xd_b hok 1 [(1, _)] ((b2, BK 1 (fun _ => .pointer (some ⟨p0, 0, none⟩)) 24) :: ([])) (rsC (List.Mem.tail _ (List.mem_append_right _ (List.Mem.head _))) rsN) rfl rfl rfl (lc rfl ln) (by kernel_rfl) trivial (fun H' hy hK => o_ldV rfl ts24 (hy _ (List.Mem.head _))) ?_
    refine xd_b hok 2 [(5, _)] ([]) rsN rfl rfl rfl (lc rfl ln) (by kernel_rfl) trivial (fun H' hy hK => o_nilp rfl) ?_
    first | refine xd_b hok 3 [(6, _)] ([]) rsN rfl rfl rfl (lc rfl ln) (by kernel_rfl) trivial (fun H' hy hK => o_fa0 fl64_1 rfl) ?_ | refine xd_b hok 3 [(6, _)] ([]) rsN rfl rfl rfl (lc rfl ln) (by kernel_rfl) trivial (fun H' hy hK => o_fa fl64_1 rfl) ?_
    refine xd_b hok 4 [(7, _)] ((p0, BK 2 (cl [.int .i64 n0limit, v0_1]) 64) :: ([])) (rsC (List.Mem.head _) rsN) rfl rfl rfl (lc rfl ln) (by kernel_rfl) trivial (fun H' hy hK => o_ld (v := v0_1) rfl ts30 (hy _ (List.Mem.head _)) (by decide) rfl) ?_
    refine xd_b hok 5 [(0, _)] ([]) rsN rfl rfl rfl (lc rfl ln) (by kernel_rfl) trivial (fun H' hy hK => o_mv rfl) ?_
    obtain ⟨ho5, h⟩ := h
    refine xd_b hok 6 [(8, _), (9, _)] (S0_1 ++ ([])) (rsA (Pull.sub (.thereC _ (.here _ _))) rsN) rfl rfl rfl (lc rfl (lc rfl ln)) (by kernel_rfl) trivial (fun H' hy hK => o_ixL el30 rfl rfl (fun w hw => (hJ0_1.sl hw (fun x hx => hy x (Pull.sub (.here _ _) x hx)))) rfl ho5) ?_
    refine xd_b hok 7 [(10, _)] (S0_1 ++ ([])) (rsA (Pull.sub (.thereC _ (.here _ _))) rsN) rfl rfl rfl (lc rfl ln) (by kernel_rfl) trivial (fun H' hy hK => o_ldLI rfl ts39 rfl (fun w hw => (hJ0_1.sl hw (fun x hx => hy x (Pull.sub (.here _ _) x hx)))) (toNat_lt ho5) rfl) ?_
    obtain ⟨ho6, h⟩ := h
    refine xd_fl hok 5 8 [(4, _), (11, _)] rfl rfl (by kernel_rfl) (by kernel_rfl) (lc rfl (lc rfl ln)) (by kernel_rfl) trivial (OT.st (fun _ h => h) (ot_callF (Cs := [[(p0, _)], S0_1]) (Rs := [[(b2, _)]]) kf17 rfl (fun w1 hw1 => send_c _ _ _ _ _ _ w1 hJ0_1 (St.hasC hw1) ho6) (fun _ _ _ h => h.1))) ?_
    rintro _ _ ⟨w1, _, rfl, hle, -, vg8_0, Bg8_0, rfl, rfl, hJBg8_0, hcBg8_0⟩
    replace hcBg8_0 := Cov.trans (Cov.refl _) (Cov.base (w0 := w) hcBg8_0 hle)
    refine xd_sh1 (H' := (p0, BK 2 (cl [.int .i64 n0limit, vg8_0]) 64) :: (Bg8_0 ++ ((b2, BK 1 (fun _ => .pointer (some ⟨p0, 0, none⟩)) 24) :: ([])))) rfl ?_
    refine ⟨(Ks.consK (by simp) (Ks.segC hcBg8_0 (fun k hk => by simp [hk]) (Ks.consK (by simp) Ks.nil))), ?_⟩
    refine xd_b hok 9 [(12, _)] ([]) rsN rfl rfl rfl (lc rfl ln) (by kernel_rfl) trivial (fun H' hy hK => o_as rfl) ?_
    refine xd_end hok (by kernel_rfl) ?_
    refine xq_then (xw_ret ?_)
    refine con_ret1 (.inl rfl) Try.results30 rfl _ (fun _ h => h) (?_)
    refine xq rfl trivial (o_as rfl) ?_
    refine xo_nil (xq_then (xw_ret ?_))
    refine con_ret1 (.inl rfl) Try.results27 rfl _ (fun _ h => h) (?_)
    refine xq rfl trivial (o_as rfl) ?_
    refine xo_nil (xq_then (xw_ret ?_))
    subst h
    exact con_ret1 (.inl rfl) Try.results20 rfl (cat [[(p0, BK 2 (cl [.int .i64 n0limit, vg8_0]) 64)], Bg8_0]) (Kp.st (Kp.keep (Kp.segKeep (Kp.new hb2 Kp.nil)))) (⟨_, rfl, (Cov.cons (Cov.app (A := S0_1) (A' := Bg8_0) hcBg8_0 Cov.nil)), vg8_0, Bg8_0, rfl, rfl, hJBg8_0, hcBg8_0⟩)

theorem twice_c (n0limit : Int) (n0l : (List (Nat → Int))) (k1 : Int) (p0 : Nat) (v0_1 : Value) (S0_1 : GH) (w : World) (hJ0_1 : OJ 39 28 iv S0_1 v0_1 n0l) (hC : Has w (cat [[(p0, BK 2 (cl [.int .i64 n0limit, v0_1]) 64)], S0_1])) (hP : twice_P n0limit n0l k1) : Con Try.prog 20 #[.pointer (some ⟨p0, 0, none⟩), .int .i64 k1] w (CatG fun v Ls => Cov w (cat [[(p0, BK 2 (cl [.int .i64 n0limit, v0_1]) 64)], S0_1]) (cat Ls) ∧ ∃ (v0_1' : Value) (S0_1' : GH), v = errV 62 ((twice_F n0limit n0l k1).1) ∧ Ls = [[(p0, BK 2 (cl [.int .i64 n0limit, v0_1']) 64)], S0_1'] ∧ OJ 39 28 iv S0_1' v0_1' ((twice_F n0limit n0l k1).2) ∧ Cov w S0_1 S0_1') :=
  twice_con n0limit n0l k1 p0 v0_1 S0_1 w hJ0_1 hC _ (twice_ok n0limit n0l k1 hP)

theorem ntake_con (n0limit : Int) (n0l : (List (Nat → Int))) (p0 : Nat) (v0_1 : Value) (S0_1 : GH) (w : World) (hJ0_1 : OJ 39 28 iv S0_1 v0_1 n0l) (hC : Has w (cat [[(p0, BK 2 (cl [.int .i64 n0limit, v0_1]) 64)], S0_1])) (r : (List (Nat → Int)) × (List (Nat → Int))) (h : ntake_S n0limit n0l r) : Con Try.prog 14 #[.pointer (some ⟨p0, 0, none⟩)] w (CatG fun v Ls => Cov w (cat [[(p0, BK 2 (cl [.int .i64 n0limit, v0_1]) 64)], S0_1]) (cat Ls) ∧ ∃ (v0_1' : Value) (S0_1' : GH) (u0 : Value) (C0 : GH), v = u0 ∧ Ls = [[(p0, BK 2 (cl [.int .i64 n0limit, v0_1']) 64)], S0_1', C0] ∧ OJ 39 28 iv S0_1' v0_1' r.2 ∧ OJ 39 28 iv S0_1' v0_1 n0l ∧ Cov w S0_1 S0_1' ∧ OJ 39 28 iv C0 u0 r.1 ∧ Cov w [] C0) := by
  unfold ntake_S at h
  refine con_enter (n := 12) [(0, _)] Try.func14 rfl Try.ntmps14 rfl (lac rfl lan) ?_
  refine xw_has hC ?_
  refine xw_st ((p0, BK 2 (cl [.int .i64 n0limit, v0_1]) 64) :: (S0_1 ++ ([]))) (fun _ h => h) ?_
  refine xw_seq (xw_region ?_)
  refine xq rfl trivial (o_as rfl) ?_
  refine xo_nil (xq_then (xw_seq (xw_region ?_)))
  refine xq rfl trivial (o_mv rfl) ?_
  obtain ⟨ho1, h⟩ := h
  refine xo rfl trivial (OT.st (fun _ h => h) (ot_callF (Cs := [[(p0, _)], S0_1]) (Rs := []) kf10 rfl (fun w1 hw1 => nall_c _ _ _ _ _ w1 hJ0_1 (St.hasC hw1) ho1) (fun _ _ _ h => h.1))) ?_
  rintro vs4 _ ⟨w1, _, rfl, hle, -, _, Bs4, rfl, rfl, hJs4, hcBs4⟩
  replace hcBs4 := Cov.base (w0 := w) hcBs4 hle
  refine xo_st ((p0, BK 2 (cl [.int .i64 n0limit, v0_1]) 64) :: (S0_1 ++ (Bs4 ++ ([])))) (fun _ h => h) ?_
  refine xq rfl trivial (o_as rfl) ?_
  refine xo_nil (xq_then (xw_seq (xw_seq (xw_region ?_))))
  refine xq rfl trivial (o_mv rfl) ?_
  refine xq rfl trivial (o_nen Try.underlying24 rfl rfl rfl rfl) ?_
  refine xo_nil (xq_then (xw_cond_t rfl rfl (xw_region ?_)))
  refine xq rfl trivial (o_mv rfl) ?_
  refine xq rfl trivial (o_nilp rfl) ?_
  first | refine xq rfl trivial (o_fa0 fl64_1 rfl) ?_ | refine xq rfl trivial (o_fa fl64_1 rfl) ?_
  refine xq0 trivial (o_stC (l' := [.int .i64 n0limit, .slice none 0 0]) rfl rfl ts30 rfl (List.Mem.head _) rfl (by decide) rfl (.here _ _ _ _)) ?_
  refine xo_nil (xq_then (xw_seq (xw_region ?_)))
  refine xq rfl trivial (o_mv rfl) ?_
  refine xq rfl trivial (o_as rfl) ?_
  refine xo_nil (xq_then (xw_ret ?_))
  subst h
  exact con_ret1 (.inl rfl) Try.results14 rfl (cat [[(p0, BK 2 (cl [.int .i64 n0limit, .slice none 0 0]) 64)], S0_1, Bs4]) (fun _ h => h) (⟨_, rfl, (Cov.cons (Cov.app (A := S0_1) (A' := S0_1) (Cov.refl _) (Cov.app0 hcBs4 Cov.nil))), .slice none 0 0, S0_1, _, Bs4, rfl, rfl, OJ.nil, hJ0_1, (Cov.refl _), hJs4, hcBs4⟩)

theorem ntake_c (n0limit : Int) (n0l : (List (Nat → Int))) (p0 : Nat) (v0_1 : Value) (S0_1 : GH) (w : World) (hJ0_1 : OJ 39 28 iv S0_1 v0_1 n0l) (hC : Has w (cat [[(p0, BK 2 (cl [.int .i64 n0limit, v0_1]) 64)], S0_1])) (hP : ntake_P n0limit n0l) : Con Try.prog 14 #[.pointer (some ⟨p0, 0, none⟩)] w (CatG fun v Ls => Cov w (cat [[(p0, BK 2 (cl [.int .i64 n0limit, v0_1]) 64)], S0_1]) (cat Ls) ∧ ∃ (v0_1' : Value) (S0_1' : GH) (u0 : Value) (C0 : GH), v = u0 ∧ Ls = [[(p0, BK 2 (cl [.int .i64 n0limit, v0_1']) 64)], S0_1', C0] ∧ OJ 39 28 iv S0_1' v0_1' ((ntake_F n0limit n0l).2) ∧ OJ 39 28 iv S0_1' v0_1 n0l ∧ Cov w S0_1 S0_1' ∧ OJ 39 28 iv C0 u0 ((ntake_F n0limit n0l).1) ∧ Cov w [] C0) :=
  ntake_con n0limit n0l p0 v0_1 S0_1 w hJ0_1 hC _ (ntake_ok n0limit n0l hP)

theorem letter_con (tx0 : Int) (w : World) (r : (Nat → Int)) (h : letter_S tx0 r) : Con Try.prog 21 #[.int .i64 tx0] w (Is (AI 28 r) []) := by
  unfold letter_S at h
  refine con_enter (n := 5) [(0, _)] Try.func21 rfl Try.ntmps21 rfl (lac rfl lan) ?_
  refine xw_seq (xw_region ?_)
  refine xo rfl trivial (o_alloc ze39 rfl) ?_
  rintro _ _ ⟨b2, hb2, rfl, rfl⟩
  refine xo_nil (xq_then (xw_seq (xw_region ?_)))
  refine xq rfl trivial (o_mv rfl) ?_
  refine xq rfl trivial (o_build fk39 ze39 (.int fl39_0 rfl rfl (.int fl39_2 rfl rfl (.int fl39_3 rfl rfl (.nil _))))) ?_
  refine xq0 trivial (o_stWI rfl rfl ts39 (List.Mem.head _) (.here _ _ _ _)) ?_
  refine xo_nil (xq_then (xw_ret ?_))
  subst h
  exact con_retN (.inl rfl) (l := [.cell 2 39]) Try.results21 (.cell rfl ts39 (List.Mem.head _) .nil) rfl [] (Kp.st (Kp.new hb2 Kp.nil)) (⟨rfl, rfl⟩)

theorem letter_c (tx0 : Int) (w : World) : Con Try.prog 21 #[.int .i64 tx0] w (Is (AI 28 (letter_F tx0)) []) :=
  letter_con tx0 w _ (letter_ok tx0)

theorem act_con (n0limit : Int) (n0l : (List (Nat → Int))) (a1 : (Nat → Int)) (p0 : Nat) (v0_1 : Value) (S0_1 : GH) (w : World) (hJ0_1 : OJ 39 28 iv S0_1 v0_1 n0l) (hC : Has w (cat [[(p0, BK 2 (cl [.int .i64 n0limit, v0_1]) 64)], S0_1])) (r : (Nat → Int) × Int × (List (Nat → Int))) (h : act_S n0limit n0l a1 r) : Con Try.prog 11 #[.pointer (some ⟨p0, 0, none⟩), AI 30 a1] w (CatG fun v Ls => Cov w (cat [[(p0, BK 2 (cl [.int .i64 n0limit, v0_1]) 64)], S0_1]) (cat Ls) ∧ ∃ (v0_1' : Value) (S0_1' : GH), v = .tuple #[AI 28 r.1, .int .i64 r.2.1] ∧ Ls = [[(p0, BK 2 (cl [.int .i64 n0limit, v0_1']) 64)], S0_1'] ∧ OJ 39 28 iv S0_1' v0_1' r.2.2 ∧ Cov w S0_1 S0_1') := by
  unfold act_S at h
  refine con_enter (n := 51) [(0, _), (1, _)] Try.func11 rfl Try.ntmps11 rfl (lac rfl (lac rfl lan)) ?_
  refine xw_has hC ?_
  refine xw_st ((p0, BK 2 (cl [.int .i64 n0limit, v0_1]) 64) :: (S0_1 ++ ([]))) (fun _ h => h) ?_
  refine xw_seq (xw_region ?_)
  refine xo rfl trivial (o_boxA rfl) ?_
  rintro _ _ ⟨b3, hb3, rfl, rfl⟩
  refine xo rfl trivial (o_alloc ze39 rfl) ?_
  rintro _ _ ⟨b4, hb4, rfl, rfl⟩
  refine xq rfl trivial (o_as rfl) ?_
  refine xo_nil (xq_then (xw_seq (xw_seq (xw_region ?_))))
  first | refine xq rfl trivial (o_fa0 fl43_0 rfl) ?_ | refine xq rfl trivial (o_fa fl43_0 rfl) ?_
  refine xq rfl trivial (o_ldI (v := a1 0) rfl ts3 (List.Mem.tail _ (List.Mem.head _)) (by omega) rfl) ?_
  refine xo_nil (xq_then ?_)
  refine xw_block ?_
  refine xw_seq (xw_region ?_)
  refine xq rfl trivial (o_eql rfl rfl) ?_
  refine xq rfl trivial (o_as rfl) ?_
  refine xo_nil (xq_then ?_)
  refine xw_bool 10 rfl (fun hc1 => ?_) (fun hc1 => ?_)
  · have hq1 : (decide (a1 0 = 0)) = true := hc1
    have hp1 : a1 0 = 0 := of_decide_eq_true hq1
    rw [if_pos hp1] at h
    refine xw_cond_t rfl rfl (xw_seq (xw_region ?_))
    refine xq rfl trivial (o_build fk39 ze39 (.nil _)) ?_
    refine xq rfl trivial (o_mv rfl) ?_
    first | refine xq rfl trivial (o_fa0 fl43_2 rfl) ?_ | refine xq rfl trivial (o_fa fl43_2 rfl) ?_
    refine xq rfl trivial (o_ldSI rfl ts39 (List.Mem.tail _ (List.Mem.head _)) (by omega) (fun _ _ => rfl)) ?_
    obtain ⟨ho2, h⟩ := h
    refine xo rfl trivial (OT.st (fun _ h => St.permI [2, 3, 0, 1] [[(b4, _)], [(b3, _)], [(p0, _)], S0_1] rfl h) (ot_callF (Cs := [[(p0, _)], S0_1]) (Rs := [[(b4, _)], [(b3, _)]]) kf17 rfl (fun w1 hw1 => send_c _ _ _ _ _ _ w1 hJ0_1 (St.hasC hw1) ho2) (fun _ _ _ h => h.1))) ?_
    rintro _ _ ⟨w1, _, rfl, hle, -, vg4_0, Bg4_0, rfl, rfl, hJBg4_0, hcBg4_0⟩
    replace hcBg4_0 := Cov.trans (Cov.refl _) (Cov.base (w0 := w) hcBg4_0 hle)
    refine xo_st ((p0, BK 2 (cl [.int .i64 n0limit, vg4_0]) 64) :: (Bg4_0 ++ ((b4, BK 28 (iv (fun _ => 0)) 39) :: ((b3, BK 30 (iv a1) 43) :: ([]))))) (fun _ h => h) ?_
    refine xcallq rfl trivial kf12 rfl (fun w1 hw1 => code_c _ w1) ?_
    refine xq0 trivial (o_stWI rfl rfl ts39 (List.Mem.tail _ (List.mem_append_right _ (List.Mem.head _))) (.there _ _ _ _ _ (Upd.seg (.here _ _ _ _)))) ?_
    refine xq rfl trivial (o_as rfl) ?_
    refine xo_nil (xq_then (xw_ret (xq_blk_ret (xq_then_ret ?_))))
    subst h
    exact con_retN (.inl rfl) (l := [.cell 4 39, .tmp 5]) Try.results11 (.cell rfl ts39 (List.Mem.tail _ (List.mem_append_right _ (List.Mem.head _))) (.tmp rfl .nil)) rfl (cat [[(p0, BK 2 (cl [.int .i64 n0limit, vg4_0]) 64)], Bg4_0]) (Kp.st (Kp.keep (Kp.segKeep (Kp.new hb4 (Kp.new hb3 Kp.nil))))) (⟨_, rfl, (Cov.cons (Cov.app (A := S0_1) (A' := Bg4_0) hcBg4_0 Cov.nil)), vg4_0, Bg4_0, rfl, rfl, hJBg4_0, hcBg4_0⟩)
  · have hq1 : (decide (a1 0 = 0)) = false := hc1
    have hp1 : ¬ (a1 0 = 0) := of_decide_eq_false hq1
    rw [if_neg hp1] at h
    refine xw_cond_f rfl rfl (xw_seq (xw_region ?_))
    refine xq rfl trivial (o_eql rfl rfl) ?_
    refine xq rfl trivial (o_as rfl) ?_
    refine xo_nil (xq_then ?_)
    refine xw_bool 18 rfl (fun hc5 => ?_) (fun hc5 => ?_)
    · have hq5 : (decide (a1 0 = 1)) = true := hc5
      have hp5 : a1 0 = 1 := of_decide_eq_true hq5
      rw [if_pos hp5] at h
      refine xw_cond_t rfl rfl (xw_seq (xw_region ?_))
      refine xq rfl trivial (o_mv rfl) ?_
      first | refine xq rfl trivial (o_fa0 fl43_1 rfl) ?_ | refine xq rfl trivial (o_fa fl43_1 rfl) ?_
      refine xq rfl trivial (o_ldI (v := a1 1) rfl ts3 (List.Mem.tail _ (List.Mem.head _)) (by omega) rfl) ?_
      obtain ⟨ho6, h⟩ := h
      refine xo rfl trivial (OT.st (fun _ h => St.permI [2, 3, 0, 1] [[(b4, _)], [(b3, _)], [(p0, _)], S0_1] rfl h) (ot_callF (Cs := [[(p0, _)], S0_1]) (Rs := [[(b4, _)], [(b3, _)]]) kf18 rfl (fun w1 hw1 => deliver_c _ _ _ _ _ _ w1 hJ0_1 (St.hasC hw1) ho6) (fun _ _ _ h => h.1))) ?_
      rintro _ _ ⟨w1, _, rfl, hle, -, vg8_0, Bg8_0, rfl, rfl, hJBg8_0, hcBg8_0⟩
      replace hcBg8_0 := Cov.trans (Cov.refl _) (Cov.base (w0 := w) hcBg8_0 hle)
      refine xo_st ((p0, BK 2 (cl [.int .i64 n0limit, vg8_0]) 64) :: (Bg8_0 ++ ((b4, BK 28 (iv (fun _ => 0)) 39) :: ((b3, BK 30 (iv a1) 43) :: ([]))))) (fun _ h => h) ?_
      refine xq rfl trivial (o_mv rfl) ?_
      refine xq rfl trivial (o_ext rfl rfl) ?_
      refine xq rfl trivial (o_ext rfl rfl) ?_
      refine xo rfl trivial (o_alloc ze39 rfl) ?_
      rintro _ _ ⟨b6, hb6, rfl, rfl⟩
      refine xq0 trivial (o_stWI rfl rfl ts39 (List.Mem.head _) (.here _ _ _ _)) ?_
      refine xq rfl trivial (o_as rfl) ?_
      refine xo_nil (xq_then (xw_seq ?_))
      refine xd_start (by kernel_rfl) (by kernel_rfl) (fun hok => ?_)
      refine xd_b hok 0 [(6, _)] ((b6, BK 28 (iv ((deliver_F n0limit n0l (a1 1)).1)) 39) :: ([])) (rsC (List.Mem.head _) rsN) rfl rfl rfl (lc rfl ln) (by kernel_rfl) trivial (fun H' hy hK => o_ldW rfl ts39 (hy _ (List.Mem.head _))) ?_
      refine xd_b hok 1 [(7, _)] ([]) rsN rfl rfl rfl (lc rfl ln) (by kernel_rfl) trivial (fun H' hy hK => o_mv rfl) ?_
      refine xd_b hok 2 [(28, _)] ([]) rsN rfl rfl rfl (lc rfl ln) (by kernel_rfl) trivial (fun H' hy hK => o_callq kf12 rfl (fun w1 hw1 => code_c _ w1)) ?_
      refine xd_fl0 hok 1 3 [(4, _), (27, _)] rfl rfl (by kernel_rfl) (by kernel_rfl) (lc rfl (lc rfl ln)) (by kernel_rfl) trivial (o_stWI rfl rfl ts39 (List.Mem.tail _ (List.Mem.tail _ (List.mem_append_right _ (List.Mem.head _)))) (.there _ _ _ _ _ (.there _ _ _ _ _ (Upd.seg (.here _ _ _ _))))) ?_
      rintro _ _ ⟨rfl, rfl⟩
      refine ⟨(Ks.consK (by simp) (Ks.consK (by simp) (Ks.segK (fun k hk => by simp [hk]) (Ks.consK (by simp) (Ks.consK (by simp) Ks.nil))))), ?_⟩
      refine xd_b hok 4 [(29, _)] ([]) rsN rfl rfl rfl (lc rfl ln) (by kernel_rfl) trivial (fun H' hy hK => o_as rfl) ?_
      refine xd_end hok (by kernel_rfl) ?_
      refine xq_then (xw_ret (xq_blk_ret (xq_then_ret ?_)))
      subst h
      exact con_retN (.inl rfl) (l := [.cell 4 39, .tmp 5]) Try.results11 (.cell rfl ts39 (List.Mem.tail _ (List.Mem.tail _ (List.mem_append_right _ (List.Mem.head _)))) (.tmp rfl .nil)) rfl (cat [[(p0, BK 2 (cl [.int .i64 n0limit, vg8_0]) 64)], Bg8_0]) (Kp.st (Kp.new hb6 (Kp.keep (Kp.segKeep (Kp.new hb4 (Kp.new hb3 Kp.nil)))))) (⟨_, rfl, (Cov.cons (Cov.app (A := S0_1) (A' := Bg8_0) hcBg8_0 Cov.nil)), vg8_0, Bg8_0, rfl, rfl, hJBg8_0, hcBg8_0⟩)
    · have hq5 : (decide (a1 0 = 1)) = false := hc5
      have hp5 : ¬ (a1 0 = 1) := of_decide_eq_false hq5
      rw [if_neg hp5] at h
      refine xw_cond_f rfl rfl (xw_seq (xw_region ?_))
      refine xq rfl trivial (o_eql rfl rfl) ?_
      refine xq rfl trivial (o_as rfl) ?_
      refine xo_nil (xq_then ?_)
      refine xw_bool 30 rfl (fun hc9 => ?_) (fun hc9 => ?_)
      · have hq9 : (decide (a1 0 = 2)) = true := hc9
        have hp9 : a1 0 = 2 := of_decide_eq_true hq9
        rw [if_pos hp9] at h
        refine xw_cond_t rfl rfl (xw_seq (xw_region ?_))
        refine xq rfl trivial (o_build fk39 ze39 (.nil _)) ?_
        refine xq rfl trivial (o_mv rfl) ?_
        first | refine xq rfl trivial (o_fa0 fl43_1 rfl) ?_ | refine xq rfl trivial (o_fa fl43_1 rfl) ?_
        refine xq rfl trivial (o_ldI (v := a1 1) rfl ts3 (List.Mem.tail _ (List.Mem.head _)) (by omega) rfl) ?_
        obtain ⟨ho10, h⟩ := h
        refine xo rfl trivial (OT.st (fun _ h => St.permI [2, 3, 0, 1] [[(b4, _)], [(b3, _)], [(p0, _)], S0_1] rfl h) (ot_callF (Cs := [[(p0, _)], S0_1]) (Rs := [[(b4, _)], [(b3, _)]]) kf19 rfl (fun w1 hw1 => drop_c _ _ _ _ _ _ w1 hJ0_1 (St.hasC hw1) ho10) (fun _ _ _ h => h.1))) ?_
        rintro _ _ ⟨w1, _, rfl, hle, -, vg12_0, Bg12_0, rfl, rfl, hJBg12_0, hcBg12_0⟩
        replace hcBg12_0 := Cov.trans (Cov.refl _) (Cov.base (w0 := w) hcBg12_0 hle)
        refine xo_st ((p0, BK 2 (cl [.int .i64 n0limit, vg12_0]) 64) :: (Bg12_0 ++ ((b4, BK 28 (iv (fun _ => 0)) 39) :: ((b3, BK 30 (iv a1) 43) :: ([]))))) (fun _ h => h) ?_
        refine xcallq rfl trivial kf12 rfl (fun w1 hw1 => code_c _ w1) ?_
        refine xq0 trivial (o_stWI rfl rfl ts39 (List.Mem.tail _ (List.mem_append_right _ (List.Mem.head _))) (.there _ _ _ _ _ (Upd.seg (.here _ _ _ _)))) ?_
        refine xq rfl trivial (o_as rfl) ?_
        refine xo_nil (xq_then (xw_ret (xq_blk_ret (xq_then_ret ?_))))
        subst h
        exact con_retN (.inl rfl) (l := [.cell 4 39, .tmp 5]) Try.results11 (.cell rfl ts39 (List.Mem.tail _ (List.mem_append_right _ (List.Mem.head _))) (.tmp rfl .nil)) rfl (cat [[(p0, BK 2 (cl [.int .i64 n0limit, vg12_0]) 64)], Bg12_0]) (Kp.st (Kp.keep (Kp.segKeep (Kp.new hb4 (Kp.new hb3 Kp.nil))))) (⟨_, rfl, (Cov.cons (Cov.app (A := S0_1) (A' := Bg12_0) hcBg12_0 Cov.nil)), vg12_0, Bg12_0, rfl, rfl, hJBg12_0, hcBg12_0⟩)
      · have hq9 : (decide (a1 0 = 2)) = false := hc9
        have hp9 : ¬ (a1 0 = 2) := of_decide_eq_false hq9
        rw [if_neg hp9] at h
        refine xw_cond_f rfl rfl (xw_seq (xw_region ?_))
        refine xq rfl trivial (o_eql rfl rfl) ?_
        refine xq rfl trivial (o_as rfl) ?_
        refine xo_nil (xq_then ?_)
        refine xw_bool 38 rfl (fun hc13 => ?_) (fun hc13 => ?_)
        · have hq13 : (decide (a1 0 = 3)) = true := hc13
          have hp13 : a1 0 = 3 := of_decide_eq_true hq13
          rw [if_pos hp13] at h
          refine xw_cond_t rfl rfl (xw_seq (xw_region ?_))
          refine xq rfl trivial (o_build fk39 ze39 (.nil _)) ?_
          refine xq rfl trivial (o_mv rfl) ?_
          first | refine xq rfl trivial (o_fa0 fl43_1 rfl) ?_ | refine xq rfl trivial (o_fa fl43_1 rfl) ?_
          refine xq rfl trivial (o_ldI (v := a1 1) rfl ts3 (List.Mem.tail _ (List.Mem.head _)) (by omega) rfl) ?_
          obtain ⟨ho14, h⟩ := h
          refine xo rfl trivial (OT.st (fun _ h => St.permI [2, 3, 0, 1] [[(b4, _)], [(b3, _)], [(p0, _)], S0_1] rfl h) (ot_callF (Cs := [[(p0, _)], S0_1]) (Rs := [[(b4, _)], [(b3, _)]]) kf20 rfl (fun w1 hw1 => twice_c _ _ _ _ _ _ w1 hJ0_1 (St.hasC hw1) ho14) (fun _ _ _ h => h.1))) ?_
          rintro _ _ ⟨w1, _, rfl, hle, -, vg16_0, Bg16_0, rfl, rfl, hJBg16_0, hcBg16_0⟩
          replace hcBg16_0 := Cov.trans (Cov.refl _) (Cov.base (w0 := w) hcBg16_0 hle)
          refine xo_st ((p0, BK 2 (cl [.int .i64 n0limit, vg16_0]) 64) :: (Bg16_0 ++ ((b4, BK 28 (iv (fun _ => 0)) 39) :: ((b3, BK 30 (iv a1) 43) :: ([]))))) (fun _ h => h) ?_
          refine xcallq rfl trivial kf12 rfl (fun w1 hw1 => code_c _ w1) ?_
          refine xq0 trivial (o_stWI rfl rfl ts39 (List.Mem.tail _ (List.mem_append_right _ (List.Mem.head _))) (.there _ _ _ _ _ (Upd.seg (.here _ _ _ _)))) ?_
          refine xq rfl trivial (o_as rfl) ?_
          refine xo_nil (xq_then (xw_ret (xq_blk_ret (xq_then_ret ?_))))
          subst h
          exact con_retN (.inl rfl) (l := [.cell 4 39, .tmp 5]) Try.results11 (.cell rfl ts39 (List.Mem.tail _ (List.mem_append_right _ (List.Mem.head _))) (.tmp rfl .nil)) rfl (cat [[(p0, BK 2 (cl [.int .i64 n0limit, vg16_0]) 64)], Bg16_0]) (Kp.st (Kp.keep (Kp.segKeep (Kp.new hb4 (Kp.new hb3 Kp.nil))))) (⟨_, rfl, (Cov.cons (Cov.app (A := S0_1) (A' := Bg16_0) hcBg16_0 Cov.nil)), vg16_0, Bg16_0, rfl, rfl, hJBg16_0, hcBg16_0⟩)
        · have hq13 : (decide (a1 0 = 3)) = false := hc13
          have hp13 : ¬ (a1 0 = 3) := of_decide_eq_false hq13
          rw [if_neg hp13] at h
          refine xw_cond_f rfl rfl (xw_seq (xw_region ?_))
          refine xq rfl trivial (o_eql rfl rfl) ?_
          refine xq rfl trivial (o_as rfl) ?_
          refine xo_nil (xq_then ?_)
          refine xw_bool 46 rfl (fun hc17 => ?_) (fun hc17 => ?_)
          · have hq17 : (decide (a1 0 = 4)) = true := hc17
            have hp17 : a1 0 = 4 := of_decide_eq_true hq17
            rw [if_pos hp17] at h
            refine xw_cond_t rfl rfl (xw_region ?_)
            refine xq rfl trivial (o_mv rfl) ?_
            obtain ⟨ho18, h⟩ := h
            refine xo rfl trivial (OT.st (fun _ h => St.permI [2, 3, 0, 1] [[(b4, _)], [(b3, _)], [(p0, _)], S0_1] rfl h) (ot_callF (Cs := [[(p0, _)], S0_1]) (Rs := [[(b4, _)], [(b3, _)]]) kf14 rfl (fun w1 hw1 => ntake_c _ _ _ _ _ w1 hJ0_1 (St.hasC hw1) ho18) (fun _ _ _ h => h.1))) ?_
            rintro vs21 _ ⟨w1, _, rfl, hle, -, vg20_0, Bg20_0, _, Bs21, rfl, rfl, hJBg20_0, hpBg20_0, hcBg20_0, hJs21, hcBs21⟩
            replace hcBg20_0 := Cov.trans (Cov.refl _) (Cov.base (w0 := w) hcBg20_0 hle)
            replace hcBs21 := Cov.base (w0 := w) hcBs21 hle
            refine xo_st ((p0, BK 2 (cl [.int .i64 n0limit, vg20_0]) 64) :: (Bg20_0 ++ (Bs21 ++ ((b4, BK 28 (iv (fun _ => 0)) 39) :: ((b3, BK 30 (iv a1) 43) :: ([])))))) (fun _ h => h) ?_
            refine xo_nil ?_
            refine xq_blk 0 ?_
            refine xq_then (xw_seq (xw_region ?_))
            refine xq rfl trivial (o_build fk39 ze39 (.nil _)) ?_
            refine xq0 trivial (o_stWI rfl rfl ts39 (List.Mem.tail _ (List.mem_append_right _ (List.mem_append_right _ (List.Mem.head _)))) (.there _ _ _ _ _ (Upd.seg (Upd.seg (.here _ _ _ _))))) ?_
            refine xq rfl trivial (o_as rfl) ?_
            refine xo_nil (xq_then (xw_ret ?_))
            subst h
            exact con_retN (.inl rfl) (l := [.cell 4 39, .tmp 5]) Try.results11 (.cell rfl ts39 (List.Mem.tail _ (List.mem_append_right _ (List.mem_append_right _ (List.Mem.head _)))) (.tmp rfl .nil)) rfl (cat [[(p0, BK 2 (cl [.int .i64 n0limit, vg20_0]) 64)], Bg20_0]) (Kp.st (Kp.keep (Kp.segKeep (Kp.segNew (Cov.fresh hcBs21) (Kp.new hb4 (Kp.new hb3 Kp.nil)))))) (⟨_, rfl, (Cov.cons (Cov.app (A := S0_1) (A' := Bg20_0) hcBg20_0 Cov.nil)), vg20_0, Bg20_0, rfl, rfl, hJBg20_0, hcBg20_0⟩)
          · have hq17 : (decide (a1 0 = 4)) = false := hc17
            have hp17 : ¬ (a1 0 = 4) := of_decide_eq_false hq17
            rw [if_neg hp17] at h
            refine xw_cond_f rfl rfl (xw_skip ?_)
            refine xq_blk 0 ?_
            refine xq_then (xw_seq (xw_region ?_))
            refine xq rfl trivial (o_build fk39 ze39 (.nil _)) ?_
            refine xq0 trivial (o_stWI rfl rfl ts39 (List.Mem.head _) (.here _ _ _ _)) ?_
            refine xq rfl trivial (o_as rfl) ?_
            refine xo_nil (xq_then (xw_ret ?_))
            subst h
            exact con_retN (.inl rfl) (l := [.cell 4 39, .tmp 5]) Try.results11 (.cell rfl ts39 (List.Mem.head _) (.tmp rfl .nil)) rfl (cat [[(p0, BK 2 (cl [.int .i64 n0limit, v0_1]) 64)], S0_1]) (Kp.st (Kp.new hb4 (Kp.new hb3 (Kp.keep (Kp.segKeep Kp.nil))))) (⟨_, rfl, (Cov.cons (Cov.app (A := S0_1) (A' := S0_1) (Cov.refl _) Cov.nil)), v0_1, S0_1, rfl, rfl, hJ0_1, (Cov.refl _)⟩)

theorem act_c (n0limit : Int) (n0l : (List (Nat → Int))) (a1 : (Nat → Int)) (p0 : Nat) (v0_1 : Value) (S0_1 : GH) (w : World) (hJ0_1 : OJ 39 28 iv S0_1 v0_1 n0l) (hC : Has w (cat [[(p0, BK 2 (cl [.int .i64 n0limit, v0_1]) 64)], S0_1])) (hP : act_P n0limit n0l a1) : Con Try.prog 11 #[.pointer (some ⟨p0, 0, none⟩), AI 30 a1] w (CatG fun v Ls => Cov w (cat [[(p0, BK 2 (cl [.int .i64 n0limit, v0_1]) 64)], S0_1]) (cat Ls) ∧ ∃ (v0_1' : Value) (S0_1' : GH), v = .tuple #[AI 28 ((act_F n0limit n0l a1).1), .int .i64 ((act_F n0limit n0l a1).2.1)] ∧ Ls = [[(p0, BK 2 (cl [.int .i64 n0limit, v0_1']) 64)], S0_1'] ∧ OJ 39 28 iv S0_1' v0_1' ((act_F n0limit n0l a1).2.2) ∧ Cov w S0_1 S0_1') :=
  act_con n0limit n0l a1 p0 v0_1 S0_1 w hJ0_1 hC _ (act_ok n0limit n0l a1 hP)

end Go.Proofs.Ythikmldodgijdaa
