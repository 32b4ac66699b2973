/- The code answers as the relations say. -/
import Derived.Test.YthikmldodgijdaaTab
import Derived.Test.YthikmldodgijdaaC05S
import Derived.Test.YthikmldodgijdaaB05W
import Derived.Test.YthikmldodgijdaaMSW
import Derived.Test.YthikmldodgijdaaMRW
set_option maxHeartbeats 1000000
set_option linter.unusedVariables false
set_option linter.unusedSimpArgs false
set_option maxRecDepth 100000
namespace Go.Proofs.Ythikmldodgijdaa
open Go Go.E

theorem msgs_c (a0 : (List (Nat → Int))) (b1 : (List (Nat → Int))) (v0 : Value) (v1 : Value) (w : World) (hs0 : SL w 28 iv v0 a0) (hs1 : SL w 28 iv v1 b1) (hP : msgs_P a0 b1) : Con Try.prog 13 #[v0, v1] w (Is (.bool (msgs_F a0 b1)) []) :=
  msgs_con a0 b1 v0 v1 w hs0 hs1 _ (msgs_ok a0 b1 hP)

theorem ref04Ok_c (m0 : (Nat → Int)) (w : World) : Con Try.prog 22 #[AI 28 m0] w (Is (.bool (okB m0)) []) :=
  ref04Ok_con m0 w _ (ref04Ok_ok m0)

theorem alive05_con (w : World) (r : Bool) (h : alive05_S r) : Con Try.prog 8 #[] w (Is (.bool r) []) := by
  unfold alive05_S at h
  refine con_enter (n := 61) [] Try.func8 rfl Try.ntmps8 rfl lan ?_
  refine xw_seq (xw_region ?_)
  refine xq rfl trivial (o_as rfl) ?_
  refine xo_nil (xq_then (xw_seq (xw_region ?_)))
  refine xoR rfl trivial (ot_in (l := [(0, _)]) kf9 rfl Try.func9 rfl Try.ntmps9 rfl (lac rfl lan) ?_)
  refine xw_seq (xw_region ?_)
  refine xq rfl trivial (o_as rfl) ?_
  refine xq rfl trivial (o_as rfl) ?_
  refine xo_nil (xq_then (xw_seq (xw_seq ?_)))
  refine xw_cut [(0, _)] (lc rfl ln) [(9, .bool false)] ?_ ?_
  · refine xw_region ?_
    refine xq rfl trivial (o_mv rfl) ?_
    refine xq rfl trivial (o_lss rfl rfl) ?_
    refine xq rfl trivial (o_mv rfl) ?_
    refine xq rfl ⟨_, rfl, rfl⟩ (o_mv rfl) ?_
    refine xq rfl ⟨_, rfl, rfl⟩ (o_gtr rfl rfl) ?_
    refine xq rfl trivial (o_pick_f rfl rfl) ?_
    refine xo_nil ?_
    exact xq_cut ((lce rfl (by first | rfl | (simp only [bS]; done) | (simp []; done) | (simp_all; done)) (lc rfl ln))) (fun _ h => h)
  · refine xq_then (xw_cond_f rfl rfl (xw_skip (xq_then (xw_seq (xw_region ?_)))))
    refine xq rfl trivial (o_mv rfl) ?_
    refine xq rfl trivial (o_buildC [.int .i64 9, .slice none 0 0] fk64 ze64 (.one fl64_0 rfl rfl rfl (.nil _)) (fun i hi => match i, hi with | 0, _ => rfl | 1, _ => rfl | q + 2, h => absurd h (by omega))) ?_
    refine xo rfl trivial (o_boxC [.int .i64 9, .slice none 0 0] rfl (fun i hi => match i, hi with | 0, _ => rfl | 1, _ => rfl | q + 2, h => absurd h (by omega))) ?_
    rintro _ _ ⟨b13, hb13, rfl, rfl⟩
    refine xq rfl trivial (o_as rfl) ?_
    refine xq rfl trivial (o_as rfl) ?_
    refine xo_nil (xq_then (xw_ret ?_))
    refine con_ret2 (.inl rfl) Try.results9 rfl rfl _ (fun _ h => h) (?_)
    refine xq rfl trivial (o_mv rfl) ?_
    refine xq rfl trivial (o_ext rfl rfl) ?_
    refine xq rfl trivial (o_ext rfl rfl) ?_
    refine xq rfl trivial (o_as rfl) ?_
    refine xq rfl trivial (o_as rfl) ?_
    refine xo_nil (xq_then (xw_seq (xw_seq (xw_region ?_))))
    refine xq rfl trivial (o_mv rfl) ?_
    refine xq rfl trivial (o_eqn Try.underlying24 rfl rfl rfl rfl) ?_
    refine xq rfl trivial (o_mv rfl) ?_
    refine xq rfl ⟨_, rfl, rfl⟩ (o_mv rfl) ?_
    refine xq rfl ⟨_, rfl, rfl⟩ (o_nen Try.underlying26 rfl rfl rfl rfl) ?_
    refine xq rfl trivial (o_pick_f rfl rfl) ?_
    refine xq rfl trivial (o_mv rfl) ?_
    refine xq rfl ⟨_, rfl, rfl⟩ (o_mv rfl) ?_
    refine xcallq rfl ⟨_, rfl, rfl⟩ kf21 rfl (fun w1 hw1 => letter_c _ w1) ?_
    obtain ⟨ho1, h⟩ := h
    refine xo rfl ⟨_, rfl, rfl⟩ (OT.st (fun _ h => h) (ot_callF (Cs := [[(b13, _)], []]) (Rs := []) kf17 rfl (fun w1 hw1 => send_c _ _ _ _ _ _ w1 OJ.nil (St.hasC hw1) ho1) (fun _ _ _ h => h.1))) ?_
    rintro _ _ ⟨w1, _, rfl, hle, -, vg3_0, Bg3_0, rfl, rfl, hJBg3_0, hcBg3_0⟩
    replace hcBg3_0 := Cov.trans (Cov.refl _) (Cov.base (w0 := w) hcBg3_0 hle)
    refine xo_st ((b13, BK 2 (cl [.int .i64 9, vg3_0]) 64) :: (Bg3_0 ++ ([]))) (fun _ h => h) ?_
    refine xq rfl ⟨_, rfl, rfl⟩ (o_neE Try.underlying26 rfl (fun _ => rfl) rfl rfl) ?_
    refine xq rfl trivial (o_pick_f rfl rfl) ?_
    refine xq rfl trivial (o_mv rfl) ?_
    refine xo_bool 22 rfl (fun hg4 => ?_) (fun hg4 => ?_)
    · have hq4 : (decide ((send_F 9 ([]) (letter_F 1)).1 = 0)) = false := (bnT hg4)
      have hp4 : ¬ ((send_F 9 ([]) (letter_F 1)).1 = 0) := of_decide_eq_false hq4
      rw [if_neg hp4] at h
      refine xs rfl ⟨_, _, rfl, rfl, rfl⟩ (xs rfl ⟨_, _, rfl, rfl, rfl⟩ (xs rfl ⟨_, _, rfl, rfl, rfl⟩ (xs rfl ⟨_, _, rfl, rfl, rfl⟩ ?_)))
      refine xq rfl trivial (o_pick_t rfl rfl) ?_
      refine xq rfl trivial (o_mv rfl) ?_
      refine xs rfl ⟨_, _, rfl, rfl, rfl⟩ (xs rfl ⟨_, _, rfl, rfl, rfl⟩ (xs rfl ⟨_, _, rfl, rfl, rfl⟩ (xs rfl ⟨_, _, rfl, rfl, rfl⟩ ?_)))
      refine xq rfl trivial (o_pick_t rfl rfl) ?_
      refine xo_nil (xq_then (xw_cond_t rfl rfl (xw_seq (xw_region ?_))))
      refine xq rfl trivial (o_as rfl) ?_
      refine xo_nil (xq_then (xw_ret (xq_then_ret ?_)))
      subst h
      exact con_ret1 (.inl rfl) Try.results8 rfl [] (Kp.st (Kp.new hb13 (Kp.segNew (Cov.fresh hcBg3_0) Kp.nil))) (⟨rfl, rfl⟩)
    · have hq4 : (decide ((send_F 9 ([]) (letter_F 1)).1 = 0)) = true := (bnF hg4)
      have hp4 : (send_F 9 ([]) (letter_F 1)).1 = 0 := of_decide_eq_true hq4
      rw [if_pos hp4] at h
      refine xq rfl ⟨_, rfl, rfl⟩ (o_mv rfl) ?_
      refine xcallq rfl ⟨_, rfl, rfl⟩ kf21 rfl (fun w1 hw1 => letter_c _ w1) ?_
      obtain ⟨ho5, h⟩ := h
      refine xo rfl ⟨_, rfl, rfl⟩ (OT.st (fun _ h => h) (ot_callF (Cs := [[(b13, _)], Bg3_0]) (Rs := []) kf17 rfl (fun w1 hw1 => send_c _ _ _ _ _ _ w1 hJBg3_0 (St.hasC hw1) ho5) (fun _ _ _ h => h.1))) ?_
      rintro _ _ ⟨w1, _, rfl, hle, -, vg7_0, Bg7_0, rfl, rfl, hJBg7_0, hcBg7_0⟩
      replace hcBg7_0 := Cov.trans hcBg3_0 (Cov.base (w0 := w) hcBg7_0 hle)
      refine xo_st ((b13, BK 2 (cl [.int .i64 9, vg7_0]) 64) :: (Bg7_0 ++ ([]))) (fun _ h => h) ?_
      refine xq rfl ⟨_, rfl, rfl⟩ (o_neE Try.underlying26 rfl (fun _ => rfl) rfl rfl) ?_
      refine xq rfl trivial (o_pick_f rfl rfl) ?_
      refine xq rfl trivial (o_mv rfl) ?_
      refine xo_bool 28 rfl (fun hg8 => ?_) (fun hg8 => ?_)
      · have hq8 : (decide ((send_F 9 ((send_F 9 ([]) (letter_F 1)).2) (letter_F 2)).1 = 0)) = false := (bnT hg8)
        have hp8 : ¬ ((send_F 9 ((send_F 9 ([]) (letter_F 1)).2) (letter_F 2)).1 = 0) := of_decide_eq_false hq8
        rw [if_neg hp8] at h
        refine xs rfl ⟨_, _, rfl, rfl, rfl⟩ (xs rfl ⟨_, _, rfl, rfl, rfl⟩ (xs rfl ⟨_, _, rfl, rfl, rfl⟩ (xs rfl ⟨_, _, rfl, rfl, rfl⟩ ?_)))
        refine xq rfl trivial (o_pick_t rfl rfl) ?_
        refine xo_nil (xq_then (xw_cond_t rfl rfl (xw_seq (xw_region ?_))))
        refine xq rfl trivial (o_as rfl) ?_
        refine xo_nil (xq_then (xw_ret (xq_then_ret ?_)))
        subst h
        exact con_ret1 (.inl rfl) Try.results8 rfl [] (Kp.st (Kp.new hb13 (Kp.segNew (Cov.fresh hcBg7_0) Kp.nil))) (⟨rfl, rfl⟩)
      · have hq8 : (decide ((send_F 9 ((send_F 9 ([]) (letter_F 1)).2) (letter_F 2)).1 = 0)) = true := (bnF hg8)
        have hp8 : (send_F 9 ((send_F 9 ([]) (letter_F 1)).2) (letter_F 2)).1 = 0 := of_decide_eq_true hq8
        rw [if_pos hp8] at h
        refine xq rfl ⟨_, rfl, rfl⟩ (o_mv rfl) ?_
        refine xcallq rfl ⟨_, rfl, rfl⟩ kf21 rfl (fun w1 hw1 => letter_c _ w1) ?_
        obtain ⟨ho9, h⟩ := h
        refine xo rfl ⟨_, rfl, rfl⟩ (OT.st (fun _ h => h) (ot_callF (Cs := [[(b13, _)], Bg7_0]) (Rs := []) kf17 rfl (fun w1 hw1 => send_c _ _ _ _ _ _ w1 hJBg7_0 (St.hasC hw1) ho9) (fun _ _ _ h => h.1))) ?_
        rintro _ _ ⟨w1, _, rfl, hle, -, vg11_0, Bg11_0, rfl, rfl, hJBg11_0, hcBg11_0⟩
        replace hcBg11_0 := Cov.trans hcBg7_0 (Cov.base (w0 := w) hcBg11_0 hle)
        refine xo_st ((b13, BK 2 (cl [.int .i64 9, vg11_0]) 64) :: (Bg11_0 ++ ([]))) (fun _ h => h) ?_
        refine xq rfl ⟨_, rfl, rfl⟩ (o_neE Try.underlying26 rfl (fun _ => rfl) rfl rfl) ?_
        refine xq rfl trivial (o_pick_f rfl rfl) ?_
        refine xo_nil (xq_then ?_)
        refine xw_bool 33 rfl (fun hc12 => ?_) (fun hc12 => ?_)
        · have hq12 : (decide ((send_F 9 ((send_F 9 ((send_F 9 ([]) (letter_F 1)).2) (letter_F 2)).2) (letter_F 3)).1 = 0)) = false := (bnT hc12)
          have hp12 : ¬ ((send_F 9 ((send_F 9 ((send_F 9 ([]) (letter_F 1)).2) (letter_F 2)).2) (letter_F 3)).1 = 0) := of_decide_eq_false hq12
          rw [if_neg hp12] at h
          refine xw_cond_t rfl rfl (xw_seq (xw_region ?_))
          refine xq rfl trivial (o_as rfl) ?_
          refine xo_nil (xq_then (xw_ret (xq_then_ret ?_)))
          subst h
          exact con_ret1 (.inl rfl) Try.results8 rfl [] (Kp.st (Kp.new hb13 (Kp.segNew (Cov.fresh hcBg11_0) Kp.nil))) (⟨rfl, rfl⟩)
        · have hq12 : (decide ((send_F 9 ((send_F 9 ((send_F 9 ([]) (letter_F 1)).2) (letter_F 2)).2) (letter_F 3)).1 = 0)) = true := (bnF hc12)
          have hp12 : (send_F 9 ((send_F 9 ((send_F 9 ([]) (letter_F 1)).2) (letter_F 2)).2) (letter_F 3)).1 = 0 := of_decide_eq_true hq12
          rw [if_pos hp12] at h
          refine xw_cond_f rfl rfl (xw_skip (xq_then (xw_seq (xw_region ?_))))
          refine xq rfl trivial (o_mv rfl) ?_
          obtain ⟨ho13, h⟩ := h
          refine xo rfl trivial (OT.st (fun _ h => h) (ot_callF (Cs := [[(b13, _)], Bg11_0]) (Rs := []) kf18 rfl (fun w1 hw1 => deliver_c _ _ _ _ _ _ w1 hJBg11_0 (St.hasC hw1) ho13) (fun _ _ _ h => h.1))) ?_
          rintro _ _ ⟨w1, _, rfl, hle, -, vg15_0, Bg15_0, rfl, rfl, hJBg15_0, hcBg15_0⟩
          replace hcBg15_0 := Cov.trans hcBg11_0 (Cov.base (w0 := w) hcBg15_0 hle)
          refine xo_st ((b13, BK 2 (cl [.int .i64 9, vg15_0]) 64) :: (Bg15_0 ++ ([]))) (fun _ h => h) ?_
          refine xq rfl trivial (o_mv rfl) ?_
          refine xq rfl trivial (o_ext rfl rfl) ?_
          refine xq rfl trivial (o_ext rfl rfl) ?_
          refine xo rfl trivial (o_alloc ze39 rfl) ?_
          rintro _ _ ⟨b3, hb3, rfl, rfl⟩
          refine xq0 trivial (o_stWI rfl rfl ts39 (List.Mem.head _) (.here _ _ _ _)) ?_
          refine xq rfl trivial (o_as rfl) ?_
          refine xo_nil (xq_then (xw_seq (xw_region ?_)))
          refine xq rfl trivial (o_mv rfl) ?_
          obtain ⟨ho16, h⟩ := h
          refine xo rfl trivial (OT.st (fun _ h => St.permI [1, 2, 0] [[(b3, _)], [(b13, _)], Bg15_0] rfl h) (ot_callF (Cs := [[(b13, _)], Bg15_0]) (Rs := [[(b3, _)]]) kf20 rfl (fun w1 hw1 => twice_c _ _ _ _ _ _ w1 hJBg15_0 (St.hasC hw1) ho16) (fun _ _ _ h => h.1))) ?_
          rintro _ _ ⟨w1, _, rfl, hle, -, vg18_0, Bg18_0, rfl, rfl, hJBg18_0, hcBg18_0⟩
          replace hcBg18_0 := Cov.trans hcBg15_0 (Cov.base (w0 := w) hcBg18_0 hle)
          refine xo_st ((b13, BK 2 (cl [.int .i64 9, vg18_0]) 64) :: (Bg18_0 ++ ((b3, BK 28 (iv ((deliver_F 9 ((send_F 9 ((send_F 9 ((send_F 9 ([]) (letter_F 1)).2) (letter_F 2)).2) (letter_F 3)).2) 4).1)) 39) :: ([])))) (fun _ h => h) ?_
          refine xq rfl trivial (o_as rfl) ?_
          refine xo_nil (xq_then (xw_seq ?_))
          refine xd_start (by kernel_rfl) (by kernel_rfl) (fun hok => ?_)
          refine xd_b hok 0 [(3, _)] ((b3, BK 28 (iv ((deliver_F 9 ((send_F 9 ((send_F 9 ((send_F 9 ([]) (letter_F 1)).2) (letter_F 2)).2) (letter_F 3)).2) 4).1)) 39) :: ([])) (rsC (List.Mem.tail _ (List.mem_append_right _ (List.Mem.head _))) rsN) rfl rfl rfl (lc rfl ln) (by kernel_rfl) trivial (fun H' hy hK => o_ldW rfl ts39 (hy _ (List.Mem.head _))) ?_
          refine xd_b hok 1 [] ([]) rsN rfl rfl rfl ln (by kernel_rfl) trivial (fun H' hy hK => o_callq kf21 rfl (fun w1 hw1 => letter_c _ w1)) ?_
          refine xd_b hok 2 [(41, _), (42, _)] ([]) rsN rfl rfl rfl (lc rfl (lc rfl ln)) (by kernel_rfl) trivial (fun H' hy hK => o_eqlA eq39 rfl rfl) ?_
          refine xd_b hok 3 [(43, _)] ([]) rsN rfl rfl rfl (lc rfl ln) (by kernel_rfl) trivial (fun H' hy hK => o_mv rfl) ?_
          refine xd_bool 44 rfl (fun hg19 => ?_) (fun hg19 => ?_)
          · have hq19 : ((eqN 28 ((deliver_F 9 ((send_F 9 ((send_F 9 ((send_F 9 ([]) (letter_F 1)).2) (letter_F 2)).2) (letter_F 3)).2) 4).1) (letter_F 2))) = true := hg19
            have hp19 : ((eqN 28 ((deliver_F 9 ((send_F 9 ((send_F 9 ((send_F 9 ([]) (letter_F 1)).2) (letter_F 2)).2) (letter_F 3)).2) 4).1) (letter_F 2))) = true := hq19
            rw [if_pos hp19] at h
            refine xd_b hok 4 [(4, _), (44, _)] ([]) rsN rfl rfl rfl (lc rfl (lc rfl ln)) (by kernel_rfl) ⟨_, rfl, rfl⟩ (fun H' hy hK => o_mv rfl) ?_
            refine xd_b hok 5 [(45, _), (44, _)] ([]) rsN rfl rfl rfl (lc rfl (lc rfl ln)) (by kernel_rfl) ⟨_, rfl, rfl⟩ (fun H' hy hK => o_eqE Try.underlying26 rfl (fun _ => rfl) rfl rfl) ?_
            refine xd_b hok 6 [(44, _), (46, _)] ([]) rsN rfl rfl rfl (lc rfl (lc rfl ln)) (by kernel_rfl) trivial (fun H' hy hK => o_pick_t rfl rfl) ?_
            refine xd_b hok 7 [(47, _)] ([]) rsN rfl rfl rfl (lc rfl ln) (by kernel_rfl) trivial (fun H' hy hK => o_mv rfl) ?_
            refine xd_bool 48 rfl (fun hg20 => ?_) (fun hg20 => ?_)
            · have hq20 : (decide ((deliver_F 9 ((send_F 9 ((send_F 9 ((send_F 9 ([]) (letter_F 1)).2) (letter_F 2)).2) (letter_F 3)).2) 4).2.1 = 0)) = true := hg20
              have hp20 : (deliver_F 9 ((send_F 9 ((send_F 9 ((send_F 9 ([]) (letter_F 1)).2) (letter_F 2)).2) (letter_F 3)).2) 4).2.1 = 0 := of_decide_eq_true hq20
              rw [if_pos hp20] at h
              refine xd_b hok 8 [(5, _), (48, _)] ([]) rsN rfl rfl rfl (lc rfl (lc rfl ln)) (by kernel_rfl) ⟨_, rfl, rfl⟩ (fun H' hy hK => o_mv rfl) ?_
              refine xd_b hok 9 [(49, _), (48, _)] ([]) rsN rfl rfl rfl (lc rfl (lc rfl ln)) (by kernel_rfl) ⟨_, rfl, rfl⟩ (fun H' hy hK => o_eqE Try.underlying26 rfl (fun _ => rfl) rfl rfl) ?_
              refine xd_b hok 10 [(48, _), (50, _)] ([]) rsN rfl rfl rfl (lc rfl (lc rfl ln)) (by kernel_rfl) trivial (fun H' hy hK => o_pick_t rfl rfl) ?_
              refine xd_b hok 11 [(51, _)] ([]) rsN rfl rfl rfl (lc rfl ln) (by kernel_rfl) trivial (fun H' hy hK => o_mv rfl) ?_
              refine xd_bool 52 rfl (fun hg21 => ?_) (fun hg21 => ?_)
              · have hq21 : (decide ((twice_F 9 ((deliver_F 9 ((send_F 9 ((send_F 9 ((send_F 9 ([]) (letter_F 1)).2) (letter_F 2)).2) (letter_F 3)).2) 4).2.2) (-1)).1 = 0)) = true := hg21
                have hp21 : (twice_F 9 ((deliver_F 9 ((send_F 9 ((send_F 9 ((send_F 9 ([]) (letter_F 1)).2) (letter_F 2)).2) (letter_F 3)).2) 4).2.2) (-1)).1 = 0 := of_decide_eq_true hq21
                rw [if_pos hp21] at h
                refine xd_b hok 12 [(1, _), (52, _)] ([]) rsN rfl rfl rfl (lc rfl (lc rfl ln)) (by kernel_rfl) ⟨_, rfl, rfl⟩ (fun H' hy hK => o_mv rfl) ?_
                obtain ⟨ho22, h⟩ := h
                refine xd_fl hok 4 13 [(53, _), (52, _)] rfl rfl (by kernel_rfl) (by kernel_rfl) (lc rfl (lc rfl ln)) (by kernel_rfl) ⟨_, rfl, rfl⟩ (OT.st (fun _ h => h) (ot_callF (Cs := [[(b13, _)], Bg18_0]) (Rs := [[(b3, _)]]) kf10 rfl (fun w1 hw1 => nall_c _ _ _ _ _ w1 hJBg18_0 (St.hasC hw1) ho22) (fun _ _ _ h => h.1))) ?_
                rintro vs25 _ ⟨w1, _, rfl, hle, -, _, Bs25, rfl, rfl, hJs25, hcBs25⟩
                replace hcBs25 := Cov.base (w0 := w) hcBs25 hle
                refine xd_sh1 (H' := (b13, BK 2 (cl [.int .i64 9, vg18_0]) 64) :: (Bg18_0 ++ (Bs25 ++ ((b3, BK 28 (iv ((deliver_F 9 ((send_F 9 ((send_F 9 ((send_F 9 ([]) (letter_F 1)).2) (letter_F 2)).2) (letter_F 3)).2) 4).1)) 39) :: ([]))))) rfl ?_
                refine ⟨(Ks.consK (by simp) (Ks.segK (fun k hk => by simp [hk]) (Ks.segN hcBs25 (Ks.consK (by simp) Ks.nil)))), ?_⟩
                refine xd_b hok 14 [(52, _)] ([]) rsN rfl rfl rfl (lc rfl ln) (by kernel_rfl) ⟨_, rfl, rfl⟩ (fun H' hy hK => o_callq kf21 rfl (fun w1 hw1 => letter_c _ w1)) ?_
                refine xd_b hok 15 [(52, _)] ([]) rsN rfl rfl rfl (lc rfl ln) (by kernel_rfl) ⟨_, rfl, rfl⟩ (fun H' hy hK => o_callq kf21 rfl (fun w1 hw1 => letter_c _ w1)) ?_
                refine xd_b hok 16 [(52, _)] ([]) rsN rfl rfl rfl (lc rfl ln) (by kernel_rfl) ⟨_, rfl, rfl⟩ (fun H' hy hK => o_callq kf21 rfl (fun w1 hw1 => letter_c _ w1)) ?_
                refine xd_fl hok 4 17 [(55, _), (56, _), (57, _), (52, _)] rfl rfl (by kernel_rfl) (by kernel_rfl) (lc rfl (lc rfl (lc rfl (lc rfl ln)))) (by kernel_rfl) ⟨_, rfl, rfl⟩ (o_bsl el30 ze39 rfl rfl rfl (.ints rfl rfl (.ints rfl rfl (.ints rfl rfl (.nil _))))) ?_
                rintro _ _ ⟨b58, hb58, rfl, rfl⟩
                refine ⟨(Ks.consN hb58 (Ks.consK (by simp) (Ks.segK (fun k hk => by simp [hk]) (Ks.segN hcBs25 (Ks.consK (by simp) Ks.nil))))), ?_⟩
                obtain ⟨ho26, h⟩ := h
                refine xd_b hok 18 [(54, _), (58, _), (52, _)] ((b58, BK 84 _ 39) :: (Bs25 ++ ([]))) (rsC (List.Mem.head _) (rsA (Pull.sub (.thereC _ (.thereC _ (.there _ (.here _ _))))) rsN)) rfl rfl rfl (lc rfl (lc rfl (lc rfl ln))) (by kernel_rfl) ⟨_, rfl, rfl⟩ (fun H' hy hK => o_callq kf13 rfl (fun w1 hw1 => msgs_c _ _ _ _ w1 (hJs25.sl hw1 (fun x hx => hy x (Pull.sub (.thereC _ (.here _ _)) x hx))) (SL.lit (l := [(letter_F 1), (letter_F 3), (letter_F 3)]) hw1 (hy _ (List.Mem.head _)) rfl (by omega) (by simp [maxLen]) (by exact (fun i hi => match i, hi with | 0, _ => rfl | 1, _ => rfl | 2, _ => rfl | 3, _ => rfl | 4, _ => rfl | 5, _ => rfl | 6, _ => rfl | 7, _ => rfl | 8, _ => rfl | 9, _ => rfl | 10, _ => rfl | 11, _ => rfl | 12, _ => rfl | 13, _ => rfl | 14, _ => rfl | 15, _ => rfl | 16, _ => rfl | 17, _ => rfl | 18, _ => rfl | 19, _ => rfl | 20, _ => rfl | 21, _ => rfl | 22, _ => rfl | 23, _ => rfl | 24, _ => rfl | 25, _ => rfl | 26, _ => rfl | 27, _ => rfl | 28, _ => rfl | 29, _ => rfl | 30, _ => rfl | 31, _ => rfl | 32, _ => rfl | 33, _ => rfl | 34, _ => rfl | 35, _ => rfl | 36, _ => rfl | 37, _ => rfl | 38, _ => rfl | 39, _ => rfl | 40, _ => rfl | 41, _ => rfl | 42, _ => rfl | 43, _ => rfl | 44, _ => rfl | 45, _ => rfl | 46, _ => rfl | 47, _ => rfl | 48, _ => rfl | 49, _ => rfl | 50, _ => rfl | 51, _ => rfl | 52, _ => rfl | 53, _ => rfl | 54, _ => rfl | 55, _ => rfl | 56, _ => rfl | 57, _ => rfl | 58, _ => rfl | 59, _ => rfl | 60, _ => rfl | 61, _ => rfl | 62, _ => rfl | 63, _ => rfl | 64, _ => rfl | 65, _ => rfl | 66, _ => rfl | 67, _ => rfl | 68, _ => rfl | 69, _ => rfl | 70, _ => rfl | 71, _ => rfl | 72, _ => rfl | 73, _ => rfl | 74, _ => rfl | 75, _ => rfl | 76, _ => rfl | 77, _ => rfl | 78, _ => rfl | 79, _ => rfl | 80, _ => rfl | 81, _ => rfl | 82, _ => rfl | 83, _ => rfl | q + 84, h => absurd h (by omega)))) ho26)) ?_
                refine xd_b hok 19 [(52, _), (59, _)] ([]) rsN rfl rfl rfl (lc rfl (lc rfl ln)) (by kernel_rfl) trivial (fun H' hy hK => o_pick_t rfl rfl) ?_
                refine xd_b hok 20 [(60, _)] ([]) rsN rfl rfl rfl (lc rfl ln) (by kernel_rfl) trivial (fun H' hy hK => o_as rfl) ?_
                refine xd_end hok (by kernel_rfl) ?_
                refine xq_then (xw_ret ?_)
                subst h
                exact con_ret1 (.inl rfl) Try.results8 rfl [] (Kp.st (Kp.new hb58 (Kp.new hb13 (Kp.segNew (Cov.fresh hcBg18_0) (Kp.segNew (Cov.fresh hcBs25) (Kp.new hb3 Kp.nil)))))) (⟨rfl, rfl⟩)
              · have hq21 : (decide ((twice_F 9 ((deliver_F 9 ((send_F 9 ((send_F 9 ((send_F 9 ([]) (letter_F 1)).2) (letter_F 2)).2) (letter_F 3)).2) 4).2.2) (-1)).1 = 0)) = false := hg21
                have hp21 : ¬ ((twice_F 9 ((deliver_F 9 ((send_F 9 ((send_F 9 ((send_F 9 ([]) (letter_F 1)).2) (letter_F 2)).2) (letter_F 3)).2) 4).2.2) (-1)).1 = 0) := of_decide_eq_false hq21
                rw [if_neg hp21] at h
                refine xd_skip hok 12 [(1, _), (52, _)] rfl rfl rfl (lc rfl (lc rfl ln)) (by kernel_rfl) ⟨_, _, rfl, rfl, rfl⟩ ?_
                refine xd_skip hok 13 [(53, _), (52, _)] rfl rfl rfl (lc rfl (lc rfl ln)) (by kernel_rfl) ⟨_, _, rfl, rfl, rfl⟩ ?_
                refine xd_skip hok 14 [(52, _)] rfl rfl rfl (lc rfl ln) (by kernel_rfl) ⟨_, _, rfl, rfl, rfl⟩ ?_
                refine xd_skip hok 15 [(52, _)] rfl rfl rfl (lc rfl ln) (by kernel_rfl) ⟨_, _, rfl, rfl, rfl⟩ ?_
                refine xd_skip hok 16 [(52, _)] rfl rfl rfl (lc rfl ln) (by kernel_rfl) ⟨_, _, rfl, rfl, rfl⟩ ?_
                refine xd_skip hok 17 [(55, _), (56, _), (57, _), (52, _)] rfl rfl rfl (lc rfl (lc rfl (lc rfl (lc rfl ln)))) (by kernel_rfl) ⟨_, _, rfl, rfl, rfl⟩ ?_
                refine xd_skip hok 18 [(54, _), (58, _), (52, _)] rfl rfl rfl (lc rfl (lc rfl (lc rfl ln))) (by kernel_rfl) ⟨_, _, rfl, rfl, rfl⟩ ?_
                refine xd_b hok 19 [(52, _), (59, _)] ([]) rsN rfl rfl rfl (lc rfl (lc rfl ln)) (by kernel_rfl) trivial (fun H' hy hK => o_pick_f rfl rfl) ?_
                refine xd_b hok 20 [(60, _)] ([]) rsN rfl rfl rfl (lc rfl ln) (by kernel_rfl) trivial (fun H' hy hK => o_as rfl) ?_
                refine xd_end hok (by kernel_rfl) ?_
                refine xq_then (xw_ret ?_)
                subst h
                exact con_ret1 (.inl rfl) Try.results8 rfl [] (Kp.st (Kp.new hb13 (Kp.segNew (Cov.fresh hcBg18_0) (Kp.new hb3 Kp.nil)))) (⟨rfl, rfl⟩)
            · have hq20 : (decide ((deliver_F 9 ((send_F 9 ((send_F 9 ((send_F 9 ([]) (letter_F 1)).2) (letter_F 2)).2) (letter_F 3)).2) 4).2.1 = 0)) = false := hg20
              have hp20 : ¬ ((deliver_F 9 ((send_F 9 ((send_F 9 ((send_F 9 ([]) (letter_F 1)).2) (letter_F 2)).2) (letter_F 3)).2) 4).2.1 = 0) := of_decide_eq_false hq20
              rw [if_neg hp20] at h
              refine xd_skip hok 8 [(5, _), (48, _)] rfl rfl rfl (lc rfl (lc rfl ln)) (by kernel_rfl) ⟨_, _, rfl, rfl, rfl⟩ ?_
              refine xd_skip hok 9 [(49, _), (48, _)] rfl rfl rfl (lc rfl (lc rfl ln)) (by kernel_rfl) ⟨_, _, rfl, rfl, rfl⟩ ?_
              refine xd_b hok 10 [(48, _), (50, _)] ([]) rsN rfl rfl rfl (lc rfl (lc rfl ln)) (by kernel_rfl) trivial (fun H' hy hK => o_pick_f rfl rfl) ?_
              refine xd_b hok 11 [(51, _)] ([]) rsN rfl rfl rfl (lc rfl ln) (by kernel_rfl) trivial (fun H' hy hK => o_mv rfl) ?_
              refine xd_skip hok 12 [(1, _), (52, _)] rfl rfl rfl (lc rfl (lc rfl ln)) (by kernel_rfl) ⟨_, _, rfl, rfl, rfl⟩ ?_
              refine xd_skip hok 13 [(53, _), (52, _)] rfl rfl rfl (lc rfl (lc rfl ln)) (by kernel_rfl) ⟨_, _, rfl, rfl, rfl⟩ ?_
              refine xd_skip hok 14 [(52, _)] rfl rfl rfl (lc rfl ln) (by kernel_rfl) ⟨_, _, rfl, rfl, rfl⟩ ?_
              refine xd_skip hok 15 [(52, _)] rfl rfl rfl (lc rfl ln) (by kernel_rfl) ⟨_, _, rfl, rfl, rfl⟩ ?_
              refine xd_skip hok 16 [(52, _)] rfl rfl rfl (lc rfl ln) (by kernel_rfl) ⟨_, _, rfl, rfl, rfl⟩ ?_
              refine xd_skip hok 17 [(55, _), (56, _), (57, _), (52, _)] rfl rfl rfl (lc rfl (lc rfl (lc rfl (lc rfl ln)))) (by kernel_rfl) ⟨_, _, rfl, rfl, rfl⟩ ?_
              refine xd_skip hok 18 [(54, _), (58, _), (52, _)] rfl rfl rfl (lc rfl (lc rfl (lc rfl ln))) (by kernel_rfl) ⟨_, _, rfl, rfl, rfl⟩ ?_
              refine xd_b hok 19 [(52, _), (59, _)] ([]) rsN rfl rfl rfl (lc rfl (lc rfl ln)) (by kernel_rfl) trivial (fun H' hy hK => o_pick_f rfl rfl) ?_
              refine xd_b hok 20 [(60, _)] ([]) rsN rfl rfl rfl (lc rfl ln) (by kernel_rfl) trivial (fun H' hy hK => o_as rfl) ?_
              refine xd_end hok (by kernel_rfl) ?_
              refine xq_then (xw_ret ?_)
              subst h
              exact con_ret1 (.inl rfl) Try.results8 rfl [] (Kp.st (Kp.new hb13 (Kp.segNew (Cov.fresh hcBg18_0) (Kp.new hb3 Kp.nil)))) (⟨rfl, rfl⟩)
          · have hq19 : ((eqN 28 ((deliver_F 9 ((send_F 9 ((send_F 9 ((send_F 9 ([]) (letter_F 1)).2) (letter_F 2)).2) (letter_F 3)).2) 4).1) (letter_F 2))) = false := hg19
            have hp19 : ¬ (((eqN 28 ((deliver_F 9 ((send_F 9 ((send_F 9 ((send_F 9 ([]) (letter_F 1)).2) (letter_F 2)).2) (letter_F 3)).2) 4).1) (letter_F 2))) = true) := bne' hq19
            rw [if_neg hp19] at h
            refine xd_skip hok 4 [(4, _), (44, _)] rfl rfl rfl (lc rfl (lc rfl ln)) (by kernel_rfl) ⟨_, _, rfl, rfl, rfl⟩ ?_
            refine xd_skip hok 5 [(45, _), (44, _)] rfl rfl rfl (lc rfl (lc rfl ln)) (by kernel_rfl) ⟨_, _, rfl, rfl, rfl⟩ ?_
            refine xd_b hok 6 [(44, _), (46, _)] ([]) rsN rfl rfl rfl (lc rfl (lc rfl ln)) (by kernel_rfl) trivial (fun H' hy hK => o_pick_f rfl rfl) ?_
            refine xd_b hok 7 [(47, _)] ([]) rsN rfl rfl rfl (lc rfl ln) (by kernel_rfl) trivial (fun H' hy hK => o_mv rfl) ?_
            refine xd_skip hok 8 [(5, _), (48, _)] rfl rfl rfl (lc rfl (lc rfl ln)) (by kernel_rfl) ⟨_, _, rfl, rfl, rfl⟩ ?_
            refine xd_skip hok 9 [(49, _), (48, _)] rfl rfl rfl (lc rfl (lc rfl ln)) (by kernel_rfl) ⟨_, _, rfl, rfl, rfl⟩ ?_
            refine xd_b hok 10 [(48, _), (50, _)] ([]) rsN rfl rfl rfl (lc rfl (lc rfl ln)) (by kernel_rfl) trivial (fun H' hy hK => o_pick_f rfl rfl) ?_
            refine xd_b hok 11 [(51, _)] ([]) rsN rfl rfl rfl (lc rfl ln) (by kernel_rfl) trivial (fun H' hy hK => o_mv rfl) ?_
            refine xd_skip hok 12 [(1, _), (52, _)] rfl rfl rfl (lc rfl (lc rfl ln)) (by kernel_rfl) ⟨_, _, rfl, rfl, rfl⟩ ?_
            refine xd_skip hok 13 [(53, _), (52, _)] rfl rfl rfl (lc rfl (lc rfl ln)) (by kernel_rfl) ⟨_, _, rfl, rfl, rfl⟩ ?_
            refine xd_skip hok 14 [(52, _)] rfl rfl rfl (lc rfl ln) (by kernel_rfl) ⟨_, _, rfl, rfl, rfl⟩ ?_
            refine xd_skip hok 15 [(52, _)] rfl rfl rfl (lc rfl ln) (by kernel_rfl) ⟨_, _, rfl, rfl, rfl⟩ ?_
            refine xd_skip hok 16 [(52, _)] rfl rfl rfl (lc rfl ln) (by kernel_rfl) ⟨_, _, rfl, rfl, rfl⟩ ?_
            refine xd_skip hok 17 [(55, _), (56, _), (57, _), (52, _)] rfl rfl rfl (lc rfl (lc rfl (lc rfl (lc rfl ln)))) (by kernel_rfl) ⟨_, _, rfl, rfl, rfl⟩ ?_
            refine xd_skip hok 18 [(54, _), (58, _), (52, _)] rfl rfl rfl (lc rfl (lc rfl (lc rfl ln))) (by kernel_rfl) ⟨_, _, rfl, rfl, rfl⟩ ?_
            refine xd_b hok 19 [(52, _), (59, _)] ([]) rsN rfl rfl rfl (lc rfl (lc rfl ln)) (by kernel_rfl) trivial (fun H' hy hK => o_pick_f rfl rfl) ?_
            refine xd_b hok 20 [(60, _)] ([]) rsN rfl rfl rfl (lc rfl ln) (by kernel_rfl) trivial (fun H' hy hK => o_as rfl) ?_
            refine xd_end hok (by kernel_rfl) ?_
            refine xq_then (xw_ret ?_)
            subst h
            exact con_ret1 (.inl rfl) Try.results8 rfl [] (Kp.st (Kp.new hb13 (Kp.segNew (Cov.fresh hcBg18_0) (Kp.new hb3 Kp.nil)))) (⟨rfl, rfl⟩)

theorem alive05_c (w : World) (hP : alive05_P) : Con Try.prog 8 #[] w (Is (.bool alive05_F) []) :=
  alive05_con w _ (alive05_ok hP)

theorem limit5_con (limit0 : Int) (l1 : (List (Nat → Int))) (v1 : Value) (w : World) (hs1 : SL w 30 iv v1 l1) (r : Bool) (h : limit5_S limit0 l1 r) : Con Try.prog 7 #[.int .u8 limit0, v1] w (Is (.bool r) []) := by
  unfold limit5_S at h
  refine con_enter (n := 85) [(0, _), (1, _)] Try.func7 rfl Try.ntmps7 rfl (lac rfl (lac rfl lan)) ?_
  refine xw_seq (xw_region ?_)
  refine xq rfl trivial (o_as rfl) ?_
  refine xo_nil (xq_then (xw_seq (xw_seq (xw_region ?_))))
  obtain ⟨ho1, h⟩ := h
  refine xcallq rfl trivial kf8 rfl (fun w1 hw1 => alive05_c w1 ho1) ?_
  refine xq rfl trivial (o_not rfl) ?_
  refine xo_nil (xq_then ?_)
  refine xw_bool 13 rfl (fun hc2 => ?_) (fun hc2 => ?_)
  · have hq2 : (alive05_F) = false := (bnT hc2)
    have hp2 : ¬ ((alive05_F) = true) := bne' hq2
    rw [if_neg hp2] at h
    refine xw_cond_t rfl rfl (xw_seq (xw_region ?_))
    refine xq rfl trivial (o_as rfl) ?_
    refine xo_nil (xq_then (xw_ret (xq_then_ret ?_)))
    subst h
    exact con_ret1 (.inl rfl) Try.results7 rfl [] (fun _ h => h) (⟨rfl, rfl⟩)
  · have hq2 : (alive05_F) = true := (bnF hc2)
    have hp2 : (alive05_F) = true := hq2
    rw [if_pos hp2] at h
    refine xw_cond_f rfl rfl (xw_skip (xq_then (xw_seq (xw_seq (xw_region ?_)))))
    refine xq rfl trivial (o_mv rfl) ?_
    refine xq rfl trivial (o_lenL rfl Try.underlying22 rfl (SL.val hs1)) ?_
    refine xq rfl trivial (o_gtr rfl rfl) ?_
    refine xo_nil (xq_then ?_)
    refine xw_bool 16 rfl (fun hc3 => ?_) (fun hc3 => ?_)
    · have hq3 : (decide (100 < (l1.length : Int))) = true := hc3
      have hp3 : 100 < (l1.length : Int) := of_decide_eq_true hq3
      rw [if_pos hp3] at h
      refine xw_cond_t rfl rfl (xw_seq (xw_region ?_))
      refine xq rfl trivial (o_as rfl) ?_
      refine xo_nil (xq_then (xw_ret (xq_then_ret ?_)))
      subst h
      exact con_ret1 (.inl rfl) Try.results7 rfl [] (fun _ h => h) (⟨rfl, rfl⟩)
    · have hq3 : (decide (100 < (l1.length : Int))) = false := hc3
      have hp3 : ¬ (100 < (l1.length : Int)) := of_decide_eq_false hq3
      rw [if_neg hp3] at h
      refine xw_cond_f rfl rfl (xw_skip (xq_then (xw_seq (xw_region ?_))))
      refine xq rfl trivial (o_mv rfl) ?_
      refine xq rfl trivial (o_conv rfl Try.underlying5 Try.underlying3) ?_
      refine xq rfl trivial (o_rem rfl rfl (by decide) rfl) ?_
      obtain ⟨ho4, h⟩ := h
      refine xq rfl trivial (o_add rfl rfl rfl ho4) ?_
      refine xq rfl trivial (o_as rfl) ?_
      refine xo_nil (xq_then (xw_seq (xw_region ?_)))
      refine xq rfl trivial (o_mv rfl) ?_
      refine xoR rfl trivial (ot_in (l := [(0, _)]) kf9 rfl Try.func9 rfl Try.ntmps9 rfl (lac rfl lan) ?_)
      refine xw_seq (xw_region ?_)
      refine xq rfl trivial (o_as rfl) ?_
      refine xq rfl trivial (o_as rfl) ?_
      refine xo_nil (xq_then (xw_seq (xw_seq ?_)))
      refine xw_cut [(0, _)] (lc rfl ln) [(9, .bool ((decide (1 + ((IntKind.i64.wrap limit0).tmod 20) < 1)) || (decide (65536 < 1 + ((IntKind.i64.wrap limit0).tmod 20)))))] ?_ ?_
      · refine xw_region ?_
        refine xq rfl trivial (o_mv rfl) ?_
        refine xq rfl trivial (o_lss rfl rfl) ?_
        refine xq rfl trivial (o_mv rfl) ?_
        refine xo_bool 6 rfl (fun hg5 => ?_) (fun hg5 => ?_)
        · have hq5 : (decide (1 + ((IntKind.i64.wrap limit0).tmod 20) < 1)) = true := hg5
          have hp5 : 1 + ((IntKind.i64.wrap limit0).tmod 20) < 1 := of_decide_eq_true hq5
          refine xs rfl ⟨_, _, rfl, rfl, rfl⟩ (xs rfl ⟨_, _, rfl, rfl, rfl⟩ ?_)
          refine xq rfl trivial (o_pick_t rfl rfl) ?_
          refine xo_nil ?_
          exact xq_cut ((lce rfl (by first | rfl | (simp only [hq2, hq3, hq5, if_pos hp2, if_neg hp3, if_pos hp5, bS]; done) | (simp [hp2, hp3, hp5]; done) | (simp_all; done)) (lc rfl ln))) (fun _ h => h)
        · have hq5 : (decide (1 + ((IntKind.i64.wrap limit0).tmod 20) < 1)) = false := hg5
          have hp5 : ¬ (1 + ((IntKind.i64.wrap limit0).tmod 20) < 1) := of_decide_eq_false hq5
          refine xq rfl ⟨_, rfl, rfl⟩ (o_mv rfl) ?_
          refine xq rfl ⟨_, rfl, rfl⟩ (o_gtr rfl rfl) ?_
          refine xq rfl trivial (o_pick_f rfl rfl) ?_
          refine xo_nil ?_
          exact xq_cut ((lce rfl (by first | rfl | (simp only [hq2, hq3, hq5, if_pos hp2, if_neg hp3, if_neg hp5, bS]; done) | (simp [hp2, hp3, hp5]; done) | (simp_all; done)) (lc rfl ln))) (fun _ h => h)
      · refine xq_then ?_
        refine xw_bool 9 rfl (fun hc6 => ?_) (fun hc6 => ?_)
        · have hq6 : ((decide (1 + ((IntKind.i64.wrap limit0).tmod 20) < 1)) || (decide (65536 < 1 + ((IntKind.i64.wrap limit0).tmod 20)))) = true := hc6
          have hp6 : ((decide (1 + ((IntKind.i64.wrap limit0).tmod 20) < 1)) || (decide (65536 < 1 + ((IntKind.i64.wrap limit0).tmod 20)))) = true := hq6
          rw [if_pos hp6] at h
          refine xw_cond_t rfl rfl (xw_seq (xw_region ?_))
          refine xq rfl trivial (o_mki rfl Try.underlying62 rfl) ?_
          refine xq rfl trivial (o_as rfl) ?_
          refine xq rfl trivial (o_as rfl) ?_
          refine xo_nil (xq_then (xw_ret (xq_then_ret ?_)))
          refine con_ret2 (.inl rfl) Try.results9 rfl rfl _ (fun _ h => h) (?_)
          refine xq rfl trivial (o_mv rfl) ?_
          refine xq rfl trivial (o_ext rfl rfl) ?_
          refine xq rfl trivial (o_ext rfl rfl) ?_
          refine xq rfl trivial (o_as rfl) ?_
          refine xq rfl trivial (o_as rfl) ?_
          refine xo_nil (xq_then (xw_seq (xw_seq ?_)))
          refine xw_cut [(1, _), (5, _), (6, _)] (lc rfl (lc rfl (lc rfl ln))) [(31, .bool true)] ?_ ?_
          · refine xw_region ?_
            refine xq rfl trivial (o_mv rfl) ?_
            refine xq rfl trivial (o_eqn Try.underlying24 rfl rfl rfl rfl) ?_
            refine xq rfl trivial (o_mv rfl) ?_
            refine xs rfl ⟨_, _, rfl, rfl, rfl⟩ (xs rfl ⟨_, _, rfl, rfl, rfl⟩ ?_)
            refine xq rfl trivial (o_pick_t rfl rfl) ?_
            refine xo_nil ?_
            exact xq_cut ((lce rfl (by first | rfl | (simp only [hq2, hq3, hq6, if_pos hp2, if_neg hp3, if_pos hp6, bS]; done) | (simp [hp2, hp3, hp6]; done) | (simp_all; done)) (lc rfl (lc rfl (lc rfl ln))))) (fun _ h => h)
          · refine xq_then (xw_cond_t rfl rfl (xw_seq (xw_region ?_)))
            refine xq rfl trivial (o_as rfl) ?_
            refine xo_nil (xq_then (xw_ret (xq_then_ret ?_)))
            subst h
            exact con_ret1 (.inl rfl) Try.results7 rfl [] (fun _ h => h) (⟨rfl, rfl⟩)
        · have hq6 : ((decide (1 + ((IntKind.i64.wrap limit0).tmod 20) < 1)) || (decide (65536 < 1 + ((IntKind.i64.wrap limit0).tmod 20)))) = false := hc6
          have hp6 : ¬ (((decide (1 + ((IntKind.i64.wrap limit0).tmod 20) < 1)) || (decide (65536 < 1 + ((IntKind.i64.wrap limit0).tmod 20)))) = true) := bne' hq6
          rw [if_neg hp6] at h
          refine xw_cond_f rfl rfl (xw_skip (xq_then (xw_seq (xw_region ?_))))
          refine xq rfl trivial (o_mv rfl) ?_
          refine xq rfl trivial (o_buildC [.int .i64 (1 + ((IntKind.i64.wrap limit0).tmod 20)), .slice none 0 0] fk64 ze64 (.one fl64_0 rfl rfl rfl (.nil _)) (fun i hi => match i, hi with | 0, _ => rfl | 1, _ => rfl | q + 2, h => absurd h (by omega))) ?_
          refine xo rfl trivial (o_boxC [.int .i64 (1 + ((IntKind.i64.wrap limit0).tmod 20)), .slice none 0 0] rfl (fun i hi => match i, hi with | 0, _ => rfl | 1, _ => rfl | q + 2, h => absurd h (by omega))) ?_
          rintro _ _ ⟨b13, hb13, rfl, rfl⟩
          refine xq rfl trivial (o_as rfl) ?_
          refine xq rfl trivial (o_as rfl) ?_
          refine xo_nil (xq_then (xw_ret ?_))
          refine con_ret2 (.inl rfl) Try.results9 rfl rfl _ (fun _ h => h) (?_)
          refine xq rfl trivial (o_mv rfl) ?_
          refine xq rfl trivial (o_ext rfl rfl) ?_
          refine xq rfl trivial (o_ext rfl rfl) ?_
          refine xq rfl trivial (o_as rfl) ?_
          refine xq rfl trivial (o_as rfl) ?_
          refine xo_nil (xq_then (xw_seq (xw_seq ?_)))
          refine xw_cut [(1, _), (5, _), (6, _)] (lc rfl (lc rfl (lc rfl ln))) [(31, .bool false)] ?_ ?_
          · refine xw_region ?_
            refine xq rfl trivial (o_mv rfl) ?_
            refine xq rfl trivial (o_eqn Try.underlying24 rfl rfl rfl rfl) ?_
            refine xq rfl trivial (o_mv rfl) ?_
            refine xq rfl ⟨_, rfl, rfl⟩ (o_mv rfl) ?_
            refine xq rfl ⟨_, rfl, rfl⟩ (o_nen Try.underlying26 rfl rfl rfl rfl) ?_
            refine xq rfl trivial (o_pick_f rfl rfl) ?_
            refine xo_nil ?_
            exact xq_cut ((lce rfl (by first | rfl | (simp only [hq2, hq3, hq6, if_pos hp2, if_neg hp3, if_neg hp6, bS]; done) | (simp [hp2, hp3, hp6]; done) | (simp_all; done)) (lc rfl (lc rfl (lc rfl ln))))) (fun _ h => h)
          · refine xq_then (xw_cond_f rfl rfl (xw_skip (xq_then (xw_seq (xw_seq (xw_region ?_))))))
            refine xq rfl trivial (o_as rfl) ?_
            refine xo_nil (xq_then ?_)
            refine xw_block ?_
            obtain ⟨x1, hx1, h⟩ := h
            refine xw_wh (fun s e H => match s with | (i8, fb13_1) => ∃ (vb13_1_1 : Value) (Bb13_1_1 : GH), e = [(1, v1), (5, .int .i64 (1 + ((IntKind.i64.wrap limit0).tmod 20))), (6, .pointer (some ⟨b13, 0, none⟩)), (8, .int .i64 i8)] ∧ H = Bb13_1_1 ++ ((b13, BK 2 (cl [.int .i64 (1 + ((IntKind.i64.wrap limit0).tmod 20)), vb13_1_1]) 64) :: ([])) ∧ OJ 39 28 iv Bb13_1_1 vb13_1_1 fb13_1 ∧ Cov w [] Bb13_1_1) (fun x ex e H => match x with | .inl fb13_1 => ∃ (vb13_1_1o : Value) (Bb13_1_1o : GH), ex = .exit 0 ∧ e = [] ∧ H = Bb13_1_1o ++ ((b13, BK 2 (cl [.int .i64 (1 + ((IntKind.i64.wrap limit0).tmod 20)), vb13_1_1o]) 64) :: ([])) ∧ OJ 39 28 iv Bb13_1_1o vb13_1_1o fb13_1 ∧ Cov w [] Bb13_1_1o | .inr fb13_1 => ∃ (vb13_1_1o : Value) (Bb13_1_1o : GH), ex = .ret ∧ e = [(4, .bool false)] ∧ H = Bb13_1_1o ++ ((b13, BK 2 (cl [.int .i64 (1 + ((IntKind.i64.wrap limit0).tmod 20)), vb13_1_1o]) 64) :: ([])) ∧ OJ 39 28 iv Bb13_1_1o vb13_1_1o fb13_1 ∧ Cov w [] Bb13_1_1o) hx1 ⟨[(1, v1), (5, .int .i64 (1 + ((IntKind.i64.wrap limit0).tmod 20))), (6, .pointer (some ⟨b13, 0, none⟩)), (8, .int .i64 0)], [] ++ ((b13, BK 2 (cl [.int .i64 (1 + ((IntKind.i64.wrap limit0).tmod 20)), .slice none 0 0]) 64) :: ([])), (lc rfl (lc rfl (lc rfl (lc rfl ln)))), fun _ h => h, ⟨_, [], rfl, rfl, OJ.nil, (Cov.refl _)⟩⟩ ?_ ?_
            · rintro ⟨i8, fb13_1⟩ o _ _ ⟨vb13_1_1, Bb13_1_1, rfl, rfl, hJb13_1_1, hcBb13_1_1⟩ hb
              have h : limit5_l1 limit0 l1 i8 fb13_1 o := hb
              clear hb
              unfold limit5_l1 at h
              refine xw_seq (xw_seq (xw_region ?_))
              refine xq rfl trivial (o_mv rfl) ?_
              refine xq rfl trivial (o_mv rfl) ?_
              refine xq rfl trivial (o_lenL rfl Try.underlying22 rfl (SL.val hs1)) ?_
              refine xq rfl trivial (o_lss rfl rfl) ?_
              refine xo_nil (xq_then ?_)
              refine xw_bool 35 rfl (fun hc7 => ?_) (fun hc7 => ?_)
              · have hq7 : (decide (i8 < (l1.length : Int))) = true := hc7
                have hp7 : i8 < (l1.length : Int) := of_decide_eq_true hq7
                rw [if_pos hp7] at h
                refine xw_cond_t rfl rfl (xw_skip (xq_then (xw_seq ?_)))
                refine xw_block ?_
                refine xw_seq (xw_region ?_)
                refine xq rfl trivial (o_mv rfl) ?_
                refine xo rfl trivial (OT.st (fun _ h => St.permI [1, 0] [Bb13_1_1, [(b13, _)]] rfl h) (ot_callF (Cs := [[(b13, _)], Bb13_1_1]) (Rs := []) kf16 rfl (fun w1 hw1 => nlen_c _ _ _ _ _ w1 hJb13_1_1 (St.hasC hw1)) (fun _ _ _ h => h.1))) ?_
                rintro _ _ ⟨w1, _, rfl, hle, -, rfl, rfl⟩
                refine xo_st ((b13, BK 2 (cl [.int .i64 (1 + ((IntKind.i64.wrap limit0).tmod 20)), vb13_1_1]) 64) :: (Bb13_1_1 ++ ([]))) (fun _ h => h) ?_
                refine xq rfl trivial (o_as rfl) ?_
                refine xo_nil (xq_then (xw_seq (xw_region ?_)))
                refine xq rfl trivial (o_mv rfl) ?_
                refine xq rfl trivial (o_mv rfl) ?_
                refine xq rfl trivial (o_mv rfl) ?_
                obtain ⟨ho10, h⟩ := h
                refine xq rfl trivial (o_ixL el22 rfl rfl (fun w hw => (hs1.keep hw (Fr.cons hb13 (Fr.seg hcBb13_1_1 Fr.nil)))) rfl ho10) ?_
                refine xq rfl trivial (o_ldLI rfl ts43 rfl (fun w hw => (hs1.keep hw (Fr.cons hb13 (Fr.seg hcBb13_1_1 Fr.nil)))) (toNat_lt ho10) rfl) ?_
                obtain ⟨ho11, h⟩ := h
                refine xo rfl trivial (OT.st (fun _ h => h) (ot_callF (Cs := [[(b13, _)], Bb13_1_1]) (Rs := []) kf11 rfl (fun w1 hw1 => act_c _ _ _ _ _ _ w1 hJb13_1_1 (St.hasC hw1) ho11) (fun _ _ _ h => h.1))) ?_
                rintro _ _ ⟨w1, _, rfl, hle, -, vg13_0, Bg13_0, rfl, rfl, hJBg13_0, hcBg13_0⟩
                replace hcBg13_0 := Cov.trans hcBb13_1_1 (Cov.base (w0 := w) hcBg13_0 hle)
                refine xo_st ((b13, BK 2 (cl [.int .i64 (1 + ((IntKind.i64.wrap limit0).tmod 20)), vg13_0]) 64) :: (Bg13_0 ++ ([]))) (fun _ h => h) ?_
                refine xq rfl trivial (o_mv rfl) ?_
                refine xq rfl trivial (o_ext rfl rfl) ?_
                refine xq rfl trivial (o_ext rfl rfl) ?_
                refine xo rfl trivial (o_alloc ze39 rfl) ?_
                rintro _ _ ⟨b10, hb10, rfl, rfl⟩
                refine xq0 trivial (o_stWI rfl rfl ts39 (List.Mem.head _) (.here _ _ _ _)) ?_
                refine xq rfl trivial (o_as rfl) ?_
                refine xo_nil (xq_then (xw_seq (xw_region ?_)))
                refine xq rfl trivial (o_mv rfl) ?_
                refine xq rfl trivial (o_eql rfl rfl) ?_
                refine xq rfl trivial (o_mv rfl) ?_
                refine xq rfl trivial (o_mv rfl) ?_
                refine xq rfl trivial (o_eql rfl rfl) ?_
                refine xq rfl trivial (o_mv rfl) ?_
                refine xo_bool 54 rfl (fun hg14 => ?_) (fun hg14 => ?_)
                · have hq14 : (decide ((nlen_F (1 + ((IntKind.i64.wrap limit0).tmod 20)) fb13_1) = 1 + ((IntKind.i64.wrap limit0).tmod 20))) = true := hg14
                  have hp14 : (nlen_F (1 + ((IntKind.i64.wrap limit0).tmod 20)) fb13_1) = 1 + ((IntKind.i64.wrap limit0).tmod 20) := of_decide_eq_true hq14
                  rw [if_pos hp14] at h
                  refine xq rfl ⟨_, rfl, rfl⟩ (o_mv rfl) ?_
                  refine xq rfl ⟨_, rfl, rfl⟩ (o_mv rfl) ?_
                  obtain ⟨ho15, h⟩ := h
                  refine xq rfl ⟨_, rfl, rfl⟩ (o_ixL el22 rfl rfl (fun w hw => (hs1.keep hw (Fr.cons hb10 (Fr.cons hb13 (Fr.seg hcBg13_0 Fr.nil))))) rfl ho15) ?_
                  refine xq rfl ⟨_, rfl, rfl⟩ (o_faL fl43_0 rfl rfl (fun w hw => (hs1.keep hw (Fr.cons hb10 (Fr.cons hb13 (Fr.seg hcBg13_0 Fr.nil))))) (toNat_lt ho15)) ?_
                  refine xq rfl ⟨_, rfl, rfl⟩ (o_ldL1 (off := 0) (u := .int .i64 (l1[i8.toNat]! 0)) rfl ts3 rfl (fun w hw => (hs1.keep hw (Fr.cons hb10 (Fr.cons hb13 (Fr.seg hcBg13_0 Fr.nil))))) (toNat_lt ho15) rfl rfl) ?_
                  refine xq rfl ⟨_, rfl, rfl⟩ (o_eql rfl rfl) ?_
                  refine xq rfl ⟨_, rfl, rfl⟩ (o_mv rfl) ?_
                  refine xo_bool 61 rfl (fun hg16 => ?_) (fun hg16 => ?_)
                  · have hq16 : (decide (l1[i8.toNat]! 0 = 0)) = true := hg16
                    have hp16 : l1[i8.toNat]! 0 = 0 := of_decide_eq_true hq16
                    rw [if_pos hp16] at h
                    refine xq rfl ⟨_, rfl, rfl⟩ (o_mv rfl) ?_
                    refine xq rfl ⟨_, rfl, rfl⟩ (o_mv rfl) ?_
                    obtain ⟨ho17, h⟩ := h
                    refine xq rfl ⟨_, rfl, rfl⟩ (o_ixL el22 rfl rfl (fun w hw => (hs1.keep hw (Fr.cons hb10 (Fr.cons hb13 (Fr.seg hcBg13_0 Fr.nil))))) rfl ho17) ?_
                    refine xq rfl ⟨_, rfl, rfl⟩ (o_faL fl43_2 rfl rfl (fun w hw => (hs1.keep hw (Fr.cons hb10 (Fr.cons hb13 (Fr.seg hcBg13_0 Fr.nil))))) (toNat_lt ho17)) ?_
                    refine xq rfl ⟨_, rfl, rfl⟩ (o_ldLA (f := iv (fun i => (l1[i8.toNat]!) (2 + i))) rfl ts39 rfl rfl (fun w hw => (hs1.keep hw (Fr.cons hb10 (Fr.cons hb13 (Fr.seg hcBg13_0 Fr.nil))))) (toNat_lt ho17) rfl (fun _ _ => rfl)) ?_
                    refine xcallq rfl ⟨_, rfl, rfl⟩ kf22 rfl (fun w1 hw1 => ref04Ok_c _ w1) ?_
                    refine xq rfl ⟨_, rfl, rfl⟩ (o_pick_t rfl rfl) ?_
                    refine xq rfl ⟨_, rfl, rfl⟩ (o_mv rfl) ?_
                    refine xo_bool 69 rfl (fun hg18 => ?_) (fun hg18 => ?_)
                    · have hq18 : ((okB (fun i => (l1[i8.toNat]!) (2 + i)))) = true := hg18
                      have hp18 : ((okB (fun i => (l1[i8.toNat]!) (2 + i)))) = true := hq18
                      rw [if_pos hp18] at h
                      refine xs rfl ⟨_, _, rfl, rfl, rfl⟩ (xs rfl ⟨_, _, rfl, rfl, rfl⟩ (xs rfl ⟨_, _, rfl, rfl, rfl⟩ (xs rfl ⟨_, _, rfl, rfl, rfl⟩ (xs rfl ⟨_, _, rfl, rfl, rfl⟩ (xs rfl ⟨_, _, rfl, rfl, rfl⟩ ?_)))))
                      refine xq rfl ⟨_, rfl, rfl⟩ (o_pick_t rfl rfl) ?_
                      refine xq rfl trivial (o_pick_t rfl rfl) ?_
                      refine xq rfl trivial (o_neqB Try.underlying4 rfl rfl) ?_
                      refine xq rfl trivial (o_mv rfl) ?_
                      refine xo_bool 79 rfl (fun hg19 => ?_) (fun hg19 => ?_)
                      · have hq19 : (((decide ((act_F (1 + ((IntKind.i64.wrap limit0).tmod 20)) fb13_1 (l1[i8.toNat]!)).2.1 = 6)) == (true))) = false := (bnT hg19)
                        have hp19 : ¬ ((((decide ((act_F (1 + ((IntKind.i64.wrap limit0).tmod 20)) fb13_1 (l1[i8.toNat]!)).2.1 = 6)) == (true))) = true) := bne' hq19
                        rw [if_neg hp19] at h
                        refine xs rfl ⟨_, _, rfl, rfl, rfl⟩ (xs rfl ⟨_, _, rfl, rfl, rfl⟩ (xs rfl ⟨_, _, rfl, rfl, rfl⟩ (xs rfl ⟨_, _, rfl, rfl, rfl⟩ ?_)))
                        refine xq rfl trivial (o_pick_t rfl rfl) ?_
                        refine xo_nil (xq_then (xw_cond_t rfl rfl (xw_seq (xw_region ?_))))
                        refine xq rfl trivial (o_as rfl) ?_
                        refine xo_nil (xq_then (xw_ret (xq_blk_ret (xq_then_ret ?_))))
                        exact xq_out (r := (.inr ((act_F (1 + ((IntKind.i64.wrap limit0).tmod 20)) fb13_1 (l1[i8.toNat]!)).2.2) : ((List (Nat → Int))) ⊕ ((List (Nat → Int))))) (e' := [(4, .bool false)]) (Bg13_0 ++ ((b13, BK 2 (cl [.int .i64 (1 + ((IntKind.i64.wrap limit0).tmod 20)), vg13_0]) 64) :: ([]))) (lc rfl ln) (fun _ h => St.permI [1, 0] [[(b13, _)], Bg13_0] rfl (Kp.st (Kp.new hb10 (Kp.keep (Kp.segKeep Kp.nil))) _ h)) h (by intro hh; cases hh) ⟨vg13_0, Bg13_0, rfl, rfl, rfl, hJBg13_0, hcBg13_0⟩
                      · have hq19 : (((decide ((act_F (1 + ((IntKind.i64.wrap limit0).tmod 20)) fb13_1 (l1[i8.toNat]!)).2.1 = 6)) == (true))) = true := (bnF hg19)
                        have hp19 : (((decide ((act_F (1 + ((IntKind.i64.wrap limit0).tmod 20)) fb13_1 (l1[i8.toNat]!)).2.1 = 6)) == (true))) = true := hq19
                        rw [if_pos hp19] at h
                        refine xq rfl ⟨_, rfl, rfl⟩ (o_mv rfl) ?_
                        refine xo rfl ⟨_, rfl, rfl⟩ (OT.st (fun _ h => St.permI [1, 2, 0] [[(b10, _)], [(b13, _)], Bg13_0] rfl h) (ot_callF (Cs := [[(b13, _)], Bg13_0]) (Rs := [[(b10, _)]]) kf16 rfl (fun w1 hw1 => nlen_c _ _ _ _ _ w1 hJBg13_0 (St.hasC hw1)) (fun _ _ _ h => h.1))) ?_
                        rintro _ _ ⟨w1, _, rfl, hle, -, rfl, rfl⟩
                        refine xo_st ((b13, BK 2 (cl [.int .i64 (1 + ((IntKind.i64.wrap limit0).tmod 20)), vg13_0]) 64) :: (Bg13_0 ++ ((b10, BK 28 (iv ((act_F (1 + ((IntKind.i64.wrap limit0).tmod 20)) fb13_1 (l1[i8.toNat]!)).1)) 39) :: ([])))) (fun _ h => h) ?_
                        refine xq rfl ⟨_, rfl, rfl⟩ (o_mv rfl) ?_
                        refine xq rfl ⟨_, rfl, rfl⟩ (o_gtr rfl rfl) ?_
                        refine xq rfl trivial (o_pick_f rfl rfl) ?_
                        refine xo_nil (xq_then ?_)
                        refine xw_bool 84 rfl (fun hc22 => ?_) (fun hc22 => ?_)
                        · have hq22 : (decide (1 + ((IntKind.i64.wrap limit0).tmod 20) < (nlen_F (1 + ((IntKind.i64.wrap limit0).tmod 20)) ((act_F (1 + ((IntKind.i64.wrap limit0).tmod 20)) fb13_1 (l1[i8.toNat]!)).2.2)))) = true := hc22
                          have hp22 : 1 + ((IntKind.i64.wrap limit0).tmod 20) < (nlen_F (1 + ((IntKind.i64.wrap limit0).tmod 20)) ((act_F (1 + ((IntKind.i64.wrap limit0).tmod 20)) fb13_1 (l1[i8.toNat]!)).2.2)) := of_decide_eq_true hq22
                          rw [if_pos hp22] at h
                          refine xw_cond_t rfl rfl (xw_seq (xw_region ?_))
                          refine xq rfl trivial (o_as rfl) ?_
                          refine xo_nil (xq_then (xw_ret (xq_blk_ret (xq_then_ret ?_))))
                          exact xq_out (r := (.inr ((act_F (1 + ((IntKind.i64.wrap limit0).tmod 20)) fb13_1 (l1[i8.toNat]!)).2.2) : ((List (Nat → Int))) ⊕ ((List (Nat → Int))))) (e' := [(4, .bool false)]) (Bg13_0 ++ ((b13, BK 2 (cl [.int .i64 (1 + ((IntKind.i64.wrap limit0).tmod 20)), vg13_0]) 64) :: ([]))) (lc rfl ln) (fun _ h => St.permI [1, 0] [[(b13, _)], Bg13_0] rfl (Kp.st (Kp.keep (Kp.segKeep (Kp.new hb10 Kp.nil))) _ h)) h (by intro hh; cases hh) ⟨vg13_0, Bg13_0, rfl, rfl, rfl, hJBg13_0, hcBg13_0⟩
                        · have hq22 : (decide (1 + ((IntKind.i64.wrap limit0).tmod 20) < (nlen_F (1 + ((IntKind.i64.wrap limit0).tmod 20)) ((act_F (1 + ((IntKind.i64.wrap limit0).tmod 20)) fb13_1 (l1[i8.toNat]!)).2.2)))) = false := hc22
                          have hp22 : ¬ (1 + ((IntKind.i64.wrap limit0).tmod 20) < (nlen_F (1 + ((IntKind.i64.wrap limit0).tmod 20)) ((act_F (1 + ((IntKind.i64.wrap limit0).tmod 20)) fb13_1 (l1[i8.toNat]!)).2.2))) := of_decide_eq_false hq22
                          rw [if_neg hp22] at h
                          refine xw_cond_f rfl rfl (xw_skip ?_)
                          refine xq_blk 1 ?_
                          refine xq_then (xw_region ?_)
                          refine xq rfl trivial (o_mv rfl) ?_
                          obtain ⟨ho23, h⟩ := h
                          refine xq rfl trivial (o_add rfl rfl rfl ho23) ?_
                          refine xq rfl trivial (o_as rfl) ?_
                          refine xo_nil ?_
                          exact xq_next (s' := ((i8 + 1, (act_F (1 + ((IntKind.i64.wrap limit0).tmod 20)) fb13_1 (l1[i8.toNat]!)).2.2) : Int × (List (Nat → Int)))) (e' := [(1, v1), (5, .int .i64 (1 + ((IntKind.i64.wrap limit0).tmod 20))), (6, .pointer (some ⟨b13, 0, none⟩)), (8, .int .i64 (i8 + 1))]) (Bg13_0 ++ ((b13, BK 2 (cl [.int .i64 (1 + ((IntKind.i64.wrap limit0).tmod 20)), vg13_0]) 64) :: ([]))) (lc rfl (lc rfl (lc rfl (lc rfl ln)))) (fun _ h => St.permI [1, 0] [[(b13, _)], Bg13_0] rfl (Kp.st (Kp.keep (Kp.segKeep (Kp.new hb10 Kp.nil))) _ h)) h ⟨vg13_0, Bg13_0, rfl, rfl, hJBg13_0, hcBg13_0⟩
                    · have hq18 : ((okB (fun i => (l1[i8.toNat]!) (2 + i)))) = false := hg18
                      have hp18 : ¬ (((okB (fun i => (l1[i8.toNat]!) (2 + i)))) = true) := bne' hq18
                      rw [if_neg hp18] at h
                      refine xq rfl ⟨_, rfl, rfl⟩ (o_mv rfl) ?_
                      refine xq rfl ⟨_, rfl, rfl⟩ (o_mv rfl) ?_
                      obtain ⟨ho24, h⟩ := h
                      refine xq rfl ⟨_, rfl, rfl⟩ (o_ixL el22 rfl rfl (fun w hw => (hs1.keep hw (Fr.cons hb10 (Fr.cons hb13 (Fr.seg hcBg13_0 Fr.nil))))) rfl ho24) ?_
                      refine xq rfl ⟨_, rfl, rfl⟩ (o_faL fl43_0 rfl rfl (fun w hw => (hs1.keep hw (Fr.cons hb10 (Fr.cons hb13 (Fr.seg hcBg13_0 Fr.nil))))) (toNat_lt ho24)) ?_
                      refine xq rfl ⟨_, rfl, rfl⟩ (o_ldL1 (off := 0) (u := .int .i64 (l1[i8.toNat]! 0)) rfl ts3 rfl (fun w hw => (hs1.keep hw (Fr.cons hb10 (Fr.cons hb13 (Fr.seg hcBg13_0 Fr.nil))))) (toNat_lt ho24) rfl rfl) ?_
                      refine xq rfl ⟨_, rfl, rfl⟩ (o_eql rfl rfl) ?_
                      refine xq rfl ⟨_, rfl, rfl⟩ (o_pick_f rfl rfl) ?_
                      refine xq rfl trivial (o_pick_t rfl rfl) ?_
                      refine xq rfl trivial (o_neqB Try.underlying4 rfl rfl) ?_
                      refine xq rfl trivial (o_mv rfl) ?_
                      refine xo_bool 79 rfl (fun hg25 => ?_) (fun hg25 => ?_)
                      · have hq25 : (((decide ((act_F (1 + ((IntKind.i64.wrap limit0).tmod 20)) fb13_1 (l1[i8.toNat]!)).2.1 = 6)) == (decide (l1[i8.toNat]! 0 = 3)))) = false := (bnT hg25)
                        have hp25 : ¬ ((((decide ((act_F (1 + ((IntKind.i64.wrap limit0).tmod 20)) fb13_1 (l1[i8.toNat]!)).2.1 = 6)) == (decide (l1[i8.toNat]! 0 = 3)))) = true) := bne' hq25
                        rw [if_neg hp25] at h
                        refine xs rfl ⟨_, _, rfl, rfl, rfl⟩ (xs rfl ⟨_, _, rfl, rfl, rfl⟩ (xs rfl ⟨_, _, rfl, rfl, rfl⟩ (xs rfl ⟨_, _, rfl, rfl, rfl⟩ ?_)))
                        refine xq rfl trivial (o_pick_t rfl rfl) ?_
                        refine xo_nil (xq_then (xw_cond_t rfl rfl (xw_seq (xw_region ?_))))
                        refine xq rfl trivial (o_as rfl) ?_
                        refine xo_nil (xq_then (xw_ret (xq_blk_ret (xq_then_ret ?_))))
                        exact xq_out (r := (.inr ((act_F (1 + ((IntKind.i64.wrap limit0).tmod 20)) fb13_1 (l1[i8.toNat]!)).2.2) : ((List (Nat → Int))) ⊕ ((List (Nat → Int))))) (e' := [(4, .bool false)]) (Bg13_0 ++ ((b13, BK 2 (cl [.int .i64 (1 + ((IntKind.i64.wrap limit0).tmod 20)), vg13_0]) 64) :: ([]))) (lc rfl ln) (fun _ h => St.permI [1, 0] [[(b13, _)], Bg13_0] rfl (Kp.st (Kp.new hb10 (Kp.keep (Kp.segKeep Kp.nil))) _ h)) h (by intro hh; cases hh) ⟨vg13_0, Bg13_0, rfl, rfl, rfl, hJBg13_0, hcBg13_0⟩
                      · have hq25 : (((decide ((act_F (1 + ((IntKind.i64.wrap limit0).tmod 20)) fb13_1 (l1[i8.toNat]!)).2.1 = 6)) == (decide (l1[i8.toNat]! 0 = 3)))) = true := (bnF hg25)
                        have hp25 : (((decide ((act_F (1 + ((IntKind.i64.wrap limit0).tmod 20)) fb13_1 (l1[i8.toNat]!)).2.1 = 6)) == (decide (l1[i8.toNat]! 0 = 3)))) = true := hq25
                        rw [if_pos hp25] at h
                        refine xq rfl ⟨_, rfl, rfl⟩ (o_mv rfl) ?_
                        refine xo rfl ⟨_, rfl, rfl⟩ (OT.st (fun _ h => St.permI [1, 2, 0] [[(b10, _)], [(b13, _)], Bg13_0] rfl h) (ot_callF (Cs := [[(b13, _)], Bg13_0]) (Rs := [[(b10, _)]]) kf16 rfl (fun w1 hw1 => nlen_c _ _ _ _ _ w1 hJBg13_0 (St.hasC hw1)) (fun _ _ _ h => h.1))) ?_
                        rintro _ _ ⟨w1, _, rfl, hle, -, rfl, rfl⟩
                        refine xo_st ((b13, BK 2 (cl [.int .i64 (1 + ((IntKind.i64.wrap limit0).tmod 20)), vg13_0]) 64) :: (Bg13_0 ++ ((b10, BK 28 (iv ((act_F (1 + ((IntKind.i64.wrap limit0).tmod 20)) fb13_1 (l1[i8.toNat]!)).1)) 39) :: ([])))) (fun _ h => h) ?_
                        refine xq rfl ⟨_, rfl, rfl⟩ (o_mv rfl) ?_
                        refine xq rfl ⟨_, rfl, rfl⟩ (o_gtr rfl rfl) ?_
                        refine xq rfl trivial (o_pick_f rfl rfl) ?_
                        refine xo_nil (xq_then ?_)
                        refine xw_bool 84 rfl (fun hc28 => ?_) (fun hc28 => ?_)
                        · have hq28 : (decide (1 + ((IntKind.i64.wrap limit0).tmod 20) < (nlen_F (1 + ((IntKind.i64.wrap limit0).tmod 20)) ((act_F (1 + ((IntKind.i64.wrap limit0).tmod 20)) fb13_1 (l1[i8.toNat]!)).2.2)))) = true := hc28
                          have hp28 : 1 + ((IntKind.i64.wrap limit0).tmod 20) < (nlen_F (1 + ((IntKind.i64.wrap limit0).tmod 20)) ((act_F (1 + ((IntKind.i64.wrap limit0).tmod 20)) fb13_1 (l1[i8.toNat]!)).2.2)) := of_decide_eq_true hq28
                          rw [if_pos hp28] at h
                          refine xw_cond_t rfl rfl (xw_seq (xw_region ?_))
                          refine xq rfl trivial (o_as rfl) ?_
                          refine xo_nil (xq_then (xw_ret (xq_blk_ret (xq_then_ret ?_))))
                          exact xq_out (r := (.inr ((act_F (1 + ((IntKind.i64.wrap limit0).tmod 20)) fb13_1 (l1[i8.toNat]!)).2.2) : ((List (Nat → Int))) ⊕ ((List (Nat → Int))))) (e' := [(4, .bool false)]) (Bg13_0 ++ ((b13, BK 2 (cl [.int .i64 (1 + ((IntKind.i64.wrap limit0).tmod 20)), vg13_0]) 64) :: ([]))) (lc rfl ln) (fun _ h => St.permI [1, 0] [[(b13, _)], Bg13_0] rfl (Kp.st (Kp.keep (Kp.segKeep (Kp.new hb10 Kp.nil))) _ h)) h (by intro hh; cases hh) ⟨vg13_0, Bg13_0, rfl, rfl, rfl, hJBg13_0, hcBg13_0⟩
                        · have hq28 : (decide (1 + ((IntKind.i64.wrap limit0).tmod 20) < (nlen_F (1 + ((IntKind.i64.wrap limit0).tmod 20)) ((act_F (1 + ((IntKind.i64.wrap limit0).tmod 20)) fb13_1 (l1[i8.toNat]!)).2.2)))) = false := hc28
                          have hp28 : ¬ (1 + ((IntKind.i64.wrap limit0).tmod 20) < (nlen_F (1 + ((IntKind.i64.wrap limit0).tmod 20)) ((act_F (1 + ((IntKind.i64.wrap limit0).tmod 20)) fb13_1 (l1[i8.toNat]!)).2.2))) := of_decide_eq_false hq28
                          rw [if_neg hp28] at h
                          refine xw_cond_f rfl rfl (xw_skip ?_)
                          refine xq_blk 1 ?_
                          refine xq_then (xw_region ?_)
                          refine xq rfl trivial (o_mv rfl) ?_
                          obtain ⟨ho29, h⟩ := h
                          refine xq rfl trivial (o_add rfl rfl rfl ho29) ?_
                          refine xq rfl trivial (o_as rfl) ?_
                          refine xo_nil ?_
                          exact xq_next (s' := ((i8 + 1, (act_F (1 + ((IntKind.i64.wrap limit0).tmod 20)) fb13_1 (l1[i8.toNat]!)).2.2) : Int × (List (Nat → Int)))) (e' := [(1, v1), (5, .int .i64 (1 + ((IntKind.i64.wrap limit0).tmod 20))), (6, .pointer (some ⟨b13, 0, none⟩)), (8, .int .i64 (i8 + 1))]) (Bg13_0 ++ ((b13, BK 2 (cl [.int .i64 (1 + ((IntKind.i64.wrap limit0).tmod 20)), vg13_0]) 64) :: ([]))) (lc rfl (lc rfl (lc rfl (lc rfl ln)))) (fun _ h => St.permI [1, 0] [[(b13, _)], Bg13_0] rfl (Kp.st (Kp.keep (Kp.segKeep (Kp.new hb10 Kp.nil))) _ h)) h ⟨vg13_0, Bg13_0, rfl, rfl, hJBg13_0, hcBg13_0⟩
                  · have hq16 : (decide (l1[i8.toNat]! 0 = 0)) = false := hg16
                    have hp16 : ¬ (l1[i8.toNat]! 0 = 0) := of_decide_eq_false hq16
                    rw [if_neg hp16] at h
                    refine xs rfl ⟨_, _, rfl, rfl, rfl⟩ (xs rfl ⟨_, _, rfl, rfl, rfl⟩ (xs rfl ⟨_, _, rfl, rfl, rfl⟩ (xs rfl ⟨_, _, rfl, rfl, rfl⟩ (xs rfl ⟨_, _, rfl, rfl, rfl⟩ (xs rfl ⟨_, _, rfl, rfl, rfl⟩ ?_)))))
                    refine xq rfl ⟨_, rfl, rfl⟩ (o_pick_f rfl rfl) ?_
                    refine xq rfl ⟨_, rfl, rfl⟩ (o_mv rfl) ?_
                    refine xq rfl ⟨_, rfl, rfl⟩ (o_mv rfl) ?_
                    refine xq rfl ⟨_, rfl, rfl⟩ (o_mv rfl) ?_
                    obtain ⟨ho30, h⟩ := h
                    refine xq rfl ⟨_, rfl, rfl⟩ (o_ixL el22 rfl rfl (fun w hw => (hs1.keep hw (Fr.cons hb10 (Fr.cons hb13 (Fr.seg hcBg13_0 Fr.nil))))) rfl ho30) ?_
                    refine xq rfl ⟨_, rfl, rfl⟩ (o_faL fl43_0 rfl rfl (fun w hw => (hs1.keep hw (Fr.cons hb10 (Fr.cons hb13 (Fr.seg hcBg13_0 Fr.nil))))) (toNat_lt ho30)) ?_
                    refine xq rfl ⟨_, rfl, rfl⟩ (o_ldL1 (off := 0) (u := .int .i64 (l1[i8.toNat]! 0)) rfl ts3 rfl (fun w hw => (hs1.keep hw (Fr.cons hb10 (Fr.cons hb13 (Fr.seg hcBg13_0 Fr.nil))))) (toNat_lt ho30) rfl rfl) ?_
                    refine xq rfl ⟨_, rfl, rfl⟩ (o_eql rfl rfl) ?_
                    refine xq rfl ⟨_, rfl, rfl⟩ (o_pick_f rfl rfl) ?_
                    refine xq rfl trivial (o_pick_t rfl rfl) ?_
                    refine xq rfl trivial (o_neqB Try.underlying4 rfl rfl) ?_
                    refine xq rfl trivial (o_mv rfl) ?_
                    refine xo_bool 79 rfl (fun hg31 => ?_) (fun hg31 => ?_)
                    · have hq31 : (((decide ((act_F (1 + ((IntKind.i64.wrap limit0).tmod 20)) fb13_1 (l1[i8.toNat]!)).2.1 = 6)) == (decide (l1[i8.toNat]! 0 = 3)))) = false := (bnT hg31)
                      have hp31 : ¬ ((((decide ((act_F (1 + ((IntKind.i64.wrap limit0).tmod 20)) fb13_1 (l1[i8.toNat]!)).2.1 = 6)) == (decide (l1[i8.toNat]! 0 = 3)))) = true) := bne' hq31
                      rw [if_neg hp31] at h
                      refine xs rfl ⟨_, _, rfl, rfl, rfl⟩ (xs rfl ⟨_, _, rfl, rfl, rfl⟩ (xs rfl ⟨_, _, rfl, rfl, rfl⟩ (xs rfl ⟨_, _, rfl, rfl, rfl⟩ ?_)))
                      refine xq rfl trivial (o_pick_t rfl rfl) ?_
                      refine xo_nil (xq_then (xw_cond_t rfl rfl (xw_seq (xw_region ?_))))
                      refine xq rfl trivial (o_as rfl) ?_
                      refine xo_nil (xq_then (xw_ret (xq_blk_ret (xq_then_ret ?_))))
                      exact xq_out (r := (.inr ((act_F (1 + ((IntKind.i64.wrap limit0).tmod 20)) fb13_1 (l1[i8.toNat]!)).2.2) : ((List (Nat → Int))) ⊕ ((List (Nat → Int))))) (e' := [(4, .bool false)]) (Bg13_0 ++ ((b13, BK 2 (cl [.int .i64 (1 + ((IntKind.i64.wrap limit0).tmod 20)), vg13_0]) 64) :: ([]))) (lc rfl ln) (fun _ h => St.permI [1, 0] [[(b13, _)], Bg13_0] rfl (Kp.st (Kp.new hb10 (Kp.keep (Kp.segKeep Kp.nil))) _ h)) h (by intro hh; cases hh) ⟨vg13_0, Bg13_0, rfl, rfl, rfl, hJBg13_0, hcBg13_0⟩
                    · have hq31 : (((decide ((act_F (1 + ((IntKind.i64.wrap limit0).tmod 20)) fb13_1 (l1[i8.toNat]!)).2.1 = 6)) == (decide (l1[i8.toNat]! 0 = 3)))) = true := (bnF hg31)
                      have hp31 : (((decide ((act_F (1 + ((IntKind.i64.wrap limit0).tmod 20)) fb13_1 (l1[i8.toNat]!)).2.1 = 6)) == (decide (l1[i8.toNat]! 0 = 3)))) = true := hq31
                      rw [if_pos hp31] at h
                      refine xq rfl ⟨_, rfl, rfl⟩ (o_mv rfl) ?_
                      refine xo rfl ⟨_, rfl, rfl⟩ (OT.st (fun _ h => St.permI [1, 2, 0] [[(b10, _)], [(b13, _)], Bg13_0] rfl h) (ot_callF (Cs := [[(b13, _)], Bg13_0]) (Rs := [[(b10, _)]]) kf16 rfl (fun w1 hw1 => nlen_c _ _ _ _ _ w1 hJBg13_0 (St.hasC hw1)) (fun _ _ _ h => h.1))) ?_
                      rintro _ _ ⟨w1, _, rfl, hle, -, rfl, rfl⟩
                      refine xo_st ((b13, BK 2 (cl [.int .i64 (1 + ((IntKind.i64.wrap limit0).tmod 20)), vg13_0]) 64) :: (Bg13_0 ++ ((b10, BK 28 (iv ((act_F (1 + ((IntKind.i64.wrap limit0).tmod 20)) fb13_1 (l1[i8.toNat]!)).1)) 39) :: ([])))) (fun _ h => h) ?_
                      refine xq rfl ⟨_, rfl, rfl⟩ (o_mv rfl) ?_
                      refine xq rfl ⟨_, rfl, rfl⟩ (o_gtr rfl rfl) ?_
                      refine xq rfl trivial (o_pick_f rfl rfl) ?_
                      refine xo_nil (xq_then ?_)
                      refine xw_bool 84 rfl (fun hc34 => ?_) (fun hc34 => ?_)
                      · have hq34 : (decide (1 + ((IntKind.i64.wrap limit0).tmod 20) < (nlen_F (1 + ((IntKind.i64.wrap limit0).tmod 20)) ((act_F (1 + ((IntKind.i64.wrap limit0).tmod 20)) fb13_1 (l1[i8.toNat]!)).2.2)))) = true := hc34
                        have hp34 : 1 + ((IntKind.i64.wrap limit0).tmod 20) < (nlen_F (1 + ((IntKind.i64.wrap limit0).tmod 20)) ((act_F (1 + ((IntKind.i64.wrap limit0).tmod 20)) fb13_1 (l1[i8.toNat]!)).2.2)) := of_decide_eq_true hq34
                        rw [if_pos hp34] at h
                        refine xw_cond_t rfl rfl (xw_seq (xw_region ?_))
                        refine xq rfl trivial (o_as rfl) ?_
                        refine xo_nil (xq_then (xw_ret (xq_blk_ret (xq_then_ret ?_))))
                        exact xq_out (r := (.inr ((act_F (1 + ((IntKind.i64.wrap limit0).tmod 20)) fb13_1 (l1[i8.toNat]!)).2.2) : ((List (Nat → Int))) ⊕ ((List (Nat → Int))))) (e' := [(4, .bool false)]) (Bg13_0 ++ ((b13, BK 2 (cl [.int .i64 (1 + ((IntKind.i64.wrap limit0).tmod 20)), vg13_0]) 64) :: ([]))) (lc rfl ln) (fun _ h => St.permI [1, 0] [[(b13, _)], Bg13_0] rfl (Kp.st (Kp.keep (Kp.segKeep (Kp.new hb10 Kp.nil))) _ h)) h (by intro hh; cases hh) ⟨vg13_0, Bg13_0, rfl, rfl, rfl, hJBg13_0, hcBg13_0⟩
                      · have hq34 : (decide (1 + ((IntKind.i64.wrap limit0).tmod 20) < (nlen_F (1 + ((IntKind.i64.wrap limit0).tmod 20)) ((act_F (1 + ((IntKind.i64.wrap limit0).tmod 20)) fb13_1 (l1[i8.toNat]!)).2.2)))) = false := hc34
                        have hp34 : ¬ (1 + ((IntKind.i64.wrap limit0).tmod 20) < (nlen_F (1 + ((IntKind.i64.wrap limit0).tmod 20)) ((act_F (1 + ((IntKind.i64.wrap limit0).tmod 20)) fb13_1 (l1[i8.toNat]!)).2.2))) := of_decide_eq_false hq34
                        rw [if_neg hp34] at h
                        refine xw_cond_f rfl rfl (xw_skip ?_)
                        refine xq_blk 1 ?_
                        refine xq_then (xw_region ?_)
                        refine xq rfl trivial (o_mv rfl) ?_
                        obtain ⟨ho35, h⟩ := h
                        refine xq rfl trivial (o_add rfl rfl rfl ho35) ?_
                        refine xq rfl trivial (o_as rfl) ?_
                        refine xo_nil ?_
                        exact xq_next (s' := ((i8 + 1, (act_F (1 + ((IntKind.i64.wrap limit0).tmod 20)) fb13_1 (l1[i8.toNat]!)).2.2) : Int × (List (Nat → Int)))) (e' := [(1, v1), (5, .int .i64 (1 + ((IntKind.i64.wrap limit0).tmod 20))), (6, .pointer (some ⟨b13, 0, none⟩)), (8, .int .i64 (i8 + 1))]) (Bg13_0 ++ ((b13, BK 2 (cl [.int .i64 (1 + ((IntKind.i64.wrap limit0).tmod 20)), vg13_0]) 64) :: ([]))) (lc rfl (lc rfl (lc rfl (lc rfl ln)))) (fun _ h => St.permI [1, 0] [[(b13, _)], Bg13_0] rfl (Kp.st (Kp.keep (Kp.segKeep (Kp.new hb10 Kp.nil))) _ h)) h ⟨vg13_0, Bg13_0, rfl, rfl, hJBg13_0, hcBg13_0⟩
                · have hq14 : (decide ((nlen_F (1 + ((IntKind.i64.wrap limit0).tmod 20)) fb13_1) = 1 + ((IntKind.i64.wrap limit0).tmod 20))) = false := hg14
                  have hp14 : ¬ ((nlen_F (1 + ((IntKind.i64.wrap limit0).tmod 20)) fb13_1) = 1 + ((IntKind.i64.wrap limit0).tmod 20)) := of_decide_eq_false hq14
                  rw [if_neg hp14] at h
                  refine xs rfl ⟨_, _, rfl, rfl, rfl⟩ (xs rfl ⟨_, _, rfl, rfl, rfl⟩ (xs rfl ⟨_, _, rfl, rfl, rfl⟩ (xs rfl ⟨_, _, rfl, rfl, rfl⟩ (xs rfl ⟨_, _, rfl, rfl, rfl⟩ (xs rfl ⟨_, _, rfl, rfl, rfl⟩ (xs rfl ⟨_, _, rfl, rfl, rfl⟩ (xs rfl ⟨_, _, rfl, rfl, rfl⟩ ?_)))))))
                  refine xs rfl ⟨_, _, rfl, rfl, rfl⟩ (xs rfl ⟨_, _, rfl, rfl, rfl⟩ (xs rfl ⟨_, _, rfl, rfl, rfl⟩ (xs rfl ⟨_, _, rfl, rfl, rfl⟩ (xs rfl ⟨_, _, rfl, rfl, rfl⟩ (xs rfl ⟨_, _, rfl, rfl, rfl⟩ (xs rfl ⟨_, _, rfl, rfl, rfl⟩ (xs rfl ⟨_, _, rfl, rfl, rfl⟩ ?_)))))))
                  refine xs rfl ⟨_, _, rfl, rfl, rfl⟩ (xs rfl ⟨_, _, rfl, rfl, rfl⟩ (xs rfl ⟨_, _, rfl, rfl, rfl⟩ (xs rfl ⟨_, _, rfl, rfl, rfl⟩ (xs rfl ⟨_, _, rfl, rfl, rfl⟩ (xs rfl ⟨_, _, rfl, rfl, rfl⟩ ?_)))))
                  refine xq rfl trivial (o_pick_f rfl rfl) ?_
                  refine xq rfl trivial (o_neqB Try.underlying4 rfl rfl) ?_
                  refine xq rfl trivial (o_mv rfl) ?_
                  refine xo_bool 79 rfl (fun hg36 => ?_) (fun hg36 => ?_)
                  · have hq36 : (((decide ((act_F (1 + ((IntKind.i64.wrap limit0).tmod 20)) fb13_1 (l1[i8.toNat]!)).2.1 = 6)) == (false))) = false := (bnT hg36)
                    have hp36 : ¬ ((((decide ((act_F (1 + ((IntKind.i64.wrap limit0).tmod 20)) fb13_1 (l1[i8.toNat]!)).2.1 = 6)) == (false))) = true) := bne' hq36
                    rw [if_neg hp36] at h
                    refine xs rfl ⟨_, _, rfl, rfl, rfl⟩ (xs rfl ⟨_, _, rfl, rfl, rfl⟩ (xs rfl ⟨_, _, rfl, rfl, rfl⟩ (xs rfl ⟨_, _, rfl, rfl, rfl⟩ ?_)))
                    refine xq rfl trivial (o_pick_t rfl rfl) ?_
                    refine xo_nil (xq_then (xw_cond_t rfl rfl (xw_seq (xw_region ?_))))
                    refine xq rfl trivial (o_as rfl) ?_
                    refine xo_nil (xq_then (xw_ret (xq_blk_ret (xq_then_ret ?_))))
                    exact xq_out (r := (.inr ((act_F (1 + ((IntKind.i64.wrap limit0).tmod 20)) fb13_1 (l1[i8.toNat]!)).2.2) : ((List (Nat → Int))) ⊕ ((List (Nat → Int))))) (e' := [(4, .bool false)]) (Bg13_0 ++ ((b13, BK 2 (cl [.int .i64 (1 + ((IntKind.i64.wrap limit0).tmod 20)), vg13_0]) 64) :: ([]))) (lc rfl ln) (fun _ h => St.permI [1, 0] [[(b13, _)], Bg13_0] rfl (Kp.st (Kp.new hb10 (Kp.keep (Kp.segKeep Kp.nil))) _ h)) h (by intro hh; cases hh) ⟨vg13_0, Bg13_0, rfl, rfl, rfl, hJBg13_0, hcBg13_0⟩
                  · have hq36 : (((decide ((act_F (1 + ((IntKind.i64.wrap limit0).tmod 20)) fb13_1 (l1[i8.toNat]!)).2.1 = 6)) == (false))) = true := (bnF hg36)
                    have hp36 : (((decide ((act_F (1 + ((IntKind.i64.wrap limit0).tmod 20)) fb13_1 (l1[i8.toNat]!)).2.1 = 6)) == (false))) = true := hq36
                    rw [if_pos hp36] at h
                    refine xq rfl ⟨_, rfl, rfl⟩ (o_mv rfl) ?_
                    refine xo rfl ⟨_, rfl, rfl⟩ (OT.st (fun _ h => St.permI [1, 2, 0] [[(b10, _)], [(b13, _)], Bg13_0] rfl h) (ot_callF (Cs := [[(b13, _)], Bg13_0]) (Rs := [[(b10, _)]]) kf16 rfl (fun w1 hw1 => nlen_c _ _ _ _ _ w1 hJBg13_0 (St.hasC hw1)) (fun _ _ _ h => h.1))) ?_
                    rintro _ _ ⟨w1, _, rfl, hle, -, rfl, rfl⟩
                    refine xo_st ((b13, BK 2 (cl [.int .i64 (1 + ((IntKind.i64.wrap limit0).tmod 20)), vg13_0]) 64) :: (Bg13_0 ++ ((b10, BK 28 (iv ((act_F (1 + ((IntKind.i64.wrap limit0).tmod 20)) fb13_1 (l1[i8.toNat]!)).1)) 39) :: ([])))) (fun _ h => h) ?_
                    refine xq rfl ⟨_, rfl, rfl⟩ (o_mv rfl) ?_
                    refine xq rfl ⟨_, rfl, rfl⟩ (o_gtr rfl rfl) ?_
                    refine xq rfl trivial (o_pick_f rfl rfl) ?_
                    refine xo_nil (xq_then ?_)
                    refine xw_bool 84 rfl (fun hc39 => ?_) (fun hc39 => ?_)
                    · have hq39 : (decide (1 + ((IntKind.i64.wrap limit0).tmod 20) < (nlen_F (1 + ((IntKind.i64.wrap limit0).tmod 20)) ((act_F (1 + ((IntKind.i64.wrap limit0).tmod 20)) fb13_1 (l1[i8.toNat]!)).2.2)))) = true := hc39
                      have hp39 : 1 + ((IntKind.i64.wrap limit0).tmod 20) < (nlen_F (1 + ((IntKind.i64.wrap limit0).tmod 20)) ((act_F (1 + ((IntKind.i64.wrap limit0).tmod 20)) fb13_1 (l1[i8.toNat]!)).2.2)) := of_decide_eq_true hq39
                      rw [if_pos hp39] at h
                      refine xw_cond_t rfl rfl (xw_seq (xw_region ?_))
                      refine xq rfl trivial (o_as rfl) ?_
                      refine xo_nil (xq_then (xw_ret (xq_blk_ret (xq_then_ret ?_))))
                      exact xq_out (r := (.inr ((act_F (1 + ((IntKind.i64.wrap limit0).tmod 20)) fb13_1 (l1[i8.toNat]!)).2.2) : ((List (Nat → Int))) ⊕ ((List (Nat → Int))))) (e' := [(4, .bool false)]) (Bg13_0 ++ ((b13, BK 2 (cl [.int .i64 (1 + ((IntKind.i64.wrap limit0).tmod 20)), vg13_0]) 64) :: ([]))) (lc rfl ln) (fun _ h => St.permI [1, 0] [[(b13, _)], Bg13_0] rfl (Kp.st (Kp.keep (Kp.segKeep (Kp.new hb10 Kp.nil))) _ h)) h (by intro hh; cases hh) ⟨vg13_0, Bg13_0, rfl, rfl, rfl, hJBg13_0, hcBg13_0⟩
                    · have hq39 : (decide (1 + ((IntKind.i64.wrap limit0).tmod 20) < (nlen_F (1 + ((IntKind.i64.wrap limit0).tmod 20)) ((act_F (1 + ((IntKind.i64.wrap limit0).tmod 20)) fb13_1 (l1[i8.toNat]!)).2.2)))) = false := hc39
                      have hp39 : ¬ (1 + ((IntKind.i64.wrap limit0).tmod 20) < (nlen_F (1 + ((IntKind.i64.wrap limit0).tmod 20)) ((act_F (1 + ((IntKind.i64.wrap limit0).tmod 20)) fb13_1 (l1[i8.toNat]!)).2.2))) := of_decide_eq_false hq39
                      rw [if_neg hp39] at h
                      refine xw_cond_f rfl rfl (xw_skip ?_)
                      refine xq_blk 1 ?_
                      refine xq_then (xw_region ?_)
                      refine xq rfl trivial (o_mv rfl) ?_
                      obtain ⟨ho40, h⟩ := h
                      refine xq rfl trivial (o_add rfl rfl rfl ho40) ?_
                      refine xq rfl trivial (o_as rfl) ?_
                      refine xo_nil ?_
                      exact xq_next (s' := ((i8 + 1, (act_F (1 + ((IntKind.i64.wrap limit0).tmod 20)) fb13_1 (l1[i8.toNat]!)).2.2) : Int × (List (Nat → Int)))) (e' := [(1, v1), (5, .int .i64 (1 + ((IntKind.i64.wrap limit0).tmod 20))), (6, .pointer (some ⟨b13, 0, none⟩)), (8, .int .i64 (i8 + 1))]) (Bg13_0 ++ ((b13, BK 2 (cl [.int .i64 (1 + ((IntKind.i64.wrap limit0).tmod 20)), vg13_0]) 64) :: ([]))) (lc rfl (lc rfl (lc rfl (lc rfl ln)))) (fun _ h => St.permI [1, 0] [[(b13, _)], Bg13_0] rfl (Kp.st (Kp.keep (Kp.segKeep (Kp.new hb10 Kp.nil))) _ h)) h ⟨vg13_0, Bg13_0, rfl, rfl, hJBg13_0, hcBg13_0⟩
              · have hq7 : (decide (i8 < (l1.length : Int))) = false := hc7
                have hp7 : ¬ (i8 < (l1.length : Int)) := of_decide_eq_false hq7
                rw [if_neg hp7] at h
                refine xw_cond_f rfl rfl (xw_exit (xq_then_exit ?_))
                exact xq_out (r := (.inl fb13_1 : ((List (Nat → Int))) ⊕ ((List (Nat → Int))))) (e' := []) (Bb13_1_1 ++ ((b13, BK 2 (cl [.int .i64 (1 + ((IntKind.i64.wrap limit0).tmod 20)), vb13_1_1]) 64) :: ([]))) ln (fun _ h => h) h (by intro hh; cases hh) ⟨vb13_1_1, Bb13_1_1, rfl, rfl, rfl, hJb13_1_1, hcBb13_1_1⟩
            · rcases x1 with fb13_1 | fb13_1
              · rintro _ _ _ ⟨vb13_1_1o, Bb13_1_1o, rfl, rfl, rfl, hJb13_1_1o, hcBb13_1_1o⟩
                replace h : limit5_k1a fb13_1 r := h
                unfold limit5_k1a at h
                refine xq_blk_eq ?_
                refine xq_then (xw_seq (xw_region ?_))
                refine xq rfl trivial (o_as rfl) ?_
                refine xo_nil (xq_then (xw_ret ?_))
                subst h
                exact con_ret1 (.inl rfl) Try.results7 rfl [] (Kp.st (Kp.segNew (Cov.fresh hcBb13_1_1o) (Kp.new hb13 Kp.nil))) (⟨rfl, rfl⟩)
              rintro _ _ _ ⟨vb13_1_1o, Bb13_1_1o, rfl, rfl, rfl, hJb13_1_1o, hcBb13_1_1o⟩
              replace h : limit5_k1b fb13_1 r := h
              unfold limit5_k1b at h
              refine xq_blk_ret (xq_then_ret ?_)
              subst h
              exact con_ret1 (.inl rfl) Try.results7 rfl [] (Kp.st (Kp.segNew (Cov.fresh hcBb13_1_1o) (Kp.new hb13 Kp.nil))) (⟨rfl, rfl⟩)

theorem round5_con (l0 : (List (Nat → Int))) (k1 : Int) (by2 : Int) (v0 : Value) (w : World) (hs0 : SL w 30 iv v0 l0) (r : Bool) (h : round5_S l0 k1 by2 r) : Con Try.prog 6 #[v0, .int .i8 k1, .int .u8 by2] w (Is (.bool r) []) := by
  unfold round5_S at h
  refine con_enter (n := 123) [(0, _), (1, _), (2, _)] Try.func6 rfl Try.ntmps6 rfl (lac rfl (lac rfl (lac rfl lan))) ?_
  refine xw_seq (xw_region ?_)
  refine xq rfl trivial (o_as rfl) ?_
  refine xo_nil (xq_then (xw_seq (xw_seq (xw_region ?_))))
  obtain ⟨ho1, h⟩ := h
  refine xcallq rfl trivial kf8 rfl (fun w1 hw1 => alive05_c w1 ho1) ?_
  refine xq rfl trivial (o_not rfl) ?_
  refine xo_nil (xq_then ?_)
  refine xw_bool 20 rfl (fun hc2 => ?_) (fun hc2 => ?_)
  · have hq2 : (alive05_F) = false := (bnT hc2)
    have hp2 : ¬ ((alive05_F) = true) := bne' hq2
    rw [if_neg hp2] at h
    refine xw_cond_t rfl rfl (xw_seq (xw_region ?_))
    refine xq rfl trivial (o_as rfl) ?_
    refine xo_nil (xq_then (xw_ret (xq_then_ret ?_)))
    subst h
    exact con_ret1 (.inl rfl) Try.results6 rfl [] (fun _ h => h) (⟨rfl, rfl⟩)
  · have hq2 : (alive05_F) = true := (bnF hc2)
    have hp2 : (alive05_F) = true := hq2
    rw [if_pos hp2] at h
    refine xw_cond_f rfl rfl (xw_skip (xq_then (xw_seq (xw_seq (xw_region ?_)))))
    refine xq rfl trivial (o_mv rfl) ?_
    refine xq rfl trivial (o_lenL rfl Try.underlying22 rfl (SL.val hs0)) ?_
    refine xq rfl trivial (o_gtr rfl rfl) ?_
    refine xo_nil (xq_then ?_)
    refine xw_bool 23 rfl (fun hc3 => ?_) (fun hc3 => ?_)
    · have hq3 : (decide (100 < (l0.length : Int))) = true := hc3
      have hp3 : 100 < (l0.length : Int) := of_decide_eq_true hq3
      rw [if_pos hp3] at h
      refine xw_cond_t rfl rfl (xw_seq (xw_region ?_))
      refine xq rfl trivial (o_as rfl) ?_
      refine xo_nil (xq_then (xw_ret (xq_then_ret ?_)))
      subst h
      exact con_ret1 (.inl rfl) Try.results6 rfl [] (fun _ h => h) (⟨rfl, rfl⟩)
    · have hq3 : (decide (100 < (l0.length : Int))) = false := hc3
      have hp3 : ¬ (100 < (l0.length : Int)) := of_decide_eq_false hq3
      rw [if_neg hp3] at h
      refine xw_cond_f rfl rfl (xw_skip (xq_then (xw_seq (xw_region ?_))))
      refine xoR rfl trivial (ot_in (l := [(0, _)]) kf9 rfl Try.func9 rfl Try.ntmps9 rfl (lac rfl lan) ?_)
      refine xw_seq (xw_region ?_)
      refine xq rfl trivial (o_as rfl) ?_
      refine xq rfl trivial (o_as rfl) ?_
      refine xo_nil (xq_then (xw_seq (xw_seq ?_)))
      refine xw_cut [(0, _)] (lc rfl ln) [(9, .bool false)] ?_ ?_
      · refine xw_region ?_
        refine xq rfl trivial (o_mv rfl) ?_
        refine xq rfl trivial (o_lss rfl rfl) ?_
        refine xq rfl trivial (o_mv rfl) ?_
        refine xq rfl ⟨_, rfl, rfl⟩ (o_mv rfl) ?_
        refine xq rfl ⟨_, rfl, rfl⟩ (o_gtr rfl rfl) ?_
        refine xq rfl trivial (o_pick_f rfl rfl) ?_
        refine xo_nil ?_
        exact xq_cut ((lce rfl (by first | rfl | (simp only [hq2, hq3, if_pos hp2, if_neg hp3, bS]; done) | (simp [hp2, hp3]; done) | (simp_all; done)) (lc rfl ln))) (fun _ h => h)
      · refine xq_then (xw_cond_f rfl rfl (xw_skip (xq_then (xw_seq (xw_region ?_)))))
        refine xq rfl trivial (o_mv rfl) ?_
        refine xq rfl trivial (o_buildC [.int .i64 200, .slice none 0 0] fk64 ze64 (.one fl64_0 rfl rfl rfl (.nil _)) (fun i hi => match i, hi with | 0, _ => rfl | 1, _ => rfl | q + 2, h => absurd h (by omega))) ?_
        refine xo rfl trivial (o_boxC [.int .i64 200, .slice none 0 0] rfl (fun i hi => match i, hi with | 0, _ => rfl | 1, _ => rfl | q + 2, h => absurd h (by omega))) ?_
        rintro _ _ ⟨b13, hb13, rfl, rfl⟩
        refine xq rfl trivial (o_as rfl) ?_
        refine xq rfl trivial (o_as rfl) ?_
        refine xo_nil (xq_then (xw_ret ?_))
        refine con_ret2 (.inl rfl) Try.results9 rfl rfl _ (fun _ h => h) (?_)
        refine xq rfl trivial (o_mv rfl) ?_
        refine xq rfl trivial (o_ext rfl rfl) ?_
        refine xq rfl trivial (o_ext rfl rfl) ?_
        refine xq rfl trivial (o_as rfl) ?_
        refine xq rfl trivial (o_as rfl) ?_
        refine xo_nil (xq_then (xw_seq (xw_region ?_)))
        refine xoR rfl trivial (ot_in (l := [(0, _)]) kf9 rfl Try.func9 rfl Try.ntmps9 rfl (lac rfl lan) ?_)
        refine xw_seq (xw_region ?_)
        refine xq rfl trivial (o_as rfl) ?_
        refine xq rfl trivial (o_as rfl) ?_
        refine xo_nil (xq_then (xw_seq (xw_seq ?_)))
        refine xw_cut [(0, _)] (lc rfl ln) [(9, .bool false)] ?_ ?_
        · refine xw_region ?_
          refine xq rfl trivial (o_mv rfl) ?_
          refine xq rfl trivial (o_lss rfl rfl) ?_
          refine xq rfl trivial (o_mv rfl) ?_
          refine xq rfl ⟨_, rfl, rfl⟩ (o_mv rfl) ?_
          refine xq rfl ⟨_, rfl, rfl⟩ (o_gtr rfl rfl) ?_
          refine xq rfl trivial (o_pick_f rfl rfl) ?_
          refine xo_nil ?_
          exact xq_cut ((lce rfl (by first | rfl | (simp only [hq2, hq3, if_pos hp2, if_neg hp3, bS]; done) | (simp [hp2, hp3]; done) | (simp_all; done)) (lc rfl ln))) (fun _ h => h)
        · refine xq_then (xw_cond_f rfl rfl (xw_skip (xq_then (xw_seq (xw_region ?_)))))
          refine xq rfl trivial (o_mv rfl) ?_
          refine xq rfl trivial (o_buildC [.int .i64 200, .slice none 0 0] fk64 ze64 (.one fl64_0 rfl rfl rfl (.nil _)) (fun i hi => match i, hi with | 0, _ => rfl | 1, _ => rfl | q + 2, h => absurd h (by omega))) ?_
          refine xo rfl trivial (o_boxC [.int .i64 200, .slice none 0 0] rfl (fun i hi => match i, hi with | 0, _ => rfl | 1, _ => rfl | q + 2, h => absurd h (by omega))) ?_
          rintro _ _ ⟨b13a, hb13a, rfl, rfl⟩
          refine xq rfl trivial (o_as rfl) ?_
          refine xq rfl trivial (o_as rfl) ?_
          refine xo_nil (xq_then (xw_ret ?_))
          refine con_ret2 (.inl rfl) Try.results9 rfl rfl _ (fun _ h => h) (?_)
          refine xq rfl trivial (o_mv rfl) ?_
          refine xq rfl trivial (o_ext rfl rfl) ?_
          refine xq rfl trivial (o_ext rfl rfl) ?_
          refine xq rfl trivial (o_as rfl) ?_
          refine xq rfl trivial (o_as rfl) ?_
          refine xo_nil (xq_then (xw_seq (xw_seq ?_)))
          refine xw_cut [(0, _), (1, _), (2, _), (7, _), (9, _)] (lc rfl (lc rfl (lc rfl (lc rfl (lc rfl ln))))) [(45, .bool false)] ?_ ?_
          · refine xw_region ?_
            refine xq rfl trivial (o_mv rfl) ?_
            refine xq rfl trivial (o_eqn Try.underlying24 rfl rfl rfl rfl) ?_
            refine xq rfl trivial (o_mv rfl) ?_
            refine xq rfl ⟨_, rfl, rfl⟩ (o_mv rfl) ?_
            refine xq rfl ⟨_, rfl, rfl⟩ (o_eqn Try.underlying24 rfl rfl rfl rfl) ?_
            refine xq rfl trivial (o_pick_f rfl rfl) ?_
            refine xq rfl trivial (o_mv rfl) ?_
            refine xq rfl ⟨_, rfl, rfl⟩ (o_mv rfl) ?_
            refine xq rfl ⟨_, rfl, rfl⟩ (o_nen Try.underlying26 rfl rfl rfl rfl) ?_
            refine xq rfl trivial (o_pick_f rfl rfl) ?_
            refine xq rfl trivial (o_mv rfl) ?_
            refine xq rfl ⟨_, rfl, rfl⟩ (o_mv rfl) ?_
            refine xq rfl ⟨_, rfl, rfl⟩ (o_nen Try.underlying26 rfl rfl rfl rfl) ?_
            refine xq rfl trivial (o_pick_f rfl rfl) ?_
            refine xo_nil ?_
            exact xq_cut ((lce rfl (by first | rfl | (simp only [hq2, hq3, if_pos hp2, if_neg hp3, bS]; done) | (simp [hp2, hp3]; done) | (simp_all; done)) (lc rfl (lc rfl (lc rfl (lc rfl (lc rfl ln))))))) (fun _ h => h)
          · refine xq_then (xw_cond_f rfl rfl (xw_skip (xq_then (xw_seq (xw_seq (xw_region ?_))))))
            refine xq rfl trivial (o_as rfl) ?_
            refine xo_nil (xq_then ?_)
            refine xw_block ?_
            obtain ⟨x1, hx1, h⟩ := h
            refine xw_wh (fun s e H => match s with | (i11, fb13a_1, fb13_1) => ∃ (vb13_1_1 : Value) (vb13a_1_1 : Value) (Bb13a_1_1 : GH) (Bb13_1_1 : GH), e = [(0, v0), (1, .int .i8 k1), (2, .int .u8 by2), (7, .pointer (some ⟨b13, 0, none⟩)), (9, .pointer (some ⟨b13a, 0, none⟩)), (11, .int .i64 i11)] ∧ H = Bb13_1_1 ++ (Bb13a_1_1 ++ ((b13a, BK 2 (cl [.int .i64 200, vb13a_1_1]) 64) :: ((b13, BK 2 (cl [.int .i64 200, vb13_1_1]) 64) :: ([])))) ∧ OJ 39 28 iv Bb13a_1_1 vb13a_1_1 fb13a_1 ∧ OJ 39 28 iv Bb13_1_1 vb13_1_1 fb13_1 ∧ Cov w [] Bb13a_1_1 ∧ Cov w [] Bb13_1_1) (fun s ex e H => match s with | (fb13a_1, fb13_1) => ∃ (vb13_1_1o : Value) (vb13a_1_1o : Value) (Bb13a_1_1o : GH) (Bb13_1_1o : GH), ex = .exit 0 ∧ e = [(1, .int .i8 k1), (2, .int .u8 by2), (7, .pointer (some ⟨b13, 0, none⟩)), (9, .pointer (some ⟨b13a, 0, none⟩))] ∧ H = Bb13_1_1o ++ (Bb13a_1_1o ++ ((b13a, BK 2 (cl [.int .i64 200, vb13a_1_1o]) 64) :: ((b13, BK 2 (cl [.int .i64 200, vb13_1_1o]) 64) :: ([])))) ∧ OJ 39 28 iv Bb13a_1_1o vb13a_1_1o fb13a_1 ∧ OJ 39 28 iv Bb13_1_1o vb13_1_1o fb13_1 ∧ Cov w [] Bb13a_1_1o ∧ Cov w [] Bb13_1_1o) hx1 ⟨[(0, v0), (1, .int .i8 k1), (2, .int .u8 by2), (7, .pointer (some ⟨b13, 0, none⟩)), (9, .pointer (some ⟨b13a, 0, none⟩)), (11, .int .i64 0)], [] ++ ([] ++ ((b13a, BK 2 (cl [.int .i64 200, .slice none 0 0]) 64) :: ((b13, BK 2 (cl [.int .i64 200, .slice none 0 0]) 64) :: ([])))), (lc rfl (lc rfl (lc rfl (lc rfl (lc rfl (lc rfl ln)))))), fun _ h => h, ⟨_, _, [], [], rfl, rfl, OJ.nil, OJ.nil, (Cov.refl _), (Cov.refl _)⟩⟩ ?_ ?_
            · rintro ⟨i11, fb13a_1, fb13_1⟩ o _ _ ⟨vb13_1_1, vb13a_1_1, Bb13a_1_1, Bb13_1_1, rfl, rfl, hJb13a_1_1, hJb13_1_1, hcBb13a_1_1, hcBb13_1_1⟩ hb
              have h : round5_l1 l0 i11 fb13a_1 fb13_1 o := hb
              clear hb
              unfold round5_l1 at h
              refine xw_seq (xw_seq (xw_region ?_))
              refine xq rfl trivial (o_mv rfl) ?_
              refine xq rfl trivial (o_mv rfl) ?_
              refine xq rfl trivial (o_lenL rfl Try.underlying22 rfl (SL.val hs0)) ?_
              refine xq rfl trivial (o_lss rfl rfl) ?_
              refine xo_nil (xq_then ?_)
              refine xw_bool 49 rfl (fun hc4 => ?_) (fun hc4 => ?_)
              · have hq4 : (decide (i11 < (l0.length : Int))) = true := hc4
                have hp4 : i11 < (l0.length : Int) := of_decide_eq_true hq4
                rw [if_pos hp4] at h
                refine xw_cond_t rfl rfl (xw_skip (xq_then (xw_seq ?_)))
                refine xw_block ?_
                refine xw_seq (xw_region ?_)
                refine xq rfl trivial (o_mv rfl) ?_
                refine xq rfl trivial (o_mv rfl) ?_
                refine xq rfl trivial (o_mv rfl) ?_
                obtain ⟨ho5, h⟩ := h
                refine xq rfl trivial (o_ixL el22 rfl rfl (fun w hw => (hs0.keep hw (Fr.seg hcBb13_1_1 (Fr.seg hcBb13a_1_1 (Fr.cons hb13a (Fr.cons hb13 Fr.nil)))))) rfl ho5) ?_
                refine xq rfl trivial (o_ldLI rfl ts43 rfl (fun w hw => (hs0.keep hw (Fr.seg hcBb13_1_1 (Fr.seg hcBb13a_1_1 (Fr.cons hb13a (Fr.cons hb13 Fr.nil)))))) (toNat_lt ho5) rfl) ?_
                obtain ⟨ho6, h⟩ := h
                refine xo rfl trivial (OT.st (fun _ h => St.permI [3, 0, 1, 2] [Bb13_1_1, Bb13a_1_1, [(b13a, _)], [(b13, _)]] rfl h) (ot_callF (Cs := [[(b13, _)], Bb13_1_1]) (Rs := [Bb13a_1_1, [(b13a, _)]]) kf11 rfl (fun w1 hw1 => act_c _ _ _ _ _ _ w1 hJb13_1_1 (St.hasC hw1) ho6) (fun _ _ _ h => h.1))) ?_
                rintro _ _ ⟨w1, _, rfl, hle, -, vg8_0, Bg8_0, rfl, rfl, hJBg8_0, hcBg8_0⟩
                replace hcBg8_0 := Cov.trans hcBb13_1_1 (Cov.base (w0 := w) hcBg8_0 hle)
                refine xo_st ((b13, BK 2 (cl [.int .i64 200, vg8_0]) 64) :: (Bg8_0 ++ (Bb13a_1_1 ++ ((b13a, BK 2 (cl [.int .i64 200, vb13a_1_1]) 64) :: ([]))))) (fun _ h => h) ?_
                refine xo_nil (xq_then (xw_region ?_))
                refine xq rfl trivial (o_mv rfl) ?_
                refine xq rfl trivial (o_mv rfl) ?_
                refine xq rfl trivial (o_mv rfl) ?_
                obtain ⟨ho9, h⟩ := h
                refine xq rfl trivial (o_ixL el22 rfl rfl (fun w hw => (hs0.keep hw (Fr.cons hb13 (Fr.seg hcBg8_0 (Fr.seg hcBb13a_1_1 (Fr.cons hb13a Fr.nil)))))) rfl ho9) ?_
                refine xq rfl trivial (o_ldLI rfl ts43 rfl (fun w hw => (hs0.keep hw (Fr.cons hb13 (Fr.seg hcBg8_0 (Fr.seg hcBb13a_1_1 (Fr.cons hb13a Fr.nil)))))) (toNat_lt ho9) rfl) ?_
                obtain ⟨ho10, h⟩ := h
                refine xo rfl trivial (OT.st (fun _ h => St.permI [3, 2, 0, 1] [[(b13, _)], Bg8_0, Bb13a_1_1, [(b13a, _)]] rfl h) (ot_callF (Cs := [[(b13a, _)], Bb13a_1_1]) (Rs := [[(b13, _)], Bg8_0]) kf11 rfl (fun w1 hw1 => act_c _ _ _ _ _ _ w1 hJb13a_1_1 (St.hasC hw1) ho10) (fun _ _ _ h => h.1))) ?_
                rintro _ _ ⟨w1, _, rfl, hle, -, vg12_0, Bg12_0, rfl, rfl, hJBg12_0, hcBg12_0⟩
                replace hcBg12_0 := Cov.trans hcBb13a_1_1 (Cov.base (w0 := w) hcBg12_0 hle)
                refine xo_st ((b13a, BK 2 (cl [.int .i64 200, vg12_0]) 64) :: (Bg12_0 ++ ((b13, BK 2 (cl [.int .i64 200, vg8_0]) 64) :: (Bg8_0 ++ ([]))))) (fun _ h => h) ?_
                refine xo_nil ?_
                refine xq_blk 1 ?_
                refine xq_then (xw_region ?_)
                refine xq rfl trivial (o_mv rfl) ?_
                obtain ⟨ho13, h⟩ := h
                refine xq rfl trivial (o_add rfl rfl rfl ho13) ?_
                refine xq rfl trivial (o_as rfl) ?_
                refine xo_nil ?_
                exact xq_next (s' := ((i11 + 1, (act_F 200 fb13a_1 (l0[i11.toNat]!)).2.2, (act_F 200 fb13_1 (l0[i11.toNat]!)).2.2) : Int × (List (Nat → Int)) × (List (Nat → Int)))) (e' := [(0, v0), (1, .int .i8 k1), (2, .int .u8 by2), (7, .pointer (some ⟨b13, 0, none⟩)), (9, .pointer (some ⟨b13a, 0, none⟩)), (11, .int .i64 (i11 + 1))]) (Bg8_0 ++ (Bg12_0 ++ ((b13a, BK 2 (cl [.int .i64 200, vg12_0]) 64) :: ((b13, BK 2 (cl [.int .i64 200, vg8_0]) 64) :: ([]))))) (lc rfl (lc rfl (lc rfl (lc rfl (lc rfl (lc rfl ln)))))) (fun _ h => St.permI [3, 1, 0, 2] [[(b13a, _)], Bg12_0, [(b13, _)], Bg8_0] rfl (h)) h ⟨vg8_0, vg12_0, Bg12_0, Bg8_0, rfl, rfl, hJBg12_0, hJBg8_0, hcBg12_0, hcBg8_0⟩
              · have hq4 : (decide (i11 < (l0.length : Int))) = false := hc4
                have hp4 : ¬ (i11 < (l0.length : Int)) := of_decide_eq_false hq4
                rw [if_neg hp4] at h
                refine xw_cond_f rfl rfl (xw_exit (xq_then_exit ?_))
                exact xq_out (r := ((fb13a_1, fb13_1) : (List (Nat → Int)) × (List (Nat → Int)))) (e' := [(1, .int .i8 k1), (2, .int .u8 by2), (7, .pointer (some ⟨b13, 0, none⟩)), (9, .pointer (some ⟨b13a, 0, none⟩))]) (Bb13_1_1 ++ (Bb13a_1_1 ++ ((b13a, BK 2 (cl [.int .i64 200, vb13a_1_1]) 64) :: ((b13, BK 2 (cl [.int .i64 200, vb13_1_1]) 64) :: ([]))))) (lc rfl (lc rfl (lc rfl (lc rfl ln)))) (fun _ h => h) h (by intro hh; cases hh) ⟨vb13_1_1, vb13a_1_1, Bb13a_1_1, Bb13_1_1, rfl, rfl, rfl, hJb13a_1_1, hJb13_1_1, hcBb13a_1_1, hcBb13_1_1⟩
            · obtain ⟨fb13a_1, fb13_1⟩ := x1
              rintro _ _ _ ⟨vb13_1_1o, vb13a_1_1o, Bb13a_1_1o, Bb13_1_1o, rfl, rfl, rfl, hJb13a_1_1o, hJb13_1_1o, hcBb13a_1_1o, hcBb13_1_1o⟩
              replace h : round5_k1a k1 by2 fb13a_1 fb13_1 r := h
              unfold round5_k1a at h
              refine xq_blk_eq ?_
              refine xq_then (xw_seq (xw_region ?_))
              refine xq rfl trivial (o_mv rfl) ?_
              obtain ⟨ho14, h⟩ := h
              refine xo rfl trivial (OT.st (fun _ h => St.permI [3, 0, 1, 2] [Bb13_1_1o, Bb13a_1_1o, [(b13a, _)], [(b13, _)]] rfl h) (ot_callF (Cs := [[(b13, _)], Bb13_1_1o]) (Rs := [Bb13a_1_1o, [(b13a, _)]]) kf14 rfl (fun w1 hw1 => ntake_c _ _ _ _ _ w1 hJb13_1_1o (St.hasC hw1) ho14) (fun _ _ _ h => h.1))) ?_
              rintro vs17 _ ⟨w1, _, rfl, hle, -, vg16_0, Bg16_0, _, Bs17, rfl, rfl, hJBg16_0, hpBg16_0, hcBg16_0, hJs17, hcBs17⟩
              replace hcBg16_0 := Cov.trans hcBb13_1_1o (Cov.base (w0 := w) hcBg16_0 hle)
              replace hcBs17 := Cov.base (w0 := w) hcBs17 hle
              refine xo_st ((b13, BK 2 (cl [.int .i64 200, vg16_0]) 64) :: (Bg16_0 ++ (Bs17 ++ (Bb13a_1_1o ++ ((b13a, BK 2 (cl [.int .i64 200, vb13a_1_1o]) 64) :: ([])))))) (fun _ h => h) ?_
              refine xq rfl trivial (o_as rfl) ?_
              refine xo_nil (xq_then (xw_seq (xw_seq (xw_region ?_))))
              refine xq rfl trivial (o_as rfl) ?_
              refine xo_nil (xq_then ?_)
              refine xw_block ?_
              obtain ⟨x2, hx2, h⟩ := h
              refine xw_wh (fun s e H => match s with | (i13, fb13_1a) => ∃ (vb13_1_2 : Value) (Bb13_1_2 : GH), e = [(1, .int .i8 k1), (2, .int .u8 by2), (7, .pointer (some ⟨b13, 0, none⟩)), (9, .pointer (some ⟨b13a, 0, none⟩)), (12, vs17), (13, .int .i64 i13)] ∧ H = (b13, BK 2 (cl [.int .i64 200, vb13_1_2]) 64) :: (Bb13_1_2 ++ (Bs17 ++ (Bb13a_1_1o ++ ((b13a, BK 2 (cl [.int .i64 200, vb13a_1_1o]) 64) :: ([]))))) ∧ OJ 39 28 iv Bb13_1_2 vb13_1_2 fb13_1a ∧ Cov w [] Bb13_1_2) (fun x ex e H => match x with | .inl fb13_1a => ∃ (vb13_1_2o : Value) (Bb13_1_2o : GH), ex = .exit 2 ∧ e = [(1, .int .i8 k1), (2, .int .u8 by2), (7, .pointer (some ⟨b13, 0, none⟩)), (9, .pointer (some ⟨b13a, 0, none⟩)), (12, vs17)] ∧ H = (b13, BK 2 (cl [.int .i64 200, vb13_1_2o]) 64) :: (Bb13_1_2o ++ (Bs17 ++ (Bb13a_1_1o ++ ((b13a, BK 2 (cl [.int .i64 200, vb13a_1_1o]) 64) :: ([]))))) ∧ OJ 39 28 iv Bb13_1_2o vb13_1_2o fb13_1a ∧ Cov w [] Bb13_1_2o | .inr fb13_1a => ∃ (vb13_1_2o : Value) (Bb13_1_2o : GH), ex = .ret ∧ e = [(6, .bool false)] ∧ H = (b13, BK 2 (cl [.int .i64 200, vb13_1_2o]) 64) :: (Bb13_1_2o ++ (Bs17 ++ (Bb13a_1_1o ++ ((b13a, BK 2 (cl [.int .i64 200, vb13a_1_1o]) 64) :: ([]))))) ∧ OJ 39 28 iv Bb13_1_2o vb13_1_2o fb13_1a ∧ Cov w [] Bb13_1_2o) hx2 ⟨[(1, .int .i8 k1), (2, .int .u8 by2), (7, .pointer (some ⟨b13, 0, none⟩)), (9, .pointer (some ⟨b13a, 0, none⟩)), (12, vs17), (13, .int .i64 0)], (b13, BK 2 (cl [.int .i64 200, vg16_0]) 64) :: (Bg16_0 ++ (Bs17 ++ (Bb13a_1_1o ++ ((b13a, BK 2 (cl [.int .i64 200, vb13a_1_1o]) 64) :: ([]))))), (lc rfl (lc rfl (lc rfl (lc rfl (lc rfl (lc rfl ln)))))), fun _ h => h, ⟨vg16_0, Bg16_0, rfl, rfl, hJBg16_0, hcBg16_0⟩⟩ ?_ ?_
              · rintro ⟨i13, fb13_1a⟩ o _ _ ⟨vb13_1_2, Bb13_1_2, rfl, rfl, hJb13_1_2, hcBb13_1_2⟩ hb
                have h : round5_l2 fb13_1 i13 fb13_1a o := hb
                clear hb
                unfold round5_l2 at h
                refine xw_seq (xw_seq (xw_region ?_))
                refine xq rfl trivial (o_mv rfl) ?_
                refine xq rfl trivial (o_mv rfl) ?_
                refine xq rfl trivial (o_lenL rfl Try.underlying30 rfl (OJ.val hJs17)) ?_
                refine xq rfl trivial (o_lss rfl rfl) ?_
                refine xo_nil (xq_then ?_)
                refine xw_bool 69 rfl (fun hc18 => ?_) (fun hc18 => ?_)
                · have hq18 : (decide (i13 < (((ntake_F 200 fb13_1).1).length : Int))) = true := hc18
                  have hp18 : i13 < (((ntake_F 200 fb13_1).1).length : Int) := of_decide_eq_true hq18
                  rw [if_pos hp18] at h
                  refine xw_cond_t rfl rfl (xw_skip (xq_then (xw_seq ?_)))
                  refine xw_block ?_
                  refine xw_seq (xw_region ?_)
                  refine xq rfl trivial (o_mv rfl) ?_
                  refine xq rfl trivial (o_mv rfl) ?_
                  refine xq rfl trivial (o_mv rfl) ?_
                  obtain ⟨ho19, h⟩ := h
                  refine xq rfl trivial (o_ixL el30 rfl rfl (fun w hw => (hJs17.sl hw (Pull.sub (.thereC _ (.there _ (.here _ _)))))) rfl ho19) ?_
                  refine xq rfl trivial (o_ldLI rfl ts39 rfl (fun w hw => (hJs17.sl hw (Pull.sub (.thereC _ (.there _ (.here _ _)))))) (toNat_lt ho19) rfl) ?_
                  obtain ⟨ho20, h⟩ := h
                  refine xo rfl trivial (OT.st (fun _ h => h) (ot_callF (Cs := [[(b13, _)], Bb13_1_2]) (Rs := [Bs17, Bb13a_1_1o, [(b13a, _)]]) kf17 rfl (fun w1 hw1 => send_c _ _ _ _ _ _ w1 hJb13_1_2 (St.hasC hw1) ho20) (fun _ _ _ h => h.1))) ?_
                  rintro _ _ ⟨w1, _, rfl, hle, -, vg22_0, Bg22_0, rfl, rfl, hJBg22_0, hcBg22_0⟩
                  replace hcBg22_0 := Cov.trans hcBb13_1_2 (Cov.base (w0 := w) hcBg22_0 hle)
                  refine xo_st ((b13, BK 2 (cl [.int .i64 200, vg22_0]) 64) :: (Bg22_0 ++ (Bs17 ++ (Bb13a_1_1o ++ ((b13a, BK 2 (cl [.int .i64 200, vb13a_1_1o]) 64) :: ([])))))) (fun _ h => h) ?_
                  refine xq rfl trivial (o_neE Try.underlying26 rfl (fun _ => rfl) rfl rfl) ?_
                  refine xo_nil (xq_then ?_)
                  refine xw_bool 78 rfl (fun hc23 => ?_) (fun hc23 => ?_)
                  · have hq23 : (decide ((send_F 200 fb13_1a (((ntake_F 200 fb13_1).1)[i13.toNat]!)).1 = 0)) = false := (bnT hc23)
                    have hp23 : ¬ ((send_F 200 fb13_1a (((ntake_F 200 fb13_1).1)[i13.toNat]!)).1 = 0) := of_decide_eq_false hq23
                    rw [if_neg hp23] at h
                    refine xw_cond_t rfl rfl (xw_seq (xw_region ?_))
                    refine xq rfl trivial (o_as rfl) ?_
                    refine xo_nil (xq_then (xw_ret (xq_blk_ret (xq_then_ret ?_))))
                    exact xq_out (r := (.inr ((send_F 200 fb13_1a (((ntake_F 200 fb13_1).1)[i13.toNat]!)).2) : ((List (Nat → Int))) ⊕ ((List (Nat → Int))))) (e' := [(6, .bool false)]) ((b13, BK 2 (cl [.int .i64 200, vg22_0]) 64) :: (Bg22_0 ++ (Bs17 ++ (Bb13a_1_1o ++ ((b13a, BK 2 (cl [.int .i64 200, vb13a_1_1o]) 64) :: ([])))))) (lc rfl ln) (fun _ h => h) h (by intro hh; cases hh) ⟨vg22_0, Bg22_0, rfl, rfl, rfl, hJBg22_0, hcBg22_0⟩
                  · have hq23 : (decide ((send_F 200 fb13_1a (((ntake_F 200 fb13_1).1)[i13.toNat]!)).1 = 0)) = true := (bnF hc23)
                    have hp23 : (send_F 200 fb13_1a (((ntake_F 200 fb13_1).1)[i13.toNat]!)).1 = 0 := of_decide_eq_true hq23
                    rw [if_pos hp23] at h
                    refine xw_cond_f rfl rfl (xw_skip ?_)
                    refine xq_blk 3 ?_
                    refine xq_then (xw_region ?_)
                    refine xq rfl trivial (o_mv rfl) ?_
                    obtain ⟨ho24, h⟩ := h
                    refine xq rfl trivial (o_add rfl rfl rfl ho24) ?_
                    refine xq rfl trivial (o_as rfl) ?_
                    refine xo_nil ?_
                    exact xq_next (s' := ((i13 + 1, (send_F 200 fb13_1a (((ntake_F 200 fb13_1).1)[i13.toNat]!)).2) : Int × (List (Nat → Int)))) (e' := [(1, .int .i8 k1), (2, .int .u8 by2), (7, .pointer (some ⟨b13, 0, none⟩)), (9, .pointer (some ⟨b13a, 0, none⟩)), (12, vs17), (13, .int .i64 (i13 + 1))]) ((b13, BK 2 (cl [.int .i64 200, vg22_0]) 64) :: (Bg22_0 ++ (Bs17 ++ (Bb13a_1_1o ++ ((b13a, BK 2 (cl [.int .i64 200, vb13a_1_1o]) 64) :: ([])))))) (lc rfl (lc rfl (lc rfl (lc rfl (lc rfl (lc rfl ln)))))) (fun _ h => h) h ⟨vg22_0, Bg22_0, rfl, rfl, hJBg22_0, hcBg22_0⟩
                · have hq18 : (decide (i13 < (((ntake_F 200 fb13_1).1).length : Int))) = false := hc18
                  have hp18 : ¬ (i13 < (((ntake_F 200 fb13_1).1).length : Int)) := of_decide_eq_false hq18
                  rw [if_neg hp18] at h
                  refine xw_cond_f rfl rfl (xw_exit (xq_then_exit ?_))
                  exact xq_out (r := (.inl fb13_1a : ((List (Nat → Int))) ⊕ ((List (Nat → Int))))) (e' := [(1, .int .i8 k1), (2, .int .u8 by2), (7, .pointer (some ⟨b13, 0, none⟩)), (9, .pointer (some ⟨b13a, 0, none⟩)), (12, vs17)]) ((b13, BK 2 (cl [.int .i64 200, vb13_1_2]) 64) :: (Bb13_1_2 ++ (Bs17 ++ (Bb13a_1_1o ++ ((b13a, BK 2 (cl [.int .i64 200, vb13a_1_1o]) 64) :: ([])))))) (lc rfl (lc rfl (lc rfl (lc rfl (lc rfl ln))))) (fun _ h => h) h (by intro hh; cases hh) ⟨vb13_1_2, Bb13_1_2, rfl, rfl, rfl, hJb13_1_2, hcBb13_1_2⟩
              · rcases x2 with fb13_1a | fb13_1a
                · rintro _ _ _ ⟨vb13_1_2o, Bb13_1_2o, rfl, rfl, rfl, hJb13_1_2o, hcBb13_1_2o⟩
                  replace h : round5_k2a k1 by2 fb13a_1 fb13_1 fb13_1a r := h
                  unfold round5_k2a at h
                  refine xq_blk_eq ?_
                  refine xq_then (xw_seq (xw_region ?_))
                  refine xq rfl trivial (o_mv rfl) ?_
                  refine xo rfl trivial (OT.st (fun _ h => h) (ot_callF (Cs := [[(b13, _)], Bb13_1_2o]) (Rs := [Bs17, Bb13a_1_1o, [(b13a, _)]]) kf16 rfl (fun w1 hw1 => nlen_c _ _ _ _ _ w1 hJb13_1_2o (St.hasC hw1)) (fun _ _ _ h => h.1))) ?_
                  rintro _ _ ⟨w1, _, rfl, hle, -, rfl, rfl⟩
                  refine xo_st ((b13, BK 2 (cl [.int .i64 200, vb13_1_2o]) 64) :: (Bb13_1_2o ++ (Bs17 ++ (Bb13a_1_1o ++ ((b13a, BK 2 (cl [.int .i64 200, vb13a_1_1o]) 64) :: ([])))))) (fun _ h => h) ?_
                  refine xq rfl trivial (o_as rfl) ?_
                  refine xo_nil (xq_then (xw_seq (xw_region ?_)))
                  refine xq rfl trivial (o_mv rfl) ?_
                  refine xq rfl trivial (o_mv rfl) ?_
                  refine xq rfl trivial (o_conv rfl Try.underlying58 Try.underlying3) ?_
                  obtain ⟨ho27, h⟩ := h
                  refine xo rfl trivial (OT.st (fun _ h => h) (ot_callF (Cs := [[(b13, _)], Bb13_1_2o]) (Rs := [Bs17, Bb13a_1_1o, [(b13a, _)]]) kf18 rfl (fun w1 hw1 => deliver_c _ _ _ _ _ _ w1 hJb13_1_2o (St.hasC hw1) ho27) (fun _ _ _ h => h.1))) ?_
                  rintro _ _ ⟨w1, _, rfl, hle, -, vg29_0, Bg29_0, rfl, rfl, hJBg29_0, hcBg29_0⟩
                  replace hcBg29_0 := Cov.trans hcBb13_1_2o (Cov.base (w0 := w) hcBg29_0 hle)
                  refine xo_st ((b13, BK 2 (cl [.int .i64 200, vg29_0]) 64) :: (Bg29_0 ++ (Bs17 ++ (Bb13a_1_1o ++ ((b13a, BK 2 (cl [.int .i64 200, vb13a_1_1o]) 64) :: ([])))))) (fun _ h => h) ?_
                  refine xq rfl trivial (o_mv rfl) ?_
                  refine xq rfl trivial (o_ext rfl rfl) ?_
                  refine xq rfl trivial (o_ext rfl rfl) ?_
                  refine xo rfl trivial (o_alloc ze39 rfl) ?_
                  rintro _ _ ⟨b15, hb15, rfl, rfl⟩
                  refine xq0 trivial (o_stWI rfl rfl ts39 (List.Mem.head _) (.here _ _ _ _)) ?_
                  refine xq rfl trivial (o_as rfl) ?_
                  refine xo_nil (xq_then (xw_seq (xw_region ?_)))
                  refine xq rfl trivial (o_mv rfl) ?_
                  refine xq rfl trivial (o_mv rfl) ?_
                  refine xq rfl trivial (o_conv rfl Try.underlying58 Try.underlying3) ?_
                  refine xq rfl trivial (o_mv rfl) ?_
                  refine xq rfl trivial (o_mv rfl) ?_
                  refine xq rfl trivial (o_conv rfl Try.underlying5 Try.underlying3) ?_
                  obtain ⟨ho30, h⟩ := h
                  refine xq rfl trivial (o_mul rfl rfl rfl ho30) ?_
                  obtain ⟨ho31, h⟩ := h
                  refine xq rfl trivial (o_add rfl rfl rfl ho31) ?_
                  obtain ⟨ho32, h⟩ := h
                  refine xo rfl trivial (OT.st (fun _ h => St.permI [5, 4, 0, 1, 2, 3] [[(b15, _)], [(b13, _)], Bg29_0, Bs17, Bb13a_1_1o, [(b13a, _)]] rfl h) (ot_callF (Cs := [[(b13a, _)], Bb13a_1_1o]) (Rs := [[(b15, _)], [(b13, _)], Bg29_0, Bs17]) kf18 rfl (fun w1 hw1 => deliver_c _ _ _ _ _ _ w1 hJb13a_1_1o (St.hasC hw1) ho32) (fun _ _ _ h => h.1))) ?_
                  rintro _ _ ⟨w1, _, rfl, hle, -, vg34_0, Bg34_0, rfl, rfl, hJBg34_0, hcBg34_0⟩
                  replace hcBg34_0 := Cov.trans hcBb13a_1_1o (Cov.base (w0 := w) hcBg34_0 hle)
                  refine xo_st ((b13a, BK 2 (cl [.int .i64 200, vg34_0]) 64) :: (Bg34_0 ++ ((b15, BK 28 (iv ((deliver_F 200 fb13_1a (IntKind.i64.wrap k1)).1)) 39) :: ((b13, BK 2 (cl [.int .i64 200, vg29_0]) 64) :: (Bg29_0 ++ (Bs17 ++ ([]))))))) (fun _ h => h) ?_
                  refine xq rfl trivial (o_mv rfl) ?_
                  refine xq rfl trivial (o_ext rfl rfl) ?_
                  refine xq rfl trivial (o_ext rfl rfl) ?_
                  refine xo rfl trivial (o_alloc ze39 rfl) ?_
                  rintro _ _ ⟨b17, hb17, rfl, rfl⟩
                  refine xq0 trivial (o_stWI rfl rfl ts39 (List.Mem.head _) (.here _ _ _ _)) ?_
                  refine xq rfl trivial (o_as rfl) ?_
                  refine xo_nil (xq_then (xw_seq (xw_region ?_)))
                  refine xq rfl trivial (o_mv rfl) ?_
                  refine xq rfl trivial (o_mv rfl) ?_
                  refine xq rfl trivial (o_lenL rfl Try.underlying30 rfl (OJ.val hJs17)) ?_
                  refine xq rfl trivial (o_eql rfl rfl) ?_
                  refine xq rfl trivial (o_mv rfl) ?_
                  refine xo_bool 104 rfl (fun hg35 => ?_) (fun hg35 => ?_)
                  · have hq35 : (decide ((nlen_F 200 fb13_1a) = (((ntake_F 200 fb13_1).1).length : Int))) = true := hg35
                    have hp35 : (nlen_F 200 fb13_1a) = (((ntake_F 200 fb13_1).1).length : Int) := of_decide_eq_true hq35
                    rw [if_pos hp35] at h
                    refine xq rfl ⟨_, rfl, rfl⟩ (o_ldW rfl ts39 (List.Mem.tail _ (List.Mem.tail _ (List.mem_append_right _ (List.Mem.head _))))) ?_
                    refine xq rfl ⟨_, rfl, rfl⟩ (o_ldW rfl ts39 (List.Mem.head _)) ?_
                    refine xq rfl ⟨_, rfl, rfl⟩ (o_eqlA eq39 rfl rfl) ?_
                    refine xq rfl trivial (o_pick_t rfl rfl) ?_
                    refine xq rfl trivial (o_mv rfl) ?_
                    refine xo_bool 109 rfl (fun hg36 => ?_) (fun hg36 => ?_)
                    · have hq36 : ((eqN 28 ((deliver_F 200 fb13_1a (IntKind.i64.wrap k1)).1) ((deliver_F 200 fb13a_1 ((IntKind.i64.wrap k1) + ((nlen_F 200 fb13_1a) * (IntKind.i64.wrap by2)))).1))) = true := hg36
                      have hp36 : ((eqN 28 ((deliver_F 200 fb13_1a (IntKind.i64.wrap k1)).1) ((deliver_F 200 fb13a_1 ((IntKind.i64.wrap k1) + ((nlen_F 200 fb13_1a) * (IntKind.i64.wrap by2)))).1))) = true := hq36
                      rw [if_pos hp36] at h
                      refine xq rfl ⟨_, rfl, rfl⟩ (o_mv rfl) ?_
                      refine xcallq rfl ⟨_, rfl, rfl⟩ kf12 rfl (fun w1 hw1 => code_c _ w1) ?_
                      refine xq rfl ⟨_, rfl, rfl⟩ (o_mv rfl) ?_
                      refine xcallq rfl ⟨_, rfl, rfl⟩ kf12 rfl (fun w1 hw1 => code_c _ w1) ?_
                      refine xq rfl ⟨_, rfl, rfl⟩ (o_eql rfl rfl) ?_
                      refine xq rfl trivial (o_pick_t rfl rfl) ?_
                      refine xq rfl trivial (o_mv rfl) ?_
                      refine xo_bool 116 rfl (fun hg37 => ?_) (fun hg37 => ?_)
                      · have hq37 : (decide ((code_F ((deliver_F 200 fb13_1a (IntKind.i64.wrap k1)).2.1)) = (code_F ((deliver_F 200 fb13a_1 ((IntKind.i64.wrap k1) + ((nlen_F 200 fb13_1a) * (IntKind.i64.wrap by2)))).2.1)))) = true := hg37
                        have hp37 : (code_F ((deliver_F 200 fb13_1a (IntKind.i64.wrap k1)).2.1)) = (code_F ((deliver_F 200 fb13a_1 ((IntKind.i64.wrap k1) + ((nlen_F 200 fb13_1a) * (IntKind.i64.wrap by2)))).2.1)) := of_decide_eq_true hq37
                        rw [if_pos hp37] at h
                        refine xq rfl ⟨_, rfl, rfl⟩ (o_mv rfl) ?_
                        obtain ⟨ho38, h⟩ := h
                        refine xo rfl ⟨_, rfl, rfl⟩ (OT.st (fun _ h => St.permI [4, 5, 0, 1, 2, 3, 6] [[(b17, _)], [(b13a, _)], Bg34_0, [(b15, _)], [(b13, _)], Bg29_0, Bs17] rfl h) (ot_callF (Cs := [[(b13, _)], Bg29_0]) (Rs := [[(b17, _)], [(b13a, _)], Bg34_0, [(b15, _)], Bs17]) kf10 rfl (fun w1 hw1 => nall_c _ _ _ _ _ w1 hJBg29_0 (St.hasC hw1) ho38) (fun _ _ _ h => h.1))) ?_
                        rintro vs41 _ ⟨w1, _, rfl, hle, -, _, Bs41, rfl, rfl, hJs41, hcBs41⟩
                        replace hcBs41 := Cov.base (w0 := w) hcBs41 hle
                        refine xo_st ((b13, BK 2 (cl [.int .i64 200, vg29_0]) 64) :: (Bg29_0 ++ (Bs41 ++ ((b17, BK 28 (iv ((deliver_F 200 fb13a_1 ((IntKind.i64.wrap k1) + ((nlen_F 200 fb13_1a) * (IntKind.i64.wrap by2)))).1)) 39) :: ((b13a, BK 2 (cl [.int .i64 200, vg34_0]) 64) :: (Bg34_0 ++ ((b15, BK 28 (iv ((deliver_F 200 fb13_1a (IntKind.i64.wrap k1)).1)) 39) :: (Bs17 ++ ([]))))))))) (fun _ h => h) ?_
                        refine xq rfl ⟨_, rfl, rfl⟩ (o_mv rfl) ?_
                        obtain ⟨ho42, h⟩ := h
                        refine xo rfl ⟨_, rfl, rfl⟩ (OT.st (fun _ h => St.permI [4, 5, 0, 1, 2, 3, 6, 7] [[(b13, _)], Bg29_0, Bs41, [(b17, _)], [(b13a, _)], Bg34_0, [(b15, _)], Bs17] rfl h) (ot_callF (Cs := [[(b13a, _)], Bg34_0]) (Rs := [[(b13, _)], Bg29_0, Bs41, [(b17, _)], [(b15, _)], Bs17]) kf10 rfl (fun w1 hw1 => nall_c _ _ _ _ _ w1 hJBg34_0 (St.hasC hw1) ho42) (fun _ _ _ h => h.1))) ?_
                        rintro vs45 _ ⟨w1, _, rfl, hle, -, _, Bs45, rfl, rfl, hJs45, hcBs45⟩
                        replace hcBs45 := Cov.base (w0 := w) hcBs45 hle
                        refine xo_st ((b13a, BK 2 (cl [.int .i64 200, vg34_0]) 64) :: (Bg34_0 ++ (Bs45 ++ ((b13, BK 2 (cl [.int .i64 200, vg29_0]) 64) :: (Bg29_0 ++ (Bs41 ++ ((b17, BK 28 (iv ((deliver_F 200 fb13a_1 ((IntKind.i64.wrap k1) + ((nlen_F 200 fb13_1a) * (IntKind.i64.wrap by2)))).1)) 39) :: ((b15, BK 28 (iv ((deliver_F 200 fb13_1a (IntKind.i64.wrap k1)).1)) 39) :: (Bs17 ++ ([])))))))))) (fun _ h => h) ?_
                        obtain ⟨ho46, h⟩ := h
                        refine xcallq rfl ⟨_, rfl, rfl⟩ kf13 rfl (fun w1 hw1 => msgs_c _ _ _ _ w1 (hJs41.sl hw1 (Pull.sub (.thereC _ (.there _ (.there _ (.thereC _ (.there _ (.here _ _)))))))) (hJs45.sl hw1 (Pull.sub (.thereC _ (.there _ (.here _ _))))) ho46) ?_
                        refine xq rfl trivial (o_pick_t rfl rfl) ?_
                        refine xq rfl trivial (o_as rfl) ?_
                        refine xo_nil (xq_then (xw_ret ?_))
                        subst h
                        exact con_ret1 (.inl rfl) Try.results6 rfl [] (Kp.st (Kp.new hb13a (Kp.segNew (Cov.fresh hcBg34_0) (Kp.segNew (Cov.fresh hcBs45) (Kp.new hb13 (Kp.segNew (Cov.fresh hcBg29_0) (Kp.segNew (Cov.fresh hcBs41) (Kp.new hb17 (Kp.new hb15 (Kp.segNew (Cov.fresh hcBs17) Kp.nil)))))))))) (⟨rfl, rfl⟩)
                      · have hq37 : (decide ((code_F ((deliver_F 200 fb13_1a (IntKind.i64.wrap k1)).2.1)) = (code_F ((deliver_F 200 fb13a_1 ((IntKind.i64.wrap k1) + ((nlen_F 200 fb13_1a) * (IntKind.i64.wrap by2)))).2.1)))) = false := hg37
                        have hp37 : ¬ ((code_F ((deliver_F 200 fb13_1a (IntKind.i64.wrap k1)).2.1)) = (code_F ((deliver_F 200 fb13a_1 ((IntKind.i64.wrap k1) + ((nlen_F 200 fb13_1a) * (IntKind.i64.wrap by2)))).2.1))) := of_decide_eq_false hq37
                        rw [if_neg hp37] at h
                        refine xs rfl ⟨_, _, rfl, rfl, rfl⟩ (xs rfl ⟨_, _, rfl, rfl, rfl⟩ (xs rfl ⟨_, _, rfl, rfl, rfl⟩ (xs rfl ⟨_, _, rfl, rfl, rfl⟩ (xs rfl ⟨_, _, rfl, rfl, rfl⟩ ?_))))
                        refine xq rfl trivial (o_pick_f rfl rfl) ?_
                        refine xq rfl trivial (o_as rfl) ?_
                        refine xo_nil (xq_then (xw_ret ?_))
                        subst h
                        exact con_ret1 (.inl rfl) Try.results6 rfl [] (Kp.st (Kp.new hb17 (Kp.new hb13a (Kp.segNew (Cov.fresh hcBg34_0) (Kp.new hb15 (Kp.new hb13 (Kp.segNew (Cov.fresh hcBg29_0) (Kp.segNew (Cov.fresh hcBs17) Kp.nil)))))))) (⟨rfl, rfl⟩)
                    · have hq36 : ((eqN 28 ((deliver_F 200 fb13_1a (IntKind.i64.wrap k1)).1) ((deliver_F 200 fb13a_1 ((IntKind.i64.wrap k1) + ((nlen_F 200 fb13_1a) * (IntKind.i64.wrap by2)))).1))) = false := hg36
                      have hp36 : ¬ (((eqN 28 ((deliver_F 200 fb13_1a (IntKind.i64.wrap k1)).1) ((deliver_F 200 fb13a_1 ((IntKind.i64.wrap k1) + ((nlen_F 200 fb13_1a) * (IntKind.i64.wrap by2)))).1))) = true) := bne' hq36
                      rw [if_neg hp36] at h
                      refine xs rfl ⟨_, _, rfl, rfl, rfl⟩ (xs rfl ⟨_, _, rfl, rfl, rfl⟩ (xs rfl ⟨_, _, rfl, rfl, rfl⟩ (xs rfl ⟨_, _, rfl, rfl, rfl⟩ (xs rfl ⟨_, _, rfl, rfl, rfl⟩ ?_))))
                      refine xq rfl trivial (o_pick_f rfl rfl) ?_
                      refine xq rfl trivial (o_mv rfl) ?_
                      refine xs rfl ⟨_, _, rfl, rfl, rfl⟩ (xs rfl ⟨_, _, rfl, rfl, rfl⟩ (xs rfl ⟨_, _, rfl, rfl, rfl⟩ (xs rfl ⟨_, _, rfl, rfl, rfl⟩ (xs rfl ⟨_, _, rfl, rfl, rfl⟩ ?_))))
                      refine xq rfl trivial (o_pick_f rfl rfl) ?_
                      refine xq rfl trivial (o_as rfl) ?_
                      refine xo_nil (xq_then (xw_ret ?_))
                      subst h
                      exact con_ret1 (.inl rfl) Try.results6 rfl [] (Kp.st (Kp.new hb17 (Kp.new hb13a (Kp.segNew (Cov.fresh hcBg34_0) (Kp.new hb15 (Kp.new hb13 (Kp.segNew (Cov.fresh hcBg29_0) (Kp.segNew (Cov.fresh hcBs17) Kp.nil)))))))) (⟨rfl, rfl⟩)
                  · have hq35 : (decide ((nlen_F 200 fb13_1a) = (((ntake_F 200 fb13_1).1).length : Int))) = false := hg35
                    have hp35 : ¬ ((nlen_F 200 fb13_1a) = (((ntake_F 200 fb13_1).1).length : Int)) := of_decide_eq_false hq35
                    rw [if_neg hp35] at h
                    refine xs rfl ⟨_, _, rfl, rfl, rfl⟩ (xs rfl ⟨_, _, rfl, rfl, rfl⟩ (xs rfl ⟨_, _, rfl, rfl, rfl⟩ ?_))
                    refine xq rfl trivial (o_pick_f rfl rfl) ?_
                    refine xq rfl trivial (o_mv rfl) ?_
                    refine xs rfl ⟨_, _, rfl, rfl, rfl⟩ (xs rfl ⟨_, _, rfl, rfl, rfl⟩ (xs rfl ⟨_, _, rfl, rfl, rfl⟩ (xs rfl ⟨_, _, rfl, rfl, rfl⟩ (xs rfl ⟨_, _, rfl, rfl, rfl⟩ ?_))))
                    refine xq rfl trivial (o_pick_f rfl rfl) ?_
                    refine xq rfl trivial (o_mv rfl) ?_
                    refine xs rfl ⟨_, _, rfl, rfl, rfl⟩ (xs rfl ⟨_, _, rfl, rfl, rfl⟩ (xs rfl ⟨_, _, rfl, rfl, rfl⟩ (xs rfl ⟨_, _, rfl, rfl, rfl⟩ (xs rfl ⟨_, _, rfl, rfl, rfl⟩ ?_))))
                    refine xq rfl trivial (o_pick_f rfl rfl) ?_
                    refine xq rfl trivial (o_as rfl) ?_
                    refine xo_nil (xq_then (xw_ret ?_))
                    subst h
                    exact con_ret1 (.inl rfl) Try.results6 rfl [] (Kp.st (Kp.new hb17 (Kp.new hb13a (Kp.segNew (Cov.fresh hcBg34_0) (Kp.new hb15 (Kp.new hb13 (Kp.segNew (Cov.fresh hcBg29_0) (Kp.segNew (Cov.fresh hcBs17) Kp.nil)))))))) (⟨rfl, rfl⟩)
                rintro _ _ _ ⟨vb13_1_2o, Bb13_1_2o, rfl, rfl, rfl, hJb13_1_2o, hcBb13_1_2o⟩
                replace h : round5_k2b fb13_1a r := h
                unfold round5_k2b at h
                refine xq_blk_ret (xq_then_ret ?_)
                subst h
                exact con_ret1 (.inl rfl) Try.results6 rfl [] (Kp.st (Kp.new hb13 (Kp.segNew (Cov.fresh hcBb13_1_2o) (Kp.segNew (Cov.fresh hcBs17) (Kp.segNew (Cov.fresh hcBb13a_1_1o) (Kp.new hb13a Kp.nil)))))) (⟨rfl, rfl⟩)

end Go.Proofs.Ythikmldodgijdaa
