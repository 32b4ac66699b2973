/- The code answers as the relations say. -/
import Derived.Test.YtndkjhaiopcpeaaTab
import Derived.Test.YtndkjhaiopcpeaaB13S
import Derived.Test.YtndkjhaiopcpeaaA13W
set_option maxHeartbeats 1000000
set_option linter.unusedVariables false
set_option linter.unusedSimpArgs false
set_option maxRecDepth 100000
namespace Go.Proofs.Ytndkjhaiopcpeaa
open Go Go.E

theorem alive13_con (w : World) (r : Bool) (h : alive13_S r) : Con Try.prog 7 #[] w (Is (.bool r) []) := by
  unfold alive13_S at h
  refine con_enter (n := 74) [] Try.func7 rfl Try.ntmps7 rfl lan ?_
  refine xw_seq (xw_region ?_)
  refine xq rfl trivial (o_as rfl) ?_
  refine xo_nil (xq_then (xw_seq (xw_region ?_)))
  refine xoR rfl trivial (ot_in (l := []) kf8 rfl Try.func8 rfl Try.ntmps8 rfl lan ?_)
  refine xw_seq (xw_region ?_)
  refine xq rfl trivial (o_as rfl) ?_
  refine xo_nil (xq_then (xw_seq (xw_region ?_)))
  refine xo rfl trivial (o_mkmap (α := (Nat → Int)) (cv := (kA 29)) kt3 Try.underlying65) ?_
  rintro vs1 _ ⟨Bs1, rfl, hns1, hJs1⟩
  have hcBs1 := hns1
  refine xq rfl trivial (o_buildC [vs1] fk67 ze67 (.one fl67_0 rfl rfl (MJ.one hJs1) (.nil _)) (fun i hi => match i, hi with | 0, _ => rfl | q + 1, h => absurd h (by omega))) ?_
  refine xo rfl trivial (o_boxC [vs1] rfl (fun i hi => match i, hi with | 0, _ => rfl | q + 1, h => absurd h (by omega))) ?_
  rintro _ _ ⟨b3, hb3, rfl, rfl⟩
  refine xq rfl trivial (o_as rfl) ?_
  refine xo_nil (xq_then (xw_ret ?_))
  refine con_ret1 (.inl rfl) Try.results8 rfl _ (fun _ h => h) (?_)
  refine xq rfl trivial (o_as rfl) ?_
  refine xo_nil (xq_then (xw_seq (xw_seq (xw_region ?_))))
  refine xq rfl trivial (o_mv rfl) ?_
  refine xq rfl trivial (o_eqn Try.underlying24 rfl rfl rfl rfl) ?_
  refine xo_nil (xq_then (xw_cond_f rfl rfl (xw_skip (xq_then (xw_seq (xw_region ?_))))))
  refine xq rfl trivial (o_mv rfl) ?_
  refine xo rfl trivial (OT.st (fun _ h => h) (ot_callF (Cs := [[(b3, _)], Bs1]) (Rs := []) kf9 rfl (fun w1 hw1 => bopen_c _ _ _ _ _ _ w1 hJs1 (St.hasC hw1)) (fun _ _ _ h => h.1))) ?_
  rintro _ _ ⟨w1, _, rfl, hle, -, vg3_0, Bg3_0, rfl, rfl, hJBg3_0, hcBg3_0⟩
  replace hcBg3_0 := Cov.trans hcBs1 (Cov.base (w0 := w) hcBg3_0 hle)
  refine xo_st ((b3, BK 1 (cl [vg3_0]) 67) :: (Bg3_0 ++ ([]))) (fun _ h => h) ?_
  refine xq rfl trivial (o_mv rfl) ?_
  refine xq rfl trivial (o_ext rfl rfl) ?_
  refine xq rfl trivial (o_ext rfl rfl) ?_
  refine xo rfl trivial (o_alloc ze34 rfl) ?_
  rintro _ _ ⟨b2, hb2, rfl, rfl⟩
  refine xq0 trivial (o_stWI rfl rfl ts34 (List.Mem.head _) (.here _ _ _ _)) ?_
  refine xq rfl trivial (o_as rfl) ?_
  refine xo_nil (xq_then (xw_seq (xw_region ?_)))
  refine xq rfl trivial (o_mv rfl) ?_
  refine xo rfl trivial (OT.st (fun _ h => St.permI [1, 2, 0] [[(b2, _)], [(b3, _)], Bg3_0] rfl h) (ot_callF (Cs := [[(b3, _)], Bg3_0]) (Rs := [[(b2, _)]]) kf9 rfl (fun w1 hw1 => bopen_c _ _ _ _ _ _ w1 hJBg3_0 (St.hasC hw1)) (fun _ _ _ h => h.1))) ?_
  rintro _ _ ⟨w1, _, rfl, hle, -, vg5_0, Bg5_0, rfl, rfl, hJBg5_0, hcBg5_0⟩
  replace hcBg5_0 := Cov.trans hcBg3_0 (Cov.base (w0 := w) hcBg5_0 hle)
  refine xo_st ((b3, BK 1 (cl [vg5_0]) 67) :: (Bg5_0 ++ ((b2, BK 28 (iv ((bopen_F ([]) 7 1).1)) 34) :: ([])))) (fun _ h => h) ?_
  refine xq rfl trivial (o_mv rfl) ?_
  refine xq rfl trivial (o_ext rfl rfl) ?_
  refine xq rfl trivial (o_ext rfl rfl) ?_
  refine xo rfl trivial (o_alloc ze34 rfl) ?_
  rintro _ _ ⟨b4, hb4, rfl, rfl⟩
  refine xq0 trivial (o_stWI rfl rfl ts34 (List.Mem.head _) (.here _ _ _ _)) ?_
  refine xq rfl trivial (o_as rfl) ?_
  refine xo_nil (xq_then (xw_seq (xw_region ?_)))
  refine xq rfl trivial (o_mv rfl) ?_
  refine xcallq rfl trivial kf12 rfl (fun w1 hw1 => answer_c _ _ w1) ?_
  refine xo rfl trivial (OT.st (fun _ h => St.permI [1, 2, 0, 3] [[(b4, _)], [(b3, _)], Bg5_0, [(b2, _)]] rfl h) (ot_callF (Cs := [[(b3, _)], Bg5_0]) (Rs := [[(b4, _)], [(b2, _)]]) kf11 rfl (fun w1 hw1 => bclose_c _ _ _ _ _ w1 hJBg5_0 (St.hasC hw1)) (fun _ _ _ h => h.1))) ?_
  rintro _ _ ⟨w1, _, rfl, hle, -, vg7_0, Bg7_0, rfl, rfl, hJBg7_0, hcBg7_0⟩
  replace hcBg7_0 := Cov.trans hcBg5_0 (Cov.base (w0 := w) hcBg7_0 hle)
  refine xo_st ((b3, BK 1 (cl [vg7_0]) 67) :: (Bg7_0 ++ ((b4, BK 28 (iv ((bopen_F ((bopen_F ([]) 7 1).2.2) 7 1).1)) 34) :: ((b2, BK 28 (iv ((bopen_F ([]) 7 1).1)) 34) :: ([]))))) (fun _ h => h) ?_
  refine xq rfl trivial (o_as rfl) ?_
  refine xo_nil (xq_then (xw_seq (xw_region ?_)))
  refine xq rfl trivial (o_mv rfl) ?_
  refine xo rfl trivial (OT.st (fun _ h => h) (ot_callF (Cs := [[(b3, _)], Bg7_0]) (Rs := [[(b4, _)], [(b2, _)]]) kf9 rfl (fun w1 hw1 => bopen_c _ _ _ _ _ _ w1 hJBg7_0 (St.hasC hw1)) (fun _ _ _ h => h.1))) ?_
  rintro _ _ ⟨w1, _, rfl, hle, -, vg9_0, Bg9_0, rfl, rfl, hJBg9_0, hcBg9_0⟩
  replace hcBg9_0 := Cov.trans hcBg7_0 (Cov.base (w0 := w) hcBg9_0 hle)
  refine xo_st ((b3, BK 1 (cl [vg9_0]) 67) :: (Bg9_0 ++ ((b4, BK 28 (iv ((bopen_F ((bopen_F ([]) 7 1).2.2) 7 1).1)) 34) :: ((b2, BK 28 (iv ((bopen_F ([]) 7 1).1)) 34) :: ([]))))) (fun _ h => h) ?_
  refine xq rfl trivial (o_mv rfl) ?_
  refine xq rfl trivial (o_ext rfl rfl) ?_
  refine xq rfl trivial (o_ext rfl rfl) ?_
  refine xo rfl trivial (o_alloc ze34 rfl) ?_
  rintro _ _ ⟨b7, hb7, rfl, rfl⟩
  refine xq0 trivial (o_stWI rfl rfl ts34 (List.Mem.head _) (.here _ _ _ _)) ?_
  refine xq rfl trivial (o_as rfl) ?_
  refine xo_nil (xq_then (xw_seq (xw_region ?_)))
  refine xq rfl trivial (o_mv rfl) ?_
  refine xo rfl trivial (OT.st (fun _ h => St.permI [1, 2, 0, 3, 4] [[(b7, _)], [(b3, _)], Bg9_0, [(b4, _)], [(b2, _)]] rfl h) (ot_callF (Cs := [[(b3, _)], Bg9_0]) (Rs := [[(b7, _)], [(b4, _)], [(b2, _)]]) kf9 rfl (fun w1 hw1 => bopen_c _ _ _ _ _ _ w1 hJBg9_0 (St.hasC hw1)) (fun _ _ _ h => h.1))) ?_
  rintro _ _ ⟨w1, _, rfl, hle, -, vg11_0, Bg11_0, rfl, rfl, hJBg11_0, hcBg11_0⟩
  replace hcBg11_0 := Cov.trans hcBg9_0 (Cov.base (w0 := w) hcBg11_0 hle)
  refine xo_st ((b3, BK 1 (cl [vg11_0]) 67) :: (Bg11_0 ++ ((b7, BK 28 (iv ((bopen_F ((bclose_F ((bopen_F ((bopen_F ([]) 7 1).2.2) 7 1).2.2) (answer_F 7 1)).2) 7 1).1)) 34) :: ((b4, BK 28 (iv ((bopen_F ((bopen_F ([]) 7 1).2.2) 7 1).1)) 34) :: ((b2, BK 28 (iv ((bopen_F ([]) 7 1).1)) 34) :: ([])))))) (fun _ h => h) ?_
  refine xq rfl trivial (o_mv rfl) ?_
  refine xq rfl trivial (o_ext rfl rfl) ?_
  refine xq rfl trivial (o_ext rfl rfl) ?_
  refine xo rfl trivial (o_alloc ze34 rfl) ?_
  rintro _ _ ⟨b9, hb9, rfl, rfl⟩
  refine xq0 trivial (o_stWI rfl rfl ts34 (List.Mem.head _) (.here _ _ _ _)) ?_
  refine xq rfl trivial (o_as rfl) ?_
  refine xo_nil (xq_then (xw_seq (xw_region ?_)))
  refine xq rfl trivial (o_mv rfl) ?_
  refine xo rfl trivial (OT.st (fun _ h => St.permI [1, 2, 0, 3, 4, 5] [[(b9, _)], [(b3, _)], Bg11_0, [(b7, _)], [(b4, _)], [(b2, _)]] rfl h) (ot_callF (Cs := [[(b3, _)], Bg11_0]) (Rs := [[(b9, _)], [(b7, _)], [(b4, _)], [(b2, _)]]) kf9 rfl (fun w1 hw1 => bopen_c _ _ _ _ _ _ w1 hJBg11_0 (St.hasC hw1)) (fun _ _ _ h => h.1))) ?_
  rintro _ _ ⟨w1, _, rfl, hle, -, vg13_0, Bg13_0, rfl, rfl, hJBg13_0, hcBg13_0⟩
  replace hcBg13_0 := Cov.trans hcBg11_0 (Cov.base (w0 := w) hcBg13_0 hle)
  refine xo_st ((b3, BK 1 (cl [vg13_0]) 67) :: (Bg13_0 ++ ((b9, BK 28 (iv ((bopen_F ((bopen_F ((bclose_F ((bopen_F ((bopen_F ([]) 7 1).2.2) 7 1).2.2) (answer_F 7 1)).2) 7 1).2.2) 7 2).1)) 34) :: ((b7, BK 28 (iv ((bopen_F ((bclose_F ((bopen_F ((bopen_F ([]) 7 1).2.2) 7 1).2.2) (answer_F 7 1)).2) 7 1).1)) 34) :: ((b4, BK 28 (iv ((bopen_F ((bopen_F ([]) 7 1).2.2) 7 1).1)) 34) :: ((b2, BK 28 (iv ((bopen_F ([]) 7 1).1)) 34) :: ([]))))))) (fun _ h => h) ?_
  refine xq rfl trivial (o_mv rfl) ?_
  refine xq rfl trivial (o_ext rfl rfl) ?_
  refine xq rfl trivial (o_ext rfl rfl) ?_
  refine xo rfl trivial (o_alloc ze34 rfl) ?_
  rintro _ _ ⟨b11, hb11, rfl, rfl⟩
  refine xq0 trivial (o_stWI rfl rfl ts34 (List.Mem.head _) (.here _ _ _ _)) ?_
  refine xq rfl trivial (o_as rfl) ?_
  refine xo_nil (xq_then (xw_seq ?_))
  refine xw_cut [] ln [(0, .bool (((((((decide ((bopen_F ([]) 7 1).2.1 = 0)) && (decide ((code_F ((bopen_F ((bopen_F ([]) 7 1).2.2) 7 1).2.1)) = 8))) && (decide ((bclose_F ((bopen_F ((bopen_F ([]) 7 1).2.2) 7 1).2.2) (answer_F 7 1)).1 = 0))) && ((eqN 28 ((bopen_F ((bclose_F ((bopen_F ((bopen_F ([]) 7 1).2.2) 7 1).2.2) (answer_F 7 1)).2) 7 1).1) (answer_F 7 1)))) && (decide ((code_F ((bopen_F ((bclose_F ((bopen_F ((bopen_F ([]) 7 1).2.2) 7 1).2.2) (answer_F 7 1)).2) 7 1).2.1)) = 15))) && (decide ((bopen_F ((bopen_F ((bclose_F ((bopen_F ((bopen_F ([]) 7 1).2.2) 7 1).2.2) (answer_F 7 1)).2) 7 1).2.2) 7 2).2.1 = 0))) && (decide ((code_F ((bopen_F ((bopen_F ((bopen_F ((bclose_F ((bopen_F ((bopen_F ([]) 7 1).2.2) 7 1).2.2) (answer_F 7 1)).2) 7 1).2.2) 7 2).2.2) 7 1).2.1)) = 14))))] ?_ ?_
  · refine xd_start (by kernel_rfl) (by kernel_rfl) (fun hok => ?_)
    refine xd_b hok 0 [(3, _)] ([]) rsN rfl rfl rfl (lc rfl ln) (by kernel_rfl) trivial (fun H' hy hK => o_mv rfl) ?_
    refine xd_b hok 1 [(44, _)] ([]) rsN rfl rfl rfl (lc rfl ln) (by kernel_rfl) trivial (fun H' hy hK => o_eqE Try.underlying36 rfl (fun _ => rfl) rfl rfl) ?_
    refine xd_b hok 2 [(45, _)] ([]) rsN rfl rfl rfl (lc rfl ln) (by kernel_rfl) trivial (fun H' hy hK => o_mv rfl) ?_
    refine xd_bool 46 rfl (fun hg14 => ?_) (fun hg14 => ?_)
    · have hq14 : (decide ((bopen_F ([]) 7 1).2.1 = 0)) = true := hg14
      have hp14 : (bopen_F ([]) 7 1).2.1 = 0 := of_decide_eq_true hq14
      refine xd_b hok 3 [(5, _), (46, _)] ([]) rsN rfl rfl rfl (lc rfl (lc rfl ln)) (by kernel_rfl) ⟨_, rfl, rfl⟩ (fun H' hy hK => o_mv rfl) ?_
      refine xd_b hok 4 [(47, _), (46, _)] ([]) rsN rfl rfl rfl (lc rfl (lc rfl ln)) (by kernel_rfl) ⟨_, rfl, rfl⟩ (fun H' hy hK => o_callq kf10 rfl (fun w1 hw1 => code_c _ w1)) ?_
      refine xd_b hok 5 [(48, _), (46, _)] ([]) rsN rfl rfl rfl (lc rfl (lc rfl ln)) (by kernel_rfl) ⟨_, rfl, rfl⟩ (fun H' hy hK => o_eql rfl rfl) ?_
      refine xd_b hok 6 [(46, _), (49, _)] ([]) rsN rfl rfl rfl (lc rfl (lc rfl ln)) (by kernel_rfl) trivial (fun H' hy hK => o_pick_t rfl rfl) ?_
      refine xd_b hok 7 [(50, _)] ([]) rsN rfl rfl rfl (lc rfl ln) (by kernel_rfl) trivial (fun H' hy hK => o_mv rfl) ?_
      refine xd_bool 51 rfl (fun hg15 => ?_) (fun hg15 => ?_)
      · have hq15 : (decide ((code_F ((bopen_F ((bopen_F ([]) 7 1).2.2) 7 1).2.1)) = 8)) = true := hg15
        have hp15 : (code_F ((bopen_F ((bopen_F ([]) 7 1).2.2) 7 1).2.1)) = 8 := of_decide_eq_true hq15
        refine xd_b hok 8 [(6, _), (51, _)] ([]) rsN rfl rfl rfl (lc rfl (lc rfl ln)) (by kernel_rfl) ⟨_, rfl, rfl⟩ (fun H' hy hK => o_mv rfl) ?_
        refine xd_b hok 9 [(52, _), (51, _)] ([]) rsN rfl rfl rfl (lc rfl (lc rfl ln)) (by kernel_rfl) ⟨_, rfl, rfl⟩ (fun H' hy hK => o_eqE Try.underlying36 rfl (fun _ => rfl) rfl rfl) ?_
        refine xd_b hok 10 [(51, _), (53, _)] ([]) rsN rfl rfl rfl (lc rfl (lc rfl ln)) (by kernel_rfl) trivial (fun H' hy hK => o_pick_t rfl rfl) ?_
        refine xd_b hok 11 [(54, _)] ([]) rsN rfl rfl rfl (lc rfl ln) (by kernel_rfl) trivial (fun H' hy hK => o_mv rfl) ?_
        refine xd_bool 55 rfl (fun hg16 => ?_) (fun hg16 => ?_)
        · have hq16 : (decide ((bclose_F ((bopen_F ((bopen_F ([]) 7 1).2.2) 7 1).2.2) (answer_F 7 1)).1 = 0)) = true := hg16
          have hp16 : (bclose_F ((bopen_F ((bopen_F ([]) 7 1).2.2) 7 1).2.2) (answer_F 7 1)).1 = 0 := of_decide_eq_true hq16
          refine xd_b hok 12 [(7, _), (55, _)] ((b7, BK 28 (iv ((bopen_F ((bclose_F ((bopen_F ((bopen_F ([]) 7 1).2.2) 7 1).2.2) (answer_F 7 1)).2) 7 1).1)) 34) :: ([])) (rsC (List.Mem.tail _ (List.Mem.tail _ (List.mem_append_right _ (List.Mem.tail _ (List.Mem.head _))))) rsN) rfl rfl rfl (lc rfl (lc rfl ln)) (by kernel_rfl) ⟨_, rfl, rfl⟩ (fun H' hy hK => o_ldW rfl ts34 (hy _ (List.Mem.head _))) ?_
          refine xd_b hok 13 [(55, _)] ([]) rsN rfl rfl rfl (lc rfl ln) (by kernel_rfl) ⟨_, rfl, rfl⟩ (fun H' hy hK => o_callq kf12 rfl (fun w1 hw1 => answer_c _ _ w1)) ?_
          refine xd_b hok 14 [(56, _), (57, _), (55, _)] ([]) rsN rfl rfl rfl (lc rfl (lc rfl (lc rfl ln))) (by kernel_rfl) ⟨_, rfl, rfl⟩ (fun H' hy hK => o_eqlA eq34 rfl rfl) ?_
          refine xd_b hok 15 [(55, _), (58, _)] ([]) rsN rfl rfl rfl (lc rfl (lc rfl ln)) (by kernel_rfl) trivial (fun H' hy hK => o_pick_t rfl rfl) ?_
          refine xd_b hok 16 [(59, _)] ([]) rsN rfl rfl rfl (lc rfl ln) (by kernel_rfl) trivial (fun H' hy hK => o_mv rfl) ?_
          refine xd_bool 60 rfl (fun hg17 => ?_) (fun hg17 => ?_)
          · have hq17 : ((eqN 28 ((bopen_F ((bclose_F ((bopen_F ((bopen_F ([]) 7 1).2.2) 7 1).2.2) (answer_F 7 1)).2) 7 1).1) (answer_F 7 1))) = true := hg17
            have hp17 : ((eqN 28 ((bopen_F ((bclose_F ((bopen_F ((bopen_F ([]) 7 1).2.2) 7 1).2.2) (answer_F 7 1)).2) 7 1).1) (answer_F 7 1))) = true := hq17
            refine xd_b hok 17 [(8, _), (60, _)] ([]) rsN rfl rfl rfl (lc rfl (lc rfl ln)) (by kernel_rfl) ⟨_, rfl, rfl⟩ (fun H' hy hK => o_mv rfl) ?_
            refine xd_b hok 18 [(61, _), (60, _)] ([]) rsN rfl rfl rfl (lc rfl (lc rfl ln)) (by kernel_rfl) ⟨_, rfl, rfl⟩ (fun H' hy hK => o_callq kf10 rfl (fun w1 hw1 => code_c _ w1)) ?_
            refine xd_b hok 19 [(62, _), (60, _)] ([]) rsN rfl rfl rfl (lc rfl (lc rfl ln)) (by kernel_rfl) ⟨_, rfl, rfl⟩ (fun H' hy hK => o_eql rfl rfl) ?_
            refine xd_b hok 20 [(60, _), (63, _)] ([]) rsN rfl rfl rfl (lc rfl (lc rfl ln)) (by kernel_rfl) trivial (fun H' hy hK => o_pick_t rfl rfl) ?_
            refine xd_b hok 21 [(64, _)] ([]) rsN rfl rfl rfl (lc rfl ln) (by kernel_rfl) trivial (fun H' hy hK => o_mv rfl) ?_
            refine xd_bool 65 rfl (fun hg18 => ?_) (fun hg18 => ?_)
            · have hq18 : (decide ((code_F ((bopen_F ((bclose_F ((bopen_F ((bopen_F ([]) 7 1).2.2) 7 1).2.2) (answer_F 7 1)).2) 7 1).2.1)) = 15)) = true := hg18
              have hp18 : (code_F ((bopen_F ((bclose_F ((bopen_F ((bopen_F ([]) 7 1).2.2) 7 1).2.2) (answer_F 7 1)).2) 7 1).2.1)) = 15 := of_decide_eq_true hq18
              refine xd_b hok 22 [(10, _), (65, _)] ([]) rsN rfl rfl rfl (lc rfl (lc rfl ln)) (by kernel_rfl) ⟨_, rfl, rfl⟩ (fun H' hy hK => o_mv rfl) ?_
              refine xd_b hok 23 [(66, _), (65, _)] ([]) rsN rfl rfl rfl (lc rfl (lc rfl ln)) (by kernel_rfl) ⟨_, rfl, rfl⟩ (fun H' hy hK => o_eqE Try.underlying36 rfl (fun _ => rfl) rfl rfl) ?_
              refine xd_b hok 24 [(65, _), (67, _)] ([]) rsN rfl rfl rfl (lc rfl (lc rfl ln)) (by kernel_rfl) trivial (fun H' hy hK => o_pick_t rfl rfl) ?_
              refine xd_b hok 25 [(68, _)] ([]) rsN rfl rfl rfl (lc rfl ln) (by kernel_rfl) trivial (fun H' hy hK => o_mv rfl) ?_
              refine xd_bool 69 rfl (fun hg19 => ?_) (fun hg19 => ?_)
              · have hq19 : (decide ((bopen_F ((bopen_F ((bclose_F ((bopen_F ((bopen_F ([]) 7 1).2.2) 7 1).2.2) (answer_F 7 1)).2) 7 1).2.2) 7 2).2.1 = 0)) = true := hg19
                have hp19 : (bopen_F ((bopen_F ((bclose_F ((bopen_F ((bopen_F ([]) 7 1).2.2) 7 1).2.2) (answer_F 7 1)).2) 7 1).2.2) 7 2).2.1 = 0 := of_decide_eq_true hq19
                refine xd_b hok 26 [(12, _), (69, _)] ([]) rsN rfl rfl rfl (lc rfl (lc rfl ln)) (by kernel_rfl) ⟨_, rfl, rfl⟩ (fun H' hy hK => o_mv rfl) ?_
                refine xd_b hok 27 [(70, _), (69, _)] ([]) rsN rfl rfl rfl (lc rfl (lc rfl ln)) (by kernel_rfl) ⟨_, rfl, rfl⟩ (fun H' hy hK => o_callq kf10 rfl (fun w1 hw1 => code_c _ w1)) ?_
                refine xd_b hok 28 [(71, _), (69, _)] ([]) rsN rfl rfl rfl (lc rfl (lc rfl ln)) (by kernel_rfl) ⟨_, rfl, rfl⟩ (fun H' hy hK => o_eql rfl rfl) ?_
                refine xd_b hok 29 [(69, _), (72, _)] ([]) rsN rfl rfl rfl (lc rfl (lc rfl ln)) (by kernel_rfl) trivial (fun H' hy hK => o_pick_t rfl rfl) ?_
                refine xd_b hok 30 [(73, _)] ([]) rsN rfl rfl rfl (lc rfl ln) (by kernel_rfl) trivial (fun H' hy hK => o_as rfl) ?_
                refine xd_end hok (by kernel_rfl) ?_
                exact xq_cut ((lce rfl (by first | rfl | (simp only [hq14, hq15, hq16, hq17, hq18, hq19, if_pos hp14, if_pos hp15, if_pos hp16, if_pos hp17, if_pos hp18, if_pos hp19, bS]; done) | (simp only [hq14, hq15, hq16, hq17, hq18, hq19, if_pos hp14, if_pos hp15, if_pos hp16, if_pos hp17, if_pos hp18, if_pos hp19, bS, reduceIte, Bool.false_eq_true]; done) | (simp [hp14, hp15, hp16, hp17, hp18, hp19]; done) | (simp_all; done)) ln)) (fun _ h => h)
              · have hq19 : (decide ((bopen_F ((bopen_F ((bclose_F ((bopen_F ((bopen_F ([]) 7 1).2.2) 7 1).2.2) (answer_F 7 1)).2) 7 1).2.2) 7 2).2.1 = 0)) = false := hg19
                have hp19 : ¬ ((bopen_F ((bopen_F ((bclose_F ((bopen_F ((bopen_F ([]) 7 1).2.2) 7 1).2.2) (answer_F 7 1)).2) 7 1).2.2) 7 2).2.1 = 0) := of_decide_eq_false hq19
                refine xd_skip hok 26 [(12, _), (69, _)] rfl rfl rfl (lc rfl (lc rfl ln)) (by kernel_rfl) ⟨_, _, rfl, rfl, rfl⟩ ?_
                refine xd_skip hok 27 [(70, _), (69, _)] rfl rfl rfl (lc rfl (lc rfl ln)) (by kernel_rfl) ⟨_, _, rfl, rfl, rfl⟩ ?_
                refine xd_skip hok 28 [(71, _), (69, _)] rfl rfl rfl (lc rfl (lc rfl ln)) (by kernel_rfl) ⟨_, _, rfl, rfl, rfl⟩ ?_
                refine xd_b hok 29 [(69, _), (72, _)] ([]) rsN rfl rfl rfl (lc rfl (lc rfl ln)) (by kernel_rfl) trivial (fun H' hy hK => o_pick_f rfl rfl) ?_
                refine xd_b hok 30 [(73, _)] ([]) rsN rfl rfl rfl (lc rfl ln) (by kernel_rfl) trivial (fun H' hy hK => o_as rfl) ?_
                refine xd_end hok (by kernel_rfl) ?_
                exact xq_cut ((lce rfl (by first | rfl | (simp only [hq14, hq15, hq16, hq17, hq18, hq19, if_pos hp14, if_pos hp15, if_pos hp16, if_pos hp17, if_pos hp18, if_neg hp19, bS]; done) | (simp only [hq14, hq15, hq16, hq17, hq18, hq19, if_pos hp14, if_pos hp15, if_pos hp16, if_pos hp17, if_pos hp18, if_neg hp19, bS, reduceIte, Bool.false_eq_true]; done) | (simp [hp14, hp15, hp16, hp17, hp18, hp19]; done) | (simp_all; done)) ln)) (fun _ h => h)
            · have hq18 : (decide ((code_F ((bopen_F ((bclose_F ((bopen_F ((bopen_F ([]) 7 1).2.2) 7 1).2.2) (answer_F 7 1)).2) 7 1).2.1)) = 15)) = false := hg18
              have hp18 : ¬ ((code_F ((bopen_F ((bclose_F ((bopen_F ((bopen_F ([]) 7 1).2.2) 7 1).2.2) (answer_F 7 1)).2) 7 1).2.1)) = 15) := of_decide_eq_false hq18
              refine xd_skip hok 22 [(10, _), (65, _)] rfl rfl rfl (lc rfl (lc rfl ln)) (by kernel_rfl) ⟨_, _, rfl, rfl, rfl⟩ ?_
              refine xd_skip hok 23 [(66, _), (65, _)] rfl rfl rfl (lc rfl (lc rfl ln)) (by kernel_rfl) ⟨_, _, rfl, rfl, rfl⟩ ?_
              refine xd_b hok 24 [(65, _), (67, _)] ([]) rsN rfl rfl rfl (lc rfl (lc rfl ln)) (by kernel_rfl) trivial (fun H' hy hK => o_pick_f rfl rfl) ?_
              refine xd_b hok 25 [(68, _)] ([]) rsN rfl rfl rfl (lc rfl ln) (by kernel_rfl) trivial (fun H' hy hK => o_mv rfl) ?_
              refine xd_skip hok 26 [(12, _), (69, _)] rfl rfl rfl (lc rfl (lc rfl ln)) (by kernel_rfl) ⟨_, _, rfl, rfl, rfl⟩ ?_
              refine xd_skip hok 27 [(70, _), (69, _)] rfl rfl rfl (lc rfl (lc rfl ln)) (by kernel_rfl) ⟨_, _, rfl, rfl, rfl⟩ ?_
              refine xd_skip hok 28 [(71, _), (69, _)] rfl rfl rfl (lc rfl (lc rfl ln)) (by kernel_rfl) ⟨_, _, rfl, rfl, rfl⟩ ?_
              refine xd_b hok 29 [(69, _), (72, _)] ([]) rsN rfl rfl rfl (lc rfl (lc rfl ln)) (by kernel_rfl) trivial (fun H' hy hK => o_pick_f rfl rfl) ?_
              refine xd_b hok 30 [(73, _)] ([]) rsN rfl rfl rfl (lc rfl ln) (by kernel_rfl) trivial (fun H' hy hK => o_as rfl) ?_
              refine xd_end hok (by kernel_rfl) ?_
              exact xq_cut ((lce rfl (by first | rfl | (simp only [hq14, hq15, hq16, hq17, hq18, if_pos hp14, if_pos hp15, if_pos hp16, if_pos hp17, if_neg hp18, bS]; done) | (simp only [hq14, hq15, hq16, hq17, hq18, if_pos hp14, if_pos hp15, if_pos hp16, if_pos hp17, if_neg hp18, bS, reduceIte, Bool.false_eq_true]; done) | (simp [hp14, hp15, hp16, hp17, hp18]; done) | (simp_all; done)) ln)) (fun _ h => h)
          · have hq17 : ((eqN 28 ((bopen_F ((bclose_F ((bopen_F ((bopen_F ([]) 7 1).2.2) 7 1).2.2) (answer_F 7 1)).2) 7 1).1) (answer_F 7 1))) = false := hg17
            have hp17 : ¬ (((eqN 28 ((bopen_F ((bclose_F ((bopen_F ((bopen_F ([]) 7 1).2.2) 7 1).2.2) (answer_F 7 1)).2) 7 1).1) (answer_F 7 1))) = true) := bne' hq17
            refine xd_skip hok 17 [(8, _), (60, _)] rfl rfl rfl (lc rfl (lc rfl ln)) (by kernel_rfl) ⟨_, _, rfl, rfl, rfl⟩ ?_
            refine xd_skip hok 18 [(61, _), (60, _)] rfl rfl rfl (lc rfl (lc rfl ln)) (by kernel_rfl) ⟨_, _, rfl, rfl, rfl⟩ ?_
            refine xd_skip hok 19 [(62, _), (60, _)] rfl rfl rfl (lc rfl (lc rfl ln)) (by kernel_rfl) ⟨_, _, rfl, rfl, rfl⟩ ?_
            refine xd_b hok 20 [(60, _), (63, _)] ([]) rsN rfl rfl rfl (lc rfl (lc rfl ln)) (by kernel_rfl) trivial (fun H' hy hK => o_pick_f rfl rfl) ?_
            refine xd_b hok 21 [(64, _)] ([]) rsN rfl rfl rfl (lc rfl ln) (by kernel_rfl) trivial (fun H' hy hK => o_mv rfl) ?_
            refine xd_skip hok 22 [(10, _), (65, _)] rfl rfl rfl (lc rfl (lc rfl ln)) (by kernel_rfl) ⟨_, _, rfl, rfl, rfl⟩ ?_
            refine xd_skip hok 23 [(66, _), (65, _)] rfl rfl rfl (lc rfl (lc rfl ln)) (by kernel_rfl) ⟨_, _, rfl, rfl, rfl⟩ ?_
            refine xd_b hok 24 [(65, _), (67, _)] ([]) rsN rfl rfl rfl (lc rfl (lc rfl ln)) (by kernel_rfl) trivial (fun H' hy hK => o_pick_f rfl rfl) ?_
            refine xd_b hok 25 [(68, _)] ([]) rsN rfl rfl rfl (lc rfl ln) (by kernel_rfl) trivial (fun H' hy hK => o_mv rfl) ?_
            refine xd_skip hok 26 [(12, _), (69, _)] rfl rfl rfl (lc rfl (lc rfl ln)) (by kernel_rfl) ⟨_, _, rfl, rfl, rfl⟩ ?_
            refine xd_skip hok 27 [(70, _), (69, _)] rfl rfl rfl (lc rfl (lc rfl ln)) (by kernel_rfl) ⟨_, _, rfl, rfl, rfl⟩ ?_
            refine xd_skip hok 28 [(71, _), (69, _)] rfl rfl rfl (lc rfl (lc rfl ln)) (by kernel_rfl) ⟨_, _, rfl, rfl, rfl⟩ ?_
            refine xd_b hok 29 [(69, _), (72, _)] ([]) rsN rfl rfl rfl (lc rfl (lc rfl ln)) (by kernel_rfl) trivial (fun H' hy hK => o_pick_f rfl rfl) ?_
            refine xd_b hok 30 [(73, _)] ([]) rsN rfl rfl rfl (lc rfl ln) (by kernel_rfl) trivial (fun H' hy hK => o_as rfl) ?_
            refine xd_end hok (by kernel_rfl) ?_
            exact xq_cut ((lce rfl (by first | rfl | (simp only [hq14, hq15, hq16, hq17, if_pos hp14, if_pos hp15, if_pos hp16, if_neg hp17, bS]; done) | (simp only [hq14, hq15, hq16, hq17, if_pos hp14, if_pos hp15, if_pos hp16, if_neg hp17, bS, reduceIte, Bool.false_eq_true]; done) | (simp [hp14, hp15, hp16, hp17]; done) | (simp_all; done)) ln)) (fun _ h => h)
        · have hq16 : (decide ((bclose_F ((bopen_F ((bopen_F ([]) 7 1).2.2) 7 1).2.2) (answer_F 7 1)).1 = 0)) = false := hg16
          have hp16 : ¬ ((bclose_F ((bopen_F ((bopen_F ([]) 7 1).2.2) 7 1).2.2) (answer_F 7 1)).1 = 0) := of_decide_eq_false hq16
          refine xd_skip hok 12 [(7, _), (55, _)] rfl rfl rfl (lc rfl (lc rfl ln)) (by kernel_rfl) ⟨_, _, rfl, rfl, rfl⟩ ?_
          refine xd_skip hok 13 [(55, _)] rfl rfl rfl (lc rfl ln) (by kernel_rfl) ⟨_, _, rfl, rfl, rfl⟩ ?_
          refine xd_skip hok 14 [(56, _), (57, _), (55, _)] rfl rfl rfl (lc rfl (lc rfl (lc rfl ln))) (by kernel_rfl) ⟨_, _, rfl, rfl, rfl⟩ ?_
          refine xd_b hok 15 [(55, _), (58, _)] ([]) rsN rfl rfl rfl (lc rfl (lc rfl ln)) (by kernel_rfl) trivial (fun H' hy hK => o_pick_f rfl rfl) ?_
          refine xd_b hok 16 [(59, _)] ([]) rsN rfl rfl rfl (lc rfl ln) (by kernel_rfl) trivial (fun H' hy hK => o_mv rfl) ?_
          refine xd_skip hok 17 [(8, _), (60, _)] rfl rfl rfl (lc rfl (lc rfl ln)) (by kernel_rfl) ⟨_, _, rfl, rfl, rfl⟩ ?_
          refine xd_skip hok 18 [(61, _), (60, _)] rfl rfl rfl (lc rfl (lc rfl ln)) (by kernel_rfl) ⟨_, _, rfl, rfl, rfl⟩ ?_
          refine xd_skip hok 19 [(62, _), (60, _)] rfl rfl rfl (lc rfl (lc rfl ln)) (by kernel_rfl) ⟨_, _, rfl, rfl, rfl⟩ ?_
          refine xd_b hok 20 [(60, _), (63, _)] ([]) rsN rfl rfl rfl (lc rfl (lc rfl ln)) (by kernel_rfl) trivial (fun H' hy hK => o_pick_f rfl rfl) ?_
          refine xd_b hok 21 [(64, _)] ([]) rsN rfl rfl rfl (lc rfl ln) (by kernel_rfl) trivial (fun H' hy hK => o_mv rfl) ?_
          refine xd_skip hok 22 [(10, _), (65, _)] rfl rfl rfl (lc rfl (lc rfl ln)) (by kernel_rfl) ⟨_, _, rfl, rfl, rfl⟩ ?_
          refine xd_skip hok 23 [(66, _), (65, _)] rfl rfl rfl (lc rfl (lc rfl ln)) (by kernel_rfl) ⟨_, _, rfl, rfl, rfl⟩ ?_
          refine xd_b hok 24 [(65, _), (67, _)] ([]) rsN rfl rfl rfl (lc rfl (lc rfl ln)) (by kernel_rfl) trivial (fun H' hy hK => o_pick_f rfl rfl) ?_
          refine xd_b hok 25 [(68, _)] ([]) rsN rfl rfl rfl (lc rfl ln) (by kernel_rfl) trivial (fun H' hy hK => o_mv rfl) ?_
          refine xd_skip hok 26 [(12, _), (69, _)] rfl rfl rfl (lc rfl (lc rfl ln)) (by kernel_rfl) ⟨_, _, rfl, rfl, rfl⟩ ?_
          refine xd_skip hok 27 [(70, _), (69, _)] rfl rfl rfl (lc rfl (lc rfl ln)) (by kernel_rfl) ⟨_, _, rfl, rfl, rfl⟩ ?_
          refine xd_skip hok 28 [(71, _), (69, _)] rfl rfl rfl (lc rfl (lc rfl ln)) (by kernel_rfl) ⟨_, _, rfl, rfl, rfl⟩ ?_
          refine xd_b hok 29 [(69, _), (72, _)] ([]) rsN rfl rfl rfl (lc rfl (lc rfl ln)) (by kernel_rfl) trivial (fun H' hy hK => o_pick_f rfl rfl) ?_
          refine xd_b hok 30 [(73, _)] ([]) rsN rfl rfl rfl (lc rfl ln) (by kernel_rfl) trivial (fun H' hy hK => o_as rfl) ?_
          refine xd_end hok (by kernel_rfl) ?_
          exact xq_cut ((lce rfl (by first | rfl | (simp only [hq14, hq15, hq16, if_pos hp14, if_pos hp15, if_neg hp16, bS]; done) | (simp only [hq14, hq15, hq16, if_pos hp14, if_pos hp15, if_neg hp16, bS, reduceIte, Bool.false_eq_true]; done) | (simp [hp14, hp15, hp16]; done) | (simp_all; done)) ln)) (fun _ h => h)
      · have hq15 : (decide ((code_F ((bopen_F ((bopen_F ([]) 7 1).2.2) 7 1).2.1)) = 8)) = false := hg15
        have hp15 : ¬ ((code_F ((bopen_F ((bopen_F ([]) 7 1).2.2) 7 1).2.1)) = 8) := of_decide_eq_false hq15
        refine xd_skip hok 8 [(6, _), (51, _)] rfl rfl rfl (lc rfl (lc rfl ln)) (by kernel_rfl) ⟨_, _, rfl, rfl, rfl⟩ ?_
        refine xd_skip hok 9 [(52, _), (51, _)] rfl rfl rfl (lc rfl (lc rfl ln)) (by kernel_rfl) ⟨_, _, rfl, rfl, rfl⟩ ?_
        refine xd_b hok 10 [(51, _), (53, _)] ([]) rsN rfl rfl rfl (lc rfl (lc rfl ln)) (by kernel_rfl) trivial (fun H' hy hK => o_pick_f rfl rfl) ?_
        refine xd_b hok 11 [(54, _)] ([]) rsN rfl rfl rfl (lc rfl ln) (by kernel_rfl) trivial (fun H' hy hK => o_mv rfl) ?_
        refine xd_skip hok 12 [(7, _), (55, _)] rfl rfl rfl (lc rfl (lc rfl ln)) (by kernel_rfl) ⟨_, _, rfl, rfl, rfl⟩ ?_
        refine xd_skip hok 13 [(55, _)] rfl rfl rfl (lc rfl ln) (by kernel_rfl) ⟨_, _, rfl, rfl, rfl⟩ ?_
        refine xd_skip hok 14 [(56, _), (57, _), (55, _)] rfl rfl rfl (lc rfl (lc rfl (lc rfl ln))) (by kernel_rfl) ⟨_, _, rfl, rfl, rfl⟩ ?_
        refine xd_b hok 15 [(55, _), (58, _)] ([]) rsN rfl rfl rfl (lc rfl (lc rfl ln)) (by kernel_rfl) trivial (fun H' hy hK => o_pick_f rfl rfl) ?_
        refine xd_b hok 16 [(59, _)] ([]) rsN rfl rfl rfl (lc rfl ln) (by kernel_rfl) trivial (fun H' hy hK => o_mv rfl) ?_
        refine xd_skip hok 17 [(8, _), (60, _)] rfl rfl rfl (lc rfl (lc rfl ln)) (by kernel_rfl) ⟨_, _, rfl, rfl, rfl⟩ ?_
        refine xd_skip hok 18 [(61, _), (60, _)] rfl rfl rfl (lc rfl (lc rfl ln)) (by kernel_rfl) ⟨_, _, rfl, rfl, rfl⟩ ?_
        refine xd_skip hok 19 [(62, _), (60, _)] rfl rfl rfl (lc rfl (lc rfl ln)) (by kernel_rfl) ⟨_, _, rfl, rfl, rfl⟩ ?_
        refine xd_b hok 20 [(60, _), (63, _)] ([]) rsN rfl rfl rfl (lc rfl (lc rfl ln)) (by kernel_rfl) trivial (fun H' hy hK => o_pick_f rfl rfl) ?_
        refine xd_b hok 21 [(64, _)] ([]) rsN rfl rfl rfl (lc rfl ln) (by kernel_rfl) trivial (fun H' hy hK => o_mv rfl) ?_
        refine xd_skip hok 22 [(10, _), (65, _)] rfl rfl rfl (lc rfl (lc rfl ln)) (by kernel_rfl) ⟨_, _, rfl, rfl, rfl⟩ ?_
        refine xd_skip hok 23 [(66, _), (65, _)] rfl rfl rfl (lc rfl (lc rfl ln)) (by kernel_rfl) ⟨_, _, rfl, rfl, rfl⟩ ?_
        refine xd_b hok 24 [(65, _), (67, _)] ([]) rsN rfl rfl rfl (lc rfl (lc rfl ln)) (by kernel_rfl) trivial (fun H' hy hK => o_pick_f rfl rfl) ?_
        refine xd_b hok 25 [(68, _)] ([]) rsN rfl rfl rfl (lc rfl ln) (by kernel_rfl) trivial (fun H' hy hK => o_mv rfl) ?_
        refine xd_skip hok 26 [(12, _), (69, _)] rfl rfl rfl (lc rfl (lc rfl ln)) (by kernel_rfl) ⟨_, _, rfl, rfl, rfl⟩ ?_
        refine xd_skip hok 27 [(70, _), (69, _)] rfl rfl rfl (lc rfl (lc rfl ln)) (by kernel_rfl) ⟨_, _, rfl, rfl, rfl⟩ ?_
        refine xd_skip hok 28 [(71, _), (69, _)] rfl rfl rfl (lc rfl (lc rfl ln)) (by kernel_rfl) ⟨_, _, rfl, rfl, rfl⟩ ?_
        refine xd_b hok 29 [(69, _), (72, _)] ([]) rsN rfl rfl rfl (lc rfl (lc rfl ln)) (by kernel_rfl) trivial (fun H' hy hK => o_pick_f rfl rfl) ?_
        refine xd_b hok 30 [(73, _)] ([]) rsN rfl rfl rfl (lc rfl ln) (by kernel_rfl) trivial (fun H' hy hK => o_as rfl) ?_
        refine xd_end hok (by kernel_rfl) ?_
        exact xq_cut ((lce rfl (by first | rfl | (simp only [hq14, hq15, if_pos hp14, if_neg hp15, bS]; done) | (simp only [hq14, hq15, if_pos hp14, if_neg hp15, bS, reduceIte, Bool.false_eq_true]; done) | (simp [hp14, hp15]; done) | (simp_all; done)) ln)) (fun _ h => h)
    · have hq14 : (decide ((bopen_F ([]) 7 1).2.1 = 0)) = false := hg14
      have hp14 : ¬ ((bopen_F ([]) 7 1).2.1 = 0) := of_decide_eq_false hq14
      refine xd_skip hok 3 [(5, _), (46, _)] rfl rfl rfl (lc rfl (lc rfl ln)) (by kernel_rfl) ⟨_, _, rfl, rfl, rfl⟩ ?_
      refine xd_skip hok 4 [(47, _), (46, _)] rfl rfl rfl (lc rfl (lc rfl ln)) (by kernel_rfl) ⟨_, _, rfl, rfl, rfl⟩ ?_
      refine xd_skip hok 5 [(48, _), (46, _)] rfl rfl rfl (lc rfl (lc rfl ln)) (by kernel_rfl) ⟨_, _, rfl, rfl, rfl⟩ ?_
      refine xd_b hok 6 [(46, _), (49, _)] ([]) rsN rfl rfl rfl (lc rfl (lc rfl ln)) (by kernel_rfl) trivial (fun H' hy hK => o_pick_f rfl rfl) ?_
      refine xd_b hok 7 [(50, _)] ([]) rsN rfl rfl rfl (lc rfl ln) (by kernel_rfl) trivial (fun H' hy hK => o_mv rfl) ?_
      refine xd_skip hok 8 [(6, _), (51, _)] rfl rfl rfl (lc rfl (lc rfl ln)) (by kernel_rfl) ⟨_, _, rfl, rfl, rfl⟩ ?_
      refine xd_skip hok 9 [(52, _), (51, _)] rfl rfl rfl (lc rfl (lc rfl ln)) (by kernel_rfl) ⟨_, _, rfl, rfl, rfl⟩ ?_
      refine xd_b hok 10 [(51, _), (53, _)] ([]) rsN rfl rfl rfl (lc rfl (lc rfl ln)) (by kernel_rfl) trivial (fun H' hy hK => o_pick_f rfl rfl) ?_
      refine xd_b hok 11 [(54, _)] ([]) rsN rfl rfl rfl (lc rfl ln) (by kernel_rfl) trivial (fun H' hy hK => o_mv rfl) ?_
      refine xd_skip hok 12 [(7, _), (55, _)] rfl rfl rfl (lc rfl (lc rfl ln)) (by kernel_rfl) ⟨_, _, rfl, rfl, rfl⟩ ?_
      refine xd_skip hok 13 [(55, _)] rfl rfl rfl (lc rfl ln) (by kernel_rfl) ⟨_, _, rfl, rfl, rfl⟩ ?_
      refine xd_skip hok 14 [(56, _), (57, _), (55, _)] rfl rfl rfl (lc rfl (lc rfl (lc rfl ln))) (by kernel_rfl) ⟨_, _, rfl, rfl, rfl⟩ ?_
      refine xd_b hok 15 [(55, _), (58, _)] ([]) rsN rfl rfl rfl (lc rfl (lc rfl ln)) (by kernel_rfl) trivial (fun H' hy hK => o_pick_f rfl rfl) ?_
      refine xd_b hok 16 [(59, _)] ([]) rsN rfl rfl rfl (lc rfl ln) (by kernel_rfl) trivial (fun H' hy hK => o_mv rfl) ?_
      refine xd_skip hok 17 [(8, _), (60, _)] rfl rfl rfl (lc rfl (lc rfl ln)) (by kernel_rfl) ⟨_, _, rfl, rfl, rfl⟩ ?_
      refine xd_skip hok 18 [(61, _), (60, _)] rfl rfl rfl (lc rfl (lc rfl ln)) (by kernel_rfl) ⟨_, _, rfl, rfl, rfl⟩ ?_
      refine xd_skip hok 19 [(62, _), (60, _)] rfl rfl rfl (lc rfl (lc rfl ln)) (by kernel_rfl) ⟨_, _, rfl, rfl, rfl⟩ ?_
      refine xd_b hok 20 [(60, _), (63, _)] ([]) rsN rfl rfl rfl (lc rfl (lc rfl ln)) (by kernel_rfl) trivial (fun H' hy hK => o_pick_f rfl rfl) ?_
      refine xd_b hok 21 [(64, _)] ([]) rsN rfl rfl rfl (lc rfl ln) (by kernel_rfl) trivial (fun H' hy hK => o_mv rfl) ?_
      refine xd_skip hok 22 [(10, _), (65, _)] rfl rfl rfl (lc rfl (lc rfl ln)) (by kernel_rfl) ⟨_, _, rfl, rfl, rfl⟩ ?_
      refine xd_skip hok 23 [(66, _), (65, _)] rfl rfl rfl (lc rfl (lc rfl ln)) (by kernel_rfl) ⟨_, _, rfl, rfl, rfl⟩ ?_
      refine xd_b hok 24 [(65, _), (67, _)] ([]) rsN rfl rfl rfl (lc rfl (lc rfl ln)) (by kernel_rfl) trivial (fun H' hy hK => o_pick_f rfl rfl) ?_
      refine xd_b hok 25 [(68, _)] ([]) rsN rfl rfl rfl (lc rfl ln) (by kernel_rfl) trivial (fun H' hy hK => o_mv rfl) ?_
      refine xd_skip hok 26 [(12, _), (69, _)] rfl rfl rfl (lc rfl (lc rfl ln)) (by kernel_rfl) ⟨_, _, rfl, rfl, rfl⟩ ?_
      refine xd_skip hok 27 [(70, _), (69, _)] rfl rfl rfl (lc rfl (lc rfl ln)) (by kernel_rfl) ⟨_, _, rfl, rfl, rfl⟩ ?_
      refine xd_skip hok 28 [(71, _), (69, _)] rfl rfl rfl (lc rfl (lc rfl ln)) (by kernel_rfl) ⟨_, _, rfl, rfl, rfl⟩ ?_
      refine xd_b hok 29 [(69, _), (72, _)] ([]) rsN rfl rfl rfl (lc rfl (lc rfl ln)) (by kernel_rfl) trivial (fun H' hy hK => o_pick_f rfl rfl) ?_
      refine xd_b hok 30 [(73, _)] ([]) rsN rfl rfl rfl (lc rfl ln) (by kernel_rfl) trivial (fun H' hy hK => o_as rfl) ?_
      refine xd_end hok (by kernel_rfl) ?_
      exact xq_cut ((lce rfl (by first | rfl | (simp only [hq14, if_neg hp14, bS]; done) | (simp only [hq14, if_neg hp14, bS, reduceIte, Bool.false_eq_true]; done) | (simp [hp14]; done) | (simp_all; done)) ln)) (fun _ h => h)
  · refine xq_then (xw_ret ?_)
    subst h
    exact con_ret1 (.inl rfl) Try.results7 rfl [] (Kp.st (Kp.new hb11 (Kp.new hb3 (Kp.segNew (Cov.fresh hcBg13_0) (Kp.new hb9 (Kp.new hb7 (Kp.new hb4 (Kp.new hb2 Kp.nil)))))))) (⟨rfl, rfl⟩)

theorem alive13_c (w : World) : Con Try.prog 7 #[] w (Is (.bool alive13_F) []) :=
  alive13_con w _ (alive13_ok)

end Go.Proofs.Ytndkjhaiopcpeaa
