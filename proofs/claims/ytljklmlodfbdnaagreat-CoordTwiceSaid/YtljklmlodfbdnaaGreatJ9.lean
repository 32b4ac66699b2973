/- Part 9 of the proof. -/
import Derived.Test.YtljklmlodfbdnaaGreatJ2
import Derived.Test.YtljklmlodfbdnaaGreatJ3
import Derived.Test.YtljklmlodfbdnaaGreatJ5
import Derived.Test.YtljklmlodfbdnaaGreatJ8
set_option maxHeartbeats 1000000
set_option maxRecDepth 100000
set_option linter.unusedVariables false
set_option linter.unusedSimpArgs false
set_option linter.unusedSectionVars false
set_option linter.unnecessarySimpa false
namespace Go.Proofs.YtljklmlodfbdnaaGreat
open Go Go.E
theorem twice18_con (probe0 : Bool) (acts1 : LM) (v1 : Value) (w : World) (hs1 : SL w 33 iv v1 acts1) (r : Bool) (h : twice18_S probe0 acts1 r) : Con Tryz.prog 9 #[.bool (probe0),v1] w (Is (.bool r) []) := by
 unfold twice18_S at h; refine ce Tryz.func9 rfl Tryz.ntmps9 rfl (wS (va rfl (nS (xw_seq (wS (xc rfl kf10 rfl (fun w1 hw1=>alive18_con w1 _ alive18_ok) (xQ rfl (o_not rfl) (nS (wc rfl h (fun hp1 h=>?_) fun hp1 h=>?_)))))))))
 ·refine wS (va rfl (nS (xw_ret (xq_then_ret ?_)))); subst h
  exact rO Tryz.results9 rfl (⟨rfl,rfl⟩)
 ·refine xw_skip (xq_then (xw_seq (wS (vm rfl (xQ rfl (o_lenL rfl Tryz.underlying24 rfl (SL.val hs1)) (xQ rfl (o_gtr rfl rfl) (nS (wd rfl h (fun hp2 h=>?_) fun hp2 h=>?_))))))))
  ·refine wS (va rfl (nS (xw_ret (xq_then_ret ?_)))); subst h
   exact rO Tryz.results9 rfl (⟨rfl,rfl⟩)
  ·refine xw_skip (xq_then (wS (vm rfl (xin rfl kf19 rfl Tryz.func19 rfl Tryz.ntmps19 rfl (wS (xr rfl (o_alloc ze23 rfl) ?_)))))); rintro _ _ ⟨b2,hb2,rfl,rfl⟩; refine nR (vm rfl (xQ rfl (o_buildM (k := (kS [1])) (m := (updI (updI (updI (updI (updI (updI (updI (fun _=>0) 0 2) 1 (bI probe0)) 2 5) 3 3) 4 40) 5 6) 6 1000)) fk23 ze23 (.one fl23_0 rfl rfl rfl (.one fl23_1 rfl rfl rfl (.one fl23_2 rfl rfl rfl (.one fl23_3 rfl rfl rfl (.one fl23_4 rfl rfl rfl (.one fl23_5 rfl rfl rfl (.one fl23_6 rfl rfl rfl (.nil _)))))))) (M7 rfl (bBI probe0) rfl rfl rfl rfl rfl)) (xZ rfl (o_stW rfl rfl ts23 (fun _ _=>mv_one) mH (.here _ _ _ _)) (nS (xw_ret (con_retN (.inl rfl) (l := [.cell 2 23]) Tryz.results19 (.cell rfl ts23 mH .nil) rfl _ (fun _ h=>h) (?_))))))); refine xin rfl kf11 rfl Tryz.func11 rfl Tryz.ntmps11 rfl (wS (xr rfl (o_boxA rfl) ?_)); rintro _ _ ⟨b2a,hb2a,rfl,rfl⟩; refine va rfl (va rfl (nS (xw_seq (wS (xQ rfl (o_ldW rfl ts23 mH) (xin rfl kf31 rfl Tryz.func31 rfl Tryz.ntmps31 rfl (wS (xr rfl (o_boxA rfl) ?_)))))))); rintro _ _ ⟨b1,hb1,rfl,rfl⟩; refine va rfl (nS (xw_seq (wS (xQ rfl (o_fa0 fl23_0 rfl) (xQ rfl (o_ld (v := iI 2) rfl ts3 mH (by omega) (mv_i rfl)) (xin rfl kf69 rfl Tryz.func69 rfl Tryz.ntmps69 rfl (wS (va rfl (nS ?_))))))))); refine xw_seq (wk [] rfl [(6,.bool ((decide (1≤2)) && (decide (2≤64))))] ?_ ?_)
   ·refine xw_region (vm rfl (vm rfl (xQ rfl (o_geq rfl rfl) (vm rfl (od' 10 rfl (fun hp3=>?_) fun hp3=>?_)))))
    ·exact vm rfl (vm rfl (xQ rfl (o_leq rfl rfl) (vt rfl (va rfl (xo_nil (qk rfl (by first | rfl | (simp only [hp1,dF hp2,dT hp3,if_pos hp1,if_neg hp2,if_pos hp3,bS,reduceIte,Bool.false_eq_true]; done) | (simp [hp1,hp2,hp3]; done) | (simp_all; done)) rfl))))))
    ·exact vs rfl (vs rfl (vs rfl (vf rfl (va rfl (xo_nil (qk rfl (by first | rfl | (simp only [hp1,dF hp2,dF hp3,if_pos hp1,if_neg hp2,if_neg hp3,bS,reduceIte,Bool.false_eq_true]; done) | (simp [hp1,hp2,hp3]; done) | (simp_all; done)) rfl))))))
   ·refine xq_then (xw_ret (rO Tryz.results69 rfl (?_))); refine vm rfl (ob 6 rfl h (fun hp4 h=>?_) fun hp4 h=>?_)
    ·refine xQ rfl (o_fa0 fl23_2 rfl) (xQ rfl (o_ld (v := iI 5) rfl ts3 mH (by omega) (mv_i rfl)) (xin rfl kf69 rfl Tryz.func69 rfl Tryz.ntmps69 rfl (wS (va rfl (nS (xw_seq (wk [] rfl [(6,.bool ((decide (1≤5)) && (decide (5≤1000))))] ?_ ?_)))))))
     ·refine xw_region (vm rfl (vm rfl (xQ rfl (o_geq rfl rfl) (vm rfl (od' 10 rfl (fun hp5=>?_) fun hp5=>?_)))))
      ·exact vm rfl (vm rfl (xQ rfl (o_leq rfl rfl) (vt rfl (va rfl (xo_nil (qk rfl (by first | rfl | (simp only [hp1,dF hp2,hp4,dT hp5,if_pos hp1,if_neg hp2,if_pos hp4,if_pos hp5,bS,reduceIte,Bool.false_eq_true]; done) | (simp [hp1,hp2,hp4,hp5]; done) | (simp_all; done)) rfl))))))
      ·exact vs rfl (vs rfl (vs rfl (vf rfl (va rfl (xo_nil (qk rfl (by first | rfl | (simp only [hp1,dF hp2,hp4,dF hp5,if_pos hp1,if_neg hp2,if_pos hp4,if_neg hp5,bS,reduceIte,Bool.false_eq_true]; done) | (simp [hp1,hp2,hp4,hp5]; done) | (simp_all; done)) rfl))))))
     ·refine xq_then (xw_ret (rO Tryz.results69 rfl (?_))); refine vt rfl (vm rfl (ob 11 rfl h (fun hp6 h=>?_) fun hp6 h=>?_))
      ·refine xQ rfl (o_fa0 fl23_3 rfl) (xQ rfl (o_ld (v := iI 3) rfl ts3 mH (by omega) (mv_i rfl)) (xin rfl kf69 rfl Tryz.func69 rfl Tryz.ntmps69 rfl (wS (va rfl (nS (xw_seq (wk [] rfl [(6,.bool ((decide (1≤3)) && (decide (3≤1000))))] ?_ ?_)))))))
       ·refine xw_region (vm rfl (vm rfl (xQ rfl (o_geq rfl rfl) (vm rfl (od' 10 rfl (fun hp7=>?_) fun hp7=>?_)))))
        ·exact vm rfl (vm rfl (xQ rfl (o_leq rfl rfl) (vt rfl (va rfl (xo_nil (qk rfl (by first | rfl | (simp only [hp1,dF hp2,hp4,hp6,dT hp7,if_pos hp1,if_neg hp2,if_pos hp4,if_pos hp6,if_pos hp7,bS,reduceIte,Bool.false_eq_true]; done) | (simp [hp1,hp2,hp4,hp6,hp7]; done) | (simp_all; done)) rfl))))))
        ·exact vs rfl (vs rfl (vs rfl (vf rfl (va rfl (xo_nil (qk rfl (by first | rfl | (simp only [hp1,dF hp2,hp4,hp6,dF hp7,if_pos hp1,if_neg hp2,if_pos hp4,if_pos hp6,if_neg hp7,bS,reduceIte,Bool.false_eq_true]; done) | (simp [hp1,hp2,hp4,hp6,hp7]; done) | (simp_all; done)) rfl))))))
       ·refine xq_then (xw_ret (rO Tryz.results69 rfl (?_))); refine vt rfl (vm rfl (ob 16 rfl h (fun hp8 h=>?_) fun hp8 h=>?_))
        ·refine xQ rfl (o_fa0 fl23_4 rfl) (xQ rfl (o_ld (v := iI 40) rfl ts3 mH (by omega) (mv_i rfl)) (xin rfl kf69 rfl Tryz.func69 rfl Tryz.ntmps69 rfl (wS (va rfl (nS (xw_seq (wk [] rfl [(6,.bool ((decide (1≤40)) && (decide (40≤4096))))] ?_ ?_)))))))
         ·refine xw_region (vm rfl (vm rfl (xQ rfl (o_geq rfl rfl) (vm rfl (od' 10 rfl (fun hp9=>?_) fun hp9=>?_)))))
          ·exact vm rfl (vm rfl (xQ rfl (o_leq rfl rfl) (vt rfl (va rfl (xo_nil (qk rfl (by first | rfl | (simp only [hp1,dF hp2,hp4,hp6,hp8,dT hp9,if_pos hp1,if_neg hp2,if_pos hp4,if_pos hp6,if_pos hp8,if_pos hp9,bS,reduceIte,Bool.false_eq_true]; done) | (simp [hp1,hp2,hp4,hp6,hp8,hp9]; done) | (simp_all; done)) rfl))))))
          ·exact vs rfl (vs rfl (vs rfl (vf rfl (va rfl (xo_nil (qk rfl (by first | rfl | (simp only [hp1,dF hp2,hp4,hp6,hp8,dF hp9,if_pos hp1,if_neg hp2,if_pos hp4,if_pos hp6,if_pos hp8,if_neg hp9,bS,reduceIte,Bool.false_eq_true]; done) | (simp [hp1,hp2,hp4,hp6,hp8,hp9]; done) | (simp_all; done)) rfl))))))
         ·refine xq_then (xw_ret (rO Tryz.results69 rfl (?_))); refine vt rfl (vm rfl (ob 21 rfl h (fun hp10 h=>?_) fun hp10 h=>?_))
          ·refine xQ rfl (o_fa0 fl23_5 rfl) (xQ rfl (o_ld (v := iI 6) rfl ts3 mH (by omega) (mv_i rfl)) (xin rfl kf69 rfl Tryz.func69 rfl Tryz.ntmps69 rfl (wS (va rfl (nS (xw_seq (wk [] rfl [(6,.bool ((decide (1≤6)) && (decide (6≤64))))] ?_ ?_)))))))
           ·refine xw_region (vm rfl (vm rfl (xQ rfl (o_geq rfl rfl) (vm rfl (od' 10 rfl (fun hp11=>?_) fun hp11=>?_)))))
            ·exact vm rfl (vm rfl (xQ rfl (o_leq rfl rfl) (vt rfl (va rfl (xo_nil (qk rfl (by first | rfl | (simp only [hp1,dF hp2,hp4,hp6,hp8,hp10,dT hp11,if_pos hp1,if_neg hp2,if_pos hp4,if_pos hp6,if_pos hp8,if_pos hp10,if_pos hp11,bS,reduceIte,Bool.false_eq_true]; done) | (simp [hp1,hp2,hp4,hp6,hp8,hp10,hp11]; done) | (simp_all; done)) rfl))))))
            ·exact vs rfl (vs rfl (vs rfl (vf rfl (va rfl (xo_nil (qk rfl (by first | rfl | (simp only [hp1,dF hp2,hp4,hp6,hp8,hp10,dF hp11,if_pos hp1,if_neg hp2,if_pos hp4,if_pos hp6,if_pos hp8,if_pos hp10,if_neg hp11,bS,reduceIte,Bool.false_eq_true]; done) | (simp [hp1,hp2,hp4,hp6,hp8,hp10,hp11]; done) | (simp_all; done)) rfl))))))
           ·refine xq_then (xw_ret (rO Tryz.results69 rfl (?_))); refine vt rfl (vm rfl (ob 26 rfl h (fun hp12 h=>?_) fun hp12 h=>?_))
            ·refine xQ rfl (o_fa0 fl23_6 rfl) (xQ rfl (o_ld (v := iI 1000) rfl ts3 mH (by omega) (mv_i rfl)) (xin rfl kf69 rfl Tryz.func69 rfl Tryz.ntmps69 rfl (wS (va rfl (nS (xw_seq (wk [] rfl [(6,.bool ((decide (1≤1000)) && (decide (1000≤65536))))] ?_ ?_)))))))
             ·refine xw_region (vm rfl (vm rfl (xQ rfl (o_geq rfl rfl) (vm rfl (od' 10 rfl (fun hp13=>?_) fun hp13=>?_)))))
              ·exact vm rfl (vm rfl (xQ rfl (o_leq rfl rfl) (vt rfl (va rfl (xo_nil (qk rfl (by first | rfl | (simp only [hp1,dF hp2,hp4,hp6,hp8,hp10,hp12,dT hp13,if_pos hp1,if_neg hp2,if_pos hp4,if_pos hp6,if_pos hp8,if_pos hp10,if_pos hp12,if_pos hp13,bS,reduceIte,Bool.false_eq_true]; done) | (simp [hp1,hp2,hp4,hp6,hp8,hp10,hp12,hp13]; done) | (simp_all; done)) rfl))))))
              ·exact vs rfl (vs rfl (vs rfl (vf rfl (va rfl (xo_nil (qk rfl (by first | rfl | (simp only [hp1,dF hp2,hp4,hp6,hp8,hp10,hp12,dF hp13,if_pos hp1,if_neg hp2,if_pos hp4,if_pos hp6,if_pos hp8,if_pos hp10,if_pos hp12,if_neg hp13,bS,reduceIte,Bool.false_eq_true]; done) | (simp [hp1,hp2,hp4,hp6,hp8,hp10,hp12,hp13]; done) | (simp_all; done)) rfl))))))
             ·refine xq_then (xw_ret (rO Tryz.results69 rfl (?_))); refine vt rfl (nS (wb rfl h (fun hp14 h=>?_) fun hp14 h=>?_))
              ·refine wS (va rfl (nS (xw_ret (xq_then_ret (rO Tryz.results31 rfl (?_)))))); refine va rfl (nR (vm rfl (xQ rfl (o_nen Tryz.underlying28 rfl rfl rfl rfl) (nS (xw_cond_f rfl rfl (xw_skip (xq_then (wS ?_)))))))); refine vm rfl (xin rfl kf32 rfl Tryz.func32 rfl Tryz.ntmps32 rfl (wS (va rfl (va rfl (nS (xw_seq (xw_seq (wk [0] rfl [(9,.bool false)] ?_ ?_))))))))
               ·exact xw_region (vm rfl (xQ rfl (o_lss rfl rfl) (vm rfl (vm rfl (xQ rfl (o_gtr rfl rfl) (vf rfl (xo_nil (qk rfl (by first | rfl | (simp only [hp1,dF hp2,hp4,hp6,hp8,hp10,hp12,hp14,if_pos hp1,if_neg hp2,if_pos hp4,if_pos hp6,if_pos hp8,if_pos hp10,if_pos hp12,if_pos hp14,bS,reduceIte,Bool.false_eq_true]; done) | (simp [hp1,hp2,hp4,hp6,hp8,hp10,hp12,hp14]; done) | (simp_all; done)) rfl))))))))
               ·refine xq_then (xw_cond_f rfl rfl (xw_skip (xq_then (wS (vm rfl (xQ rfl (o_buildM (k := (kPA 1 3 (kS [2]))) (m := (updI (fun _=>0) 0 4)) fk130 ze130 (.one fl130_0 rfl rfl rfl (.nil _)) (M28 rfl rfl rfl rfl rfl rfl rfl rfl rfl rfl rfl rfl rfl rfl rfl rfl rfl rfl rfl rfl rfl rfl rfl rfl rfl rfl rfl rfl)) (xr rfl (o_boxA rfl) ?_))))))); rintro _ _ ⟨b13,hb13,rfl,rfl⟩; refine va rfl (va rfl (nS (xw_ret (rT Tryz.results32 rfl rfl (?_))))); refine vm rfl (ve rfl (ve rfl (va rfl (va rfl (nS (xw_seq (wS (vm rfl (xQ rfl (o_nen Tryz.underlying28 rfl rfl rfl rfl) (nS ?_)))))))))); refine xw_cond_f rfl rfl (xw_skip (xq_then (wS (xQ rfl (o_ldW rfl ts23 (mT (mT mH))) (vm rfl (xr rfl (o_mkmap (α := (Nat → Value)) (cv := (AG 13)) kt3 Tryz.underlying82) ?_)))))); rintro vs15 _ ⟨Bs15,rfl,hns15,hJs15⟩; have hcBs15 := hns15
                replace hJs15 := NM.nil (R := nT62) hJs15; refine xQ rfl (o_buildC [iI 2,.bool (nz ((bI probe0))),iI 5,iI 3,iI 40,iI 6,iI 1000,.pointer (some ⟨b13,0,none⟩),iI 0,iI 0,vs15,.slice none 0 0] fk84 ze84 (.agg fl84_0 rfl rfl (.one fl84_1 rfl rfl rfl (.one fl84_4 rfl rfl (NM.one hJs15) (.nil _)))) (M12 rfl rfl rfl rfl rfl rfl rfl rfl rfl rfl rfl rfl)) (xr rfl (o_boxC [iI 2,.bool (nz ((bI probe0))),iI 5,iI 3,iI 40,iI 6,iI 1000,.pointer (some ⟨b13,0,none⟩),iI 0,iI 0,vs15,.slice none 0 0] rfl (M12 rfl rfl rfl rfl rfl rfl rfl rfl rfl rfl rfl rfl)) ?_); rintro _ _ ⟨b26,hb26,rfl,rfl⟩; refine va rfl (va rfl (nS (xw_ret (rT Tryz.results11 rfl rfl (?_))))); refine vm rfl (ve rfl (ve rfl (va rfl (va rfl (nR (vm rfl (xin rfl kf19 rfl Tryz.func19 rfl Tryz.ntmps19 rfl (wS (xr rfl (o_alloc ze23 rfl) ?_))))))))); rintro _ _ ⟨b2aa,hb2aa,rfl,rfl⟩; refine nR (vm rfl (xQ rfl (o_buildM (k := (kS [1])) (m := (updI (updI (updI (updI (updI (updI (updI (fun _=>0) 0 2) 1 (bI probe0)) 2 5) 3 3) 4 40) 5 6) 6 1000)) fk23 ze23 (.one fl23_0 rfl rfl rfl (.one fl23_1 rfl rfl rfl (.one fl23_2 rfl rfl rfl (.one fl23_3 rfl rfl rfl (.one fl23_4 rfl rfl rfl (.one fl23_5 rfl rfl rfl (.one fl23_6 rfl rfl rfl (.nil _)))))))) (M7 rfl (bBI probe0) rfl rfl rfl rfl rfl)) (xZ rfl (o_stW rfl rfl ts23 (fun _ _=>mv_one) mH (.here _ _ _ _)) (nS (xw_ret (con_retN (.inl rfl) (l := [.cell 2 23]) Tryz.results19 (.cell rfl ts23 mH .nil) rfl _ (fun _ h=>h) (?_))))))); refine xin rfl kf11 rfl Tryz.func11 rfl Tryz.ntmps11 rfl (wS (xr rfl (o_boxA rfl) ?_)); rintro _ _ ⟨b2aaa,hb2aaa,rfl,rfl⟩; refine va rfl (va rfl (nS (xw_seq (wS (xQ rfl (o_ldW rfl ts23 mH) (xin rfl kf31 rfl Tryz.func31 rfl Tryz.ntmps31 rfl (wS (xr rfl (o_boxA rfl) ?_)))))))); rintro _ _ ⟨b1a,hb1a,rfl,rfl⟩; refine va rfl (nS (xw_seq (wS (xQ rfl (o_fa0 fl23_0 rfl) (xQ rfl (o_ld (v := iI 2) rfl ts3 mH (by omega) (mv_i rfl)) (xin rfl kf69 rfl Tryz.func69 rfl Tryz.ntmps69 rfl (wS (va rfl (nS ?_))))))))); refine xw_seq (wk [] rfl [(6,.bool ((decide (1≤2)) && (decide (2≤64))))] ?_ ?_)
                ·refine xw_region (vm rfl (vm rfl (xQ rfl (o_geq rfl rfl) (vm rfl (od' 10 rfl (fun hp16=>?_) fun hp16=>?_)))))
                 ·exact vm rfl (vm rfl (xQ rfl (o_leq rfl rfl) (vt rfl (va rfl (xo_nil (qk rfl (by first | rfl | (simp only [hp1,dF hp2,hp4,hp6,hp8,hp10,hp12,hp14,dT hp16,if_pos hp1,if_neg hp2,if_pos hp4,if_pos hp6,if_pos hp8,if_pos hp10,if_pos hp12,if_pos hp14,if_pos hp16,bS,reduceIte,Bool.false_eq_true]; done) | (simp [hp1,hp2,hp4,hp6,hp8,hp10,hp12,hp14,hp16]; done) | (simp_all; done)) rfl))))))
                 ·exact vs rfl (vs rfl (vs rfl (vf rfl (va rfl (xo_nil (qk rfl (by first | rfl | (simp only [hp1,dF hp2,hp4,hp6,hp8,hp10,hp12,hp14,dF hp16,if_pos hp1,if_neg hp2,if_pos hp4,if_pos hp6,if_pos hp8,if_pos hp10,if_pos hp12,if_pos hp14,if_neg hp16,bS,reduceIte,Bool.false_eq_true]; done) | (simp [hp1,hp2,hp4,hp6,hp8,hp10,hp12,hp14,hp16]; done) | (simp_all; done)) rfl))))))
                ·refine xq_then (xw_ret (rO Tryz.results69 rfl (?_))); refine vm rfl (xo_val 6 rfl (v' := .bool true) (congrArg Value.bool (hp4)) (xQ rfl (o_fa0 fl23_2 rfl) (xQ rfl (o_ld (v := iI 5) rfl ts3 mH (by omega) (mv_i rfl)) (xin rfl kf69 rfl Tryz.func69 rfl Tryz.ntmps69 rfl (wS (va rfl (nS (xw_seq (wk [] rfl [(6,.bool ((decide (1≤5)) && (decide (5≤1000))))] ?_ ?_)))))))))
                 ·refine xw_region (vm rfl (vm rfl (xQ rfl (o_geq rfl rfl) (vm rfl (od' 10 rfl (fun hp18=>?_) fun hp18=>?_)))))
                  ·exact vm rfl (vm rfl (xQ rfl (o_leq rfl rfl) (vt rfl (va rfl (xo_nil (qk rfl (by first | rfl | (simp only [hp1,dF hp2,hp4,hp6,hp8,hp10,hp12,hp14,dT hp18,if_pos hp1,if_neg hp2,if_pos hp4,if_pos hp6,if_pos hp8,if_pos hp10,if_pos hp12,if_pos hp14,if_pos hp18,bS,reduceIte,Bool.false_eq_true]; done) | (simp [hp1,hp2,hp4,hp6,hp8,hp10,hp12,hp14,hp18]; done) | (simp_all; done)) rfl))))))
                  ·exact vs rfl (vs rfl (vs rfl (vf rfl (va rfl (xo_nil (qk rfl (by first | rfl | (simp only [hp1,dF hp2,hp4,hp6,hp8,hp10,hp12,hp14,dF hp18,if_pos hp1,if_neg hp2,if_pos hp4,if_pos hp6,if_pos hp8,if_pos hp10,if_pos hp12,if_pos hp14,if_neg hp18,bS,reduceIte,Bool.false_eq_true]; done) | (simp [hp1,hp2,hp4,hp6,hp8,hp10,hp12,hp14,hp18]; done) | (simp_all; done)) rfl))))))
                 ·refine xq_then (xw_ret (rO Tryz.results69 rfl (?_))); refine vt rfl (vm rfl (xo_val 11 rfl (v' := .bool true) (congrArg Value.bool (hp6)) (xQ rfl (o_fa0 fl23_3 rfl) (xQ rfl (o_ld (v := iI 3) rfl ts3 mH (by omega) (mv_i rfl)) (xin rfl kf69 rfl Tryz.func69 rfl Tryz.ntmps69 rfl (wS (va rfl (nS (xw_seq (wk [] rfl [(6,.bool ((decide (1≤3)) && (decide (3≤1000))))] ?_ ?_))))))))))
                  ·refine xw_region (vm rfl (vm rfl (xQ rfl (o_geq rfl rfl) (vm rfl (od' 10 rfl (fun hp20=>?_) fun hp20=>?_)))))
                   ·exact vm rfl (vm rfl (xQ rfl (o_leq rfl rfl) (vt rfl (va rfl (xo_nil (qk rfl (by first | rfl | (simp only [hp1,dF hp2,hp4,hp6,hp8,hp10,hp12,hp14,dT hp20,if_pos hp1,if_neg hp2,if_pos hp4,if_pos hp6,if_pos hp8,if_pos hp10,if_pos hp12,if_pos hp14,if_pos hp20,bS,reduceIte,Bool.false_eq_true]; done) | (simp [hp1,hp2,hp4,hp6,hp8,hp10,hp12,hp14,hp20]; done) | (simp_all; done)) rfl))))))
                   ·exact vs rfl (vs rfl (vs rfl (vf rfl (va rfl (xo_nil (qk rfl (by first | rfl | (simp only [hp1,dF hp2,hp4,hp6,hp8,hp10,hp12,hp14,dF hp20,if_pos hp1,if_neg hp2,if_pos hp4,if_pos hp6,if_pos hp8,if_pos hp10,if_pos hp12,if_pos hp14,if_neg hp20,bS,reduceIte,Bool.false_eq_true]; done) | (simp [hp1,hp2,hp4,hp6,hp8,hp10,hp12,hp14,hp20]; done) | (simp_all; done)) rfl))))))
                  ·refine xq_then (xw_ret (rO Tryz.results69 rfl (?_))); refine vt rfl (vm rfl (xo_val 16 rfl (v' := .bool true) (congrArg Value.bool (hp8)) (xQ rfl (o_fa0 fl23_4 rfl) (xQ rfl (o_ld (v := iI 40) rfl ts3 mH (by omega) (mv_i rfl)) (xin rfl kf69 rfl Tryz.func69 rfl Tryz.ntmps69 rfl (wS (va rfl (nS (xw_seq (wk [] rfl [(6,.bool ((decide (1≤40)) && (decide (40≤4096))))] ?_ ?_))))))))))
                   ·refine xw_region (vm rfl (vm rfl (xQ rfl (o_geq rfl rfl) (vm rfl (od' 10 rfl (fun hp22=>?_) fun hp22=>?_)))))
                    ·exact vm rfl (vm rfl (xQ rfl (o_leq rfl rfl) (vt rfl (va rfl (xo_nil (qk rfl (by first | rfl | (simp only [hp1,dF hp2,hp4,hp6,hp8,hp10,hp12,hp14,dT hp22,if_pos hp1,if_neg hp2,if_pos hp4,if_pos hp6,if_pos hp8,if_pos hp10,if_pos hp12,if_pos hp14,if_pos hp22,bS,reduceIte,Bool.false_eq_true]; done) | (simp [hp1,hp2,hp4,hp6,hp8,hp10,hp12,hp14,hp22]; done) | (simp_all; done)) rfl))))))
                    ·exact vs rfl (vs rfl (vs rfl (vf rfl (va rfl (xo_nil (qk rfl (by first | rfl | (simp only [hp1,dF hp2,hp4,hp6,hp8,hp10,hp12,hp14,dF hp22,if_pos hp1,if_neg hp2,if_pos hp4,if_pos hp6,if_pos hp8,if_pos hp10,if_pos hp12,if_pos hp14,if_neg hp22,bS,reduceIte,Bool.false_eq_true]; done) | (simp [hp1,hp2,hp4,hp6,hp8,hp10,hp12,hp14,hp22]; done) | (simp_all; done)) rfl))))))
                   ·refine xq_then (xw_ret (rO Tryz.results69 rfl (?_))); refine vt rfl (vm rfl (xo_val 21 rfl (v' := .bool true) (congrArg Value.bool (hp10)) (xQ rfl (o_fa0 fl23_5 rfl) (xQ rfl (o_ld (v := iI 6) rfl ts3 mH (by omega) (mv_i rfl)) (xin rfl kf69 rfl Tryz.func69 rfl Tryz.ntmps69 rfl (wS (va rfl (nS (xw_seq (wk [] rfl [(6,.bool ((decide (1≤6)) && (decide (6≤64))))] ?_ ?_))))))))))
                    ·refine xw_region (vm rfl (vm rfl (xQ rfl (o_geq rfl rfl) (vm rfl (od' 10 rfl (fun hp24=>?_) fun hp24=>?_)))))
                     ·exact vm rfl (vm rfl (xQ rfl (o_leq rfl rfl) (vt rfl (va rfl (xo_nil (qk rfl (by first | rfl | (simp only [hp1,dF hp2,hp4,hp6,hp8,hp10,hp12,hp14,dT hp24,if_pos hp1,if_neg hp2,if_pos hp4,if_pos hp6,if_pos hp8,if_pos hp10,if_pos hp12,if_pos hp14,if_pos hp24,bS,reduceIte,Bool.false_eq_true]; done) | (simp [hp1,hp2,hp4,hp6,hp8,hp10,hp12,hp14,hp24]; done) | (simp_all; done)) rfl))))))
                     ·exact vs rfl (vs rfl (vs rfl (vf rfl (va rfl (xo_nil (qk rfl (by first | rfl | (simp only [hp1,dF hp2,hp4,hp6,hp8,hp10,hp12,hp14,dF hp24,if_pos hp1,if_neg hp2,if_pos hp4,if_pos hp6,if_pos hp8,if_pos hp10,if_pos hp12,if_pos hp14,if_neg hp24,bS,reduceIte,Bool.false_eq_true]; done) | (simp [hp1,hp2,hp4,hp6,hp8,hp10,hp12,hp14,hp24]; done) | (simp_all; done)) rfl))))))
                    ·refine xq_then (xw_ret (rO Tryz.results69 rfl (?_))); refine vt rfl (vm rfl (xo_val 26 rfl (v' := .bool true) (congrArg Value.bool (hp12)) (xQ rfl (o_fa0 fl23_6 rfl) (xQ rfl (o_ld (v := iI 1000) rfl ts3 mH (by omega) (mv_i rfl)) (xin rfl kf69 rfl Tryz.func69 rfl Tryz.ntmps69 rfl (wS (va rfl (nS (xw_seq (wk [] rfl [(6,.bool ((decide (1≤1000)) && (decide (1000≤65536))))] ?_ ?_))))))))))
                     ·refine xw_region (vm rfl (vm rfl (xQ rfl (o_geq rfl rfl) (vm rfl (od' 10 rfl (fun hp26=>?_) fun hp26=>?_)))))
                      ·exact vm rfl (vm rfl (xQ rfl (o_leq rfl rfl) (vt rfl (va rfl (xo_nil (qk rfl (by first | rfl | (simp only [hp1,dF hp2,hp4,hp6,hp8,hp10,hp12,hp14,dT hp26,if_pos hp1,if_neg hp2,if_pos hp4,if_pos hp6,if_pos hp8,if_pos hp10,if_pos hp12,if_pos hp14,if_pos hp26,bS,reduceIte,Bool.false_eq_true]; done) | (simp [hp1,hp2,hp4,hp6,hp8,hp10,hp12,hp14,hp26]; done) | (simp_all; done)) rfl))))))
                      ·exact vs rfl (vs rfl (vs rfl (vf rfl (va rfl (xo_nil (qk rfl (by first | rfl | (simp only [hp1,dF hp2,hp4,hp6,hp8,hp10,hp12,hp14,dF hp26,if_pos hp1,if_neg hp2,if_pos hp4,if_pos hp6,if_pos hp8,if_pos hp10,if_pos hp12,if_pos hp14,if_neg hp26,bS,reduceIte,Bool.false_eq_true]; done) | (simp [hp1,hp2,hp4,hp6,hp8,hp10,hp12,hp14,hp26]; done) | (simp_all; done)) rfl))))))
                     ·refine xq_then (xw_ret (rO Tryz.results69 rfl (?_))); refine vt rfl (nS (xw_cond_t rfl (hp14) (wS (va rfl (nS (xw_ret (xq_then_ret (rO Tryz.results31 rfl (?_))))))))); refine va rfl (nR (vm rfl (xQ rfl (o_nen Tryz.underlying28 rfl rfl rfl rfl) (nS (xw_cond_f rfl rfl (xw_skip (xq_then (wS ?_)))))))); refine vm rfl (xin rfl kf32 rfl Tryz.func32 rfl Tryz.ntmps32 rfl (wS (va rfl (va rfl (nS (xw_seq (xw_seq (wk [0] rfl [(9,.bool false)] ?_ ?_))))))))
                      ·exact xw_region (vm rfl (xQ rfl (o_lss rfl rfl) (vm rfl (vm rfl (xQ rfl (o_gtr rfl rfl) (vf rfl (xo_nil (qk rfl (by first | rfl | (simp only [hp1,dF hp2,hp4,hp6,hp8,hp10,hp12,hp14,if_pos hp1,if_neg hp2,if_pos hp4,if_pos hp6,if_pos hp8,if_pos hp10,if_pos hp12,if_pos hp14,bS,reduceIte,Bool.false_eq_true]; done) | (simp [hp1,hp2,hp4,hp6,hp8,hp10,hp12,hp14]; done) | (simp_all; done)) rfl))))))))
                      ·refine xq_then (xw_cond_f rfl rfl (xw_skip (xq_then (wS (vm rfl (xQ rfl (o_buildM (k := (kPA 1 3 (kS [2]))) (m := (updI (fun _=>0) 0 4)) fk130 ze130 (.one fl130_0 rfl rfl rfl (.nil _)) (M28 rfl rfl rfl rfl rfl rfl rfl rfl rfl rfl rfl rfl rfl rfl rfl rfl rfl rfl rfl rfl rfl rfl rfl rfl rfl rfl rfl rfl)) (xr rfl (o_boxA rfl) ?_))))))); rintro _ _ ⟨b13a,hb13a,rfl,rfl⟩; refine va rfl (va rfl (nS (xw_ret (rT Tryz.results32 rfl rfl (?_))))); refine vm rfl (ve rfl (ve rfl (va rfl (va rfl (nS (xw_seq (wS (vm rfl (xQ rfl (o_nen Tryz.underlying28 rfl rfl rfl rfl) (nS ?_)))))))))); refine xw_cond_f rfl rfl (xw_skip (xq_then (wS (xQ rfl (o_ldW rfl ts23 (mT (mT mH))) (vm rfl (xr rfl (o_mkmap (α := (Nat → Value)) (cv := (AG 13)) kt3 Tryz.underlying82) ?_)))))); rintro vs27 _ ⟨Bs27,rfl,hns27,hJs27⟩; have hcBs27 := hns27
                       replace hJs27 := NM.nil (R := nT62) hJs27; refine xQ rfl (o_buildC [iI 2,.bool (nz ((bI probe0))),iI 5,iI 3,iI 40,iI 6,iI 1000,.pointer (some ⟨b13a,0,none⟩),iI 0,iI 0,vs27,.slice none 0 0] fk84 ze84 (.agg fl84_0 rfl rfl (.one fl84_1 rfl rfl rfl (.one fl84_4 rfl rfl (NM.one hJs27) (.nil _)))) (M12 rfl rfl rfl rfl rfl rfl rfl rfl rfl rfl rfl rfl)) (xr rfl (o_boxC [iI 2,.bool (nz ((bI probe0))),iI 5,iI 3,iI 40,iI 6,iI 1000,.pointer (some ⟨b13a,0,none⟩),iI 0,iI 0,vs27,.slice none 0 0] rfl (M12 rfl rfl rfl rfl rfl rfl rfl rfl rfl rfl rfl rfl)) ?_); rintro _ _ ⟨b26a,hb26a,rfl,rfl⟩; refine va rfl (va rfl (nS (xw_ret (rT Tryz.results11 rfl rfl (?_))))); refine vm rfl (ve rfl (ve rfl (va rfl (va rfl (nS (xw_seq (xw_seq (wk [1,5,7] rfl [(43,.bool false)] ?_ ?_))))))))
                       ·refine xw_region (vm rfl (xQ rfl (o_eqn Tryz.underlying26 rfl rfl rfl rfl) (vm rfl (vm rfl (xQ rfl (o_eqn Tryz.underlying26 rfl rfl rfl rfl) (vf rfl (vm rfl (vm rfl (xQ rfl (o_nen Tryz.underlying28 rfl rfl rfl rfl) (vf rfl (vm rfl (vm rfl (xQ rfl (o_nen Tryz.underlying28 rfl rfl rfl rfl) ?_))))))))))))); exact vf rfl (xo_nil (qk rfl (by first | rfl | (simp only [hp1,dF hp2,hp4,hp6,hp8,hp10,hp12,hp14,if_pos hp1,if_neg hp2,if_pos hp4,if_pos hp6,if_pos hp8,if_pos hp10,if_pos hp12,if_pos hp14,bS,reduceIte,Bool.false_eq_true]; done) | (simp [hp1,hp2,hp4,hp6,hp8,hp10,hp12,hp14]; done) | (simp_all; done)) rfl))
                       ·refine xq_then (xw_cond_f rfl rfl (xw_skip (xq_then (xw_seq (wS (va rfl (nS (xw_block ?_)))))))); obtain ⟨x1,hx1,h⟩ := h; refine xw_wh (fun s e H=>match s with | (i9,fb26a_8,fb26a_9,fb26a_11,fb13a,zn,zo,zh,fb13,fb26a_10,zi)=>∃ (vb26_10_1 : Value) (vb26a_10_1 : Value) (vb26_11_1 : Value) (vb26a_11_1 : Value) (Bb26a_11_1 : GH) (Bb26_11_1 : GH) (Bb26a_10_1 : GH) (Bb26_10_1 : GH),e=[(1,v1),(5,.pointer (some ⟨b26,0,none⟩)),(7,.pointer (some ⟨b26a,0,none⟩)),(9,iI i9)]∧H=Bb26_11_1++(Bb26a_11_1++((b26a,BK 12 (cl [iI 2,.bool (nz ((bI probe0))),iI 5,iI 3,iI 40,iI 6,iI 1000,.pointer (some ⟨b13a,0,none⟩),iI fb26a_8,iI fb26a_9,vb26a_10_1,vb26a_11_1]) 84)::(Bb26a_10_1++((b13a,BK 28 (mv (kPA 1 3 (kS [2])) fb13a) 130)::((b26,BK 12 (cl [iI 2,.bool (nz ((bI probe0))),iI 5,iI 3,iI 40,iI 6,iI 1000,.pointer (some ⟨b13,0,none⟩),iI zn,iI zo,vb26_10_1,vb26_11_1]) 84)::(Bb26_10_1++((b13,BK 28 (mv (kPA 1 3 (kS [2])) fb13) 130)::([]))))))))∧OJ 65 7 iv Bb26a_11_1 vb26a_11_1 fb26a_11∧OJ 65 7 iv Bb26_11_1 vb26_11_1 zh∧NM 13 nT62 Bb26a_10_1 vb26a_10_1 fb26a_10∧NM 13 nT62 Bb26_10_1 vb26_10_1 zi∧Cov w [] Bb26a_11_1∧Cov w [] Bb26_11_1∧Cov w [] Bb26a_10_1∧Cov w [] Bb26_10_1) (fun x ex e H=>match x with | .inl (fb26a_8,fb26a_9,fb26a_10,fb26a_11,fb13a,zn,zo,zi,zh,fb13)=>∃ (vb26_11_1o : Value) (vb26_10_1o : Value) (vb26a_11_1o : Value) (vb26a_10_1o : Value) (Bb26a_11_1o : GH) (Bb26_11_1o : GH) (Bb26a_10_1o : GH) (Bb26_10_1o : GH),ex=.exit 0∧e=[]∧H=Bb26_11_1o++(Bb26a_11_1o++((b26a,BK 12 (cl [iI 2,.bool (nz ((bI probe0))),iI 5,iI 3,iI 40,iI 6,iI 1000,.pointer (some ⟨b13a,0,none⟩),iI fb26a_8,iI fb26a_9,vb26a_10_1o,vb26a_11_1o]) 84)::(Bb26a_10_1o++((b13a,BK 28 (mv (kPA 1 3 (kS [2])) fb13a) 130)::((b26,BK 12 (cl [iI 2,.bool (nz ((bI probe0))),iI 5,iI 3,iI 40,iI 6,iI 1000,.pointer (some ⟨b13,0,none⟩),iI zn,iI zo,vb26_10_1o,vb26_11_1o]) 84)::(Bb26_10_1o++((b13,BK 28 (mv (kPA 1 3 (kS [2])) fb13) 130)::([]))))))))∧NM 13 nT62 Bb26a_10_1o vb26a_10_1o fb26a_10∧OJ 65 7 iv Bb26a_11_1o vb26a_11_1o fb26a_11∧NM 13 nT62 Bb26_10_1o vb26_10_1o zi∧OJ 65 7 iv Bb26_11_1o vb26_11_1o zh∧Cov w [] Bb26a_11_1o∧Cov w [] Bb26_11_1o∧Cov w [] Bb26a_10_1o∧Cov w [] Bb26_10_1o | .inr (fb26a_8,fb26a_9,fb26a_10,fb26a_11,fb13a,zn,zo,zi,zh,fb13)=>∃ (vb26_11_1o : Value) (vb26_10_1o : Value) (vb26a_11_1o : Value) (vb26a_10_1o : Value) (Bb26a_11_1o : GH) (Bb26_11_1o : GH) (Bb26a_10_1o : GH) (Bb26_10_1o : GH),ex=.ret∧e=[(4,.bool false)]∧H=Bb26_11_1o++(Bb26a_11_1o++((b26a,BK 12 (cl [iI 2,.bool (nz ((bI probe0))),iI 5,iI 3,iI 40,iI 6,iI 1000,.pointer (some ⟨b13a,0,none⟩),iI fb26a_8,iI fb26a_9,vb26a_10_1o,vb26a_11_1o]) 84)::(Bb26a_10_1o++((b13a,BK 28 (mv (kPA 1 3 (kS [2])) fb13a) 130)::((b26,BK 12 (cl [iI 2,.bool (nz ((bI probe0))),iI 5,iI 3,iI 40,iI 6,iI 1000,.pointer (some ⟨b13,0,none⟩),iI zn,iI zo,vb26_10_1o,vb26_11_1o]) 84)::(Bb26_10_1o++((b13,BK 28 (mv (kPA 1 3 (kS [2])) fb13) 130)::([]))))))))∧NM 13 nT62 Bb26a_10_1o vb26a_10_1o fb26a_10∧OJ 65 7 iv Bb26a_11_1o vb26a_11_1o fb26a_11∧NM 13 nT62 Bb26_10_1o vb26_10_1o zi∧OJ 65 7 iv Bb26_11_1o vb26_11_1o zh∧Cov w [] Bb26a_11_1o∧Cov w [] Bb26_11_1o∧Cov w [] Bb26a_10_1o∧Cov w [] Bb26_10_1o) hx1 ⟨[(1,v1),(5,.pointer (some ⟨b26,0,none⟩)),(7,.pointer (some ⟨b26a,0,none⟩)),(9,iI 0)],[]++([]++((b26a,_)::(Bs27++((b13a,_)::((b26,_)::(Bs15++((b13,_)::([])))))))),(sl rfl),Kp.st (Kp.keep (Kp.segKeep (Kp.keep (Kp.new hb1a (Kp.new hb2aaa (Kp.new hb2aa (Kp.keep (Kp.segKeep (Kp.keep (Kp.new hb1 (Kp.new hb2a (Kp.new hb2 Kp.nil)))))))))))),⟨vs15,vs27,_,_,[],[],Bs27,Bs15,rfl,rfl,OJ.nil,OJ.nil,hJs27,hJs15,(Cov.refl _),(Cov.refl _),hcBs27,hcBs15⟩⟩ ?_ ?_
                        ·rintro ⟨i9,fb26a_8,fb26a_9,fb26a_11,fb13a,zn,zo,zh,fb13,fb26a_10,zi⟩ o _ _ ⟨vb26_10_1,vb26a_10_1,vb26_11_1,vb26a_11_1,Bb26a_11_1,Bb26_11_1,Bb26a_10_1,Bb26_10_1,rfl,rfl,hJb26a_11_1,hJb26_11_1,hJb26a_10_1,hJb26_10_1,zf,zt,zg,zu⟩ hb; have h : twice18_l1 probe0 acts1 i9 fb26a_8 fb26a_9 fb26a_11 fb13a zn zo zh fb13 fb26a_10 zi o := hb
                         clear hb; unfold twice18_l1 at h; refine xw_seq (wS (vm rfl (vm rfl (xQ rfl (o_lenL rfl Tryz.underlying24 rfl (SL.val hs1)) (xQ rfl (o_lss rfl rfl) (nS (wd rfl h (fun hp28 h=>?_) fun hp28 h=>?_)))))))
                         ·refine xw_skip (xq_then (xw_seq (xw_block (wS (vm rfl (vm rfl (vm rfl ?_))))))); obtain ⟨ho29,h⟩ := h; refine xQ rfl (o_ixL el24 rfl rfl (fun w hw=>(hs1.keep hw (Fr.seg zt (Fr.seg zf (Fr.cons hb26a (Fr.seg zg (Fr.cons hb13a (Fr.cons hb26 (Fr.seg zu (Fr.cons hb13 Fr.nil)))))))))) rfl ho29) (xQ rfl (o_ldLI rfl ts47 rfl (fun w hw=>(hs1.keep hw (Fr.seg zt (Fr.seg zf (Fr.cons hb26a (Fr.seg zg (Fr.cons hb13a (Fr.cons hb26 (Fr.seg zu (Fr.cons hb13 Fr.nil)))))))))) (toNat_lt ho29) rfl) ?_); obtain ⟨ho30,h⟩ := h; obtain ⟨zj,hrn31,h⟩ := h; refine xr rfl (OT.st (fun _ h=>St.permJ [5,7,6,0,1,2,3,4] [Bb26_11_1,Bb26a_11_1,[(b26a,_)],Bb26a_10_1,[(b13a,_)],[(b26,_)],Bb26_10_1,[(b13,_)]] h) (ot_callF (Cs := [[(b26,_)],[(b13,_)],Bb26_10_1,Bb26_11_1]) (Rs := [Bb26a_11_1,[(b26a,_)],Bb26a_10_1,[(b13a,_)]]) kf15 rfl (fun w1 hw1=>act18_con _ _ _ _ _ _ _ _ _ _ _ _ _ w1 hJb26_10_1 hJb26_11_1 (St.hasC hw1) zj (sE hrn31 (act18_ok _ _ _ _ _ _ _ ho30))) (fun _ _ _ h=>h.1))) ?_; rintro _ _ ⟨w1,_,rfl,hle,-,vg33_0,Bg33_0,vg33_1,Bg33_1,vs34,Bs34,rfl,rfl,hJBg33_0,zc,hJBg33_1,zd,hJs34,zp⟩; replace zc := Cov.trans zu (Cov.base (w0 := w) zc hle); replace zd := Cov.trans zt (Cov.base (w0 := w) zd hle); replace zp := Cov.base (w0 := w) zp hle; refine xo_st ((b26,_)::((b13,_)::(Bg33_0++(Bg33_1++(Bs34++(Bb26a_11_1++((b26a,_)::(Bb26a_10_1++((b13a,_)::([])))))))))) (fun _ h=>h) (nR (vm rfl (vm rfl (vm rfl ?_)))); obtain ⟨ho35,h⟩ := h; refine xQ rfl (o_ixL el24 rfl rfl (fun w hw=>(hs1.keep hw (Fr.cons hb26 (Fr.cons hb13 (Fr.seg zc (Fr.seg zd (Fr.seg zp (Fr.seg zf (Fr.cons hb26a (Fr.seg zg (Fr.cons hb13a Fr.nil))))))))))) rfl ho35) (xQ rfl (o_ldLI rfl ts47 rfl (fun w hw=>(hs1.keep hw (Fr.cons hb26 (Fr.cons hb13 (Fr.seg zc (Fr.seg zd (Fr.seg zp (Fr.seg zf (Fr.cons hb26a (Fr.seg zg (Fr.cons hb13a Fr.nil))))))))))) (toNat_lt ho35) rfl) ?_); obtain ⟨ho36,h⟩ := h; obtain ⟨rn37,hrn37,h⟩ := h; refine xr rfl (OT.st (fun _ h=>St.permJ [6,8,7,5,0,1,2,3,4] [[(b26,_)],[(b13,_)],Bg33_0,Bg33_1,Bs34,Bb26a_11_1,[(b26a,_)],Bb26a_10_1,[(b13a,_)]] h) (ot_callF (Cs := [[(b26a,_)],[(b13a,_)],Bb26a_10_1,Bb26a_11_1]) (Rs := [[(b26,_)],[(b13,_)],Bg33_0,Bg33_1,Bs34]) kf15 rfl (fun w1 hw1=>act18_con _ _ _ _ _ _ _ _ _ _ _ _ _ w1 hJb26a_10_1 hJb26a_11_1 (St.hasC hw1) rn37 (sE hrn37 (act18_ok _ _ _ _ _ _ _ ho36))) (fun _ _ _ h=>h.1))) ?_; rintro _ _ ⟨w1,_,rfl,hle,-,vg39_0,Bg39_0,vg39_1,Bg39_1,vs40,Bs40,rfl,rfl,hJBg39_0,zk,hJBg39_1,zl,hJs40,zx⟩; replace zk := Cov.trans zg (Cov.base (w0 := w) zk hle); replace zl := Cov.trans zf (Cov.base (w0 := w) zl hle); replace zx := Cov.base (w0 := w) zx hle; refine xo_st ((b26a,_)::((b13a,_)::(Bg39_0++(Bg39_1++(Bs40++((b26,_)::((b13,_)::(Bg33_0++(Bg33_1++(Bs34++([]))))))))))) (fun _ h=>h) (nS (xw_seq (wS (vm rfl (vm rfl ?_))))); obtain ⟨ho41,h⟩ := h; refine xQ rfl (o_ixL el24 rfl rfl (fun w hw=>(hs1.keep hw (Fr.cons hb26a (Fr.cons hb13a (Fr.seg zk (Fr.seg zl (Fr.seg zx (Fr.cons hb26 (Fr.cons hb13 (Fr.seg zc (Fr.seg zd (Fr.seg zp Fr.nil)))))))))))) rfl ho41) (xQ rfl (o_faL fl47_0 rfl rfl (fun w hw=>(hs1.keep hw (Fr.cons hb26a (Fr.cons hb13a (Fr.seg zk (Fr.seg zl (Fr.seg zx (Fr.cons hb26 (Fr.cons hb13 (Fr.seg zc (Fr.seg zd (Fr.seg zp Fr.nil)))))))))))) (toNat_lt ho41)) (xQ rfl (o_ldL1 (off := 0) (u := iI (acts1[i9.toNat]! 0)) rfl ts3 rfl (fun w hw=>(hs1.keep hw (Fr.cons hb26a (Fr.cons hb13a (Fr.seg zk (Fr.seg zl (Fr.seg zx (Fr.cons hb26 (Fr.cons hb13 (Fr.seg zc (Fr.seg zd (Fr.seg zp Fr.nil)))))))))))) (toNat_lt ho41) rfl rfl) (xQ rfl (o_eql rfl rfl) (nS ?_)))); obtain ⟨yj42,hyj42,h⟩ := h; obtain ⟨yj43,hyj43,h⟩ := h; obtain ⟨yj45,hyj45,h⟩ := h; obtain ⟨yj48,hyj48,h⟩ := h; obtain ⟨yj50,hyj50,h⟩ := h; have hk := h.2
                          replace h := h.1; refine xw_cutI (fun e H=>∃ (vj49 : Value) (vj46 : Value) (Bj44 : GH) (Bj47 : GH),e=[(1,v1),(5,.pointer (some ⟨b26,0,none⟩)),(7,.pointer (some ⟨b26a,0,none⟩)),(9,iI i9)]∧H=(b26a,BK 12 (cl [iI 2,.bool (nz ((bI probe0))),iI 5,iI 3,iI 40,iI 6,iI 1000,.pointer (some ⟨b13a,0,none⟩),iI yj42,iI yj43,vj46,vj49]) 84)::((b13a,BK 28 (mv (kPA 1 3 (kS [2])) yj50) 130)::((b26,BK 12 (cl [iI 2,.bool (nz ((bI probe0))),iI 5,iI 3,iI 40,iI 6,iI 1000,.pointer (some ⟨b13,0,none⟩),iI zj.2.2.2.1,iI zj.2.2.2.2.1,vg33_0,vg33_1]) 84)::((b13,BK 28 (mv (kPA 1 3 (kS [2])) zj.2.2.2.2.2.2.2) 130)::(Bg33_0++(Bg33_1++(Bj44++(Bj47++([]))))))))∧Cov w [] Bj44∧NM 13 nT62 Bj44 vj46 yj45∧Cov w [] Bj47∧OJ 65 7 iv Bj47 vj49 yj48) ?_ ?_
                          ·refine wd rfl h (fun hp51 h=>?_) fun hp51 h=>?_
                           ·refine xw_region (vm rfl (vm rfl (vm rfl ?_))); obtain ⟨ho52,h⟩ := h; refine xQ rfl (o_ixL el24 rfl rfl (fun w hw=>(hs1.keep hw (Fr.cons hb26a (Fr.cons hb13a (Fr.seg zk (Fr.seg zl (Fr.seg zx (Fr.cons hb26 (Fr.cons hb13 (Fr.seg zc (Fr.seg zd (Fr.seg zp Fr.nil)))))))))))) rfl ho52) (xQ rfl (o_ldLI rfl ts47 rfl (fun w hw=>(hs1.keep hw (Fr.cons hb26a (Fr.cons hb13a (Fr.seg zk (Fr.seg zl (Fr.seg zx (Fr.cons hb26 (Fr.cons hb13 (Fr.seg zc (Fr.seg zd (Fr.seg zp Fr.nil)))))))))))) (toNat_lt ho52) rfl) ?_); obtain ⟨ho53,h⟩ := h; obtain ⟨rn54,hrn54,h⟩ := h; refine xr rfl (OT.st (fun _ h=>h) (ot_callF (Cs := [[(b26a,_)],[(b13a,_)],Bg39_0,Bg39_1]) (Rs := [Bs40,[(b26,_)],[(b13,_)],Bg33_0,Bg33_1,Bs34]) kf15 rfl (fun w1 hw1=>act18_con _ _ _ _ _ _ _ _ _ _ _ _ _ w1 hJBg39_0 hJBg39_1 (St.hasC hw1) rn54 (sE hrn54 (act18_ok _ _ _ _ _ _ _ ho53))) (fun _ _ _ h=>h.1))) ?_; rintro _ _ ⟨w1,_,rfl,hle,-,vg56_0,Bg56_0,vg56_1,Bg56_1,vs57,Bs57,rfl,rfl,hJBg56_0,hcBg56_0,hJBg56_1,hcBg56_1,hJs57,hcBs57⟩; replace hcBg56_0 := Cov.trans zk (Cov.base (w0 := w) hcBg56_0 hle); replace hcBg56_1 := Cov.trans zl (Cov.base (w0 := w) hcBg56_1 hle); replace hcBs57 := Cov.base (w0 := w) hcBs57 hle; refine xo_st ((b26a,_)::((b13a,_)::(Bg56_0++(Bg56_1++(Bs57++(Bs40++((b26,_)::((b13,_)::(Bg33_0++(Bg33_1++(Bs34++([])))))))))))) (fun _ h=>h) (xo_nil ?_); try rw [if_pos hp51] at hyj42
                            try rw [← hrn54] at hyj42
                            subst hyj42
                            try rw [if_pos hp51] at hyj43
                            try rw [← hrn54] at hyj43
                            subst hyj43
                            try rw [if_pos hp51] at hyj45
                            try rw [← hrn54] at hyj45
                            subst hyj45
                            try rw [if_pos hp51] at hyj48
                            try rw [← hrn54] at hyj48
                            subst hyj48
                            try rw [if_pos hp51] at hyj50
                            try rw [← hrn54] at hyj50
                            subst hyj50
                            exact xq_cutI (e' := [(1,v1),(5,.pointer (some ⟨b26,0,none⟩)),(7,.pointer (some ⟨b26a,0,none⟩)),(9,iI i9)]) ((b26a,_)::((b13a,_)::((b26,_)::((b13,_)::(Bg33_0++(Bg33_1++(Bg56_0++(Bg56_1++([]))))))))) (sl rfl) (fun _ h=>St.permJ [0,1,4,5,6,7,2,3] [[(b26a,_)],[(b13a,_)],Bg56_0,Bg56_1,[(b26,_)],[(b13,_)],Bg33_0,Bg33_1] (Kp.st (Kp.keep (Kp.keep (Kp.segKeep (Kp.segKeep (Kp.segNew (Cov.fresh hcBs57) (Kp.segNew (Cov.fresh zx) (Kp.keep (Kp.keep (Kp.segKeep (Kp.segKeep (Kp.segNew (Cov.fresh zp) Kp.nil))))))))))) _ h)) ⟨vg56_1,vg56_0,Bg56_0,Bg56_1,rfl,rfl,hcBg56_0,hJBg56_0,hcBg56_1,hJBg56_1⟩
                           ·refine xw_skip ?_; try rw [if_neg hp51] at hyj42
                            subst hyj42
                            try rw [if_neg hp51] at hyj43
                            subst hyj43
                            try rw [if_neg hp51] at hyj45
                            subst hyj45
                            try rw [if_neg hp51] at hyj48
                            subst hyj48
                            try rw [if_neg hp51] at hyj50
                            subst hyj50
                            exact xq_cutI (e' := [(1,v1),(5,.pointer (some ⟨b26,0,none⟩)),(7,.pointer (some ⟨b26a,0,none⟩)),(9,iI i9)]) ((b26a,_)::((b13a,_)::((b26,_)::((b13,_)::(Bg33_0++(Bg33_1++(Bg39_0++(Bg39_1++([]))))))))) (sl rfl) (fun _ h=>St.permJ [0,1,4,5,6,7,2,3] [[(b26a,_)],[(b13a,_)],Bg39_0,Bg39_1,[(b26,_)],[(b13,_)],Bg33_0,Bg33_1] (Kp.st (Kp.keep (Kp.keep (Kp.segKeep (Kp.segKeep (Kp.segNew (Cov.fresh zx) (Kp.keep (Kp.keep (Kp.segKeep (Kp.segKeep (Kp.segNew (Cov.fresh zp) Kp.nil)))))))))) _ h)) ⟨vg39_1,vg39_0,Bg39_0,Bg39_1,rfl,rfl,zk,hJBg39_0,zl,hJBg39_1⟩
                          ·rintro _ _ ⟨vj49,vj46,Bj44,Bj47,rfl,rfl,hcBj44,hJvj46,hcBj47,hJvj49⟩; replace h := hk; refine xq_then (wS (vm rfl ?_)); obtain ⟨ho58,h⟩ := h; obtain ⟨zr,hrn59,h⟩ := h; refine xr rfl (OT.st (fun _ h=>St.permJ [2,3,4,5,0,1,6,7] [[(b26a,_)],[(b13a,_)],[(b26,_)],[(b13,_)],Bg33_0,Bg33_1,Bj44,Bj47] h) (ot_callF (Cs := [[(b26,_)],[(b13,_)],Bg33_0,Bg33_1]) (Rs := [[(b26a,_)],[(b13a,_)],Bj44,Bj47]) kf20 rfl (fun w1 hw1=>kview_con _ _ _ _ _ _ _ _ _ _ _ _ w1 hJBg33_0 hJBg33_1 (St.hasC hw1) zr (sE hrn59 (kview_ok _ _ _ _ _ _ ho58))) (fun _ _ _ h=>h.1))) ?_; rintro _ _ ⟨w1,_,rfl,hle,-,vs62,zm,vs63,Bs63,rfl,rfl,za,hcBs62,hJs63,hcBs63⟩; replace hcBs62 := Cov.base (w0 := w) hcBs62 hle; replace hcBs63 := Cov.base (w0 := w) hcBs63 hle; refine xo_st ((b26,_)::((b13,_)::(Bg33_0++(Bg33_1++(zm++(Bs63++((b26a,_)::((b13a,_)::(Bj44++(Bj47++([]))))))))))) (fun _ h=>h) (vm rfl ?_); obtain ⟨ho64,h⟩ := h; obtain ⟨zs,hrn65,h⟩ := h; refine xr rfl (OT.st (fun _ h=>St.permJ [6,7,8,9,0,1,2,3,4,5] [[(b26,_)],[(b13,_)],Bg33_0,Bg33_1,zm,Bs63,[(b26a,_)],[(b13a,_)],Bj44,Bj47] h) (ot_callF (Cs := [[(b26a,_)],[(b13a,_)],Bj44,Bj47]) (Rs := [[(b26,_)],[(b13,_)],Bg33_0,Bg33_1,zm,Bs63]) kf20 rfl (fun w1 hw1=>kview_con _ _ _ _ _ _ _ _ _ _ _ _ w1 hJvj46 hJvj49 (St.hasC hw1) zs (sE hrn65 (kview_ok _ _ _ _ _ _ ho64))) (fun _ _ _ h=>h.1))) ?_; rintro _ _ ⟨w1,_,rfl,hle,-,vs68,zq,vs69,Bs69,rfl,rfl,zb,hcBs68,hJs69,hcBs69⟩; replace hcBs68 := Cov.base (w0 := w) hcBs68 hle; replace hcBs69 := Cov.base (w0 := w) hcBs69 hle; refine xo_st ((b26a,_)::((b13a,_)::(Bj44++(Bj47++(zq++(Bs69++((b26,_)::((b13,_)::(Bg33_0++(Bg33_1++(zm++(Bs63++([]))))))))))))) (fun _ h=>h) (xr rfl (o_allocC [iI 0,iI 0,.slice none 0 0,.slice none 0 0] ze56 (M4 rfl rfl rfl rfl)) ?_); rintro _ _ ⟨b10,hb10,rfl,rfl⟩; refine xr rfl (o_allocC [iI 0,iI 0,.slice none 0 0,.slice none 0 0] ze56 (M4 rfl rfl rfl rfl)) ?_; rintro _ _ ⟨b11,hb11,rfl,rfl⟩; refine xZ rfl (o_stD rfl rfl ts56 rfl (oA rfl (oA rfl (oA (oneOf (NJ.val za)) (oA (oneOf (OJ.val hJs63)) oN)))) (mT mH) (.there _ _ _ _ _ (.here _ _ _ _))) (xZ rfl (o_stD rfl rfl ts56 rfl (oA rfl (oA rfl (oA (oneOf (NJ.val zb)) (oA (oneOf (OJ.val hJs69)) oN)))) mH (.here _ _ _ _)) (nS (xw_seq (xw_seq ?_)))); obtain ⟨ho70,h⟩ := h; refine wk [1,5,7,9,10,11] rfl [(106,.bool ((((!(decide (zr.1=zs.1))) || (!(decide (zr.2.1=zs.2.1)))) || (!(decide ((zr.2.2.1.length : Int)=(zs.2.2.1.length : Int))))) || (!((events_F zr.2.2.2 zs.2.2.2)))))] ?_ ?_
                           ·refine xw_region (xQ rfl (o_fa0 fl56_0 rfl) (xQ rfl (o_ld (v := iI zr.1) rfl ts3 (mT mH) (by decide) rfl) (xQ rfl (o_fa0 fl56_0 rfl) (xQ rfl (o_ld (v := iI zs.1) rfl ts3 mH (by decide) rfl) (xQ rfl (o_neq rfl rfl) (vm rfl (on' 83 rfl (fun hp71=>?_) fun hp71=>?_)))))))
                            ·refine vs rfl (vs rfl (vs rfl (vs rfl (vs rfl (vt rfl (vm rfl (vs rfl (vs rfl (vs rfl (vs rfl (vs rfl (vs rfl (vs rfl ?_))))))))))))); exact vt rfl (vm rfl (vs rfl (vs rfl (vs rfl (vs rfl (vs rfl (vs rfl (vt rfl (xo_nil (qk rfl (by first | rfl | (simp only [dT hp28,dF hp71,if_pos hp28,if_neg hp71,bS,reduceIte,Bool.false_eq_true]; done) | (simp [hp28,hp71]; done) | (simp_all; done)) rfl))))))))))
                            ·refine xQ rfl (o_fa0 fl56_1 rfl) (xQ rfl (o_ld (v := iI zr.2.1) rfl ts3 (mT mH) (by decide) rfl) (xQ rfl (o_fa0 fl56_1 rfl) (xQ rfl (o_ld (v := iI zs.2.1) rfl ts3 mH (by decide) rfl) (xQ rfl (o_neq rfl rfl) (vf rfl (vm rfl (on' 90 rfl (fun hp72=>?_) fun hp72=>?_)))))))
                             ·refine vs rfl (vs rfl (vs rfl (vs rfl (vs rfl (vs rfl (vs rfl (vt rfl (vm rfl (vs rfl (vs rfl (vs rfl (vs rfl (vs rfl ?_))))))))))))); exact vs rfl (vt rfl (xo_nil (qk rfl (by first | rfl | (simp only [dT hp28,dT hp71,dF hp72,if_pos hp28,if_pos hp71,if_neg hp72,bS,reduceIte,Bool.false_eq_true]; done) | (simp [hp28,hp71,hp72]; done) | (simp_all; done)) rfl)))
                             ·refine xQ rfl (o_fa0 fl56_2 rfl) (xQ rfl (o_ld (v := vs62) rfl ts53 (mT mH) (by decide) rfl) (xQ rfl (o_lenL rfl Tryz.underlying53 rfl (NJ.val za)) (xQ rfl (o_fa0 fl56_2 rfl) (xQ rfl (o_ld (v := vs68) rfl ts53 mH (by decide) rfl) (xQ rfl (o_lenL rfl Tryz.underlying53 rfl (NJ.val zb)) (xQ rfl (o_neq rfl rfl) (vf rfl (vm rfl (on' 99 rfl (fun hp73=>?_) fun hp73=>?_)))))))))
                              ·exact vs rfl (vs rfl (vs rfl (vs rfl (vs rfl (vs rfl (vt rfl (xo_nil (qk rfl (by first | rfl | (simp only [dT hp28,dT hp71,dT hp72,dF hp73,if_pos hp28,if_pos hp71,if_pos hp72,if_neg hp73,bS,reduceIte,Bool.false_eq_true]; done) | (simp [hp28,hp71,hp72,hp73]; done) | (simp_all; done)) rfl))))))))
                              ·exact xQ rfl (o_fa0 fl56_3 rfl) (xQ rfl (o_ld (v := vs63) rfl ts54 (mT mH) (by decide) rfl) (xQ rfl (o_fa0 fl56_3 rfl) (xQ rfl (o_ld (v := vs69) rfl ts54 mH (by decide) rfl) (xc rfl kf30 rfl (fun w1 hw1=>events_con _ _ _ _ w1 (hJs63.sl hw1 (Pull.sub (.thereC _ (.thereC _ (.thereC _ (.thereC _ (.there _ (.there _ (.there _ (.there _ (.thereC _ (.thereC _ (.there _ (.there _ (.there _ (.here _ _)))))))))))))))) (hJs69.sl hw1 (Pull.sub (.thereC _ (.thereC _ (.thereC _ (.thereC _ (.there _ (.there _ (.there _ (.here _ _)))))))))) _ (events_ok _ _ (ho70 (by first | exact (nF1 hp73) | (simp only [dT hp28,dT hp71,dT hp72,dT hp73,if_pos hp28,if_pos hp71,if_pos hp72,if_pos hp73,bS,reduceIte,Bool.false_eq_true]; done) | (simp [hp28,hp71,hp72,hp73]; done) | (simp_all; done))))) (xQ rfl (o_not rfl) (vf rfl (xo_nil (qk rfl (by first | rfl | (simp only [dT hp28,dT hp71,dT hp72,dT hp73,if_pos hp28,if_pos hp71,if_pos hp72,if_pos hp73,bS,reduceIte,Bool.false_eq_true]; done) | (simp [hp28,hp71,hp72,hp73]; done) | (simp_all; done)) rfl))))))))
                           ·refine xq_then (wb rfl h (fun hp74 h=>?_) fun hp74 h=>?_)
                            ·exact wS (va rfl (nS (xw_ret (xq_then_ret (xq_blk_ret (xq_then_ret (xq_out (r := (.inr (yj42,yj43,yj45,yj48,yj50,zj.2.2.2.1,zj.2.2.2.2.1,zj.2.2.2.2.2.1,zj.2.2.2.2.2.2.1,zj.2.2.2.2.2.2.2) : (Int × Int × UM × LM × NI × Int × Int × UM × LM × NI) ⊕ (Int × Int × UM × LM × NI × Int × Int × UM × LM × NI))) (e' := [(4,.bool false)]) (Bg33_1++(Bj47++((b26a,_)::(Bj44++((b13a,_)::((b26,_)::(Bg33_0++((b13,_)::([]))))))))) (sl rfl) (fun _ h=>St.permJ [7,3,0,2,1,4,6,5] [[(b26a,_)],[(b13a,_)],Bj44,Bj47,[(b26,_)],[(b13,_)],Bg33_0,Bg33_1] (Kp.st (Kp.new hb11 (Kp.new hb10 (Kp.keep (Kp.keep (Kp.segKeep (Kp.segKeep (Kp.segNew (Cov.fresh hcBs68) (Kp.segNew (Cov.fresh hcBs69) (Kp.keep (Kp.keep (Kp.segKeep (Kp.segKeep (Kp.segNew (Cov.fresh hcBs62) (Kp.segNew (Cov.fresh hcBs63) Kp.nil)))))))))))))) _ h)) h (by intro hh; cases hh) ⟨vg33_1,vg33_0,vj49,vj46,Bj47,Bg33_1,Bj44,Bg33_0,rfl,rfl,rfl,hJvj46,hJvj49,hJBg33_0,hJBg33_1,hcBj47,zd,hcBj44,zc⟩)))))))
                            ·refine xw_skip (xq_then (wS (va rfl (nS (xw_block ?_))))); obtain ⟨x2,hx2,h⟩ := h; refine xw_wh (fun (k12 : Int) e H=>e=[(1,v1),(5,.pointer (some ⟨b26,0,none⟩)),(7,.pointer (some ⟨b26a,0,none⟩)),(9,iI i9),(10,.pointer (some ⟨b10,0,none⟩)),(11,.pointer (some ⟨b11,0,none⟩)),(12,iI k12)]∧H=(b11,BK 4 (cl [iI zs.1,iI zs.2.1,vs68,vs69]) 56)::((b10,BK 4 (cl [iI zr.1,iI zr.2.1,vs62,vs63]) 56)::((b26a,BK 12 (cl [iI 2,.bool (nz ((bI probe0))),iI 5,iI 3,iI 40,iI 6,iI 1000,.pointer (some ⟨b13a,0,none⟩),iI yj42,iI yj43,vj46,vj49]) 84)::((b13a,BK 28 (mv (kPA 1 3 (kS [2])) yj50) 130)::(Bj44++(Bj47++(zq++(Bs69++((b26,BK 12 (cl [iI 2,.bool (nz ((bI probe0))),iI 5,iI 3,iI 40,iI 6,iI 1000,.pointer (some ⟨b13,0,none⟩),iI zj.2.2.2.1,iI zj.2.2.2.2.1,vg33_0,vg33_1]) 84)::((b13,BK 28 (mv (kPA 1 3 (kS [2])) zj.2.2.2.2.2.2.2) 130)::(Bg33_0++(Bg33_1++(zm++(Bs63++([]))))))))))))))) (fun x ex e H=>match x with | .inl _=>ex=.exit 2∧e=[(1,v1),(5,.pointer (some ⟨b26,0,none⟩)),(7,.pointer (some ⟨b26a,0,none⟩)),(9,iI i9)]∧H=(b11,BK 4 (cl [iI zs.1,iI zs.2.1,vs68,vs69]) 56)::((b10,BK 4 (cl [iI zr.1,iI zr.2.1,vs62,vs63]) 56)::((b26a,BK 12 (cl [iI 2,.bool (nz ((bI probe0))),iI 5,iI 3,iI 40,iI 6,iI 1000,.pointer (some ⟨b13a,0,none⟩),iI yj42,iI yj43,vj46,vj49]) 84)::((b13a,BK 28 (mv (kPA 1 3 (kS [2])) yj50) 130)::(Bj44++(Bj47++(zq++(Bs69++((b26,BK 12 (cl [iI 2,.bool (nz ((bI probe0))),iI 5,iI 3,iI 40,iI 6,iI 1000,.pointer (some ⟨b13,0,none⟩),iI zj.2.2.2.1,iI zj.2.2.2.2.1,vg33_0,vg33_1]) 84)::((b13,BK 28 (mv (kPA 1 3 (kS [2])) zj.2.2.2.2.2.2.2) 130)::(Bg33_0++(Bg33_1++(zm++(Bs63++([])))))))))))))) | .inr _=>ex=.ret∧e=[(4,.bool false)]∧H=(b11,BK 4 (cl [iI zs.1,iI zs.2.1,vs68,vs69]) 56)::((b10,BK 4 (cl [iI zr.1,iI zr.2.1,vs62,vs63]) 56)::((b26a,BK 12 (cl [iI 2,.bool (nz ((bI probe0))),iI 5,iI 3,iI 40,iI 6,iI 1000,.pointer (some ⟨b13a,0,none⟩),iI yj42,iI yj43,vj46,vj49]) 84)::((b13a,BK 28 (mv (kPA 1 3 (kS [2])) yj50) 130)::(Bj44++(Bj47++(zq++(Bs69++((b26,BK 12 (cl [iI 2,.bool (nz ((bI probe0))),iI 5,iI 3,iI 40,iI 6,iI 1000,.pointer (some ⟨b13,0,none⟩),iI zj.2.2.2.1,iI zj.2.2.2.2.1,vg33_0,vg33_1]) 84)::((b13,BK 28 (mv (kPA 1 3 (kS [2])) zj.2.2.2.2.2.2.2) 130)::(Bg33_0++(Bg33_1++(zm++(Bs63++([]))))))))))))))) hx2 ⟨[(1,v1),(5,.pointer (some ⟨b26,0,none⟩)),(7,.pointer (some ⟨b26a,0,none⟩)),(9,iI i9),(10,.pointer (some ⟨b10,0,none⟩)),(11,.pointer (some ⟨b11,0,none⟩)),(12,iI 0)],(b11,_)::((b10,_)::((b26a,_)::((b13a,_)::(Bj44++(Bj47++(zq++(Bs69++((b26,_)::((b13,_)::(Bg33_0++(Bg33_1++(zm++(Bs63++([])))))))))))))),(sl rfl),fun _ h=>h,⟨rfl,rfl⟩⟩ ?_ ?_
                             ·rintro k12 o _ _ ⟨rfl,rfl⟩ hb; have h : twice18_l2 zr zs k12 o := hb
                              clear hb; unfold twice18_l2 at h; refine xw_seq (wS (vm rfl (xQ rfl (o_fa0 fl56_2 rfl) (xQ rfl (o_ld (v := vs62) rfl ts53 (mT mH) (by decide) rfl) (xQ rfl (o_lenL rfl Tryz.underlying53 rfl (NJ.val za)) (xQ rfl (o_lss rfl rfl) (nS (wd rfl h (fun hp75 h=>?_) fun hp75 h=>?_))))))))
                              ·refine xw_skip (xq_then (xw_seq (xw_block (xw_seq ?_)))); obtain ⟨ho76,ho77,ho78,ho79,ho80,ho81,ho82,ho83,ho84,ho85,h⟩ := h; refine wk [1,5,7,9,10,11,12] rfl [(190,.bool (((((!(decide ((zr.2.2.1[k12.toNat]!).2.1=(zs.2.2.1[k12.toNat]!).2.1))) || (!((((zr.2.2.1[k12.toNat]!).2.2.2.2.1) == ((zs.2.2.1[k12.toNat]!).2.2.2.2.1))))) || (!(decide ((zr.2.2.1[k12.toNat]!).2.2.2.1=(zs.2.2.1[k12.toNat]!).2.2.2.1)))) || (!(decide ((((zr.2.2.1[k12.toNat]!).2.2.2.2.2.2.2.2.2.1).length : Int)=(((zs.2.2.1[k12.toNat]!).2.2.2.2.2.2.2.2.2.1).length : Int))))) || (!(decide ((((zr.2.2.1[k12.toNat]!).2.2.2.2.2.2.2.2.2.2.1).length : Int)=(((zs.2.2.1[k12.toNat]!).2.2.2.2.2.2.2.2.2.2.1).length : Int))))))] ?_ ?_
                               ·refine xd_start (by kernel_rfl) (by kernel_rfl) (fun hok=>?_); refine xb hok 0 [10] rfl (by kernel_rfl) (fun _ hK=>o_fa0 fl56_2 rfl) (xbr hok 1 [114] ((b10,_)::([])) (rsC (mT mH) rsN) rfl (by kernel_rfl) (fun _ hy hK=>o_ld (v := vs62) rfl ts53 (hy _ mH) (by decide) rfl) (xb hok 2 [12] rfl (by kernel_rfl) (fun _ hK=>o_mv rfl) (xbr hok 3 [115,116] (zm++([])) (rsA (Pull.sub (.thereC _ (.thereC _ (.thereC _ (.thereC _ (.there _ (.there _ (.there _ (.there _ (.thereC _ (.thereC _ (.there _ (.there _ (.here _ _)))))))))))))) rsN) rfl (by kernel_rfl) (fun _ hy hK=>o_ixL el53 rfl rfl (fun w hw=>(za.sl hw (fun x hx=>hy x (Pull.sub (.here _ _) x hx)))) rfl (za.ix (ho76))) (xbr hok 4 [117] (zm++([])) (rsA (Pull.sub (.thereC _ (.thereC _ (.thereC _ (.thereC _ (.there _ (.there _ (.there _ (.there _ (.thereC _ (.thereC _ (.there _ (.there _ (.here _ _)))))))))))))) rsN) rfl (by kernel_rfl) (fun _ hy hK=>o_faL fl62_1 rfl rfl (fun w hw=>(za.sl hw (fun x hx=>hy x (Pull.sub (.here _ _) x hx)))) (toNat_lt (za.ix (ho76)))) ?_)))); have hRn86 := za.at nT62.mono (toNat_lt (ho76))
                                refine xbr hok 5 [118] (zm++([])) (rsA (Pull.sub (.thereC _ (.thereC _ (.thereC _ (.thereC _ (.there _ (.there _ (.there _ (.there _ (.thereC _ (.thereC _ (.there _ (.there _ (.here _ _)))))))))))))) rsN) rfl (by kernel_rfl) (fun _ hy hK=>o_ldL1 (off := 1) (u := iI ((zr.2.2.1[k12.toNat]!).2.1)) rfl ts3 rfl (fun w hw=>(za.sl hw (fun x hx=>hy x (Pull.sub (.here _ _) x hx)))) (toNat_lt (za.ix (ho76))) rfl (nT62.c1 hRn86)) (xb hok 6 [11] rfl (by kernel_rfl) (fun _ hK=>o_fa0 fl56_2 rfl) (xbr hok 7 [120] ((b11,_)::([])) (rsC mH rsN) rfl (by kernel_rfl) (fun _ hy hK=>o_ld (v := vs68) rfl ts53 (hy _ mH) (by decide) rfl) (xb hok 8 [12] rfl (by kernel_rfl) (fun _ hK=>o_mv rfl) (xbr hok 9 [121,122] (zq++([])) (rsA (Pull.sub (.thereC _ (.thereC _ (.thereC _ (.thereC _ (.there _ (.there _ (.here _ _)))))))) rsN) rfl (by kernel_rfl) (fun _ hy hK=>o_ixL el53 rfl rfl (fun w hw=>(zb.sl hw (fun x hx=>hy x (Pull.sub (.here _ _) x hx)))) rfl (zb.ix (ho77))) (xbr hok 10 [123] (zq++([])) (rsA (Pull.sub (.thereC _ (.thereC _ (.thereC _ (.thereC _ (.there _ (.there _ (.here _ _)))))))) rsN) rfl (by kernel_rfl) (fun _ hy hK=>o_faL fl62_1 rfl rfl (fun w hw=>(zb.sl hw (fun x hx=>hy x (Pull.sub (.here _ _) x hx)))) (toNat_lt (zb.ix (ho77)))) ?_))))); have hRn87 := zb.at nT62.mono (toNat_lt (ho77))
                                refine xbr hok 11 [124] (zq++([])) (rsA (Pull.sub (.thereC _ (.thereC _ (.thereC _ (.thereC _ (.there _ (.there _ (.here _ _)))))))) rsN) rfl (by kernel_rfl) (fun _ hy hK=>o_ldL1 (off := 1) (u := iI ((zs.2.2.1[k12.toNat]!).2.1)) rfl ts3 rfl (fun w hw=>(zb.sl hw (fun x hx=>hy x (Pull.sub (.here _ _) x hx)))) (toNat_lt (zb.ix (ho77))) rfl (nT62.c1 hRn87)) (xb hok 12 [119,125] rfl (by kernel_rfl) (fun _ hK=>o_neq rfl rfl) (xb hok 13 [126] rfl (by kernel_rfl) (fun _ hK=>o_mv rfl) (de' 127 rfl (fun hp88=>?_) fun hp88=>?_)))
                                ·refine xbs hok 14 [10,127] rfl (by kernel_rfl) (xbs hok 15 [128,127] rfl (by kernel_rfl) (xbs hok 16 [12,127] rfl (by kernel_rfl) (xbs hok 17 [129,130,127] rfl (by kernel_rfl) (xbs hok 18 [131,127] rfl (by kernel_rfl) (xbs hok 19 [132,127] rfl (by kernel_rfl) (xbs hok 20 [11,127] rfl (by kernel_rfl) (xbs hok 21 [134,127] rfl (by kernel_rfl) (xbs hok 22 [12,127] rfl (by kernel_rfl) (xbs hok 23 [135,136,127] rfl (by kernel_rfl) (xbs hok 24 [137,127] rfl (by kernel_rfl) (xbs hok 25 [138,127] rfl (by kernel_rfl) (xbs hok 26 [133,139,127] rfl (by kernel_rfl) (xb hok 27 [127,140] rfl (by kernel_rfl) (fun _ hK=>o_pick_t rfl rfl) ?_))))))))))))); refine xb hok 28 [141] rfl (by kernel_rfl) (fun _ hK=>o_mv rfl) (xbs hok 29 [10,142] rfl (by kernel_rfl) (xbs hok 30 [143,142] rfl (by kernel_rfl) (xbs hok 31 [12,142] rfl (by kernel_rfl) (xbs hok 32 [144,145,142] rfl (by kernel_rfl) (xbs hok 33 [146,142] rfl (by kernel_rfl) (xbs hok 34 [147,142] rfl (by kernel_rfl) (xbs hok 35 [11,142] rfl (by kernel_rfl) (xbs hok 36 [149,142] rfl (by kernel_rfl) (xbs hok 37 [12,142] rfl (by kernel_rfl) (xbs hok 38 [150,151,142] rfl (by kernel_rfl) (xbs hok 39 [152,142] rfl (by kernel_rfl) (xbs hok 40 [153,142] rfl (by kernel_rfl) (xbs hok 41 [148,154,142] rfl (by kernel_rfl) ?_))))))))))))); refine xb hok 42 [142,155] rfl (by kernel_rfl) (fun _ hK=>o_pick_t rfl rfl) (xb hok 43 [156] rfl (by kernel_rfl) (fun _ hK=>o_mv rfl) (xbs hok 44 [10,157] rfl (by kernel_rfl) (xbs hok 45 [158,157] rfl (by kernel_rfl) (xbs hok 46 [12,157] rfl (by kernel_rfl) (xbs hok 47 [159,160,157] rfl (by kernel_rfl) (xbs hok 48 [161,157] rfl (by kernel_rfl) (xbs hok 49 [162,157] rfl (by kernel_rfl) (xbs hok 50 [163,157] rfl (by kernel_rfl) (xbs hok 51 [11,157] rfl (by kernel_rfl) (xbs hok 52 [165,157] rfl (by kernel_rfl) (xbs hok 53 [12,157] rfl (by kernel_rfl) (xbs hok 54 [166,167,157] rfl (by kernel_rfl) (xbs hok 55 [168,157] rfl (by kernel_rfl) ?_))))))))))))); refine xbs hok 56 [169,157] rfl (by kernel_rfl) (xbs hok 57 [170,157] rfl (by kernel_rfl) (xbs hok 58 [164,171,157] rfl (by kernel_rfl) (xb hok 59 [157,172] rfl (by kernel_rfl) (fun _ hK=>o_pick_t rfl rfl) (xb hok 60 [173] rfl (by kernel_rfl) (fun _ hK=>o_mv rfl) (xbs hok 61 [10,174] rfl (by kernel_rfl) (xbs hok 62 [175,174] rfl (by kernel_rfl) (xbs hok 63 [12,174] rfl (by kernel_rfl) (xbs hok 64 [176,177,174] rfl (by kernel_rfl) (xbs hok 65 [178,174] rfl (by kernel_rfl) (xbs hok 66 [179,174] rfl (by kernel_rfl) (xbs hok 67 [180,174] rfl (by kernel_rfl) (xbs hok 68 [11,174] rfl (by kernel_rfl) (xbs hok 69 [182,174] rfl (by kernel_rfl) ?_))))))))))))); exact xbs hok 70 [12,174] rfl (by kernel_rfl) (xbs hok 71 [183,184,174] rfl (by kernel_rfl) (xbs hok 72 [185,174] rfl (by kernel_rfl) (xbs hok 73 [186,174] rfl (by kernel_rfl) (xbs hok 74 [187,174] rfl (by kernel_rfl) (xbs hok 75 [181,188,174] rfl (by kernel_rfl) (xb hok 76 [174,189] rfl (by kernel_rfl) (fun _ hK=>o_pick_t rfl rfl) (xd_end hok (by kernel_rfl) (qk rfl (by first | rfl | (simp only [dT hp75,dF hp88,if_pos hp75,if_neg hp88,bS,reduceIte,Bool.false_eq_true]; done) | (simp [hp75,hp88]; done) | (simp_all; done)) rfl))))))))
                                ·refine xb hok 14 [10,127] rfl (by kernel_rfl) (fun _ hK=>o_fa0 fl56_2 rfl) (xbr hok 15 [128,127] ((b10,_)::([])) (rsC (mT mH) rsN) rfl (by kernel_rfl) (fun _ hy hK=>o_ld (v := vs62) rfl ts53 (hy _ mH) (by decide) rfl) (xb hok 16 [12,127] rfl (by kernel_rfl) (fun _ hK=>o_mv rfl) (xbr hok 17 [129,130,127] (zm++([])) (rsA (Pull.sub (.thereC _ (.thereC _ (.thereC _ (.thereC _ (.there _ (.there _ (.there _ (.there _ (.thereC _ (.thereC _ (.there _ (.there _ (.here _ _)))))))))))))) rsN) rfl (by kernel_rfl) (fun _ hy hK=>o_ixL el53 rfl rfl (fun w hw=>(za.sl hw (fun x hx=>hy x (Pull.sub (.here _ _) x hx)))) rfl (za.ix (ho78 (by first | exact (nF1 hp88) | (simp only [dT hp75,dT hp88,if_pos hp75,if_pos hp88,bS,reduceIte,Bool.false_eq_true]; done) | (simp [hp75,hp88]; done) | (simp_all; done))))) (xbr hok 18 [131,127] (zm++([])) (rsA (Pull.sub (.thereC _ (.thereC _ (.thereC _ (.thereC _ (.there _ (.there _ (.there _ (.there _ (.thereC _ (.thereC _ (.there _ (.there _ (.here _ _)))))))))))))) rsN) rfl (by kernel_rfl) (fun _ hy hK=>o_faL fl62_4 rfl rfl (fun w hw=>(za.sl hw (fun x hx=>hy x (Pull.sub (.here _ _) x hx)))) (toNat_lt (za.ix (ho78 (by first | exact (nF1 hp88) | (simp only [dT hp75,dT hp88,if_pos hp75,if_pos hp88,bS,reduceIte,Bool.false_eq_true]; done) | (simp [hp75,hp88]; done) | (simp_all; done)))))) ?_)))); have hRn89 := za.at nT62.mono (toNat_lt (ho78 (by first | exact (nF1 hp88) | (simp only [dT hp75,dT hp88,if_pos hp75,if_pos hp88,bS,reduceIte,Bool.false_eq_true]; done) | (simp [hp75,hp88]; done) | (simp_all; done))))
                                 refine xbr hok 19 [132,127] (zm++([])) (rsA (Pull.sub (.thereC _ (.thereC _ (.thereC _ (.thereC _ (.there _ (.there _ (.there _ (.there _ (.thereC _ (.thereC _ (.there _ (.there _ (.here _ _)))))))))))))) rsN) rfl (by kernel_rfl) (fun _ hy hK=>o_ldL1 (off := 4) (u := .bool ((zr.2.2.1[k12.toNat]!).2.2.2.2.1)) rfl ts4 rfl (fun w hw=>(za.sl hw (fun x hx=>hy x (Pull.sub (.here _ _) x hx)))) (toNat_lt (za.ix (ho78 (by first | exact (nF1 hp88) | (simp only [dT hp75,dT hp88,if_pos hp75,if_pos hp88,bS,reduceIte,Bool.false_eq_true]; done) | (simp [hp75,hp88]; done) | (simp_all; done))))) rfl (nT62.c4 hRn89)) (xb hok 20 [11,127] rfl (by kernel_rfl) (fun _ hK=>o_fa0 fl56_2 rfl) (xbr hok 21 [134,127] ((b11,_)::([])) (rsC mH rsN) rfl (by kernel_rfl) (fun _ hy hK=>o_ld (v := vs68) rfl ts53 (hy _ mH) (by decide) rfl) (xb hok 22 [12,127] rfl (by kernel_rfl) (fun _ hK=>o_mv rfl) (xbr hok 23 [135,136,127] (zq++([])) (rsA (Pull.sub (.thereC _ (.thereC _ (.thereC _ (.thereC _ (.there _ (.there _ (.here _ _)))))))) rsN) rfl (by kernel_rfl) (fun _ hy hK=>o_ixL el53 rfl rfl (fun w hw=>(zb.sl hw (fun x hx=>hy x (Pull.sub (.here _ _) x hx)))) rfl (zb.ix (ho79 (by first | exact (nF1 hp88) | (simp only [dT hp75,dT hp88,if_pos hp75,if_pos hp88,bS,reduceIte,Bool.false_eq_true]; done) | (simp [hp75,hp88]; done) | (simp_all; done))))) (xbr hok 24 [137,127] (zq++([])) (rsA (Pull.sub (.thereC _ (.thereC _ (.thereC _ (.thereC _ (.there _ (.there _ (.here _ _)))))))) rsN) rfl (by kernel_rfl) (fun _ hy hK=>o_faL fl62_4 rfl rfl (fun w hw=>(zb.sl hw (fun x hx=>hy x (Pull.sub (.here _ _) x hx)))) (toNat_lt (zb.ix (ho79 (by first | exact (nF1 hp88) | (simp only [dT hp75,dT hp88,if_pos hp75,if_pos hp88,bS,reduceIte,Bool.false_eq_true]; done) | (simp [hp75,hp88]; done) | (simp_all; done)))))) ?_))))); have hRn90 := zb.at nT62.mono (toNat_lt (ho79 (by first | exact (nF1 hp88) | (simp only [dT hp75,dT hp88,if_pos hp75,if_pos hp88,bS,reduceIte,Bool.false_eq_true]; done) | (simp [hp75,hp88]; done) | (simp_all; done))))
                                 refine xbr hok 25 [138,127] (zq++([])) (rsA (Pull.sub (.thereC _ (.thereC _ (.thereC _ (.thereC _ (.there _ (.there _ (.here _ _)))))))) rsN) rfl (by kernel_rfl) (fun _ hy hK=>o_ldL1 (off := 4) (u := .bool ((zs.2.2.1[k12.toNat]!).2.2.2.2.1)) rfl ts4 rfl (fun w hw=>(zb.sl hw (fun x hx=>hy x (Pull.sub (.here _ _) x hx)))) (toNat_lt (zb.ix (ho79 (by first | exact (nF1 hp88) | (simp only [dT hp75,dT hp88,if_pos hp75,if_pos hp88,bS,reduceIte,Bool.false_eq_true]; done) | (simp [hp75,hp88]; done) | (simp_all; done))))) rfl (nT62.c4 hRn90)) (xb hok 26 [133,139,127] rfl (by kernel_rfl) (fun _ hK=>o_neqB Tryz.underlying4 rfl rfl) (xb hok 27 [127,140] rfl (by kernel_rfl) (fun _ hK=>o_pick_f rfl rfl) (xb hok 28 [141] rfl (by kernel_rfl) (fun _ hK=>o_mv rfl) (dc' 142 rfl (fun hp91=>?_) fun hp91=>?_))))
                                 ·refine xbs hok 29 [10,142] rfl (by kernel_rfl) (xbs hok 30 [143,142] rfl (by kernel_rfl) (xbs hok 31 [12,142] rfl (by kernel_rfl) (xbs hok 32 [144,145,142] rfl (by kernel_rfl) (xbs hok 33 [146,142] rfl (by kernel_rfl) (xbs hok 34 [147,142] rfl (by kernel_rfl) (xbs hok 35 [11,142] rfl (by kernel_rfl) (xbs hok 36 [149,142] rfl (by kernel_rfl) (xbs hok 37 [12,142] rfl (by kernel_rfl) (xbs hok 38 [150,151,142] rfl (by kernel_rfl) (xbs hok 39 [152,142] rfl (by kernel_rfl) (xbs hok 40 [153,142] rfl (by kernel_rfl) (xbs hok 41 [148,154,142] rfl (by kernel_rfl) (xb hok 42 [142,155] rfl (by kernel_rfl) (fun _ hK=>o_pick_t rfl rfl) ?_))))))))))))); refine xb hok 43 [156] rfl (by kernel_rfl) (fun _ hK=>o_mv rfl) (xbs hok 44 [10,157] rfl (by kernel_rfl) (xbs hok 45 [158,157] rfl (by kernel_rfl) (xbs hok 46 [12,157] rfl (by kernel_rfl) (xbs hok 47 [159,160,157] rfl (by kernel_rfl) (xbs hok 48 [161,157] rfl (by kernel_rfl) (xbs hok 49 [162,157] rfl (by kernel_rfl) (xbs hok 50 [163,157] rfl (by kernel_rfl) (xbs hok 51 [11,157] rfl (by kernel_rfl) (xbs hok 52 [165,157] rfl (by kernel_rfl) (xbs hok 53 [12,157] rfl (by kernel_rfl) (xbs hok 54 [166,167,157] rfl (by kernel_rfl) (xbs hok 55 [168,157] rfl (by kernel_rfl) (xbs hok 56 [169,157] rfl (by kernel_rfl) ?_))))))))))))); refine xbs hok 57 [170,157] rfl (by kernel_rfl) (xbs hok 58 [164,171,157] rfl (by kernel_rfl) (xb hok 59 [157,172] rfl (by kernel_rfl) (fun _ hK=>o_pick_t rfl rfl) (xb hok 60 [173] rfl (by kernel_rfl) (fun _ hK=>o_mv rfl) (xbs hok 61 [10,174] rfl (by kernel_rfl) (xbs hok 62 [175,174] rfl (by kernel_rfl) (xbs hok 63 [12,174] rfl (by kernel_rfl) (xbs hok 64 [176,177,174] rfl (by kernel_rfl) (xbs hok 65 [178,174] rfl (by kernel_rfl) (xbs hok 66 [179,174] rfl (by kernel_rfl) (xbs hok 67 [180,174] rfl (by kernel_rfl) (xbs hok 68 [11,174] rfl (by kernel_rfl) (xbs hok 69 [182,174] rfl (by kernel_rfl) (xbs hok 70 [12,174] rfl (by kernel_rfl) ?_))))))))))))); exact xbs hok 71 [183,184,174] rfl (by kernel_rfl) (xbs hok 72 [185,174] rfl (by kernel_rfl) (xbs hok 73 [186,174] rfl (by kernel_rfl) (xbs hok 74 [187,174] rfl (by kernel_rfl) (xbs hok 75 [181,188,174] rfl (by kernel_rfl) (xb hok 76 [174,189] rfl (by kernel_rfl) (fun _ hK=>o_pick_t rfl rfl) (xd_end hok (by kernel_rfl) (qk rfl (by first | rfl | (simp only [dT hp75,dT hp88,bF hp91,if_pos hp75,if_pos hp88,if_neg hp91,bS,reduceIte,Bool.false_eq_true]; done) | (simp [hp75,hp88,hp91]; done) | (simp_all; done)) rfl)))))))
                                 ·refine xb hok 29 [10,142] rfl (by kernel_rfl) (fun _ hK=>o_fa0 fl56_2 rfl) (xbr hok 30 [143,142] ((b10,_)::([])) (rsC (mT mH) rsN) rfl (by kernel_rfl) (fun _ hy hK=>o_ld (v := vs62) rfl ts53 (hy _ mH) (by decide) rfl) (xb hok 31 [12,142] rfl (by kernel_rfl) (fun _ hK=>o_mv rfl) (xbr hok 32 [144,145,142] (zm++([])) (rsA (Pull.sub (.thereC _ (.thereC _ (.thereC _ (.thereC _ (.there _ (.there _ (.there _ (.there _ (.thereC _ (.thereC _ (.there _ (.there _ (.here _ _)))))))))))))) rsN) rfl (by kernel_rfl) (fun _ hy hK=>o_ixL el53 rfl rfl (fun w hw=>(za.sl hw (fun x hx=>hy x (Pull.sub (.here _ _) x hx)))) rfl (za.ix (ho80 (by first | exact (nF2 hp91) | (simp only [dT hp75,dT hp88,hp91,if_pos hp75,if_pos hp88,if_pos hp91,bS,reduceIte,Bool.false_eq_true]; done) | (simp [hp75,hp88,hp91]; done) | (simp_all; done))))) (xbr hok 33 [146,142] (zm++([])) (rsA (Pull.sub (.thereC _ (.thereC _ (.thereC _ (.thereC _ (.there _ (.there _ (.there _ (.there _ (.thereC _ (.thereC _ (.there _ (.there _ (.here _ _)))))))))))))) rsN) rfl (by kernel_rfl) (fun _ hy hK=>o_faL fl62_3 rfl rfl (fun w hw=>(za.sl hw (fun x hx=>hy x (Pull.sub (.here _ _) x hx)))) (toNat_lt (za.ix (ho80 (by first | exact (nF2 hp91) | (simp only [dT hp75,dT hp88,hp91,if_pos hp75,if_pos hp88,if_pos hp91,bS,reduceIte,Bool.false_eq_true]; done) | (simp [hp75,hp88,hp91]; done) | (simp_all; done)))))) ?_)))); have hRn92 := za.at nT62.mono (toNat_lt (ho80 (by first | exact (nF2 hp91) | (simp only [dT hp75,dT hp88,hp91,if_pos hp75,if_pos hp88,if_pos hp91,bS,reduceIte,Bool.false_eq_true]; done) | (simp [hp75,hp88,hp91]; done) | (simp_all; done))))
                                  refine xbr hok 34 [147,142] (zm++([])) (rsA (Pull.sub (.thereC _ (.thereC _ (.thereC _ (.thereC _ (.there _ (.there _ (.there _ (.there _ (.thereC _ (.thereC _ (.there _ (.there _ (.here _ _)))))))))))))) rsN) rfl (by kernel_rfl) (fun _ hy hK=>o_ldL1 (off := 3) (u := iI ((zr.2.2.1[k12.toNat]!).2.2.2.1)) rfl ts3 rfl (fun w hw=>(za.sl hw (fun x hx=>hy x (Pull.sub (.here _ _) x hx)))) (toNat_lt (za.ix (ho80 (by first | exact (nF2 hp91) | (simp only [dT hp75,dT hp88,hp91,if_pos hp75,if_pos hp88,if_pos hp91,bS,reduceIte,Bool.false_eq_true]; done) | (simp [hp75,hp88,hp91]; done) | (simp_all; done))))) rfl (nT62.c3 hRn92)) (xb hok 35 [11,142] rfl (by kernel_rfl) (fun _ hK=>o_fa0 fl56_2 rfl) (xbr hok 36 [149,142] ((b11,_)::([])) (rsC mH rsN) rfl (by kernel_rfl) (fun _ hy hK=>o_ld (v := vs68) rfl ts53 (hy _ mH) (by decide) rfl) (xb hok 37 [12,142] rfl (by kernel_rfl) (fun _ hK=>o_mv rfl) (xbr hok 38 [150,151,142] (zq++([])) (rsA (Pull.sub (.thereC _ (.thereC _ (.thereC _ (.thereC _ (.there _ (.there _ (.here _ _)))))))) rsN) rfl (by kernel_rfl) (fun _ hy hK=>o_ixL el53 rfl rfl (fun w hw=>(zb.sl hw (fun x hx=>hy x (Pull.sub (.here _ _) x hx)))) rfl (zb.ix (ho81 (by first | exact (nF2 hp91) | (simp only [dT hp75,dT hp88,hp91,if_pos hp75,if_pos hp88,if_pos hp91,bS,reduceIte,Bool.false_eq_true]; done) | (simp [hp75,hp88,hp91]; done) | (simp_all; done))))) (xbr hok 39 [152,142] (zq++([])) (rsA (Pull.sub (.thereC _ (.thereC _ (.thereC _ (.thereC _ (.there _ (.there _ (.here _ _)))))))) rsN) rfl (by kernel_rfl) (fun _ hy hK=>o_faL fl62_3 rfl rfl (fun w hw=>(zb.sl hw (fun x hx=>hy x (Pull.sub (.here _ _) x hx)))) (toNat_lt (zb.ix (ho81 (by first | exact (nF2 hp91) | (simp only [dT hp75,dT hp88,hp91,if_pos hp75,if_pos hp88,if_pos hp91,bS,reduceIte,Bool.false_eq_true]; done) | (simp [hp75,hp88,hp91]; done) | (simp_all; done)))))) ?_))))); have hRn93 := zb.at nT62.mono (toNat_lt (ho81 (by first | exact (nF2 hp91) | (simp only [dT hp75,dT hp88,hp91,if_pos hp75,if_pos hp88,if_pos hp91,bS,reduceIte,Bool.false_eq_true]; done) | (simp [hp75,hp88,hp91]; done) | (simp_all; done))))
                                  refine xbr hok 40 [153,142] (zq++([])) (rsA (Pull.sub (.thereC _ (.thereC _ (.thereC _ (.thereC _ (.there _ (.there _ (.here _ _)))))))) rsN) rfl (by kernel_rfl) (fun _ hy hK=>o_ldL1 (off := 3) (u := iI ((zs.2.2.1[k12.toNat]!).2.2.2.1)) rfl ts3 rfl (fun w hw=>(zb.sl hw (fun x hx=>hy x (Pull.sub (.here _ _) x hx)))) (toNat_lt (zb.ix (ho81 (by first | exact (nF2 hp91) | (simp only [dT hp75,dT hp88,hp91,if_pos hp75,if_pos hp88,if_pos hp91,bS,reduceIte,Bool.false_eq_true]; done) | (simp [hp75,hp88,hp91]; done) | (simp_all; done))))) rfl (nT62.c3 hRn93)) (xb hok 41 [148,154,142] rfl (by kernel_rfl) (fun _ hK=>o_neq rfl rfl) (xb hok 42 [142,155] rfl (by kernel_rfl) (fun _ hK=>o_pick_f rfl rfl) (xb hok 43 [156] rfl (by kernel_rfl) (fun _ hK=>o_mv rfl) (de' 157 rfl (fun hp94=>?_) fun hp94=>?_))))
                                  ·refine xbs hok 44 [10,157] rfl (by kernel_rfl) (xbs hok 45 [158,157] rfl (by kernel_rfl) (xbs hok 46 [12,157] rfl (by kernel_rfl) (xbs hok 47 [159,160,157] rfl (by kernel_rfl) (xbs hok 48 [161,157] rfl (by kernel_rfl) (xbs hok 49 [162,157] rfl (by kernel_rfl) (xbs hok 50 [163,157] rfl (by kernel_rfl) (xbs hok 51 [11,157] rfl (by kernel_rfl) (xbs hok 52 [165,157] rfl (by kernel_rfl) (xbs hok 53 [12,157] rfl (by kernel_rfl) (xbs hok 54 [166,167,157] rfl (by kernel_rfl) (xbs hok 55 [168,157] rfl (by kernel_rfl) (xbs hok 56 [169,157] rfl (by kernel_rfl) (xbs hok 57 [170,157] rfl (by kernel_rfl) ?_))))))))))))); refine xbs hok 58 [164,171,157] rfl (by kernel_rfl) (xb hok 59 [157,172] rfl (by kernel_rfl) (fun _ hK=>o_pick_t rfl rfl) (xb hok 60 [173] rfl (by kernel_rfl) (fun _ hK=>o_mv rfl) (xbs hok 61 [10,174] rfl (by kernel_rfl) (xbs hok 62 [175,174] rfl (by kernel_rfl) (xbs hok 63 [12,174] rfl (by kernel_rfl) (xbs hok 64 [176,177,174] rfl (by kernel_rfl) (xbs hok 65 [178,174] rfl (by kernel_rfl) (xbs hok 66 [179,174] rfl (by kernel_rfl) (xbs hok 67 [180,174] rfl (by kernel_rfl) (xbs hok 68 [11,174] rfl (by kernel_rfl) (xbs hok 69 [182,174] rfl (by kernel_rfl) (xbs hok 70 [12,174] rfl (by kernel_rfl) (xbs hok 71 [183,184,174] rfl (by kernel_rfl) ?_))))))))))))); exact xbs hok 72 [185,174] rfl (by kernel_rfl) (xbs hok 73 [186,174] rfl (by kernel_rfl) (xbs hok 74 [187,174] rfl (by kernel_rfl) (xbs hok 75 [181,188,174] rfl (by kernel_rfl) (xb hok 76 [174,189] rfl (by kernel_rfl) (fun _ hK=>o_pick_t rfl rfl) (xd_end hok (by kernel_rfl) (qk rfl (by first | rfl | (simp only [dT hp75,dT hp88,hp91,dF hp94,if_pos hp75,if_pos hp88,if_pos hp91,if_neg hp94,bS,reduceIte,Bool.false_eq_true]; done) | (simp [hp75,hp88,hp91,hp94]; done) | (simp_all; done)) rfl))))))
                                  ·refine xb hok 44 [10,157] rfl (by kernel_rfl) (fun _ hK=>o_fa0 fl56_2 rfl) (xbr hok 45 [158,157] ((b10,_)::([])) (rsC (mT mH) rsN) rfl (by kernel_rfl) (fun _ hy hK=>o_ld (v := vs62) rfl ts53 (hy _ mH) (by decide) rfl) (xb hok 46 [12,157] rfl (by kernel_rfl) (fun _ hK=>o_mv rfl) (xbr hok 47 [159,160,157] (zm++([])) (rsA (Pull.sub (.thereC _ (.thereC _ (.thereC _ (.thereC _ (.there _ (.there _ (.there _ (.there _ (.thereC _ (.thereC _ (.there _ (.there _ (.here _ _)))))))))))))) rsN) rfl (by kernel_rfl) (fun _ hy hK=>o_ixL el53 rfl rfl (fun w hw=>(za.sl hw (fun x hx=>hy x (Pull.sub (.here _ _) x hx)))) rfl (za.ix (ho82 (by first | exact (nF1 hp94) | (simp only [dT hp75,dT hp88,hp91,dT hp94,if_pos hp75,if_pos hp88,if_pos hp91,if_pos hp94,bS,reduceIte,Bool.false_eq_true]; done) | (simp [hp75,hp88,hp91,hp94]; done) | (simp_all; done))))) (xbr hok 48 [161,157] (zm++([])) (rsA (Pull.sub (.thereC _ (.thereC _ (.thereC _ (.thereC _ (.there _ (.there _ (.there _ (.there _ (.thereC _ (.thereC _ (.there _ (.there _ (.here _ _)))))))))))))) rsN) rfl (by kernel_rfl) (fun _ hy hK=>o_faL fl62_9 rfl rfl (fun w hw=>(za.sl hw (fun x hx=>hy x (Pull.sub (.here _ _) x hx)))) (toNat_lt (za.ix (ho82 (by first | exact (nF1 hp94) | (simp only [dT hp75,dT hp88,hp91,dT hp94,if_pos hp75,if_pos hp88,if_pos hp91,if_pos hp94,bS,reduceIte,Bool.false_eq_true]; done) | (simp [hp75,hp88,hp91,hp94]; done) | (simp_all; done)))))) ?_)))); have hRn95 := za.at nT62.mono (toNat_lt (ho82 (by first | exact (nF1 hp94) | (simp only [dT hp75,dT hp88,hp91,dT hp94,if_pos hp75,if_pos hp88,if_pos hp91,if_pos hp94,bS,reduceIte,Bool.false_eq_true]; done) | (simp [hp75,hp88,hp91,hp94]; done) | (simp_all; done))))
                                   refine xbr hok 49 [162,157] (zm++([])) (rsA (Pull.sub (.thereC _ (.thereC _ (.thereC _ (.thereC _ (.there _ (.there _ (.there _ (.there _ (.thereC _ (.thereC _ (.there _ (.there _ (.here _ _)))))))))))))) rsN) rfl (by kernel_rfl) (fun _ hy hK=>o_ldL1 (off := 10) (u := ((NJ.raw za)[k12.toNat]! 10)) rfl ts59 rfl (fun w hw=>(za.sl hw (fun x hx=>hy x (Pull.sub (.here _ _) x hx)))) (toNat_lt (za.ix (ho82 (by first | exact (nF1 hp94) | (simp only [dT hp75,dT hp88,hp91,dT hp94,if_pos hp75,if_pos hp88,if_pos hp91,if_pos hp94,bS,reduceIte,Bool.false_eq_true]; done) | (simp [hp75,hp88,hp91,hp94]; done) | (simp_all; done))))) rfl rfl) (xb hok 50 [163,157] rfl (by kernel_rfl) (fun _ hK=>o_lenL rfl Tryz.underlying59 rfl (OJ.val (nT62.s10 (f := (NJ.raw za)[k12.toNat]!) hRn95))) (xb hok 51 [11,157] rfl (by kernel_rfl) (fun _ hK=>o_fa0 fl56_2 rfl) (xbr hok 52 [165,157] ((b11,_)::([])) (rsC mH rsN) rfl (by kernel_rfl) (fun _ hy hK=>o_ld (v := vs68) rfl ts53 (hy _ mH) (by decide) rfl) (xb hok 53 [12,157] rfl (by kernel_rfl) (fun _ hK=>o_mv rfl) (xbr hok 54 [166,167,157] (zq++([])) (rsA (Pull.sub (.thereC _ (.thereC _ (.thereC _ (.thereC _ (.there _ (.there _ (.here _ _)))))))) rsN) rfl (by kernel_rfl) (fun _ hy hK=>o_ixL el53 rfl rfl (fun w hw=>(zb.sl hw (fun x hx=>hy x (Pull.sub (.here _ _) x hx)))) rfl (zb.ix (ho83 (by first | exact (nF1 hp94) | (simp only [dT hp75,dT hp88,hp91,dT hp94,if_pos hp75,if_pos hp88,if_pos hp91,if_pos hp94,bS,reduceIte,Bool.false_eq_true]; done) | (simp [hp75,hp88,hp91,hp94]; done) | (simp_all; done))))) (xbr hok 55 [168,157] (zq++([])) (rsA (Pull.sub (.thereC _ (.thereC _ (.thereC _ (.thereC _ (.there _ (.there _ (.here _ _)))))))) rsN) rfl (by kernel_rfl) (fun _ hy hK=>o_faL fl62_9 rfl rfl (fun w hw=>(zb.sl hw (fun x hx=>hy x (Pull.sub (.here _ _) x hx)))) (toNat_lt (zb.ix (ho83 (by first | exact (nF1 hp94) | (simp only [dT hp75,dT hp88,hp91,dT hp94,if_pos hp75,if_pos hp88,if_pos hp91,if_pos hp94,bS,reduceIte,Bool.false_eq_true]; done) | (simp [hp75,hp88,hp91,hp94]; done) | (simp_all; done)))))) ?_)))))); have hRn96 := zb.at nT62.mono (toNat_lt (ho83 (by first | exact (nF1 hp94) | (simp only [dT hp75,dT hp88,hp91,dT hp94,if_pos hp75,if_pos hp88,if_pos hp91,if_pos hp94,bS,reduceIte,Bool.false_eq_true]; done) | (simp [hp75,hp88,hp91,hp94]; done) | (simp_all; done))))
                                   refine xbr hok 56 [169,157] (zq++([])) (rsA (Pull.sub (.thereC _ (.thereC _ (.thereC _ (.thereC _ (.there _ (.there _ (.here _ _)))))))) rsN) rfl (by kernel_rfl) (fun _ hy hK=>o_ldL1 (off := 10) (u := ((NJ.raw zb)[k12.toNat]! 10)) rfl ts59 rfl (fun w hw=>(zb.sl hw (fun x hx=>hy x (Pull.sub (.here _ _) x hx)))) (toNat_lt (zb.ix (ho83 (by first | exact (nF1 hp94) | (simp only [dT hp75,dT hp88,hp91,dT hp94,if_pos hp75,if_pos hp88,if_pos hp91,if_pos hp94,bS,reduceIte,Bool.false_eq_true]; done) | (simp [hp75,hp88,hp91,hp94]; done) | (simp_all; done))))) rfl rfl) (xb hok 57 [170,157] rfl (by kernel_rfl) (fun _ hK=>o_lenL rfl Tryz.underlying59 rfl (OJ.val (nT62.s10 (f := (NJ.raw zb)[k12.toNat]!) hRn96))) (xb hok 58 [164,171,157] rfl (by kernel_rfl) (fun _ hK=>o_neq rfl rfl) (xb hok 59 [157,172] rfl (by kernel_rfl) (fun _ hK=>o_pick_f rfl rfl) (xb hok 60 [173] rfl (by kernel_rfl) (fun _ hK=>o_mv rfl) (de' 174 rfl (fun hp97=>?_) fun hp97=>?_)))))
                                   ·refine xbs hok 61 [10,174] rfl (by kernel_rfl) (xbs hok 62 [175,174] rfl (by kernel_rfl) (xbs hok 63 [12,174] rfl (by kernel_rfl) (xbs hok 64 [176,177,174] rfl (by kernel_rfl) (xbs hok 65 [178,174] rfl (by kernel_rfl) (xbs hok 66 [179,174] rfl (by kernel_rfl) (xbs hok 67 [180,174] rfl (by kernel_rfl) (xbs hok 68 [11,174] rfl (by kernel_rfl) (xbs hok 69 [182,174] rfl (by kernel_rfl) (xbs hok 70 [12,174] rfl (by kernel_rfl) (xbs hok 71 [183,184,174] rfl (by kernel_rfl) (xbs hok 72 [185,174] rfl (by kernel_rfl) (xbs hok 73 [186,174] rfl (by kernel_rfl) (xbs hok 74 [187,174] rfl (by kernel_rfl) ?_))))))))))))); exact xbs hok 75 [181,188,174] rfl (by kernel_rfl) (xb hok 76 [174,189] rfl (by kernel_rfl) (fun _ hK=>o_pick_t rfl rfl) (xd_end hok (by kernel_rfl) (qk rfl (by first | rfl | (simp only [dT hp75,dT hp88,hp91,dT hp94,dF hp97,if_pos hp75,if_pos hp88,if_pos hp91,if_pos hp94,if_neg hp97,bS,reduceIte,Bool.false_eq_true]; done) | (simp [hp75,hp88,hp91,hp94,hp97]; done) | (simp_all; done)) rfl)))
                                   ·refine xb hok 61 [10,174] rfl (by kernel_rfl) (fun _ hK=>o_fa0 fl56_2 rfl) (xbr hok 62 [175,174] ((b10,_)::([])) (rsC (mT mH) rsN) rfl (by kernel_rfl) (fun _ hy hK=>o_ld (v := vs62) rfl ts53 (hy _ mH) (by decide) rfl) (xb hok 63 [12,174] rfl (by kernel_rfl) (fun _ hK=>o_mv rfl) (xbr hok 64 [176,177,174] (zm++([])) (rsA (Pull.sub (.thereC _ (.thereC _ (.thereC _ (.thereC _ (.there _ (.there _ (.there _ (.there _ (.thereC _ (.thereC _ (.there _ (.there _ (.here _ _)))))))))))))) rsN) rfl (by kernel_rfl) (fun _ hy hK=>o_ixL el53 rfl rfl (fun w hw=>(za.sl hw (fun x hx=>hy x (Pull.sub (.here _ _) x hx)))) rfl (za.ix (ho84 (by first | exact (nF1 hp97) | (simp only [dT hp75,dT hp88,hp91,dT hp94,dT hp97,if_pos hp75,if_pos hp88,if_pos hp91,if_pos hp94,if_pos hp97,bS,reduceIte,Bool.false_eq_true]; done) | (simp [hp75,hp88,hp91,hp94,hp97]; done) | (simp_all; done))))) (xbr hok 65 [178,174] (zm++([])) (rsA (Pull.sub (.thereC _ (.thereC _ (.thereC _ (.thereC _ (.there _ (.there _ (.there _ (.there _ (.thereC _ (.thereC _ (.there _ (.there _ (.here _ _)))))))))))))) rsN) rfl (by kernel_rfl) (fun _ hy hK=>o_faL fl62_10 rfl rfl (fun w hw=>(za.sl hw (fun x hx=>hy x (Pull.sub (.here _ _) x hx)))) (toNat_lt (za.ix (ho84 (by first | exact (nF1 hp97) | (simp only [dT hp75,dT hp88,hp91,dT hp94,dT hp97,if_pos hp75,if_pos hp88,if_pos hp91,if_pos hp94,if_pos hp97,bS,reduceIte,Bool.false_eq_true]; done) | (simp [hp75,hp88,hp91,hp94,hp97]; done) | (simp_all; done)))))) ?_)))); have hRn98 := za.at nT62.mono (toNat_lt (ho84 (by first | exact (nF1 hp97) | (simp only [dT hp75,dT hp88,hp91,dT hp94,dT hp97,if_pos hp75,if_pos hp88,if_pos hp91,if_pos hp94,if_pos hp97,bS,reduceIte,Bool.false_eq_true]; done) | (simp [hp75,hp88,hp91,hp94,hp97]; done) | (simp_all; done))))
                                    refine xbr hok 66 [179,174] (zm++([])) (rsA (Pull.sub (.thereC _ (.thereC _ (.thereC _ (.thereC _ (.there _ (.there _ (.there _ (.there _ (.thereC _ (.thereC _ (.there _ (.there _ (.here _ _)))))))))))))) rsN) rfl (by kernel_rfl) (fun _ hy hK=>o_ldL1 (off := 11) (u := ((NJ.raw za)[k12.toNat]! 11)) rfl ts59 rfl (fun w hw=>(za.sl hw (fun x hx=>hy x (Pull.sub (.here _ _) x hx)))) (toNat_lt (za.ix (ho84 (by first | exact (nF1 hp97) | (simp only [dT hp75,dT hp88,hp91,dT hp94,dT hp97,if_pos hp75,if_pos hp88,if_pos hp91,if_pos hp94,if_pos hp97,bS,reduceIte,Bool.false_eq_true]; done) | (simp [hp75,hp88,hp91,hp94,hp97]; done) | (simp_all; done))))) rfl rfl) (xb hok 67 [180,174] rfl (by kernel_rfl) (fun _ hK=>o_lenL rfl Tryz.underlying59 rfl (OJ.val (nT62.s11 (f := (NJ.raw za)[k12.toNat]!) hRn98))) (xb hok 68 [11,174] rfl (by kernel_rfl) (fun _ hK=>o_fa0 fl56_2 rfl) (xbr hok 69 [182,174] ((b11,_)::([])) (rsC mH rsN) rfl (by kernel_rfl) (fun _ hy hK=>o_ld (v := vs68) rfl ts53 (hy _ mH) (by decide) rfl) (xb hok 70 [12,174] rfl (by kernel_rfl) (fun _ hK=>o_mv rfl) (xbr hok 71 [183,184,174] (zq++([])) (rsA (Pull.sub (.thereC _ (.thereC _ (.thereC _ (.thereC _ (.there _ (.there _ (.here _ _)))))))) rsN) rfl (by kernel_rfl) (fun _ hy hK=>o_ixL el53 rfl rfl (fun w hw=>(zb.sl hw (fun x hx=>hy x (Pull.sub (.here _ _) x hx)))) rfl (zb.ix (ho85 (by first | exact (nF1 hp97) | (simp only [dT hp75,dT hp88,hp91,dT hp94,dT hp97,if_pos hp75,if_pos hp88,if_pos hp91,if_pos hp94,if_pos hp97,bS,reduceIte,Bool.false_eq_true]; done) | (simp [hp75,hp88,hp91,hp94,hp97]; done) | (simp_all; done))))) (xbr hok 72 [185,174] (zq++([])) (rsA (Pull.sub (.thereC _ (.thereC _ (.thereC _ (.thereC _ (.there _ (.there _ (.here _ _)))))))) rsN) rfl (by kernel_rfl) (fun _ hy hK=>o_faL fl62_10 rfl rfl (fun w hw=>(zb.sl hw (fun x hx=>hy x (Pull.sub (.here _ _) x hx)))) (toNat_lt (zb.ix (ho85 (by first | exact (nF1 hp97) | (simp only [dT hp75,dT hp88,hp91,dT hp94,dT hp97,if_pos hp75,if_pos hp88,if_pos hp91,if_pos hp94,if_pos hp97,bS,reduceIte,Bool.false_eq_true]; done) | (simp [hp75,hp88,hp91,hp94,hp97]; done) | (simp_all; done)))))) ?_)))))); have hRn99 := zb.at nT62.mono (toNat_lt (ho85 (by first | exact (nF1 hp97) | (simp only [dT hp75,dT hp88,hp91,dT hp94,dT hp97,if_pos hp75,if_pos hp88,if_pos hp91,if_pos hp94,if_pos hp97,bS,reduceIte,Bool.false_eq_true]; done) | (simp [hp75,hp88,hp91,hp94,hp97]; done) | (simp_all; done))))
                                    exact xbr hok 73 [186,174] (zq++([])) (rsA (Pull.sub (.thereC _ (.thereC _ (.thereC _ (.thereC _ (.there _ (.there _ (.here _ _)))))))) rsN) rfl (by kernel_rfl) (fun _ hy hK=>o_ldL1 (off := 11) (u := ((NJ.raw zb)[k12.toNat]! 11)) rfl ts59 rfl (fun w hw=>(zb.sl hw (fun x hx=>hy x (Pull.sub (.here _ _) x hx)))) (toNat_lt (zb.ix (ho85 (by first | exact (nF1 hp97) | (simp only [dT hp75,dT hp88,hp91,dT hp94,dT hp97,if_pos hp75,if_pos hp88,if_pos hp91,if_pos hp94,if_pos hp97,bS,reduceIte,Bool.false_eq_true]; done) | (simp [hp75,hp88,hp91,hp94,hp97]; done) | (simp_all; done))))) rfl rfl) (xb hok 74 [187,174] rfl (by kernel_rfl) (fun _ hK=>o_lenL rfl Tryz.underlying59 rfl (OJ.val (nT62.s11 (f := (NJ.raw zb)[k12.toNat]!) hRn99))) (xb hok 75 [181,188,174] rfl (by kernel_rfl) (fun _ hK=>o_neq rfl rfl) (xb hok 76 [174,189] rfl (by kernel_rfl) (fun _ hK=>o_pick_f rfl rfl) (xd_end hok (by kernel_rfl) (qk rfl (by first | rfl | (simp only [dT hp75,dT hp88,hp91,dT hp94,dT hp97,if_pos hp75,if_pos hp88,if_pos hp91,if_pos hp94,if_pos hp97,bS,reduceIte,Bool.false_eq_true]; done) | (simp [hp75,hp88,hp91,hp94,hp97]; done) | (simp_all; done)) rfl)))))
                               ·refine xq_then (wb rfl h (fun hp100 h=>?_) fun hp100 h=>?_)
                                ·exact wS (va rfl (nS (xw_ret (xq_blk_ret (xq_then_ret (xq_out (r := (.inr () : (Unit) ⊕ (Unit))) (e' := [(4,.bool false)]) ((b11,_)::((b10,_)::((b26a,_)::((b13a,_)::(Bj44++(Bj47++(zq++(Bs69++((b26,_)::((b13,_)::(Bg33_0++(Bg33_1++(zm++(Bs63++([]))))))))))))))) (sl rfl) (fun _ h=>h) h (by intro hh; cases hh) ⟨rfl,rfl,rfl⟩))))))
                                ·refine xw_skip (xq_blk 3 (xq_then (xw_region (vm rfl ?_)))); obtain ⟨ho101,h⟩ := h; exact xQ rfl (o_add rfl rfl rfl ho101) (va rfl (xo_nil (xq_next (s' := (k12 + 1 : Int)) (e' := [(1,v1),(5,.pointer (some ⟨b26,0,none⟩)),(7,.pointer (some ⟨b26a,0,none⟩)),(9,iI i9),(10,.pointer (some ⟨b10,0,none⟩)),(11,.pointer (some ⟨b11,0,none⟩)),(12,iI (k12 + 1))]) ((b11,_)::((b10,_)::((b26a,_)::((b13a,_)::(Bj44++(Bj47++(zq++(Bs69++((b26,_)::((b13,_)::(Bg33_0++(Bg33_1++(zm++(Bs63++([]))))))))))))))) (sl rfl) (fun _ h=>h) h ⟨rfl,rfl⟩)))
                              ·exact xw_exit (xq_then_exit (xq_out (r := (.inl () : (Unit) ⊕ (Unit))) (e' := [(1,v1),(5,.pointer (some ⟨b26,0,none⟩)),(7,.pointer (some ⟨b26a,0,none⟩)),(9,iI i9)]) ((b11,_)::((b10,_)::((b26a,_)::((b13a,_)::(Bj44++(Bj47++(zq++(Bs69++((b26,_)::((b13,_)::(Bg33_0++(Bg33_1++(zm++(Bs63++([]))))))))))))))) (sl rfl) (fun _ h=>h) h (by intro hh; cases hh) ⟨rfl,rfl,rfl⟩))
                             ·rcases x2 with _ | x2
                              ·rintro _ _ _ ⟨rfl,rfl,rfl⟩; replace h : twice18_k2a i9 zj yj42 yj43 yj45 yj48 yj50 o := h; unfold twice18_k2a at h; refine xq_blk_eq (xq_blk 1 (xq_then (xw_region (vm rfl ?_)))); obtain ⟨ho102,h⟩ := h; exact xQ rfl (o_add rfl rfl rfl ho102) (va rfl (xo_nil (xq_next (s' := ((i9 + 1,yj42,yj43,yj48,yj50,zj.2.2.2.1,zj.2.2.2.2.1,zj.2.2.2.2.2.2.1,zj.2.2.2.2.2.2.2,yj45,zj.2.2.2.2.2.1) : Int × Int × Int × LM × NI × Int × Int × LM × NI × UM × UM)) (e' := [(1,v1),(5,.pointer (some ⟨b26,0,none⟩)),(7,.pointer (some ⟨b26a,0,none⟩)),(9,iI (i9 + 1))]) (Bg33_1++(Bj47++((b26a,_)::(Bj44++((b13a,_)::((b26,_)::(Bg33_0++((b13,_)::([]))))))))) (sl rfl) (fun _ h=>St.permJ [7,3,0,2,1,4,6,5] [[(b26a,_)],[(b13a,_)],Bj44,Bj47,[(b26,_)],[(b13,_)],Bg33_0,Bg33_1] (Kp.st (Kp.new hb11 (Kp.new hb10 (Kp.keep (Kp.keep (Kp.segKeep (Kp.segKeep (Kp.segNew (Cov.fresh hcBs68) (Kp.segNew (Cov.fresh hcBs69) (Kp.keep (Kp.keep (Kp.segKeep (Kp.segKeep (Kp.segNew (Cov.fresh hcBs62) (Kp.segNew (Cov.fresh hcBs63) Kp.nil)))))))))))))) _ h)) h ⟨vg33_0,vj46,vg33_1,vj49,Bj47,Bg33_1,Bj44,Bg33_0,rfl,rfl,hJvj49,hJBg33_1,hJvj46,hJBg33_0,hcBj47,zd,hcBj44,zc⟩)))
                              cases x2
                              rintro _ _ _ ⟨rfl,rfl,rfl⟩; replace h : twice18_k2b zj yj42 yj43 yj45 yj48 yj50 o := h; unfold twice18_k2b at h; exact xq_blk_ret (xq_blk_ret (xq_then_ret (xq_out (r := (.inr (yj42,yj43,yj45,yj48,yj50,zj.2.2.2.1,zj.2.2.2.2.1,zj.2.2.2.2.2.1,zj.2.2.2.2.2.2.1,zj.2.2.2.2.2.2.2) : (Int × Int × UM × LM × NI × Int × Int × UM × LM × NI) ⊕ (Int × Int × UM × LM × NI × Int × Int × UM × LM × NI))) (e' := [(4,.bool false)]) (Bg33_1++(Bj47++((b26a,_)::(Bj44++((b13a,_)::((b26,_)::(Bg33_0++((b13,_)::([]))))))))) (sl rfl) (fun _ h=>St.permJ [7,3,0,2,1,4,6,5] [[(b26a,_)],[(b13a,_)],Bj44,Bj47,[(b26,_)],[(b13,_)],Bg33_0,Bg33_1] (Kp.st (Kp.new hb11 (Kp.new hb10 (Kp.keep (Kp.keep (Kp.segKeep (Kp.segKeep (Kp.segNew (Cov.fresh hcBs68) (Kp.segNew (Cov.fresh hcBs69) (Kp.keep (Kp.keep (Kp.segKeep (Kp.segKeep (Kp.segNew (Cov.fresh hcBs62) (Kp.segNew (Cov.fresh hcBs63) Kp.nil)))))))))))))) _ h)) h (by intro hh; cases hh) ⟨vg33_1,vg33_0,vj49,vj46,Bj47,Bg33_1,Bj44,Bg33_0,rfl,rfl,rfl,hJvj46,hJvj49,hJBg33_0,hJBg33_1,hcBj47,zd,hcBj44,zc⟩)))
                         ·exact xw_exit (xq_then_exit (xq_out (r := (.inl (fb26a_8,fb26a_9,fb26a_10,fb26a_11,fb13a,zn,zo,zi,zh,fb13) : (Int × Int × UM × LM × NI × Int × Int × UM × LM × NI) ⊕ (Int × Int × UM × LM × NI × Int × Int × UM × LM × NI))) (e' := []) (Bb26_11_1++(Bb26a_11_1++((b26a,_)::(Bb26a_10_1++((b13a,_)::((b26,_)::(Bb26_10_1++((b13,_)::([]))))))))) (sl rfl) (fun _ h=>h) h (by intro hh; cases hh) ⟨vb26_11_1,vb26_10_1,vb26a_11_1,vb26a_10_1,Bb26a_11_1,Bb26_11_1,Bb26a_10_1,Bb26_10_1,rfl,rfl,rfl,hJb26a_10_1,hJb26a_11_1,hJb26_10_1,hJb26_11_1,zf,zt,zg,zu⟩))
                        ·rcases x1 with ⟨fb26a_8,fb26a_9,fb26a_10,fb26a_11,fb13a,zn,zo,zi,zh,fb13⟩ | x1
                         ·rintro _ _ _ ⟨vb26_11_1o,vb26_10_1o,vb26a_11_1o,vb26a_10_1o,Bb26a_11_1o,Bb26_11_1o,Bb26a_10_1o,Bb26_10_1o,rfl,rfl,rfl,hJb26a_10_1o,hJb26a_11_1o,hJb26_10_1o,hJb26_11_1o,zv,zy,zw,zz⟩; replace h : twice18_k1a fb26a_8 fb26a_9 fb26a_10 fb26a_11 fb13a zn zo zi zh fb13 r := h; unfold twice18_k1a at h; refine xq_blk_eq (xq_then (wS (va rfl (nS (xw_ret ?_))))); subst h
                          exact yA Tryz.results9 rfl [] (Kp.st (Kp.segNew (Cov.fresh zy) (Kp.segNew (Cov.fresh zv) (Kp.new hb26a (Kp.segNew (Cov.fresh zw) (Kp.new hb13a (Kp.new hb26 (Kp.segNew (Cov.fresh zz) (Kp.new hb13 Kp.nil))))))))) (⟨rfl,rfl⟩)
                         obtain ⟨fb26a_8,fb26a_9,fb26a_10,fb26a_11,fb13a,zn,zo,zi,zh,fb13⟩ := x1; rintro _ _ _ ⟨vb26_11_1o,vb26_10_1o,vb26a_11_1o,vb26a_10_1o,Bb26a_11_1o,Bb26_11_1o,Bb26a_10_1o,Bb26_10_1o,rfl,rfl,rfl,hJb26a_10_1o,hJb26a_11_1o,hJb26_10_1o,hJb26_11_1o,zv,zy,zw,zz⟩; replace h : twice18_k1b fb26a_8 fb26a_9 fb26a_10 fb26a_11 fb13a zn zo zi zh fb13 r := h; unfold twice18_k1b at h; refine xq_blk_ret (xq_then_ret ?_); subst h
                         exact yA Tryz.results9 rfl [] (Kp.st (Kp.segNew (Cov.fresh zy) (Kp.segNew (Cov.fresh zv) (Kp.new hb26a (Kp.segNew (Cov.fresh zw) (Kp.new hb13a (Kp.new hb26 (Kp.segNew (Cov.fresh zz) (Kp.new hb13 Kp.nil))))))))) (⟨rfl,rfl⟩)
              ·refine xw_skip (xq_then (wS (xQ rfl (o_mki rfl Tryz.underlying86 rfl) (va rfl (nS (xw_ret (rO Tryz.results31 rfl (?_)))))))); refine va rfl (nR (vm rfl (xQ rfl (o_nen Tryz.underlying28 rfl rfl rfl rfl) (nS (xw_cond_t rfl rfl (wS (vm rfl (va rfl ?_)))))))); refine va rfl (nS (xw_ret (xq_then_ret (rT Tryz.results11 rfl rfl (?_))))); refine vm rfl (ve rfl (ve rfl (va rfl (va rfl (nR (vm rfl (xin rfl kf19 rfl Tryz.func19 rfl Tryz.ntmps19 rfl (wS (xr rfl (o_alloc ze23 rfl) ?_))))))))); rintro _ _ ⟨b2aa,hb2aa,rfl,rfl⟩; refine nR (vm rfl (xQ rfl (o_buildM (k := (kS [1])) (m := (updI (updI (updI (updI (updI (updI (updI (fun _=>0) 0 2) 1 (bI probe0)) 2 5) 3 3) 4 40) 5 6) 6 1000)) fk23 ze23 (.one fl23_0 rfl rfl rfl (.one fl23_1 rfl rfl rfl (.one fl23_2 rfl rfl rfl (.one fl23_3 rfl rfl rfl (.one fl23_4 rfl rfl rfl (.one fl23_5 rfl rfl rfl (.one fl23_6 rfl rfl rfl (.nil _)))))))) (M7 rfl (bBI probe0) rfl rfl rfl rfl rfl)) (xZ rfl (o_stW rfl rfl ts23 (fun _ _=>mv_one) mH (.here _ _ _ _)) (nS (xw_ret (con_retN (.inl rfl) (l := [.cell 2 23]) Tryz.results19 (.cell rfl ts23 mH .nil) rfl _ (fun _ h=>h) (?_))))))); refine xin rfl kf11 rfl Tryz.func11 rfl Tryz.ntmps11 rfl (wS (xr rfl (o_boxA rfl) ?_)); rintro _ _ ⟨b2aaa,hb2aaa,rfl,rfl⟩; refine va rfl (va rfl (nS (xw_seq (wS (xQ rfl (o_ldW rfl ts23 mH) (xin rfl kf31 rfl Tryz.func31 rfl Tryz.ntmps31 rfl (wS (xr rfl (o_boxA rfl) ?_)))))))); rintro _ _ ⟨b1a,hb1a,rfl,rfl⟩; refine va rfl (nS (xw_seq (wS (xQ rfl (o_fa0 fl23_0 rfl) (xQ rfl (o_ld (v := iI 2) rfl ts3 mH (by omega) (mv_i rfl)) (xin rfl kf69 rfl Tryz.func69 rfl Tryz.ntmps69 rfl (wS (va rfl (nS ?_))))))))); refine xw_seq (wk [] rfl [(6,.bool ((decide (1≤2)) && (decide (2≤64))))] ?_ ?_)
               ·refine xw_region (vm rfl (vm rfl (xQ rfl (o_geq rfl rfl) (vm rfl (od' 10 rfl (fun hp103=>?_) fun hp103=>?_)))))
                ·exact vm rfl (vm rfl (xQ rfl (o_leq rfl rfl) (vt rfl (va rfl (xo_nil (qk rfl (by first | rfl | (simp only [hp1,dF hp2,hp4,hp6,hp8,hp10,hp12,bF hp14,dT hp103,if_pos hp1,if_neg hp2,if_pos hp4,if_pos hp6,if_pos hp8,if_pos hp10,if_pos hp12,if_neg hp14,if_pos hp103,bS,reduceIte,Bool.false_eq_true]; done) | (simp [hp1,hp2,hp4,hp6,hp8,hp10,hp12,hp14,hp103]; done) | (simp_all; done)) rfl))))))
                ·exact vs rfl (vs rfl (vs rfl (vf rfl (va rfl (xo_nil (qk rfl (by first | rfl | (simp only [hp1,dF hp2,hp4,hp6,hp8,hp10,hp12,bF hp14,dF hp103,if_pos hp1,if_neg hp2,if_pos hp4,if_pos hp6,if_pos hp8,if_pos hp10,if_pos hp12,if_neg hp14,if_neg hp103,bS,reduceIte,Bool.false_eq_true]; done) | (simp [hp1,hp2,hp4,hp6,hp8,hp10,hp12,hp14,hp103]; done) | (simp_all; done)) rfl))))))
               ·refine xq_then (xw_ret (rO Tryz.results69 rfl (?_))); refine vm rfl (xo_val 6 rfl (v' := .bool true) (congrArg Value.bool (hp4)) (xQ rfl (o_fa0 fl23_2 rfl) (xQ rfl (o_ld (v := iI 5) rfl ts3 mH (by omega) (mv_i rfl)) (xin rfl kf69 rfl Tryz.func69 rfl Tryz.ntmps69 rfl (wS (va rfl (nS (xw_seq (wk [] rfl [(6,.bool ((decide (1≤5)) && (decide (5≤1000))))] ?_ ?_)))))))))
                ·refine xw_region (vm rfl (vm rfl (xQ rfl (o_geq rfl rfl) (vm rfl (od' 10 rfl (fun hp105=>?_) fun hp105=>?_)))))
                 ·exact vm rfl (vm rfl (xQ rfl (o_leq rfl rfl) (vt rfl (va rfl (xo_nil (qk rfl (by first | rfl | (simp only [hp1,dF hp2,hp4,hp6,hp8,hp10,hp12,bF hp14,dT hp105,if_pos hp1,if_neg hp2,if_pos hp4,if_pos hp6,if_pos hp8,if_pos hp10,if_pos hp12,if_neg hp14,if_pos hp105,bS,reduceIte,Bool.false_eq_true]; done) | (simp [hp1,hp2,hp4,hp6,hp8,hp10,hp12,hp14,hp105]; done) | (simp_all; done)) rfl))))))
                 ·exact vs rfl (vs rfl (vs rfl (vf rfl (va rfl (xo_nil (qk rfl (by first | rfl | (simp only [hp1,dF hp2,hp4,hp6,hp8,hp10,hp12,bF hp14,dF hp105,if_pos hp1,if_neg hp2,if_pos hp4,if_pos hp6,if_pos hp8,if_pos hp10,if_pos hp12,if_neg hp14,if_neg hp105,bS,reduceIte,Bool.false_eq_true]; done) | (simp [hp1,hp2,hp4,hp6,hp8,hp10,hp12,hp14,hp105]; done) | (simp_all; done)) rfl))))))
                ·refine xq_then (xw_ret (rO Tryz.results69 rfl (?_))); refine vt rfl (vm rfl (xo_val 11 rfl (v' := .bool true) (congrArg Value.bool (hp6)) (xQ rfl (o_fa0 fl23_3 rfl) (xQ rfl (o_ld (v := iI 3) rfl ts3 mH (by omega) (mv_i rfl)) (xin rfl kf69 rfl Tryz.func69 rfl Tryz.ntmps69 rfl (wS (va rfl (nS (xw_seq (wk [] rfl [(6,.bool ((decide (1≤3)) && (decide (3≤1000))))] ?_ ?_))))))))))
                 ·refine xw_region (vm rfl (vm rfl (xQ rfl (o_geq rfl rfl) (vm rfl (od' 10 rfl (fun hp107=>?_) fun hp107=>?_)))))
                  ·exact vm rfl (vm rfl (xQ rfl (o_leq rfl rfl) (vt rfl (va rfl (xo_nil (qk rfl (by first | rfl | (simp only [hp1,dF hp2,hp4,hp6,hp8,hp10,hp12,bF hp14,dT hp107,if_pos hp1,if_neg hp2,if_pos hp4,if_pos hp6,if_pos hp8,if_pos hp10,if_pos hp12,if_neg hp14,if_pos hp107,bS,reduceIte,Bool.false_eq_true]; done) | (simp [hp1,hp2,hp4,hp6,hp8,hp10,hp12,hp14,hp107]; done) | (simp_all; done)) rfl))))))
                  ·exact vs rfl (vs rfl (vs rfl (vf rfl (va rfl (xo_nil (qk rfl (by first | rfl | (simp only [hp1,dF hp2,hp4,hp6,hp8,hp10,hp12,bF hp14,dF hp107,if_pos hp1,if_neg hp2,if_pos hp4,if_pos hp6,if_pos hp8,if_pos hp10,if_pos hp12,if_neg hp14,if_neg hp107,bS,reduceIte,Bool.false_eq_true]; done) | (simp [hp1,hp2,hp4,hp6,hp8,hp10,hp12,hp14,hp107]; done) | (simp_all; done)) rfl))))))
                 ·refine xq_then (xw_ret (rO Tryz.results69 rfl (?_))); refine vt rfl (vm rfl (xo_val 16 rfl (v' := .bool true) (congrArg Value.bool (hp8)) (xQ rfl (o_fa0 fl23_4 rfl) (xQ rfl (o_ld (v := iI 40) rfl ts3 mH (by omega) (mv_i rfl)) (xin rfl kf69 rfl Tryz.func69 rfl Tryz.ntmps69 rfl (wS (va rfl (nS (xw_seq (wk [] rfl [(6,.bool ((decide (1≤40)) && (decide (40≤4096))))] ?_ ?_))))))))))
                  ·refine xw_region (vm rfl (vm rfl (xQ rfl (o_geq rfl rfl) (vm rfl (od' 10 rfl (fun hp109=>?_) fun hp109=>?_)))))
                   ·exact vm rfl (vm rfl (xQ rfl (o_leq rfl rfl) (vt rfl (va rfl (xo_nil (qk rfl (by first | rfl | (simp only [hp1,dF hp2,hp4,hp6,hp8,hp10,hp12,bF hp14,dT hp109,if_pos hp1,if_neg hp2,if_pos hp4,if_pos hp6,if_pos hp8,if_pos hp10,if_pos hp12,if_neg hp14,if_pos hp109,bS,reduceIte,Bool.false_eq_true]; done) | (simp [hp1,hp2,hp4,hp6,hp8,hp10,hp12,hp14,hp109]; done) | (simp_all; done)) rfl))))))
                   ·exact vs rfl (vs rfl (vs rfl (vf rfl (va rfl (xo_nil (qk rfl (by first | rfl | (simp only [hp1,dF hp2,hp4,hp6,hp8,hp10,hp12,bF hp14,dF hp109,if_pos hp1,if_neg hp2,if_pos hp4,if_pos hp6,if_pos hp8,if_pos hp10,if_pos hp12,if_neg hp14,if_neg hp109,bS,reduceIte,Bool.false_eq_true]; done) | (simp [hp1,hp2,hp4,hp6,hp8,hp10,hp12,hp14,hp109]; done) | (simp_all; done)) rfl))))))
                  ·refine xq_then (xw_ret (rO Tryz.results69 rfl (?_))); refine vt rfl (vm rfl (xo_val 21 rfl (v' := .bool true) (congrArg Value.bool (hp10)) (xQ rfl (o_fa0 fl23_5 rfl) (xQ rfl (o_ld (v := iI 6) rfl ts3 mH (by omega) (mv_i rfl)) (xin rfl kf69 rfl Tryz.func69 rfl Tryz.ntmps69 rfl (wS (va rfl (nS (xw_seq (wk [] rfl [(6,.bool ((decide (1≤6)) && (decide (6≤64))))] ?_ ?_))))))))))
                   ·refine xw_region (vm rfl (vm rfl (xQ rfl (o_geq rfl rfl) (vm rfl (od' 10 rfl (fun hp111=>?_) fun hp111=>?_)))))
                    ·exact vm rfl (vm rfl (xQ rfl (o_leq rfl rfl) (vt rfl (va rfl (xo_nil (qk rfl (by first | rfl | (simp only [hp1,dF hp2,hp4,hp6,hp8,hp10,hp12,bF hp14,dT hp111,if_pos hp1,if_neg hp2,if_pos hp4,if_pos hp6,if_pos hp8,if_pos hp10,if_pos hp12,if_neg hp14,if_pos hp111,bS,reduceIte,Bool.false_eq_true]; done) | (simp [hp1,hp2,hp4,hp6,hp8,hp10,hp12,hp14,hp111]; done) | (simp_all; done)) rfl))))))
                    ·exact vs rfl (vs rfl (vs rfl (vf rfl (va rfl (xo_nil (qk rfl (by first | rfl | (simp only [hp1,dF hp2,hp4,hp6,hp8,hp10,hp12,bF hp14,dF hp111,if_pos hp1,if_neg hp2,if_pos hp4,if_pos hp6,if_pos hp8,if_pos hp10,if_pos hp12,if_neg hp14,if_neg hp111,bS,reduceIte,Bool.false_eq_true]; done) | (simp [hp1,hp2,hp4,hp6,hp8,hp10,hp12,hp14,hp111]; done) | (simp_all; done)) rfl))))))
                   ·refine xq_then (xw_ret (rO Tryz.results69 rfl (?_))); refine vt rfl (vm rfl (xo_val 26 rfl (v' := .bool true) (congrArg Value.bool (hp12)) (xQ rfl (o_fa0 fl23_6 rfl) (xQ rfl (o_ld (v := iI 1000) rfl ts3 mH (by omega) (mv_i rfl)) (xin rfl kf69 rfl Tryz.func69 rfl Tryz.ntmps69 rfl (wS (va rfl (nS (xw_seq (wk [] rfl [(6,.bool ((decide (1≤1000)) && (decide (1000≤65536))))] ?_ ?_))))))))))
                    ·refine xw_region (vm rfl (vm rfl (xQ rfl (o_geq rfl rfl) (vm rfl (od' 10 rfl (fun hp113=>?_) fun hp113=>?_)))))
                     ·exact vm rfl (vm rfl (xQ rfl (o_leq rfl rfl) (vt rfl (va rfl (xo_nil (qk rfl (by first | rfl | (simp only [hp1,dF hp2,hp4,hp6,hp8,hp10,hp12,bF hp14,dT hp113,if_pos hp1,if_neg hp2,if_pos hp4,if_pos hp6,if_pos hp8,if_pos hp10,if_pos hp12,if_neg hp14,if_pos hp113,bS,reduceIte,Bool.false_eq_true]; done) | (simp [hp1,hp2,hp4,hp6,hp8,hp10,hp12,hp14,hp113]; done) | (simp_all; done)) rfl))))))
                     ·exact vs rfl (vs rfl (vs rfl (vf rfl (va rfl (xo_nil (qk rfl (by first | rfl | (simp only [hp1,dF hp2,hp4,hp6,hp8,hp10,hp12,bF hp14,dF hp113,if_pos hp1,if_neg hp2,if_pos hp4,if_pos hp6,if_pos hp8,if_pos hp10,if_pos hp12,if_neg hp14,if_neg hp113,bS,reduceIte,Bool.false_eq_true]; done) | (simp [hp1,hp2,hp4,hp6,hp8,hp10,hp12,hp14,hp113]; done) | (simp_all; done)) rfl))))))
                    ·refine xq_then (xw_ret (rO Tryz.results69 rfl (?_))); refine vt rfl (nS (xw_cond_f rfl (bF hp14) (xw_skip (xq_then (wS (xQ rfl (o_mki rfl Tryz.underlying86 rfl) (va rfl (nS (xw_ret (rO Tryz.results31 rfl (?_))))))))))); refine va rfl (nR (vm rfl (xQ rfl (o_nen Tryz.underlying28 rfl rfl rfl rfl) (nS (xw_cond_t rfl rfl (wS (vm rfl (va rfl ?_)))))))); refine va rfl (nS (xw_ret (xq_then_ret (rT Tryz.results11 rfl rfl (?_))))); refine vm rfl (ve rfl (ve rfl (va rfl (va rfl (nS (xw_seq (xw_seq (wk [1,5,7] rfl [(43,.bool true)] ?_ ?_))))))))
                     ·refine xw_region (vm rfl (xQ rfl (o_eqn Tryz.underlying26 rfl rfl rfl rfl) (vm rfl (vs rfl (vs rfl (vt rfl (vm rfl (vs rfl (vs rfl (vt rfl (vm rfl (vs rfl (vs rfl ?_))))))))))))); exact vt rfl (xo_nil (qk rfl (by first | rfl | (simp only [hp1,dF hp2,hp4,hp6,hp8,hp10,hp12,bF hp14,if_pos hp1,if_neg hp2,if_pos hp4,if_pos hp6,if_pos hp8,if_pos hp10,if_pos hp12,if_neg hp14,bS,reduceIte,Bool.false_eq_true]; done) | (simp [hp1,hp2,hp4,hp6,hp8,hp10,hp12,hp14]; done) | (simp_all; done)) rfl))
                     ·refine xq_then (xw_cond_t rfl rfl (wS (va rfl (nS (xw_ret (xq_then_ret ?_)))))); subst h
                      exact yA Tryz.results9 rfl [] (Kp.st (Kp.new hb1a (Kp.new hb2aaa (Kp.new hb2aa (Kp.new hb1 (Kp.new hb2a (Kp.new hb2 Kp.nil))))))) (⟨rfl,rfl⟩)
            ·refine vs rfl (vs rfl (vs rfl (vf rfl (nS (xw_cond_f rfl rfl (xw_skip (xq_then (wS (xQ rfl (o_mki rfl Tryz.underlying86 rfl) (va rfl (xo_nil ?_))))))))))); refine xq_then (xw_ret (rO Tryz.results31 rfl (?_))); refine va rfl (nR (vm rfl (xQ rfl (o_nen Tryz.underlying28 rfl rfl rfl rfl) (nS (xw_cond_t rfl rfl (wS (vm rfl (va rfl ?_)))))))); refine va rfl (nS (xw_ret (xq_then_ret (rT Tryz.results11 rfl rfl (?_))))); refine vm rfl (ve rfl (ve rfl (va rfl (va rfl (nR (vm rfl (xin rfl kf19 rfl Tryz.func19 rfl Tryz.ntmps19 rfl (wS (xr rfl (o_alloc ze23 rfl) ?_))))))))); rintro _ _ ⟨b2aa,hb2aa,rfl,rfl⟩; refine nR (vm rfl (xQ rfl (o_buildM (k := (kS [1])) (m := (updI (updI (updI (updI (updI (updI (updI (fun _=>0) 0 2) 1 (bI probe0)) 2 5) 3 3) 4 40) 5 6) 6 1000)) fk23 ze23 (.one fl23_0 rfl rfl rfl (.one fl23_1 rfl rfl rfl (.one fl23_2 rfl rfl rfl (.one fl23_3 rfl rfl rfl (.one fl23_4 rfl rfl rfl (.one fl23_5 rfl rfl rfl (.one fl23_6 rfl rfl rfl (.nil _)))))))) (M7 rfl (bBI probe0) rfl rfl rfl rfl rfl)) (xZ rfl (o_stW rfl rfl ts23 (fun _ _=>mv_one) mH (.here _ _ _ _)) (nS (xw_ret (con_retN (.inl rfl) (l := [.cell 2 23]) Tryz.results19 (.cell rfl ts23 mH .nil) rfl _ (fun _ h=>h) (?_))))))); refine xin rfl kf11 rfl Tryz.func11 rfl Tryz.ntmps11 rfl (wS (xr rfl (o_boxA rfl) ?_)); rintro _ _ ⟨b2aaa,hb2aaa,rfl,rfl⟩; refine va rfl (va rfl (nS (xw_seq (wS (xQ rfl (o_ldW rfl ts23 mH) (xin rfl kf31 rfl Tryz.func31 rfl Tryz.ntmps31 rfl (wS (xr rfl (o_boxA rfl) ?_)))))))); rintro _ _ ⟨b1a,hb1a,rfl,rfl⟩; refine va rfl (nS (xw_seq (wS (xQ rfl (o_fa0 fl23_0 rfl) (xQ rfl (o_ld (v := iI 2) rfl ts3 mH (by omega) (mv_i rfl)) (xin rfl kf69 rfl Tryz.func69 rfl Tryz.ntmps69 rfl (wS (va rfl (nS ?_))))))))); refine xw_seq (wk [] rfl [(6,.bool ((decide (1≤2)) && (decide (2≤64))))] ?_ ?_)
             ·refine xw_region (vm rfl (vm rfl (xQ rfl (o_geq rfl rfl) (vm rfl (od' 10 rfl (fun hp114=>?_) fun hp114=>?_)))))
              ·exact vm rfl (vm rfl (xQ rfl (o_leq rfl rfl) (vt rfl (va rfl (xo_nil (qk rfl (by first | rfl | (simp only [hp1,dF hp2,hp4,hp6,hp8,hp10,bF hp12,dT hp114,if_pos hp1,if_neg hp2,if_pos hp4,if_pos hp6,if_pos hp8,if_pos hp10,if_neg hp12,if_pos hp114,bS,reduceIte,Bool.false_eq_true]; done) | (simp [hp1,hp2,hp4,hp6,hp8,hp10,hp12,hp114]; done) | (simp_all; done)) rfl))))))
              ·exact vs rfl (vs rfl (vs rfl (vf rfl (va rfl (xo_nil (qk rfl (by first | rfl | (simp only [hp1,dF hp2,hp4,hp6,hp8,hp10,bF hp12,dF hp114,if_pos hp1,if_neg hp2,if_pos hp4,if_pos hp6,if_pos hp8,if_pos hp10,if_neg hp12,if_neg hp114,bS,reduceIte,Bool.false_eq_true]; done) | (simp [hp1,hp2,hp4,hp6,hp8,hp10,hp12,hp114]; done) | (simp_all; done)) rfl))))))
             ·refine xq_then (xw_ret (rO Tryz.results69 rfl (?_))); refine vm rfl (xo_val 6 rfl (v' := .bool true) (congrArg Value.bool (hp4)) (xQ rfl (o_fa0 fl23_2 rfl) (xQ rfl (o_ld (v := iI 5) rfl ts3 mH (by omega) (mv_i rfl)) (xin rfl kf69 rfl Tryz.func69 rfl Tryz.ntmps69 rfl (wS (va rfl (nS (xw_seq (wk [] rfl [(6,.bool ((decide (1≤5)) && (decide (5≤1000))))] ?_ ?_)))))))))
              ·refine xw_region (vm rfl (vm rfl (xQ rfl (o_geq rfl rfl) (vm rfl (od' 10 rfl (fun hp116=>?_) fun hp116=>?_)))))
               ·exact vm rfl (vm rfl (xQ rfl (o_leq rfl rfl) (vt rfl (va rfl (xo_nil (qk rfl (by first | rfl | (simp only [hp1,dF hp2,hp4,hp6,hp8,hp10,bF hp12,dT hp116,if_pos hp1,if_neg hp2,if_pos hp4,if_pos hp6,if_pos hp8,if_pos hp10,if_neg hp12,if_pos hp116,bS,reduceIte,Bool.false_eq_true]; done) | (simp [hp1,hp2,hp4,hp6,hp8,hp10,hp12,hp116]; done) | (simp_all; done)) rfl))))))
               ·exact vs rfl (vs rfl (vs rfl (vf rfl (va rfl (xo_nil (qk rfl (by first | rfl | (simp only [hp1,dF hp2,hp4,hp6,hp8,hp10,bF hp12,dF hp116,if_pos hp1,if_neg hp2,if_pos hp4,if_pos hp6,if_pos hp8,if_pos hp10,if_neg hp12,if_neg hp116,bS,reduceIte,Bool.false_eq_true]; done) | (simp [hp1,hp2,hp4,hp6,hp8,hp10,hp12,hp116]; done) | (simp_all; done)) rfl))))))
              ·refine xq_then (xw_ret (rO Tryz.results69 rfl (?_))); refine vt rfl (vm rfl (xo_val 11 rfl (v' := .bool true) (congrArg Value.bool (hp6)) (xQ rfl (o_fa0 fl23_3 rfl) (xQ rfl (o_ld (v := iI 3) rfl ts3 mH (by omega) (mv_i rfl)) (xin rfl kf69 rfl Tryz.func69 rfl Tryz.ntmps69 rfl (wS (va rfl (nS (xw_seq (wk [] rfl [(6,.bool ((decide (1≤3)) && (decide (3≤1000))))] ?_ ?_))))))))))
               ·refine xw_region (vm rfl (vm rfl (xQ rfl (o_geq rfl rfl) (vm rfl (od' 10 rfl (fun hp118=>?_) fun hp118=>?_)))))
                ·exact vm rfl (vm rfl (xQ rfl (o_leq rfl rfl) (vt rfl (va rfl (xo_nil (qk rfl (by first | rfl | (simp only [hp1,dF hp2,hp4,hp6,hp8,hp10,bF hp12,dT hp118,if_pos hp1,if_neg hp2,if_pos hp4,if_pos hp6,if_pos hp8,if_pos hp10,if_neg hp12,if_pos hp118,bS,reduceIte,Bool.false_eq_true]; done) | (simp [hp1,hp2,hp4,hp6,hp8,hp10,hp12,hp118]; done) | (simp_all; done)) rfl))))))
                ·exact vs rfl (vs rfl (vs rfl (vf rfl (va rfl (xo_nil (qk rfl (by first | rfl | (simp only [hp1,dF hp2,hp4,hp6,hp8,hp10,bF hp12,dF hp118,if_pos hp1,if_neg hp2,if_pos hp4,if_pos hp6,if_pos hp8,if_pos hp10,if_neg hp12,if_neg hp118,bS,reduceIte,Bool.false_eq_true]; done) | (simp [hp1,hp2,hp4,hp6,hp8,hp10,hp12,hp118]; done) | (simp_all; done)) rfl))))))
               ·refine xq_then (xw_ret (rO Tryz.results69 rfl (?_))); refine vt rfl (vm rfl (xo_val 16 rfl (v' := .bool true) (congrArg Value.bool (hp8)) (xQ rfl (o_fa0 fl23_4 rfl) (xQ rfl (o_ld (v := iI 40) rfl ts3 mH (by omega) (mv_i rfl)) (xin rfl kf69 rfl Tryz.func69 rfl Tryz.ntmps69 rfl (wS (va rfl (nS (xw_seq (wk [] rfl [(6,.bool ((decide (1≤40)) && (decide (40≤4096))))] ?_ ?_))))))))))
                ·refine xw_region (vm rfl (vm rfl (xQ rfl (o_geq rfl rfl) (vm rfl (od' 10 rfl (fun hp120=>?_) fun hp120=>?_)))))
                 ·exact vm rfl (vm rfl (xQ rfl (o_leq rfl rfl) (vt rfl (va rfl (xo_nil (qk rfl (by first | rfl | (simp only [hp1,dF hp2,hp4,hp6,hp8,hp10,bF hp12,dT hp120,if_pos hp1,if_neg hp2,if_pos hp4,if_pos hp6,if_pos hp8,if_pos hp10,if_neg hp12,if_pos hp120,bS,reduceIte,Bool.false_eq_true]; done) | (simp [hp1,hp2,hp4,hp6,hp8,hp10,hp12,hp120]; done) | (simp_all; done)) rfl))))))
                 ·exact vs rfl (vs rfl (vs rfl (vf rfl (va rfl (xo_nil (qk rfl (by first | rfl | (simp only [hp1,dF hp2,hp4,hp6,hp8,hp10,bF hp12,dF hp120,if_pos hp1,if_neg hp2,if_pos hp4,if_pos hp6,if_pos hp8,if_pos hp10,if_neg hp12,if_neg hp120,bS,reduceIte,Bool.false_eq_true]; done) | (simp [hp1,hp2,hp4,hp6,hp8,hp10,hp12,hp120]; done) | (simp_all; done)) rfl))))))
                ·refine xq_then (xw_ret (rO Tryz.results69 rfl (?_))); refine vt rfl (vm rfl (xo_val 21 rfl (v' := .bool true) (congrArg Value.bool (hp10)) (xQ rfl (o_fa0 fl23_5 rfl) (xQ rfl (o_ld (v := iI 6) rfl ts3 mH (by omega) (mv_i rfl)) (xin rfl kf69 rfl Tryz.func69 rfl Tryz.ntmps69 rfl (wS (va rfl (nS (xw_seq (wk [] rfl [(6,.bool ((decide (1≤6)) && (decide (6≤64))))] ?_ ?_))))))))))
                 ·refine xw_region (vm rfl (vm rfl (xQ rfl (o_geq rfl rfl) (vm rfl (od' 10 rfl (fun hp122=>?_) fun hp122=>?_)))))
                  ·exact vm rfl (vm rfl (xQ rfl (o_leq rfl rfl) (vt rfl (va rfl (xo_nil (qk rfl (by first | rfl | (simp only [hp1,dF hp2,hp4,hp6,hp8,hp10,bF hp12,dT hp122,if_pos hp1,if_neg hp2,if_pos hp4,if_pos hp6,if_pos hp8,if_pos hp10,if_neg hp12,if_pos hp122,bS,reduceIte,Bool.false_eq_true]; done) | (simp [hp1,hp2,hp4,hp6,hp8,hp10,hp12,hp122]; done) | (simp_all; done)) rfl))))))
                  ·exact vs rfl (vs rfl (vs rfl (vf rfl (va rfl (xo_nil (qk rfl (by first | rfl | (simp only [hp1,dF hp2,hp4,hp6,hp8,hp10,bF hp12,dF hp122,if_pos hp1,if_neg hp2,if_pos hp4,if_pos hp6,if_pos hp8,if_pos hp10,if_neg hp12,if_neg hp122,bS,reduceIte,Bool.false_eq_true]; done) | (simp [hp1,hp2,hp4,hp6,hp8,hp10,hp12,hp122]; done) | (simp_all; done)) rfl))))))
                 ·refine xq_then (xw_ret (rO Tryz.results69 rfl (?_))); refine vt rfl (vm rfl (xo_val 26 rfl (v' := .bool false) (congrArg Value.bool (bF hp12)) (vs rfl (vs rfl (vs rfl (vf rfl (nS (xw_cond_f rfl rfl (xw_skip (xq_then (wS ?_))))))))))); refine xQ rfl (o_mki rfl Tryz.underlying86 rfl) (va rfl (nS (xw_ret (rO Tryz.results31 rfl (?_))))); refine va rfl (nR (vm rfl (xQ rfl (o_nen Tryz.underlying28 rfl rfl rfl rfl) (nS (xw_cond_t rfl rfl (wS (vm rfl (va rfl ?_)))))))); refine va rfl (nS (xw_ret (xq_then_ret (rT Tryz.results11 rfl rfl (?_))))); refine vm rfl (ve rfl (ve rfl (va rfl (va rfl (nS (xw_seq (xw_seq (wk [1,5,7] rfl [(43,.bool true)] ?_ ?_))))))))
                  ·refine xw_region (vm rfl (xQ rfl (o_eqn Tryz.underlying26 rfl rfl rfl rfl) (vm rfl (vs rfl (vs rfl (vt rfl (vm rfl (vs rfl (vs rfl (vt rfl (vm rfl (vs rfl (vs rfl ?_))))))))))))); exact vt rfl (xo_nil (qk rfl (by first | rfl | (simp only [hp1,dF hp2,hp4,hp6,hp8,hp10,bF hp12,if_pos hp1,if_neg hp2,if_pos hp4,if_pos hp6,if_pos hp8,if_pos hp10,if_neg hp12,bS,reduceIte,Bool.false_eq_true]; done) | (simp [hp1,hp2,hp4,hp6,hp8,hp10,hp12]; done) | (simp_all; done)) rfl))
                  ·refine xq_then (xw_cond_t rfl rfl (wS (va rfl (nS (xw_ret (xq_then_ret ?_)))))); subst h
                   exact yA Tryz.results9 rfl [] (Kp.st (Kp.new hb1a (Kp.new hb2aaa (Kp.new hb2aa (Kp.new hb1 (Kp.new hb2a (Kp.new hb2 Kp.nil))))))) (⟨rfl,rfl⟩)
          ·refine vs rfl (vs rfl (vs rfl (vf rfl (vm rfl (vs rfl (vs rfl (vs rfl (vf rfl (nS (xw_cond_f rfl rfl (xw_skip (xq_then ?_)))))))))))); refine wS (xQ rfl (o_mki rfl Tryz.underlying86 rfl) (va rfl (nS (xw_ret (rO Tryz.results31 rfl (?_)))))); refine va rfl (nR (vm rfl (xQ rfl (o_nen Tryz.underlying28 rfl rfl rfl rfl) (nS (xw_cond_t rfl rfl (wS (vm rfl (va rfl ?_)))))))); refine va rfl (nS (xw_ret (xq_then_ret (rT Tryz.results11 rfl rfl (?_))))); refine vm rfl (ve rfl (ve rfl (va rfl (va rfl (nR (vm rfl (xin rfl kf19 rfl Tryz.func19 rfl Tryz.ntmps19 rfl (wS (xr rfl (o_alloc ze23 rfl) ?_))))))))); rintro _ _ ⟨b2aa,hb2aa,rfl,rfl⟩; refine nR (vm rfl (xQ rfl (o_buildM (k := (kS [1])) (m := (updI (updI (updI (updI (updI (updI (updI (fun _=>0) 0 2) 1 (bI probe0)) 2 5) 3 3) 4 40) 5 6) 6 1000)) fk23 ze23 (.one fl23_0 rfl rfl rfl (.one fl23_1 rfl rfl rfl (.one fl23_2 rfl rfl rfl (.one fl23_3 rfl rfl rfl (.one fl23_4 rfl rfl rfl (.one fl23_5 rfl rfl rfl (.one fl23_6 rfl rfl rfl (.nil _)))))))) (M7 rfl (bBI probe0) rfl rfl rfl rfl rfl)) (xZ rfl (o_stW rfl rfl ts23 (fun _ _=>mv_one) mH (.here _ _ _ _)) (nS (xw_ret (con_retN (.inl rfl) (l := [.cell 2 23]) Tryz.results19 (.cell rfl ts23 mH .nil) rfl _ (fun _ h=>h) (?_))))))); refine xin rfl kf11 rfl Tryz.func11 rfl Tryz.ntmps11 rfl (wS (xr rfl (o_boxA rfl) ?_)); rintro _ _ ⟨b2aaa,hb2aaa,rfl,rfl⟩; refine va rfl (va rfl (nS (xw_seq (wS (xQ rfl (o_ldW rfl ts23 mH) (xin rfl kf31 rfl Tryz.func31 rfl Tryz.ntmps31 rfl (wS (xr rfl (o_boxA rfl) ?_)))))))); rintro _ _ ⟨b1a,hb1a,rfl,rfl⟩; refine va rfl (nS (xw_seq (wS (xQ rfl (o_fa0 fl23_0 rfl) (xQ rfl (o_ld (v := iI 2) rfl ts3 mH (by omega) (mv_i rfl)) (xin rfl kf69 rfl Tryz.func69 rfl Tryz.ntmps69 rfl (wS (va rfl (nS ?_))))))))); refine xw_seq (wk [] rfl [(6,.bool ((decide (1≤2)) && (decide (2≤64))))] ?_ ?_)
           ·refine xw_region (vm rfl (vm rfl (xQ rfl (o_geq rfl rfl) (vm rfl (od' 10 rfl (fun hp124=>?_) fun hp124=>?_)))))
            ·exact vm rfl (vm rfl (xQ rfl (o_leq rfl rfl) (vt rfl (va rfl (xo_nil (qk rfl (by first | rfl | (simp only [hp1,dF hp2,hp4,hp6,hp8,bF hp10,dT hp124,if_pos hp1,if_neg hp2,if_pos hp4,if_pos hp6,if_pos hp8,if_neg hp10,if_pos hp124,bS,reduceIte,Bool.false_eq_true]; done) | (simp [hp1,hp2,hp4,hp6,hp8,hp10,hp124]; done) | (simp_all; done)) rfl))))))
            ·exact vs rfl (vs rfl (vs rfl (vf rfl (va rfl (xo_nil (qk rfl (by first | rfl | (simp only [hp1,dF hp2,hp4,hp6,hp8,bF hp10,dF hp124,if_pos hp1,if_neg hp2,if_pos hp4,if_pos hp6,if_pos hp8,if_neg hp10,if_neg hp124,bS,reduceIte,Bool.false_eq_true]; done) | (simp [hp1,hp2,hp4,hp6,hp8,hp10,hp124]; done) | (simp_all; done)) rfl))))))
           ·refine xq_then (xw_ret (rO Tryz.results69 rfl (?_))); refine vm rfl (xo_val 6 rfl (v' := .bool true) (congrArg Value.bool (hp4)) (xQ rfl (o_fa0 fl23_2 rfl) (xQ rfl (o_ld (v := iI 5) rfl ts3 mH (by omega) (mv_i rfl)) (xin rfl kf69 rfl Tryz.func69 rfl Tryz.ntmps69 rfl (wS (va rfl (nS (xw_seq (wk [] rfl [(6,.bool ((decide (1≤5)) && (decide (5≤1000))))] ?_ ?_)))))))))
            ·refine xw_region (vm rfl (vm rfl (xQ rfl (o_geq rfl rfl) (vm rfl (od' 10 rfl (fun hp126=>?_) fun hp126=>?_)))))
             ·exact vm rfl (vm rfl (xQ rfl (o_leq rfl rfl) (vt rfl (va rfl (xo_nil (qk rfl (by first | rfl | (simp only [hp1,dF hp2,hp4,hp6,hp8,bF hp10,dT hp126,if_pos hp1,if_neg hp2,if_pos hp4,if_pos hp6,if_pos hp8,if_neg hp10,if_pos hp126,bS,reduceIte,Bool.false_eq_true]; done) | (simp [hp1,hp2,hp4,hp6,hp8,hp10,hp126]; done) | (simp_all; done)) rfl))))))
             ·exact vs rfl (vs rfl (vs rfl (vf rfl (va rfl (xo_nil (qk rfl (by first | rfl | (simp only [hp1,dF hp2,hp4,hp6,hp8,bF hp10,dF hp126,if_pos hp1,if_neg hp2,if_pos hp4,if_pos hp6,if_pos hp8,if_neg hp10,if_neg hp126,bS,reduceIte,Bool.false_eq_true]; done) | (simp [hp1,hp2,hp4,hp6,hp8,hp10,hp126]; done) | (simp_all; done)) rfl))))))
            ·refine xq_then (xw_ret (rO Tryz.results69 rfl (?_))); refine vt rfl (vm rfl (xo_val 11 rfl (v' := .bool true) (congrArg Value.bool (hp6)) (xQ rfl (o_fa0 fl23_3 rfl) (xQ rfl (o_ld (v := iI 3) rfl ts3 mH (by omega) (mv_i rfl)) (xin rfl kf69 rfl Tryz.func69 rfl Tryz.ntmps69 rfl (wS (va rfl (nS (xw_seq (wk [] rfl [(6,.bool ((decide (1≤3)) && (decide (3≤1000))))] ?_ ?_))))))))))
             ·refine xw_region (vm rfl (vm rfl (xQ rfl (o_geq rfl rfl) (vm rfl (od' 10 rfl (fun hp128=>?_) fun hp128=>?_)))))
              ·exact vm rfl (vm rfl (xQ rfl (o_leq rfl rfl) (vt rfl (va rfl (xo_nil (qk rfl (by first | rfl | (simp only [hp1,dF hp2,hp4,hp6,hp8,bF hp10,dT hp128,if_pos hp1,if_neg hp2,if_pos hp4,if_pos hp6,if_pos hp8,if_neg hp10,if_pos hp128,bS,reduceIte,Bool.false_eq_true]; done) | (simp [hp1,hp2,hp4,hp6,hp8,hp10,hp128]; done) | (simp_all; done)) rfl))))))
              ·exact vs rfl (vs rfl (vs rfl (vf rfl (va rfl (xo_nil (qk rfl (by first | rfl | (simp only [hp1,dF hp2,hp4,hp6,hp8,bF hp10,dF hp128,if_pos hp1,if_neg hp2,if_pos hp4,if_pos hp6,if_pos hp8,if_neg hp10,if_neg hp128,bS,reduceIte,Bool.false_eq_true]; done) | (simp [hp1,hp2,hp4,hp6,hp8,hp10,hp128]; done) | (simp_all; done)) rfl))))))
             ·refine xq_then (xw_ret (rO Tryz.results69 rfl (?_))); refine vt rfl (vm rfl (xo_val 16 rfl (v' := .bool true) (congrArg Value.bool (hp8)) (xQ rfl (o_fa0 fl23_4 rfl) (xQ rfl (o_ld (v := iI 40) rfl ts3 mH (by omega) (mv_i rfl)) (xin rfl kf69 rfl Tryz.func69 rfl Tryz.ntmps69 rfl (wS (va rfl (nS (xw_seq (wk [] rfl [(6,.bool ((decide (1≤40)) && (decide (40≤4096))))] ?_ ?_))))))))))
              ·refine xw_region (vm rfl (vm rfl (xQ rfl (o_geq rfl rfl) (vm rfl (od' 10 rfl (fun hp130=>?_) fun hp130=>?_)))))
               ·exact vm rfl (vm rfl (xQ rfl (o_leq rfl rfl) (vt rfl (va rfl (xo_nil (qk rfl (by first | rfl | (simp only [hp1,dF hp2,hp4,hp6,hp8,bF hp10,dT hp130,if_pos hp1,if_neg hp2,if_pos hp4,if_pos hp6,if_pos hp8,if_neg hp10,if_pos hp130,bS,reduceIte,Bool.false_eq_true]; done) | (simp [hp1,hp2,hp4,hp6,hp8,hp10,hp130]; done) | (simp_all; done)) rfl))))))
               ·exact vs rfl (vs rfl (vs rfl (vf rfl (va rfl (xo_nil (qk rfl (by first | rfl | (simp only [hp1,dF hp2,hp4,hp6,hp8,bF hp10,dF hp130,if_pos hp1,if_neg hp2,if_pos hp4,if_pos hp6,if_pos hp8,if_neg hp10,if_neg hp130,bS,reduceIte,Bool.false_eq_true]; done) | (simp [hp1,hp2,hp4,hp6,hp8,hp10,hp130]; done) | (simp_all; done)) rfl))))))
              ·refine xq_then (xw_ret (rO Tryz.results69 rfl (?_))); refine vt rfl (vm rfl (xo_val 21 rfl (v' := .bool false) (congrArg Value.bool (bF hp10)) (vs rfl (vs rfl (vs rfl (vf rfl (vm rfl (vs rfl (vs rfl (vs rfl (vf rfl (nS ?_)))))))))))); refine xw_cond_f rfl rfl (xw_skip (xq_then (wS (xQ rfl (o_mki rfl Tryz.underlying86 rfl) (va rfl (nS (xw_ret (rO Tryz.results31 rfl (?_))))))))); refine va rfl (nR (vm rfl (xQ rfl (o_nen Tryz.underlying28 rfl rfl rfl rfl) (nS (xw_cond_t rfl rfl (wS (vm rfl (va rfl ?_)))))))); refine va rfl (nS (xw_ret (xq_then_ret (rT Tryz.results11 rfl rfl (?_))))); refine vm rfl (ve rfl (ve rfl (va rfl (va rfl (nS (xw_seq (xw_seq (wk [1,5,7] rfl [(43,.bool true)] ?_ ?_))))))))
               ·refine xw_region (vm rfl (xQ rfl (o_eqn Tryz.underlying26 rfl rfl rfl rfl) (vm rfl (vs rfl (vs rfl (vt rfl (vm rfl (vs rfl (vs rfl (vt rfl (vm rfl (vs rfl (vs rfl ?_))))))))))))); exact vt rfl (xo_nil (qk rfl (by first | rfl | (simp only [hp1,dF hp2,hp4,hp6,hp8,bF hp10,if_pos hp1,if_neg hp2,if_pos hp4,if_pos hp6,if_pos hp8,if_neg hp10,bS,reduceIte,Bool.false_eq_true]; done) | (simp [hp1,hp2,hp4,hp6,hp8,hp10]; done) | (simp_all; done)) rfl))
               ·refine xq_then (xw_cond_t rfl rfl (wS (va rfl (nS (xw_ret (xq_then_ret ?_)))))); subst h
                exact yA Tryz.results9 rfl [] (Kp.st (Kp.new hb1a (Kp.new hb2aaa (Kp.new hb2aa (Kp.new hb1 (Kp.new hb2a (Kp.new hb2 Kp.nil))))))) (⟨rfl,rfl⟩)
        ·refine vs rfl (vs rfl (vs rfl (vf rfl (vm rfl (vs rfl (vs rfl (vs rfl (vf rfl (vm rfl (vs rfl (vs rfl (vs rfl (vf rfl ?_))))))))))))); refine nS (xw_cond_f rfl rfl (xw_skip (xq_then (wS (xQ rfl (o_mki rfl Tryz.underlying86 rfl) (va rfl (nS (xw_ret (rO Tryz.results31 rfl (?_)))))))))); refine va rfl (nR (vm rfl (xQ rfl (o_nen Tryz.underlying28 rfl rfl rfl rfl) (nS (xw_cond_t rfl rfl (wS (vm rfl (va rfl ?_)))))))); refine va rfl (nS (xw_ret (xq_then_ret (rT Tryz.results11 rfl rfl (?_))))); refine vm rfl (ve rfl (ve rfl (va rfl (va rfl (nR (vm rfl (xin rfl kf19 rfl Tryz.func19 rfl Tryz.ntmps19 rfl (wS (xr rfl (o_alloc ze23 rfl) ?_))))))))); rintro _ _ ⟨b2aa,hb2aa,rfl,rfl⟩; refine nR (vm rfl (xQ rfl (o_buildM (k := (kS [1])) (m := (updI (updI (updI (updI (updI (updI (updI (fun _=>0) 0 2) 1 (bI probe0)) 2 5) 3 3) 4 40) 5 6) 6 1000)) fk23 ze23 (.one fl23_0 rfl rfl rfl (.one fl23_1 rfl rfl rfl (.one fl23_2 rfl rfl rfl (.one fl23_3 rfl rfl rfl (.one fl23_4 rfl rfl rfl (.one fl23_5 rfl rfl rfl (.one fl23_6 rfl rfl rfl (.nil _)))))))) (M7 rfl (bBI probe0) rfl rfl rfl rfl rfl)) (xZ rfl (o_stW rfl rfl ts23 (fun _ _=>mv_one) mH (.here _ _ _ _)) (nS (xw_ret (con_retN (.inl rfl) (l := [.cell 2 23]) Tryz.results19 (.cell rfl ts23 mH .nil) rfl _ (fun _ h=>h) (?_))))))); refine xin rfl kf11 rfl Tryz.func11 rfl Tryz.ntmps11 rfl (wS (xr rfl (o_boxA rfl) ?_)); rintro _ _ ⟨b2aaa,hb2aaa,rfl,rfl⟩; refine va rfl (va rfl (nS (xw_seq (wS (xQ rfl (o_ldW rfl ts23 mH) (xin rfl kf31 rfl Tryz.func31 rfl Tryz.ntmps31 rfl (wS (xr rfl (o_boxA rfl) ?_)))))))); rintro _ _ ⟨b1a,hb1a,rfl,rfl⟩; refine va rfl (nS (xw_seq (wS (xQ rfl (o_fa0 fl23_0 rfl) (xQ rfl (o_ld (v := iI 2) rfl ts3 mH (by omega) (mv_i rfl)) (xin rfl kf69 rfl Tryz.func69 rfl Tryz.ntmps69 rfl (wS (va rfl (nS ?_))))))))); refine xw_seq (wk [] rfl [(6,.bool ((decide (1≤2)) && (decide (2≤64))))] ?_ ?_)
         ·refine xw_region (vm rfl (vm rfl (xQ rfl (o_geq rfl rfl) (vm rfl (od' 10 rfl (fun hp132=>?_) fun hp132=>?_)))))
          ·exact vm rfl (vm rfl (xQ rfl (o_leq rfl rfl) (vt rfl (va rfl (xo_nil (qk rfl (by first | rfl | (simp only [hp1,dF hp2,hp4,hp6,bF hp8,dT hp132,if_pos hp1,if_neg hp2,if_pos hp4,if_pos hp6,if_neg hp8,if_pos hp132,bS,reduceIte,Bool.false_eq_true]; done) | (simp [hp1,hp2,hp4,hp6,hp8,hp132]; done) | (simp_all; done)) rfl))))))
          ·exact vs rfl (vs rfl (vs rfl (vf rfl (va rfl (xo_nil (qk rfl (by first | rfl | (simp only [hp1,dF hp2,hp4,hp6,bF hp8,dF hp132,if_pos hp1,if_neg hp2,if_pos hp4,if_pos hp6,if_neg hp8,if_neg hp132,bS,reduceIte,Bool.false_eq_true]; done) | (simp [hp1,hp2,hp4,hp6,hp8,hp132]; done) | (simp_all; done)) rfl))))))
         ·refine xq_then (xw_ret (rO Tryz.results69 rfl (?_))); refine vm rfl (xo_val 6 rfl (v' := .bool true) (congrArg Value.bool (hp4)) (xQ rfl (o_fa0 fl23_2 rfl) (xQ rfl (o_ld (v := iI 5) rfl ts3 mH (by omega) (mv_i rfl)) (xin rfl kf69 rfl Tryz.func69 rfl Tryz.ntmps69 rfl (wS (va rfl (nS (xw_seq (wk [] rfl [(6,.bool ((decide (1≤5)) && (decide (5≤1000))))] ?_ ?_)))))))))
          ·refine xw_region (vm rfl (vm rfl (xQ rfl (o_geq rfl rfl) (vm rfl (od' 10 rfl (fun hp134=>?_) fun hp134=>?_)))))
           ·exact vm rfl (vm rfl (xQ rfl (o_leq rfl rfl) (vt rfl (va rfl (xo_nil (qk rfl (by first | rfl | (simp only [hp1,dF hp2,hp4,hp6,bF hp8,dT hp134,if_pos hp1,if_neg hp2,if_pos hp4,if_pos hp6,if_neg hp8,if_pos hp134,bS,reduceIte,Bool.false_eq_true]; done) | (simp [hp1,hp2,hp4,hp6,hp8,hp134]; done) | (simp_all; done)) rfl))))))
           ·exact vs rfl (vs rfl (vs rfl (vf rfl (va rfl (xo_nil (qk rfl (by first | rfl | (simp only [hp1,dF hp2,hp4,hp6,bF hp8,dF hp134,if_pos hp1,if_neg hp2,if_pos hp4,if_pos hp6,if_neg hp8,if_neg hp134,bS,reduceIte,Bool.false_eq_true]; done) | (simp [hp1,hp2,hp4,hp6,hp8,hp134]; done) | (simp_all; done)) rfl))))))
          ·refine xq_then (xw_ret (rO Tryz.results69 rfl (?_))); refine vt rfl (vm rfl (xo_val 11 rfl (v' := .bool true) (congrArg Value.bool (hp6)) (xQ rfl (o_fa0 fl23_3 rfl) (xQ rfl (o_ld (v := iI 3) rfl ts3 mH (by omega) (mv_i rfl)) (xin rfl kf69 rfl Tryz.func69 rfl Tryz.ntmps69 rfl (wS (va rfl (nS (xw_seq (wk [] rfl [(6,.bool ((decide (1≤3)) && (decide (3≤1000))))] ?_ ?_))))))))))
           ·refine xw_region (vm rfl (vm rfl (xQ rfl (o_geq rfl rfl) (vm rfl (od' 10 rfl (fun hp136=>?_) fun hp136=>?_)))))
            ·exact vm rfl (vm rfl (xQ rfl (o_leq rfl rfl) (vt rfl (va rfl (xo_nil (qk rfl (by first | rfl | (simp only [hp1,dF hp2,hp4,hp6,bF hp8,dT hp136,if_pos hp1,if_neg hp2,if_pos hp4,if_pos hp6,if_neg hp8,if_pos hp136,bS,reduceIte,Bool.false_eq_true]; done) | (simp [hp1,hp2,hp4,hp6,hp8,hp136]; done) | (simp_all; done)) rfl))))))
            ·exact vs rfl (vs rfl (vs rfl (vf rfl (va rfl (xo_nil (qk rfl (by first | rfl | (simp only [hp1,dF hp2,hp4,hp6,bF hp8,dF hp136,if_pos hp1,if_neg hp2,if_pos hp4,if_pos hp6,if_neg hp8,if_neg hp136,bS,reduceIte,Bool.false_eq_true]; done) | (simp [hp1,hp2,hp4,hp6,hp8,hp136]; done) | (simp_all; done)) rfl))))))
           ·refine xq_then (xw_ret (rO Tryz.results69 rfl (?_))); refine vt rfl (vm rfl (xo_val 16 rfl (v' := .bool false) (congrArg Value.bool (bF hp8)) (vs rfl (vs rfl (vs rfl (vf rfl (vm rfl (vs rfl (vs rfl (vs rfl (vf rfl (vm rfl (vs rfl ?_))))))))))))); refine vs rfl (vs rfl (vf rfl (nS (xw_cond_f rfl rfl (xw_skip (xq_then (wS (xQ rfl (o_mki rfl Tryz.underlying86 rfl) (va rfl (nS ?_)))))))))); refine xw_ret (rO Tryz.results31 rfl (?_)); refine va rfl (nR (vm rfl (xQ rfl (o_nen Tryz.underlying28 rfl rfl rfl rfl) (nS (xw_cond_t rfl rfl (wS (vm rfl (va rfl ?_)))))))); refine va rfl (nS (xw_ret (xq_then_ret (rT Tryz.results11 rfl rfl (?_))))); refine vm rfl (ve rfl (ve rfl (va rfl (va rfl (nS (xw_seq (xw_seq (wk [1,5,7] rfl [(43,.bool true)] ?_ ?_))))))))
            ·refine xw_region (vm rfl (xQ rfl (o_eqn Tryz.underlying26 rfl rfl rfl rfl) (vm rfl (vs rfl (vs rfl (vt rfl (vm rfl (vs rfl (vs rfl (vt rfl (vm rfl (vs rfl (vs rfl ?_))))))))))))); exact vt rfl (xo_nil (qk rfl (by first | rfl | (simp only [hp1,dF hp2,hp4,hp6,bF hp8,if_pos hp1,if_neg hp2,if_pos hp4,if_pos hp6,if_neg hp8,bS,reduceIte,Bool.false_eq_true]; done) | (simp [hp1,hp2,hp4,hp6,hp8]; done) | (simp_all; done)) rfl))
            ·refine xq_then (xw_cond_t rfl rfl (wS (va rfl (nS (xw_ret (xq_then_ret ?_)))))); subst h
             exact yA Tryz.results9 rfl [] (Kp.st (Kp.new hb1a (Kp.new hb2aaa (Kp.new hb2aa (Kp.new hb1 (Kp.new hb2a (Kp.new hb2 Kp.nil))))))) (⟨rfl,rfl⟩)
      ·refine vs rfl (vs rfl (vs rfl (vf rfl (vm rfl (vs rfl (vs rfl (vs rfl (vf rfl (vm rfl (vs rfl (vs rfl (vs rfl (vf rfl ?_))))))))))))); refine vm rfl (vs rfl (vs rfl (vs rfl (vf rfl (nS (xw_cond_f rfl rfl (xw_skip (xq_then (wS (xQ rfl (o_mki rfl Tryz.underlying86 rfl) (va rfl ?_))))))))))); refine nS (xw_ret (rO Tryz.results31 rfl (?_))); refine va rfl (nR (vm rfl (xQ rfl (o_nen Tryz.underlying28 rfl rfl rfl rfl) (nS (xw_cond_t rfl rfl (wS (vm rfl (va rfl ?_)))))))); refine va rfl (nS (xw_ret (xq_then_ret (rT Tryz.results11 rfl rfl (?_))))); refine vm rfl (ve rfl (ve rfl (va rfl (va rfl (nR (vm rfl (xin rfl kf19 rfl Tryz.func19 rfl Tryz.ntmps19 rfl (wS (xr rfl (o_alloc ze23 rfl) ?_))))))))); rintro _ _ ⟨b2aa,hb2aa,rfl,rfl⟩; refine nR (vm rfl (xQ rfl (o_buildM (k := (kS [1])) (m := (updI (updI (updI (updI (updI (updI (updI (fun _=>0) 0 2) 1 (bI probe0)) 2 5) 3 3) 4 40) 5 6) 6 1000)) fk23 ze23 (.one fl23_0 rfl rfl rfl (.one fl23_1 rfl rfl rfl (.one fl23_2 rfl rfl rfl (.one fl23_3 rfl rfl rfl (.one fl23_4 rfl rfl rfl (.one fl23_5 rfl rfl rfl (.one fl23_6 rfl rfl rfl (.nil _)))))))) (M7 rfl (bBI probe0) rfl rfl rfl rfl rfl)) (xZ rfl (o_stW rfl rfl ts23 (fun _ _=>mv_one) mH (.here _ _ _ _)) (nS (xw_ret (con_retN (.inl rfl) (l := [.cell 2 23]) Tryz.results19 (.cell rfl ts23 mH .nil) rfl _ (fun _ h=>h) (?_))))))); refine xin rfl kf11 rfl Tryz.func11 rfl Tryz.ntmps11 rfl (wS (xr rfl (o_boxA rfl) ?_)); rintro _ _ ⟨b2aaa,hb2aaa,rfl,rfl⟩; refine va rfl (va rfl (nS (xw_seq (wS (xQ rfl (o_ldW rfl ts23 mH) (xin rfl kf31 rfl Tryz.func31 rfl Tryz.ntmps31 rfl (wS (xr rfl (o_boxA rfl) ?_)))))))); rintro _ _ ⟨b1a,hb1a,rfl,rfl⟩; refine va rfl (nS (xw_seq (wS (xQ rfl (o_fa0 fl23_0 rfl) (xQ rfl (o_ld (v := iI 2) rfl ts3 mH (by omega) (mv_i rfl)) (xin rfl kf69 rfl Tryz.func69 rfl Tryz.ntmps69 rfl (wS (va rfl (nS ?_))))))))); refine xw_seq (wk [] rfl [(6,.bool ((decide (1≤2)) && (decide (2≤64))))] ?_ ?_)
       ·refine xw_region (vm rfl (vm rfl (xQ rfl (o_geq rfl rfl) (vm rfl (od' 10 rfl (fun hp138=>?_) fun hp138=>?_)))))
        ·exact vm rfl (vm rfl (xQ rfl (o_leq rfl rfl) (vt rfl (va rfl (xo_nil (qk rfl (by first | rfl | (simp only [hp1,dF hp2,hp4,bF hp6,dT hp138,if_pos hp1,if_neg hp2,if_pos hp4,if_neg hp6,if_pos hp138,bS,reduceIte,Bool.false_eq_true]; done) | (simp [hp1,hp2,hp4,hp6,hp138]; done) | (simp_all; done)) rfl))))))
        ·exact vs rfl (vs rfl (vs rfl (vf rfl (va rfl (xo_nil (qk rfl (by first | rfl | (simp only [hp1,dF hp2,hp4,bF hp6,dF hp138,if_pos hp1,if_neg hp2,if_pos hp4,if_neg hp6,if_neg hp138,bS,reduceIte,Bool.false_eq_true]; done) | (simp [hp1,hp2,hp4,hp6,hp138]; done) | (simp_all; done)) rfl))))))
       ·refine xq_then (xw_ret (rO Tryz.results69 rfl (?_))); refine vm rfl (xo_val 6 rfl (v' := .bool true) (congrArg Value.bool (hp4)) (xQ rfl (o_fa0 fl23_2 rfl) (xQ rfl (o_ld (v := iI 5) rfl ts3 mH (by omega) (mv_i rfl)) (xin rfl kf69 rfl Tryz.func69 rfl Tryz.ntmps69 rfl (wS (va rfl (nS (xw_seq (wk [] rfl [(6,.bool ((decide (1≤5)) && (decide (5≤1000))))] ?_ ?_)))))))))
        ·refine xw_region (vm rfl (vm rfl (xQ rfl (o_geq rfl rfl) (vm rfl (od' 10 rfl (fun hp140=>?_) fun hp140=>?_)))))
         ·exact vm rfl (vm rfl (xQ rfl (o_leq rfl rfl) (vt rfl (va rfl (xo_nil (qk rfl (by first | rfl | (simp only [hp1,dF hp2,hp4,bF hp6,dT hp140,if_pos hp1,if_neg hp2,if_pos hp4,if_neg hp6,if_pos hp140,bS,reduceIte,Bool.false_eq_true]; done) | (simp [hp1,hp2,hp4,hp6,hp140]; done) | (simp_all; done)) rfl))))))
         ·exact vs rfl (vs rfl (vs rfl (vf rfl (va rfl (xo_nil (qk rfl (by first | rfl | (simp only [hp1,dF hp2,hp4,bF hp6,dF hp140,if_pos hp1,if_neg hp2,if_pos hp4,if_neg hp6,if_neg hp140,bS,reduceIte,Bool.false_eq_true]; done) | (simp [hp1,hp2,hp4,hp6,hp140]; done) | (simp_all; done)) rfl))))))
        ·refine xq_then (xw_ret (rO Tryz.results69 rfl (?_))); refine vt rfl (vm rfl (xo_val 11 rfl (v' := .bool false) (congrArg Value.bool (bF hp6)) (vs rfl (vs rfl (vs rfl (vf rfl (vm rfl (vs rfl (vs rfl (vs rfl (vf rfl (vm rfl (vs rfl ?_))))))))))))); refine vs rfl (vs rfl (vf rfl (vm rfl (vs rfl (vs rfl (vs rfl (vf rfl (nS (xw_cond_f rfl rfl (xw_skip (xq_then (xw_seq ?_)))))))))))); refine xw_region (xQ rfl (o_mki rfl Tryz.underlying86 rfl) (va rfl (nS (xw_ret (rO Tryz.results31 rfl (?_)))))); refine va rfl (nR (vm rfl (xQ rfl (o_nen Tryz.underlying28 rfl rfl rfl rfl) (nS (xw_cond_t rfl rfl (wS (vm rfl (va rfl ?_)))))))); refine va rfl (nS (xw_ret (xq_then_ret (rT Tryz.results11 rfl rfl (?_))))); refine vm rfl (ve rfl (ve rfl (va rfl (va rfl (nS (xw_seq (xw_seq (wk [1,5,7] rfl [(43,.bool true)] ?_ ?_))))))))
         ·refine xw_region (vm rfl (xQ rfl (o_eqn Tryz.underlying26 rfl rfl rfl rfl) (vm rfl (vs rfl (vs rfl (vt rfl (vm rfl (vs rfl (vs rfl (vt rfl (vm rfl (vs rfl (vs rfl ?_))))))))))))); exact vt rfl (xo_nil (qk rfl (by first | rfl | (simp only [hp1,dF hp2,hp4,bF hp6,if_pos hp1,if_neg hp2,if_pos hp4,if_neg hp6,bS,reduceIte,Bool.false_eq_true]; done) | (simp [hp1,hp2,hp4,hp6]; done) | (simp_all; done)) rfl))
         ·refine xq_then (xw_cond_t rfl rfl (wS (va rfl (nS (xw_ret (xq_then_ret ?_)))))); subst h
          exact yA Tryz.results9 rfl [] (Kp.st (Kp.new hb1a (Kp.new hb2aaa (Kp.new hb2aa (Kp.new hb1 (Kp.new hb2a (Kp.new hb2 Kp.nil))))))) (⟨rfl,rfl⟩)
    ·refine vs rfl (vs rfl (vs rfl (vf rfl (vm rfl (vs rfl (vs rfl (vs rfl (vf rfl (vm rfl (vs rfl (vs rfl (vs rfl (vf rfl ?_))))))))))))); refine vm rfl (vs rfl (vs rfl (vs rfl (vf rfl (vm rfl (vs rfl (vs rfl (vs rfl (vf rfl (nS (xw_cond_f rfl rfl (xw_skip ?_)))))))))))); refine xq_then (wS (xQ rfl (o_mki rfl Tryz.underlying86 rfl) (va rfl (nS (xw_ret (rO Tryz.results31 rfl (?_))))))); refine va rfl (nR (vm rfl (xQ rfl (o_nen Tryz.underlying28 rfl rfl rfl rfl) (nS (xw_cond_t rfl rfl (wS (vm rfl (va rfl ?_)))))))); refine va rfl (nS (xw_ret (xq_then_ret (rT Tryz.results11 rfl rfl (?_))))); refine vm rfl (ve rfl (ve rfl (va rfl (va rfl (nR (vm rfl (xin rfl kf19 rfl Tryz.func19 rfl Tryz.ntmps19 rfl (wS (xr rfl (o_alloc ze23 rfl) ?_))))))))); rintro _ _ ⟨b2aa,hb2aa,rfl,rfl⟩; refine nR (vm rfl (xQ rfl (o_buildM (k := (kS [1])) (m := (updI (updI (updI (updI (updI (updI (updI (fun _=>0) 0 2) 1 (bI probe0)) 2 5) 3 3) 4 40) 5 6) 6 1000)) fk23 ze23 (.one fl23_0 rfl rfl rfl (.one fl23_1 rfl rfl rfl (.one fl23_2 rfl rfl rfl (.one fl23_3 rfl rfl rfl (.one fl23_4 rfl rfl rfl (.one fl23_5 rfl rfl rfl (.one fl23_6 rfl rfl rfl (.nil _)))))))) (M7 rfl (bBI probe0) rfl rfl rfl rfl rfl)) (xZ rfl (o_stW rfl rfl ts23 (fun _ _=>mv_one) mH (.here _ _ _ _)) (nS (xw_ret (con_retN (.inl rfl) (l := [.cell 2 23]) Tryz.results19 (.cell rfl ts23 mH .nil) rfl _ (fun _ h=>h) (?_))))))); refine xin rfl kf11 rfl Tryz.func11 rfl Tryz.ntmps11 rfl (wS (xr rfl (o_boxA rfl) ?_)); rintro _ _ ⟨b2aaa,hb2aaa,rfl,rfl⟩; refine va rfl (va rfl (nS (xw_seq (wS (xQ rfl (o_ldW rfl ts23 mH) (xin rfl kf31 rfl Tryz.func31 rfl Tryz.ntmps31 rfl (wS (xr rfl (o_boxA rfl) ?_)))))))); rintro _ _ ⟨b1a,hb1a,rfl,rfl⟩; refine va rfl (nS (xw_seq (wS (xQ rfl (o_fa0 fl23_0 rfl) (xQ rfl (o_ld (v := iI 2) rfl ts3 mH (by omega) (mv_i rfl)) (xin rfl kf69 rfl Tryz.func69 rfl Tryz.ntmps69 rfl (wS (va rfl (nS ?_))))))))); refine xw_seq (wk [] rfl [(6,.bool ((decide (1≤2)) && (decide (2≤64))))] ?_ ?_)
     ·refine xw_region (vm rfl (vm rfl (xQ rfl (o_geq rfl rfl) (vm rfl (od' 10 rfl (fun hp142=>?_) fun hp142=>?_)))))
      ·exact vm rfl (vm rfl (xQ rfl (o_leq rfl rfl) (vt rfl (va rfl (xo_nil (qk rfl (by first | rfl | (simp only [hp1,dF hp2,bF hp4,dT hp142,if_pos hp1,if_neg hp2,if_neg hp4,if_pos hp142,bS,reduceIte,Bool.false_eq_true]; done) | (simp [hp1,hp2,hp4,hp142]; done) | (simp_all; done)) rfl))))))
      ·exact vs rfl (vs rfl (vs rfl (vf rfl (va rfl (xo_nil (qk rfl (by first | rfl | (simp only [hp1,dF hp2,bF hp4,dF hp142,if_pos hp1,if_neg hp2,if_neg hp4,if_neg hp142,bS,reduceIte,Bool.false_eq_true]; done) | (simp [hp1,hp2,hp4,hp142]; done) | (simp_all; done)) rfl))))))
     ·refine xq_then (xw_ret (rO Tryz.results69 rfl (?_))); refine vm rfl (xo_val 6 rfl (v' := .bool false) (congrArg Value.bool (bF hp4)) (vs rfl (vs rfl (vs rfl (vf rfl (vm rfl (vs rfl (vs rfl (vs rfl (vf rfl (vm rfl (vs rfl (vs rfl ?_))))))))))))); refine vs rfl (vf rfl (vm rfl (vs rfl (vs rfl (vs rfl (vf rfl (vm rfl (vs rfl (vs rfl (vs rfl (vf rfl (nS ?_)))))))))))); refine xw_cond_f rfl rfl (xw_skip (xq_then (wS (xQ rfl (o_mki rfl Tryz.underlying86 rfl) (va rfl (nS (xw_ret (rO Tryz.results31 rfl (?_))))))))); refine va rfl (nR (vm rfl (xQ rfl (o_nen Tryz.underlying28 rfl rfl rfl rfl) (nS (xw_cond_t rfl rfl (wS (vm rfl (va rfl ?_)))))))); refine va rfl (nS (xw_ret (xq_then_ret (rT Tryz.results11 rfl rfl (?_))))); refine vm rfl (ve rfl (ve rfl (va rfl (va rfl (nS (xw_seq (xw_seq (wk [1,5,7] rfl [(43,.bool true)] ?_ ?_))))))))
      ·refine xw_region (vm rfl (xQ rfl (o_eqn Tryz.underlying26 rfl rfl rfl rfl) (vm rfl (vs rfl (vs rfl (vt rfl (vm rfl (vs rfl (vs rfl (vt rfl (vm rfl (vs rfl (vs rfl ?_))))))))))))); exact vt rfl (xo_nil (qk rfl (by first | rfl | (simp only [hp1,dF hp2,bF hp4,if_pos hp1,if_neg hp2,if_neg hp4,bS,reduceIte,Bool.false_eq_true]; done) | (simp [hp1,hp2,hp4]; done) | (simp_all; done)) rfl))
      ·refine xq_then (xw_cond_t rfl rfl (wS (va rfl (nS (xw_ret (xq_then_ret ?_)))))); subst h
       exact yA Tryz.results9 rfl [] (Kp.st (Kp.new hb1a (Kp.new hb2aaa (Kp.new hb2aa (Kp.new hb1 (Kp.new hb2a (Kp.new hb2 Kp.nil))))))) (⟨rfl,rfl⟩)
end Go.Proofs.YtljklmlodfbdnaaGreat
namespace Go.E
open Go
def nextK (c : Nat → Int) (N : Int) (s : KS) (a : Nat → Int) : KS :=
  if a 0 = 0 then (lockK (c 0) N s (a 1) (fun i => a (2 + i)) (a 4)).2.2
  else if a 0 = 1 then (commitK N s (a 1)).2.2
  else if a 0 = 2 then (abortCK N s (a 1)).2.2
  else if a 0 = 3 then (crashK N s (a 1)).2
  else if a 0 = 4 then (beginK N s (a 1)).2.2
  else if a 0 = 5 then (handleK (c 0) (nz (c 1)) s (fun i => a (5 + i))).2.2
  else if a 0 = 6 then (tickK c s).2
  else s
def sentK (c : Nat → Int) (N : Int) (s : KS) (a : Nat → Int) : LM :=
  if a 0 = 0 then (lockK (c 0) N s (a 1) (fun i => a (2 + i)) (a 4)).1
  else if a 0 = 1 then (commitK N s (a 1)).1
  else if a 0 = 2 then (abortCK N s (a 1)).1
  else if a 0 = 5 then (handleK (c 0) (nz (c 1)) s (fun i => a (5 + i))).1
  else if a 0 = 6 then (tickK c s).1
  else []
section
variable {N : Int} {n : Nat} {s : KS}
theorem nextK_KI (h : KI N n s) (hn : n ≤ 90000) (c : Nat → Int) (a : Nat → Int) : KI N (n + 10) (nextK c N s a) := by
  unfold nextK
  split
  · exact (lockK_KI h _ _ _ _).mono (by omega)
  · split
    · exact (commitK_KI h _).mono (by omega)
    · split
      · exact (abortCK_KI h _).mono (by omega)
      · split
        · exact (crashK_KI h (by omega) _).mono (by omega)
        · split
          · exact (beginK_KI h (by omega) _).mono (by omega)
          · split
            · exact (handleK_KI h _ _ _).mono (by omega)
            · split
              · exact tickK_KI h c
              · exact h.mono (by omega)
theorem doneK_same (s : KS) (r : TT × LM × Int) : (doneK s r).2.2.ti = s.ti ∧ (doneK s r).2.2.la = s.la := by
  unfold doneK
  split
  · exact setK_ti _ _
  · exact ⟨rfl, rfl⟩
theorem lockK_same (sh N : Int) (s : KS) (id : Int) (a : Nat → Int) (m : Int) : (lockK sh N s id a m).2.2.ti = s.ti ∧ (lockK sh N s id a m).2.2.la = s.la := by
  unfold lockK
  split
  · split
    · exact ⟨rfl, rfl⟩
    · split
      · split
        · exact setK_ti _ _
        · exact ⟨rfl, rfl⟩
      · exact ⟨rfl, rfl⟩
  · exact ⟨rfl, rfl⟩
theorem commitK_same (N : Int) (s : KS) (id : Int) : (commitK N s id).2.2.ti = s.ti ∧ (commitK N s id).2.2.la = s.la := by
  unfold commitK
  split
  · split
    · exact ⟨rfl, rfl⟩
    · exact doneK_same _ _
  · exact ⟨rfl, rfl⟩
theorem abortCK_same (N : Int) (s : KS) (id : Int) : (abortCK N s id).2.2.ti = s.ti ∧ (abortCK N s id).2.2.la = s.la := by
  unfold abortCK
  split
  · split
    · exact ⟨rfl, rfl⟩
    · exact abortK_same _ _ _ _
  · exact ⟨rfl, rfl⟩
theorem crashK_same (N : Int) (s : KS) (id : Int) : (crashK N s id).2.ti = s.ti ∧ (crashK N s id).2.la = s.la ∧ (crashK N s id).2.m = s.m := by
  unfold crashK
  split <;> exact ⟨rfl, rfl, rfl⟩
theorem beginK_same (N : Int) (s : KS) (id : Int) : (beginK N s id).2.2.ti = s.ti := by
  unfold beginK
  split
  · split <;> rfl
  · rfl
theorem handleK_same (sh : Int) (pr : Bool) (s : KS) (m : Nat → Int) : (handleK sh pr s m).2.2.ti = s.ti ∧ (handleK sh pr s m).2.2.la = s.la := by
  have ha : (ansK s m).2.ti = s.ti ∧ (ansK s m).2.la = s.la := by
    unfold ansK
    split
    · exact setK_ti _ _
    · exact ⟨rfl, rfl⟩
  unfold handleK
  split
  · split
    · exact ⟨rfl, rfl⟩
    · dsimp only
      unfold comesK
      split
      · unfold probedK
        split
        · split
          · split
            · exact abortK_same _ _ _ _
            · split
              · exact ⟨rfl, rfl⟩
              · split <;> exact ⟨rfl, rfl⟩
          · exact ⟨rfl, rfl⟩
        · exact ⟨rfl, rfl⟩
      · split
        · split
          · exact ha
          · split
            · exact ha
            · split
              · unfold voteK
                split
                · exact setK_ti _ _
                · exact ⟨rfl, rfl⟩
              · split
                · unfold ackK
                  split
                  · exact setK_ti _ _
                  · exact ⟨rfl, rfl⟩
                · split
                  · exact abortK_same _ _ _ _
                  · split
                    · unfold woundK
                      split
                      · exact ⟨rfl, rfl⟩
                      · exact abortK_same _ _ _ _
                    · exact ⟨rfl, rfl⟩
        · exact ⟨rfl, rfl⟩
  · exact ⟨rfl, rfl⟩
theorem act18_is (h : KI N n s) (hn : n ≤ 90000) (c : Nat → Int) (hc : 1 ≤ c 0 ∧ c 0 ≤ 64) (hc3 : c 3 ≠ 0) (a : Nat → Int) :
    act18_P c s.cl s.ti s.la s.m s.tr a ∧ (act18_F c s.cl s.ti s.la s.m s.tr a).1 = sentK c N s a ∧ (act18_F c s.cl s.ti s.la s.m s.tr a).2.2.2 = ((nextK c N s a).ti, (nextK c N s a).la, (nextK c N s a).m, (nextK c N s a).tr, (nextK c N s a).cl) := by
  unfold act18_P act18_F sentK nextK
  by_cases h0 : a 0 = 0
  · simp only [if_pos h0]
    obtain ⟨p, q⟩ := klock_is h (by omega) c hc (a 1) (fun i => a (2 + i)) (a 4)
    have e := lockK_same (c 0) N s (a 1) (fun i => a (2 + i)) (a 4)
    rw [q, e.1, e.2]
    exact ⟨⟨p, trivial⟩, rfl, rfl⟩
  · simp only [if_neg h0]
    by_cases h1 : a 0 = 1
    · simp only [if_pos h1]
      obtain ⟨p, q⟩ := kcommit_is h (by omega) c (a 1)
      have e := commitK_same N s (a 1)
      rw [q, e.1, e.2]
      exact ⟨⟨p, trivial⟩, rfl, rfl⟩
    · simp only [if_neg h1]
      by_cases h2 : a 0 = 2
      · simp only [if_pos h2]
        obtain ⟨p, q⟩ := kabortC_is h (by omega) c (a 1)
        have e := abortCK_same N s (a 1)
        rw [q, e.1, e.2]
        exact ⟨⟨p, trivial⟩, rfl, rfl⟩
      · simp only [if_neg h2]
        by_cases h3 : a 0 = 3
        · simp only [if_pos h3]
          obtain ⟨p, q⟩ := kcrash_is h (by omega) c (a 1)
          have e := crashK_same N s (a 1)
          have e5 : ¬ a 0 = 5 := by omega
          have e6 : ¬ a 0 = 6 := by omega
          rw [q, e.1, e.2.1, e.2.2, if_neg e5, if_neg e6]
          exact ⟨⟨p, trivial⟩, rfl, rfl⟩
        · simp only [if_neg h3]
          by_cases h4 : a 0 = 4
          · simp only [if_pos h4]
            obtain ⟨p, q⟩ := kbegin_is h (by omega) c (a 1)
            have e := beginK_same N s (a 1)
            have e5 : ¬ a 0 = 5 := by omega
            have e6 : ¬ a 0 = 6 := by omega
            rw [q, e, if_neg e5, if_neg e6]
            exact ⟨⟨p, trivial⟩, rfl, rfl⟩
          · simp only [if_neg h4]
            by_cases h5 : a 0 = 5
            · simp only [if_pos h5]
              obtain ⟨p, q⟩ := khandle_is h (by omega) c (fun i => a (5 + i))
              have e := handleK_same (c 0) (nz (c 1)) s (fun i => a (5 + i))
              rw [q, e.1, e.2]
              exact ⟨⟨p, trivial⟩, rfl, rfl⟩
            · simp only [if_neg h5]
              by_cases h6 : a 0 = 6
              · simp only [if_pos h6]
                have e := tick1_KI h c
                have e2 := tickK_2 c s
                have e3 : (tickK c s).2.ti = s.ti + 1 := by rw [e2]; exact e.2.2.1
                have e4 : (tickK c s).2.la = s.la := by rw [e2]; exact e.2.2.2
                refine ⟨⟨⟨⟨N, n, h, hn⟩, hc3⟩, trivial⟩, rfl, ?_⟩
                rw [e3, e4]
                rfl
              · simp only [if_neg h6]
                exact ⟨trivial, trivial, trivial⟩
theorem KI.viewP (h : KI N n s) (hn : n ≤ 100000) (c : Nat → Int) : kview_P c s.cl s.ti s.la s.m s.tr := by
  have hl := h.hl
  have hr := h.hr
  refine ⟨h.skP hn, by rw [h.len]; omega, by omega, fun k => ?_⟩
  by_cases hk : 1 ≤ k ∧ k ≤ s.la
  · have hT := (h.hT k hk.1 hk.2).1
    have h1 := TI.lto hT
    have h2 := TI.lvo hT
    have h3 := TI.lac hT
    have h4 : _ ≤ n := hT.hgo
    exact ⟨by omega, by omega, by omega, by omega⟩
  · unfold TL
    rw [h.at0 hk]
    exact ⟨by decide, by decide, by decide, by decide⟩
theorem KI.view (h : KI N n s) (c : Nat → Int) : (kview_F c s.cl s.ti s.la s.m s.tr).2.2.1 = (List.range s.la.toNat).map fun k : Nat => tAt s.m ((k : Int) + 1) := by
  unfold kview_F
  dsimp only
  rw [h.keys, List.map_map]
  rfl
end
end Go.E
namespace Go.E
open Go
structure Ck (c : Nat → Int) (s : KS) (a : Nat → Int) (k : Int) (t t' : TT) : Prop where
  keep : 3 ≤ t.2.1 → t'.2.1 = t.2.1 ∧ t'.2.2.1 = t.2.2.1
  w3 : t.2.1 ≤ 2 → t'.2.1 = 4 → t'.2.2.1 = 3 → a 0 = 5 ∧ okB (fun i => a (5 + i)) = true ∧ a 5 = 10 ∧ a 8 = k ∧ nz (c 1) = false ∧ t.2.1 = 1 ∧ ((tAt s.m (a 14)).2.1 = 1 ∨ (tAt s.m (a 14)).2.1 = 2)
  w4 : t.2.1 ≤ 2 → t'.2.1 = 4 → t'.2.2.1 = 4 → a 0 = 5 ∧ nz (c 1) = true ∧ live_F (fun i => a (5 + i)) (openL s.m) = true ∧ back_F (fun i => a (5 + i)) = true ∧ k = (victim_F (fun i => a (5 + i))).1
section
variable {c : Nat → Int} {s : KS} {a : Nat → Int} {k : Int} {t t' : TT} {N : Int} {n : Nat}
theorem Ck.same (h1 : t'.2.1 = t.2.1) (h2 : t'.2.2.1 = t.2.2.1) : Ck c s a k t t' where
  keep := fun _ => ⟨h1, h2⟩
  w3 := fun h3 h4 => by omega
  w4 := fun h3 h4 => by omega
theorem tAt_setK (s : KS) (t : TT) (k : Int) : tAt (setK s t).m k = if k = t.1 then t else tAt s.m k := by rw [setK_m, tAt_mset]
end
end Go.E
namespace Go.E
open Go
def cfgK (pr : Bool) : Nat → Int := updI (updI (updI (updI (updI (updI (updI (fun _ => 0) 0 2) 1 (bI pr)) 2 5) 3 3) 4 40) 5 6) 6 1000
theorem cfgK_0 (pr : Bool) : cfgK pr 0 = 2 ∧ cfgK pr 3 = 3 ∧ nz (cfgK pr 1) = pr := ⟨rfl, rfl, nz_bI pr⟩
def runK (pr : Bool) (N : Int) (acts : LM) : Nat → KS
  | 0 => startK N
  | k + 1 => nextK (cfgK pr) N (runK pr N acts k) (acts[k]!)
theorem runK_KI (pr : Bool) {N : Int} (hN : 1 ≤ N ∧ N ≤ 8) (acts : LM) (k : Nat) (hk : k ≤ 9000) : KI N (10 * k) (runK pr N acts k) := by
  induction k with
  | zero => exact KI.start hN
  | succ k ih => exact (nextK_KI (ih (by omega)) (by omega) _ _).mono (by omega)
theorem seen_len {m : TM} {la : Int} : ((List.range la.toNat).map fun k : Nat => tAt m ((k : Int) + 1)).length = la.toNat := by simp
abbrev VW := Int × Int × List TT × LM
section
variable {n : Nat} {s : KS}
end
end Go.E
namespace Go.E
open Go
theorem insI_again {x : Int} : ∀ {l : List Int}, (l.Pairwise fun a b => a < b) → insI x (insI x l) = insI x l := by
  intro l
  induction l with
  | nil => intro _; simp [insI]
  | cons y l ih =>
    intro h
    rw [List.pairwise_cons] at h
    by_cases h1 : y < x
    · have e : insI x (y :: l) = y :: insI x l := by rw [insI, if_pos h1]
      rw [e, insI, if_pos h1, ih h.2]
    · by_cases h2 : y = x
      · have e : insI x (y :: l) = y :: l := by rw [insI, if_neg h1, if_pos h2]
        rw [e, e]
      · have e : insI x (y :: l) = x :: y :: l := by rw [insI, if_neg h1, if_neg h2]
        rw [e, insI, if_neg (by omega), if_pos rfl]
theorem ans_two (t : TT) (m : Nat → Int) (h : (ansT t m).2 = 0) : (ansT (ansT t m).1 m).2 ≠ 0 := by
  obtain ⟨tx, st, re, sq, op, sh, at_, mo, to_, vo, ac, go⟩ := t
  unfold ansT at h ⊢
  dsimp only at h ⊢
  unfold ansC at h ⊢
  by_cases hf : Form tx 2 m ∨ Form tx 3 m
  · rw [if_pos hf] at h ⊢
    by_cases hs : st = 1
    · rw [if_pos hs] at h ⊢
      by_cases hc : op = true ∧ m 4 = sq ∧ m 1 = sh ∧ (m 0 = 2 → eqN 2 (fun i => m (5 + i)) at_ = true)
      · rw [if_pos hc]
        dsimp only
        rw [if_pos hf, if_pos hs, if_neg (fun e => Bool.false_ne_true e.1)]
        simp
      · rw [if_neg hc] at h; exact absurd h (by simp)
    · rw [if_neg hs] at h; exact absurd h (by simp)
  · rw [if_neg hf] at h; exact absurd h (by simp)
theorem vote_two {n : Nat} {t : TT} (h : TIT n t) (m : Nat → Int) : (voteT (voteT t m).1 m).1 = (voteT t m).1 := by
  obtain ⟨tx, st, re, sq, op, sh, at_, mo, to_, vo, ac, go⟩ := t
  have hv : Rise vo := h.vo1
  unfold voteT
  dsimp only
  unfold voteC
  by_cases hf : Form tx 5 m
  · rw [if_pos hf]
    by_cases hs : st = 2
    · rw [if_pos hs]
      by_cases hm : m 1 ∈ to_
      · rw [if_pos hm]
        by_cases h8 : m 8 = 0
        · rw [if_pos h8]
          dsimp only
          rw [if_pos hf, if_neg (by decide)]
        · rw [if_neg h8]
          by_cases hl : (insI (m 1) vo).length < to_.length
          · rw [if_pos hl]
            dsimp only
            rw [if_pos hf, if_pos hs, if_pos hm, if_neg h8, insI_again hv, if_pos hl]
          · rw [if_neg hl]
            dsimp only
            rw [if_pos hf, if_neg (by decide)]
      · rw [if_neg hm]
        dsimp only
        rw [if_pos hf, if_pos hs, if_neg hm]
    · rw [if_neg hs]
      dsimp only
      rw [if_pos hf, if_neg hs]
  · rw [if_neg hf]
    dsimp only
    rw [if_neg hf]
theorem ack_two {n : Nat} {t : TT} (h : TIT n t) (m : Nat → Int) : (ackT (ackT t m).1 m).1 = (ackT t m).1 := by
  obtain ⟨tx, st, re, sq, op, sh, at_, mo, to_, vo, ac, go⟩ := t
  have hv : Rise ac := h.ac1
  unfold ackT
  dsimp only
  unfold ackC
  by_cases hf : Form tx 7 m
  · rw [if_pos hf]
    by_cases hs : st = 3 ∨ st = 4
    · rw [if_pos hs]
      by_cases hm : m 1 ∈ to_
      · rw [if_pos hm]
        dsimp only
        rw [if_pos hf, if_pos hs, if_pos hm, insI_again hv]
      · rw [if_neg hm]
        dsimp only
        rw [if_pos hf, if_pos hs, if_neg hm]
    · rw [if_neg hs]
      dsimp only
      rw [if_pos hf, if_neg hs]
  · rw [if_neg hf]
    dsimp only
    rw [if_neg hf]
theorem setK_two (s : KS) (t : TT) : setK (setK s t) t = setK s t := by
  have h1 : (tAt (setK s t).m t.1).2.1 = t.2.1 := by rw [tAt_setK, if_pos rfl]
  have h2 : mset ieq (setK s t).m t.1 t = (setK s t).m := by rw [setK_m, mset_mset (by simp [ieq])]
  generalize setK s t = u at h1 h2
  unfold setK
  rw [if_pos h1, h2]
theorem ansK_ne {s : KS} {m : Nat → Int} (h : ¬ (ansT (tAt s.m (m 3)) m).2 = 0) : ansK s m = ([], s) := by unfold ansK; rw [if_neg h]
theorem voteK_ne {s : KS} {m : Nat → Int} (h : ¬ (voteT (tAt s.m (m 3)) m).2.2 = 0) : voteK s m = ([], s) := by unfold voteK; rw [if_neg h]
theorem voteK_eq {s : KS} {m : Nat → Int} (h : (voteT (tAt s.m (m 3)) m).2.2 = 0) : (voteK s m).2 = setK s (voteT (tAt s.m (m 3)) m).1 := by unfold voteK; rw [if_pos h]
theorem ackK_ne {s : KS} {m : Nat → Int} (h : ¬ (ackT (tAt s.m (m 3)) m).2 = 0) : ackK s m = ([], s) := by unfold ackK; rw [if_neg h]
theorem ackK_eq {s : KS} {m : Nat → Int} (h : (ackT (tAt s.m (m 3)) m).2 = 0) : (ackK s m).2 = setK s (ackT (tAt s.m (m 3)) m).1 := by unfold ackK; rw [if_pos h]
section
variable {N : Int} {n : Nat} {s : KS}
theorem abortK_two (h : KI N n s) (tx re : Int) {l : List Int} (hl : ∀ x ∈ l, 1 ≤ x ∧ x ≤ 2) : (abortK (abortK s tx re l).2.2 tx re l).2.2 = (abortK s tx re l).2.2 := by
  by_cases hm : (tAt s.m tx).2.1 ∈ l
  · have e : (abortK s tx re l).2.2 = (doneK s (abortT (tAt s.m tx) re)).2.2 := by unfold abortK; rw [if_pos hm]
    by_cases hz : (abortT (tAt s.m tx) re).2.2 = 0
    · have e2 : (abortK s tx re l).2.2 = setK s (abortT (tAt s.m tx) re).1 := by rw [e]; unfold doneK; rw [if_pos hz]
      have hk : 1 ≤ tx ∧ tx ≤ s.la := by
        by_cases hk : 1 ≤ tx ∧ tx ≤ s.la
        · exact hk
        · rw [h.at0 hk] at hm
          exact absurd (hl _ hm).1 (by decide)
      have hx : (abortT (tAt s.m tx) re).1.1 = tx := by rw [abort_tx]; exact (h.hT _ hk.1 hk.2).2
      have h4 : (abortT (tAt s.m tx) re).1.2.1 = 4 := by
        unfold abortT abortC at hz ⊢
        split at hz
        · split at hz
          · exact absurd hz (by simp)
          · rename_i h1 h2; rw [if_pos h1, if_neg h2]
        · exact absurd hz (by simp)
      rw [e2]
      unfold abortK
      rw [if_neg]
      rw [tAt_setK, hx, if_pos rfl, h4]
      intro hh
      exact absurd (hl _ hh).2 (by decide)
    · have e2 : (abortK s tx re l).2.2 = s := by rw [e]; unfold doneK; rw [if_neg hz]
      rw [e2, e2]
  · have e2 : (abortK s tx re l).2.2 = s := by unfold abortK; rw [if_neg hm]
    rw [e2, e2]
theorem probedK_two (h : KI N n s) (pr : Bool) (m : Nat → Int) : (probedK pr (probedK pr s m).2 m).2 = (probedK pr s m).2 := by
  by_cases h1 : pr = true
  · by_cases h2 : live_F m (openL s.m) = true
    · by_cases h3 : back_F m = true
      · have e : ∀ s, live_F m (openL s.m) = true → (probedK pr s m).2 = (abortK s (victim_F m).1 4 [1]).2.2 := fun s h2 => by unfold probedK; rw [if_pos h1, if_pos h2, if_pos h3]
        rw [e s h2]
        by_cases h4 : live_F m (openL (abortK s (victim_F m).1 4 [1]).2.2.m) = true
        · rw [e _ h4]; exact abortK_two h _ _ (by simp)
        · unfold probedK; rw [if_pos h1, if_neg h4]
      · have e : (probedK pr s m).2 = s := by
          unfold probedK
          rw [if_pos h1, if_pos h2, if_neg h3]
          split
          · rfl
          · split <;> rfl
        rw [e, e]
    · have e : (probedK pr s m).2 = s := by unfold probedK; rw [if_pos h1, if_neg h2]
      rw [e, e]
  · have e : (probedK pr s m).2 = s := by unfold probedK; rw [if_neg h1]
    rw [e, e]
theorem woundK_two (h : KI N n s) (pr : Bool) (m : Nat → Int) : (woundK pr (woundK pr s m).2 m).2 = (woundK pr s m).2 := by
  by_cases h1 : (pr || ((!(decide ((tAt s.m (m 9)).2.1 = 1))) && (!(decide ((tAt s.m (m 9)).2.1 = 2))))) = true
  · have e : (woundK pr s m).2 = s := by unfold woundK; rw [if_pos h1]
    rw [e, e]
  · have e : (woundK pr s m).2 = (abortK s (m 3) 3 [1]).2.2 := by unfold woundK; rw [if_neg h1]
    rw [e]
    unfold woundK
    split
    · rfl
    · exact abortK_two h _ _ (by simp)
theorem ansK_two (h : KI N n s) (m : Nat → Int) (hk : 1 ≤ m 3 ∧ m 3 ≤ s.la) : (ansK (ansK s m).2 m).2 = (ansK s m).2 := by
  by_cases hz : (ansT (tAt s.m (m 3)) m).2 = 0
  · have hx : (ansT (tAt s.m (m 3)) m).1.1 = m 3 := by rw [ans_tx]; exact (h.hT _ hk.1 hk.2).2
    have e : (ansK s m).2 = putE (setK s (ansT (tAt s.m (m 3)) m).1) (evG (tAt s.m (m 3)) m (ansT (tAt s.m (m 3)) m).1.1) := by unfold ansK; rw [if_pos hz]
    have ea : tAt (ansK s m).2.m (m 3) = (ansT (tAt s.m (m 3)) m).1 := by
      rw [e]
      show tAt (setK s _).m (m 3) = _
      rw [tAt_setK, hx, if_pos rfl]
    have h2 : ¬ (ansT (tAt (ansK s m).2.m (m 3)) m).2 = 0 := by rw [ea]; exact ans_two _ _ hz
    rw [ansK_ne h2]
  · have e : (ansK s m).2 = s := by unfold ansK; rw [if_neg hz]
    rw [e, e]
theorem voteK_two (h : KI N n s) (m : Nat → Int) (hk : 1 ≤ m 3 ∧ m 3 ≤ s.la) : (voteK (voteK s m).2 m).2 = (voteK s m).2 := by
  by_cases hz : (voteT (tAt s.m (m 3)) m).2.2 = 0
  · have hx : (voteT (tAt s.m (m 3)) m).1.1 = m 3 := by rw [vote_tx]; exact (h.hT _ hk.1 hk.2).2
    have e : (voteK s m).2 = setK s (voteT (tAt s.m (m 3)) m).1 := by unfold voteK; rw [if_pos hz]
    have ea : tAt (voteK s m).2.m (m 3) = (voteT (tAt s.m (m 3)) m).1 := by rw [e, tAt_setK, hx, if_pos rfl]
    by_cases hz2 : (voteT (tAt (voteK s m).2.m (m 3)) m).2.2 = 0
    · rw [voteK_eq hz2, ea, vote_two (h.hT _ hk.1 hk.2).1, e, setK_two]
    · rw [voteK_ne hz2]
  · have e : (voteK s m).2 = s := by unfold voteK; rw [if_neg hz]
    rw [e, e]
theorem ackK_two (h : KI N n s) (m : Nat → Int) (hk : 1 ≤ m 3 ∧ m 3 ≤ s.la) : (ackK (ackK s m).2 m).2 = (ackK s m).2 := by
  by_cases hz : (ackT (tAt s.m (m 3)) m).2 = 0
  · have hx : (ackT (tAt s.m (m 3)) m).1.1 = m 3 := by rw [ack_tx]; exact (h.hT _ hk.1 hk.2).2
    have e : (ackK s m).2 = setK s (ackT (tAt s.m (m 3)) m).1 := by unfold ackK; rw [if_pos hz]
    have ea : tAt (ackK s m).2.m (m 3) = (ackT (tAt s.m (m 3)) m).1 := by rw [e, tAt_setK, hx, if_pos rfl]
    by_cases hz2 : (ackT (tAt (ackK s m).2.m (m 3)) m).2 = 0
    · rw [ackK_eq hz2, ea, ack_two (h.hT _ hk.1 hk.2).1, e, setK_two]
    · rw [ackK_ne hz2]
  · have e : (ackK s m).2 = s := by unfold ackK; rw [if_neg hz]
    rw [e, e]
theorem comesK_two (h : KI N n s) (pr : Bool) (m : Nat → Int) : (comesK pr (comesK pr s m).2 m).2 = (comesK pr s m).2 := by
  by_cases k11 : m 0 = 11
  · have e : ∀ s, comesK pr s m = probedK pr s m := fun s => by unfold comesK; rw [if_pos k11]
    rw [e, e]; exact probedK_two h pr m
  · by_cases hm : mhas ieq s.m (m 3) = true
    · have hk := (h.hk _).1 hm
      -- one of the six
      have go : ∀ (f : KS → LM × KS), (∀ s, mhas ieq s.m (m 3) = true → comesK pr s m = f s) → (f (f s).2).2 = (f s).2 → (comesK pr (comesK pr s m).2 m).2 = (comesK pr s m).2 := by
        intro f hf h2
        rw [hf s hm]
        by_cases hm2 : mhas ieq (f s).2.m (m 3) = true
        · rw [hf _ hm2]; exact h2
        · unfold comesK; rw [if_neg k11, if_neg hm2]
      by_cases k2 : m 0 = 2
      · exact go (fun s => ansK s m) (fun s hm => by unfold comesK; rw [if_neg k11, if_pos hm, if_pos k2]) (ansK_two h m hk)
      · by_cases k3 : m 0 = 3
        · exact go (fun s => ansK s m) (fun s hm => by unfold comesK; rw [if_neg k11, if_pos hm, if_neg k2, if_pos k3]) (ansK_two h m hk)
        · by_cases k5 : m 0 = 5
          · exact go (fun s => voteK s m) (fun s hm => by unfold comesK; rw [if_neg k11, if_pos hm, if_neg k2, if_neg k3, if_pos k5]) (voteK_two h m hk)
          · by_cases k7 : m 0 = 7
            · exact go (fun s => ackK s m) (fun s hm => by unfold comesK; rw [if_neg k11, if_pos hm, if_neg k2, if_neg k3, if_neg k5, if_pos k7]) (ackK_two h m hk)
            · by_cases k9 : m 0 = 9
              · exact go (fun s => ((abortK s (m 3) 5 [1, 2]).1, (abortK s (m 3) 5 [1, 2]).2.2)) (fun s hm => by unfold comesK; rw [if_neg k11, if_pos hm, if_neg k2, if_neg k3, if_neg k5, if_neg k7, if_pos k9]) (abortK_two h _ _ (by simp))
              · by_cases k10 : m 0 = 10
                · exact go (fun s => woundK pr s m) (fun s hm => by unfold comesK; rw [if_neg k11, if_pos hm, if_neg k2, if_neg k3, if_neg k5, if_neg k7, if_neg k9, if_pos k10]) (woundK_two h pr m)
                · exact go (fun s => ([], s)) (fun s hm => by unfold comesK; rw [if_neg k11, if_pos hm, if_neg k2, if_neg k3, if_neg k5, if_neg k7, if_neg k9, if_neg k10]) rfl
    · have e : (comesK pr s m).2 = s := by unfold comesK; rw [if_neg k11, if_neg hm]
      rw [e, e]
theorem handleK_two (h : KI N n s) (sh : Int) (pr : Bool) (m : Nat → Int) : (handleK sh pr (handleK sh pr s m).2.2 m).2.2 = (handleK sh pr s m).2.2 := by
  by_cases h1 : okB m = true
  · by_cases h2 : ((!(decide (m 2 = 0))) || (decide (sh < m 1))) = true
    · have e : (handleK sh pr s m).2.2 = s := by unfold handleK; rw [if_pos h1, if_pos h2]
      rw [e, e]
    · have e : ∀ s, (handleK sh pr s m).2.2 = (comesK pr s m).2 := fun s => by unfold handleK; rw [if_pos h1, if_neg h2]
      rw [e, e]; exact comesK_two h pr m
  · have e : (handleK sh pr s m).2.2 = s := by unfold handleK; rw [if_neg h1]
    rw [e, e]
theorem nextK_two (h : KI N n s) (c : Nat → Int) (a : Nat → Int) (h5 : a 0 = 5) : nextK c N (nextK c N s a) a = nextK c N s a := by
  have e : ∀ s, nextK c N s a = (handleK (c 0) (nz (c 1)) s (fun i => a (5 + i))).2.2 := fun s => by
    unfold nextK
    rw [if_neg (by omega), if_neg (by omega), if_neg (by omega), if_neg (by omega), if_neg (by omega), if_pos h5]
  rw [e, e]; exact handleK_two h _ _ _
theorem twice_l2 (v : VW) (hv : v.2.2.1.length ≤ 1000000) (k : Nat) (hk : k < v.2.2.1.length) : twice18_l2 v v (k : Int) (.inl ((k + 1 : Nat) : Int)) := by
  have e : ((k + 1 : Nat) : Int) = (k : Int) + 1 := by omega
  have hr : 0 ≤ (k : Int) ∧ (k : Int) < v.2.2.1.length := ⟨by omega, by omega⟩
  unfold twice18_l2
  rw [if_pos (by omega), e]
  refine ⟨hr, hr, fun _ => hr, fun _ => hr, fun _ => hr, fun _ => hr, fun _ => hr, fun _ => hr, fun _ => hr, fun _ => hr, ?_⟩
  rw [if_neg (by simp)]
  exact ⟨by unfold inI64; omega, rfl⟩
theorem twice_l1 (h : KI 4 n s) (hn : n ≤ 80000) (pr : Bool) (acts : LM) (i : Nat) (hi : i < acts.length) (hL : acts.length ≤ 100) {s' : KS} (hs' : nextK (cfgK pr) 4 s (acts[i]!) = s') :
    twice18_l1 pr acts (i : Int) s.ti s.la s.tr s.cl s.ti s.la s.tr s.cl s.m s.m (.inl (((i + 1 : Nat) : Int), s'.ti, s'.la, s'.tr, s'.cl, s'.ti, s'.la, s'.tr, s'.cl, s'.m, s'.m)) := by
  have e : ((i + 1 : Nat) : Int) = (i : Int) + 1 := by omega
  have hcf : (updI (updI (updI (updI (updI (updI (updI (fun _ => 0) 0 2) 1 (bI pr)) 2 5) 3 3) 4 40) 5 6) 6 1000 : Nat → Int) = cfgK pr := rfl
  have hc0 : 1 ≤ cfgK pr 0 ∧ cfgK pr 0 ≤ 64 := by rw [(cfgK_0 pr).1]; omega
  have hc3 : cfgK pr 3 ≠ 0 := by rw [(cfgK_0 pr).2.1]; omega
  obtain ⟨p, -, q⟩ := act18_is h (by omega) (cfgK pr) hc0 hc3 (acts[i]!)
  have hn' := nextK_KI h (by omega) (cfgK pr) (acts[i]!)
  have hk := nextK_two h (cfgK pr) (acts[i]!)
  rw [hs'] at q hn' hk
  obtain ⟨p2, -, q2⟩ := act18_is hn' (by omega) (cfgK pr) hc0 hc3 (acts[i]!)
  have hvn := hn'.viewP (by omega) (cfgK pr)
  have hl' := hn'.hl
  have hv := hn'.view (cfgK pr)
  have hvt : (kview_F (cfgK pr) s'.cl s'.ti s'.la s'.m s'.tr).2.2.2 = s'.tr := rfl
  have hir : 0 ≤ (i : Int) ∧ (i : Int) < acts.length := ⟨by omega, by omega⟩
  unfold twice18_l1
  rw [if_pos (by omega), hcf, Int.toNat_natCast]
  refine ⟨hir, p, _, rfl, hir, p, _, rfl, hir, ?_⟩
  generalize act18_F (cfgK pr) s.cl s.ti s.la s.m s.tr (acts[i]!) = r at q ⊢
  obtain ⟨l, x1, x2, ti', la', m', tr', cl'⟩ := r
  dsimp only at q ⊢
  simp only [Prod.mk.injEq] at q
  obtain ⟨rfl, rfl, rfl, rfl, rfl⟩ := q
  have key : acts[i]! 0 = 5 → (act18_F (cfgK pr) s'.cl s'.ti s'.la s'.m s'.tr (acts[i]!)).2.2.2 = (s'.ti, s'.la, s'.m, s'.tr, s'.cl) := fun h5 => by rw [q2, hk h5]
  refine ⟨s'.ti, ?_, s'.la, ?_, s'.m, ?_, s'.tr, ?_, s'.cl, ?_, ?_, hvn, _, rfl, hvn, _, rfl, ?_, ?_⟩
  · by_cases h5 : acts[i]! 0 = 5
    · rw [if_pos h5, key h5]
    · rw [if_neg h5]
  · by_cases h5 : acts[i]! 0 = 5
    · rw [if_pos h5, key h5]
    · rw [if_neg h5]
  · by_cases h5 : acts[i]! 0 = 5
    · rw [if_pos h5, key h5]
    · rw [if_neg h5]
  · by_cases h5 : acts[i]! 0 = 5
    · rw [if_pos h5, key h5]
    · rw [if_neg h5]
  · by_cases h5 : acts[i]! 0 = 5
    · rw [if_pos h5, key h5]
    · rw [if_neg h5]
  · split
    · exact ⟨hir, p2, _, rfl, trivial⟩
    · trivial
  · intro _
    unfold events_P
    rw [hvt]
    have := hn'.hr
    omega
  · generalize kview_F (cfgK pr) s'.cl s'.ti s'.la s'.m s'.tr = v at hv
    have hlen : v.2.2.1.length ≤ 1000000 := by rw [hv, seen_len]; omega
    rw [if_neg (by simp [events_self])]
    refine ⟨.inl (), ?_, ?_⟩
    · refine Wh.fold v.2.2.1.length (fun k : Nat => (k : Int)) (.inl ()) (fun k hk => twice_l2 v hlen k hk) ?_
      show twice18_l2 v v (v.2.2.1.length : Int) _
      unfold twice18_l2
      rw [if_neg (by omega)]
    · unfold twice18_k2a
      rw [e]
      exact ⟨by unfold inI64; omega, rfl⟩
end
theorem twice18_all (pr : Bool) (acts : LM) : twice18_S pr acts true := by
  unfold twice18_S
  rw [if_pos (show alive18_F = true from rfl)]
  by_cases hL : 60 < (acts.length : Int)
  · rw [if_pos hL]
  · rw [if_neg hL, if_pos (by decide), if_pos (by decide), if_pos (by decide), if_pos (by decide), if_pos (by decide), if_pos (by decide)]
    refine ⟨.inl ((runK pr 4 acts acts.length).ti, (runK pr 4 acts acts.length).la, (runK pr 4 acts acts.length).m, (runK pr 4 acts acts.length).tr, (runK pr 4 acts acts.length).cl, (runK pr 4 acts acts.length).ti, (runK pr 4 acts acts.length).la, (runK pr 4 acts acts.length).m, (runK pr 4 acts acts.length).tr, (runK pr 4 acts acts.length).cl), ?_, rfl⟩
    refine Wh.fold acts.length (fun i => ((i : Int), (runK pr 4 acts i).ti, (runK pr 4 acts i).la, (runK pr 4 acts i).tr, (runK pr 4 acts i).cl, (runK pr 4 acts i).ti, (runK pr 4 acts i).la, (runK pr 4 acts i).tr, (runK pr 4 acts i).cl, (runK pr 4 acts i).m, (runK pr 4 acts i).m)) _ (fun i hi => ?_) ?_
    · exact twice_l1 (runK_KI pr (by omega) acts i (by omega)) (by omega) pr acts i hi (by omega) rfl
    · dsimp only
      unfold twice18_l1
      rw [if_neg (by omega)]
end Go.E
