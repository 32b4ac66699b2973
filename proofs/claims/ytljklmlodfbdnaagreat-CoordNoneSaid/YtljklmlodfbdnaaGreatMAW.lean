/- The code answers as the relations say. -/
import Derived.Test.YtljklmlodfbdnaaGreatTab
import Derived.Test.YtljklmlodfbdnaaGreatE25
import Derived.Test.YtljklmlodfbdnaaGreatMAS
set_option maxHeartbeats 1000000
set_option linter.unusedVariables false
set_option linter.unusedSimpArgs false
set_option maxRecDepth 100000
namespace Go.Proofs.YtljklmlodfbdnaaGreat
open Go Go.E

theorem resOk_con (r0 : (Nat → Int)) (w : World) (r : Bool) (h : resOk_S r0 r) : Con Tryz.prog 93 #[AI 2 r0] w (Is (.bool r) []) := by
 unfold resOk_S at h; refine con_enter (n := 21) [(0,_)] Tryz.func93 rfl Tryz.ntmps93 rfl (lac rfl lan) ?_; refine xw_seq (xw_region ?_); refine xo rfl trivial (o_boxA rfl) ?_; rintro _ _ ⟨b1,hb1,rfl,rfl⟩; refine xq rfl trivial (o_as rfl) ?_; refine xo_nil (xq_then (xw_seq ?_)); refine xw_cut [] ln [(2,.bool ((((decide (1≤r0 0)) && (decide (r0 0≤250))) && (decide (0≤r0 1))) && (decide (r0 1≤250))))] ?_ ?_
 ·refine xw_region ?_; refine xq rfl trivial (o_fa0 fl39_0 rfl) ?_; refine xq rfl trivial (o_ldI (v := r0 0) rfl ts3 mH (by omega) rfl) ?_; refine xq rfl trivial (o_geq rfl rfl) ?_; refine xq rfl trivial (o_mv rfl) ?_; refine xo_bool 6 rfl (fun hg1=>?_) (fun hg1=>?_)
  ·have hq1 : (decide (1≤r0 0))=true := hg1
   have hp1 : 1≤r0 0 := of_decide_eq_true hq1
   refine xq rfl ⟨_,rfl,rfl⟩ (o_fa0 fl39_0 rfl) ?_; refine xq rfl ⟨_,rfl,rfl⟩ (o_ldI (v := r0 0) rfl ts3 mH (by omega) rfl) ?_; refine xq rfl ⟨_,rfl,rfl⟩ (o_leq rfl rfl) ?_; refine xq rfl trivial (o_pick_t rfl rfl) ?_; refine xq rfl trivial (o_mv rfl) ?_; refine xo_bool 11 rfl (fun hg2=>?_) (fun hg2=>?_)
   ·have hq2 : (decide (r0 0≤250))=true := hg2
    have hp2 : r0 0≤250 := of_decide_eq_true hq2
    refine xq rfl ⟨_,rfl,rfl⟩ (o_fa0 fl39_1 rfl) ?_; refine xq rfl ⟨_,rfl,rfl⟩ (o_ldI (v := r0 1) rfl ts3 mH (by omega) rfl) ?_; refine xq rfl ⟨_,rfl,rfl⟩ (o_geq rfl rfl) ?_; refine xq rfl trivial (o_pick_t rfl rfl) ?_; refine xq rfl trivial (o_mv rfl) ?_; refine xo_bool 16 rfl (fun hg3=>?_) (fun hg3=>?_)
    ·have hq3 : (decide (0≤r0 1))=true := hg3
     have hp3 : 0≤r0 1 := of_decide_eq_true hq3
     refine xq rfl ⟨_,rfl,rfl⟩ (o_fa0 fl39_1 rfl) ?_; refine xq rfl ⟨_,rfl,rfl⟩ (o_ldI (v := r0 1) rfl ts3 mH (by omega) rfl) ?_; refine xq rfl ⟨_,rfl,rfl⟩ (o_leq rfl rfl) ?_; refine xq rfl trivial (o_pick_t rfl rfl) ?_; refine xq rfl trivial (o_as rfl) ?_; refine xo_nil ?_; exact xq_cut ((lce rfl (by first | rfl | (simp only [hq1,hq2,hq3,if_pos hp1,if_pos hp2,if_pos hp3,bS,reduceIte,Bool.false_eq_true]; done) | (simp [hp1,hp2,hp3]; done) | (simp_all; done)) ln)) (fun _ h=>h)
    ·have hq3 : (decide (0≤r0 1))=false := hg3
     have hp3 : ¬ (0≤r0 1) := of_decide_eq_false hq3
     refine xs rfl ⟨_,_,rfl,rfl,rfl⟩ (xs rfl ⟨_,_,rfl,rfl,rfl⟩ (xs rfl ⟨_,_,rfl,rfl,rfl⟩ ?_)); refine xq rfl trivial (o_pick_f rfl rfl) ?_; refine xq rfl trivial (o_as rfl) ?_; refine xo_nil ?_; exact xq_cut ((lce rfl (by first | rfl | (simp only [hq1,hq2,hq3,if_pos hp1,if_pos hp2,if_neg hp3,bS,reduceIte,Bool.false_eq_true]; done) | (simp [hp1,hp2,hp3]; done) | (simp_all; done)) ln)) (fun _ h=>h)
   ·have hq2 : (decide (r0 0≤250))=false := hg2
    have hp2 : ¬ (r0 0≤250) := of_decide_eq_false hq2
    refine xs rfl ⟨_,_,rfl,rfl,rfl⟩ (xs rfl ⟨_,_,rfl,rfl,rfl⟩ (xs rfl ⟨_,_,rfl,rfl,rfl⟩ ?_)); refine xq rfl trivial (o_pick_f rfl rfl) ?_; refine xq rfl trivial (o_mv rfl) ?_; refine xs rfl ⟨_,_,rfl,rfl,rfl⟩ (xs rfl ⟨_,_,rfl,rfl,rfl⟩ (xs rfl ⟨_,_,rfl,rfl,rfl⟩ ?_)); refine xq rfl trivial (o_pick_f rfl rfl) ?_; refine xq rfl trivial (o_as rfl) ?_; refine xo_nil ?_; exact xq_cut ((lce rfl (by first | rfl | (simp only [hq1,hq2,if_pos hp1,if_neg hp2,bS,reduceIte,Bool.false_eq_true]; done) | (simp [hp1,hp2]; done) | (simp_all; done)) ln)) (fun _ h=>h)
  ·have hq1 : (decide (1≤r0 0))=false := hg1
   have hp1 : ¬ (1≤r0 0) := of_decide_eq_false hq1
   refine xs rfl ⟨_,_,rfl,rfl,rfl⟩ (xs rfl ⟨_,_,rfl,rfl,rfl⟩ (xs rfl ⟨_,_,rfl,rfl,rfl⟩ ?_)); refine xq rfl trivial (o_pick_f rfl rfl) ?_; refine xq rfl trivial (o_mv rfl) ?_; refine xs rfl ⟨_,_,rfl,rfl,rfl⟩ (xs rfl ⟨_,_,rfl,rfl,rfl⟩ (xs rfl ⟨_,_,rfl,rfl,rfl⟩ ?_)); refine xq rfl trivial (o_pick_f rfl rfl) ?_; refine xq rfl trivial (o_mv rfl) ?_; refine xs rfl ⟨_,_,rfl,rfl,rfl⟩ (xs rfl ⟨_,_,rfl,rfl,rfl⟩ (xs rfl ⟨_,_,rfl,rfl,rfl⟩ ?_)); refine xq rfl trivial (o_pick_f rfl rfl) ?_; refine xq rfl trivial (o_as rfl) ?_; refine xo_nil ?_; exact xq_cut ((lce rfl (by first | rfl | (simp only [hq1,if_neg hp1,bS,reduceIte,Bool.false_eq_true]; done) | (simp [hp1]; done) | (simp_all; done)) ln)) (fun _ h=>h)
 ·refine xq_then (xw_ret ?_); subst h
  exact con_ret1 (.inl rfl) Tryz.results93 rfl [] (Kp.st (Kp.new hb1 Kp.nil)) (⟨rfl,rfl⟩)

theorem resOk_c (r0 : (Nat → Int)) (w : World) : Con Tryz.prog 93 #[AI 2 r0] w (Is (.bool (resOk_F r0)) []) :=
 resOk_con r0 w _ (resOk_ok r0)

end Go.Proofs.YtljklmlodfbdnaaGreat
