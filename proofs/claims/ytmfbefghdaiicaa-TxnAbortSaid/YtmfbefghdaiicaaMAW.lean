/- The code answers as the relations say. -/
import Derived.Test.YtmfbefghdaiicaaTab
import Derived.Test.YtmfbefghdaiicaaE25
import Derived.Test.YtmfbefghdaiicaaMAS
set_option maxHeartbeats 1000000
set_option linter.unusedVariables false
set_option linter.unusedSimpArgs false
set_option maxRecDepth 100000
namespace Go.Proofs.Ytmfbefghdaiicaa
open Go Go.E

theorem inn_con (n0 : Int) (low1 : Int) (high2 : Int) (w : World) (r : Bool) (h : inn_S n0 low1 high2 r) : Con Try.prog 79 #[.int .i64 n0,.int .i64 low1,.int .i64 high2] w (Is (.bool r) []) := by
 unfold inn_S at h; refine con_enter (n := 15) [(0,_),(1,_),(2,_)] Try.func79 rfl Try.ntmps79 rfl (lac rfl (lac rfl (lac rfl lan))) ?_; refine xw_seq (xw_region ?_); refine xq rfl trivial (o_as rfl) ?_; refine xo_nil (xq_then (xw_seq ?_)); refine xw_cut [] ln [(6,.bool ((decide (low1≤n0)) && (decide (n0≤high2))))] ?_ ?_
 ·refine xw_region ?_; refine xq rfl trivial (o_mv rfl) ?_; refine xq rfl trivial (o_mv rfl) ?_; refine xq rfl trivial (o_geq rfl rfl) ?_; refine xq rfl trivial (o_mv rfl) ?_; refine xo_bool 10 rfl (fun hg1=>?_) (fun hg1=>?_)
  ·have hq1 : (decide (low1≤n0))=true := hg1
   have hp1 : low1≤n0 := of_decide_eq_true hq1
   refine xq rfl ⟨_,rfl,rfl⟩ (o_mv rfl) ?_; refine xq rfl ⟨_,rfl,rfl⟩ (o_mv rfl) ?_; refine xq rfl ⟨_,rfl,rfl⟩ (o_leq rfl rfl) ?_; refine xq rfl trivial (o_pick_t rfl rfl) ?_; refine xq rfl trivial (o_as rfl) ?_; refine xo_nil ?_; exact xq_cut ((lce rfl (by first | rfl | (simp only [hq1,if_pos hp1,bS,reduceIte,Bool.false_eq_true]; done) | (simp [hp1]; done) | (simp_all; done)) ln)) (fun _ h=>h)
  ·have hq1 : (decide (low1≤n0))=false := hg1
   have hp1 : ¬ (low1≤n0) := of_decide_eq_false hq1
   refine xs rfl ⟨_,_,rfl,rfl,rfl⟩ (xs rfl ⟨_,_,rfl,rfl,rfl⟩ (xs rfl ⟨_,_,rfl,rfl,rfl⟩ ?_)); refine xq rfl trivial (o_pick_f rfl rfl) ?_; refine xq rfl trivial (o_as rfl) ?_; refine xo_nil ?_; exact xq_cut ((lce rfl (by first | rfl | (simp only [hq1,if_neg hp1,bS,reduceIte,Bool.false_eq_true]; done) | (simp [hp1]; done) | (simp_all; done)) ln)) (fun _ h=>h)
 ·refine xq_then (xw_ret ?_); subst h
  exact con_ret1 (.inl rfl) Try.results79 rfl [] (fun _ h=>h) (⟨rfl,rfl⟩)

theorem inn_c (n0 : Int) (low1 : Int) (high2 : Int) (w : World) : Con Try.prog 79 #[.int .i64 n0,.int .i64 low1,.int .i64 high2] w (Is (.bool (inn_F n0 low1 high2)) []) :=
 inn_con n0 low1 high2 w _ (inn_ok n0 low1 high2)

theorem shard_con (n0 : Int) (w : World) (r : Bool) (h : shard_S n0 r) : Con Try.prog 78 #[.int .i64 n0] w (Is (.bool r) []) := by
 unfold shard_S at h; refine con_enter (n := 5) [(0,_)] Try.func78 rfl Try.ntmps78 rfl (lac rfl lan) ?_; refine xw_seq (xw_region ?_); refine xq rfl trivial (o_as rfl) ?_; refine xo_nil (xq_then (xw_seq (xw_region ?_))); refine xq rfl trivial (o_mv rfl) ?_; refine xcallq rfl trivial kf79 rfl (fun w1 hw1=>inn_c _ _ _ w1) ?_; refine xq rfl trivial (o_as rfl) ?_; refine xo_nil (xq_then (xw_ret ?_)); subst h
 exact con_ret1 (.inl rfl) Try.results78 rfl [] (fun _ h=>h) (⟨rfl,rfl⟩)

theorem shard_c (n0 : Int) (w : World) : Con Try.prog 78 #[.int .i64 n0] w (Is (.bool (shard_F n0)) []) :=
 shard_con n0 w _ (shard_ok n0)

theorem tx_con (n0 : Int) (w : World) (r : Bool) (h : tx_S n0 r) : Con Try.prog 80 #[.int .i64 n0] w (Is (.bool r) []) := by
 unfold tx_S at h; refine con_enter (n := 5) [(0,_)] Try.func80 rfl Try.ntmps80 rfl (lac rfl lan) ?_; refine xw_seq (xw_region ?_); refine xq rfl trivial (o_as rfl) ?_; refine xo_nil (xq_then (xw_seq (xw_region ?_))); refine xq rfl trivial (o_mv rfl) ?_; refine xcallq rfl trivial kf79 rfl (fun w1 hw1=>inn_c _ _ _ w1) ?_; refine xq rfl trivial (o_as rfl) ?_; refine xo_nil (xq_then (xw_ret ?_)); subst h
 exact con_ret1 (.inl rfl) Try.results80 rfl [] (fun _ h=>h) (⟨rfl,rfl⟩)

theorem tx_c (n0 : Int) (w : World) : Con Try.prog 80 #[.int .i64 n0] w (Is (.bool (tx_F n0)) []) :=
 tx_con n0 w _ (tx_ok n0)

theorem ends_con (m0 : (Nat → Int)) (w : World) (r : Bool) (h : ends_S m0 r) : Con Try.prog 74 #[AI 28 m0] w (Is (.bool r) []) := by
 unfold ends_S at h; refine con_enter (n := 39) [(0,_)] Try.func74 rfl Try.ntmps74 rfl (lac rfl lan) ?_; refine xw_seq (xw_region ?_); refine xo rfl trivial (o_boxA rfl) ?_; rintro _ _ ⟨b1,hb1,rfl,rfl⟩; refine xq rfl trivial (o_as rfl) ?_; refine xo_nil (xq_then (xw_seq (xw_seq (xw_region ?_)))); refine xq rfl trivial (o_fa0 fl42_0 rfl) ?_; refine xq rfl trivial (o_ldI (v := m0 0) rfl ts3 mH (by omega) rfl) ?_; refine xo_nil (xq_then ?_); refine xw_block ?_; refine xw_seq ?_; refine xw_block ?_; refine xw_seq ?_; refine xw_block ?_; refine xw_seq (xw_seq (xw_seq (xw_region ?_))); refine xq rfl trivial (o_eql rfl rfl) ?_; refine xq rfl trivial (o_as rfl) ?_; refine xo_nil (xq_then ?_); refine xw_bool 5 rfl (fun hc1=>?_) (fun hc1=>?_)
 ·have hq1 : (decide (m0 0=11))=true := hc1
  have hp1 : m0 0=11 := of_decide_eq_true hq1
  rw [if_pos hp1] at h; refine xw_cond_t rfl rfl (xw_exit (xq_then_exit (xq_then_exit ?_))); refine xq_blk_eq ?_; refine xq_then (xw_seq (xw_region ?_)); refine xq rfl trivial (o_fa0 fl42_1 rfl) ?_; refine xq rfl trivial (o_ldI (v := m0 1) rfl ts3 mH (by omega) rfl) ?_; refine xq rfl trivial (o_neq rfl rfl) ?_; refine xo_nil (xq_then ?_); refine xw_bool 14 rfl (fun hc2=>?_) (fun hc2=>?_)
  ·have hq2 : (decide (m0 1=0))=false := (bnT hc2)
   have hp2 : ¬ (m0 1=0) := of_decide_eq_false hq2
   rw [if_neg hp2] at h; refine xw_cond_t rfl rfl (xw_seq ?_); refine xw_cut [] ln [(2,.bool (((shard_F (m0 1))) && (decide (m0 2=0))))] ?_ ?_
   ·refine xw_region ?_; refine xq rfl trivial (o_fa0 fl42_1 rfl) ?_; refine xq rfl trivial (o_ldI (v := m0 1) rfl ts3 mH (by omega) rfl) ?_; refine xcallq rfl trivial kf78 rfl (fun w1 hw1=>shard_c _ w1) ?_; refine xq rfl trivial (o_mv rfl) ?_; refine xo_bool 18 rfl (fun hg3=>?_) (fun hg3=>?_)
    ·have hq3 : ((shard_F (m0 1)))=true := hg3
     have hp3 : ((shard_F (m0 1)))=true := hq3
     refine xq rfl ⟨_,rfl,rfl⟩ (o_fa0 fl42_2 rfl) ?_; refine xq rfl ⟨_,rfl,rfl⟩ (o_ldI (v := m0 2) rfl ts3 mH (by omega) rfl) ?_; refine xq rfl ⟨_,rfl,rfl⟩ (o_eql rfl rfl) ?_; refine xq rfl trivial (o_pick_t rfl rfl) ?_; refine xq rfl trivial (o_as rfl) ?_; refine xo_nil ?_; exact xq_cut ((lce rfl (by first | rfl | (simp only [hq1,hq2,hq3,if_pos hp1,if_neg hp2,if_pos hp3,bS,reduceIte,Bool.false_eq_true]; done) | (simp [hp1,hp2,hp3]; done) | (simp_all; done)) ln)) (fun _ h=>h)
    ·have hq3 : ((shard_F (m0 1)))=false := hg3
     have hp3 : ¬ (((shard_F (m0 1)))=true) := bne' hq3
     refine xs rfl ⟨_,_,rfl,rfl,rfl⟩ (xs rfl ⟨_,_,rfl,rfl,rfl⟩ (xs rfl ⟨_,_,rfl,rfl,rfl⟩ ?_)); refine xq rfl trivial (o_pick_f rfl rfl) ?_; refine xq rfl trivial (o_as rfl) ?_; refine xo_nil ?_; exact xq_cut ((lce rfl (by first | rfl | (simp only [hq1,hq2,hq3,if_pos hp1,if_neg hp2,if_neg hp3,bS,reduceIte,Bool.false_eq_true]; done) | (simp [hp1,hp2,hp3]; done) | (simp_all; done)) ln)) (fun _ h=>h)
   ·refine xq_then (xw_ret (xq_blk_ret (xq_then_ret (xq_blk_ret (xq_then_ret ?_))))); subst h
    exact con_ret1 (.inl rfl) Try.results74 rfl [] (Kp.st (Kp.new hb1 Kp.nil)) (⟨rfl,rfl⟩)
  ·have hq2 : (decide (m0 1=0))=true := (bnF hc2)
   have hp2 : m0 1=0 := of_decide_eq_true hq2
   rw [if_pos hp2] at h; refine xw_cond_f rfl rfl (xw_skip ?_); refine xq_blk 2 ?_; refine xq_then (xw_seq (xw_seq ?_)); refine xw_cut [] ln [(2,.bool ((decide (m0 1=0)) && ((shard_F (m0 2)))))] ?_ ?_
   ·refine xw_region ?_; refine xq rfl trivial (o_fa0 fl42_1 rfl) ?_; refine xq rfl trivial (o_ldI (v := m0 1) rfl ts3 mH (by omega) rfl) ?_; refine xq rfl trivial (o_eql rfl rfl) ?_; refine xq rfl trivial (o_mv rfl) ?_; refine xo_val 26 rfl (v' := .bool true) (congrArg Value.bool (by simpa using hp2)) ?_; refine xq rfl ⟨_,rfl,rfl⟩ (o_fa0 fl42_2 rfl) ?_; refine xq rfl ⟨_,rfl,rfl⟩ (o_ldI (v := m0 2) rfl ts3 mH (by omega) rfl) ?_; refine xcallq rfl ⟨_,rfl,rfl⟩ kf78 rfl (fun w1 hw1=>shard_c _ w1) ?_; refine xq rfl trivial (o_pick_t rfl rfl) ?_; refine xq rfl trivial (o_as rfl) ?_; refine xo_nil ?_; exact xq_cut ((lce rfl (by first | rfl | (simp only [hq1,hq2,if_pos hp1,if_pos hp2,bS,reduceIte,Bool.false_eq_true]; done) | (simp [hp1,hp2]; done) | (simp_all; done)) ln)) (fun _ h=>h)
   ·refine xq_then (xw_ret (xq_then_ret (xq_blk_ret (xq_then_ret ?_)))); subst h
    exact con_ret1 (.inl rfl) Try.results74 rfl [] (Kp.st (Kp.new hb1 Kp.nil)) (⟨rfl,rfl⟩)
 ·have hq1 : (decide (m0 0=11))=false := hc1
  have hp1 : ¬ (m0 0=11) := of_decide_eq_false hq1
  rw [if_neg hp1] at h; refine xw_cond_f rfl rfl (xw_skip (xq_then (xw_seq (xw_seq (xw_region ?_))))); refine xq rfl trivial (o_eql rfl rfl) ?_; refine xq rfl trivial (o_as rfl) ?_; refine xo_nil (xq_then ?_); refine xw_cut [(1,_)] (lc rfl ln) [(7,.bool ((decide (m0 0=1)) || ((decide (m0 0=4)) || ((decide (m0 0=6)) || (decide (m0 0=8))))))] ?_ ?_
  ·refine xw_bool 7 rfl (fun hc5=>?_) (fun hc5=>?_)
   ·have hq5 : (decide (m0 0=1))=true := hc5
    have hp5 : m0 0=1 := of_decide_eq_true hq5
    refine xw_cond_t rfl rfl (xw_skip ?_); exact xq_cut (lce rfl (by first | rfl | (simp only [hq1,hq5,if_neg hp1,if_pos hp5,bS,reduceIte,Bool.false_eq_true]; done) | (simp [hp1,hp5]; done) | (simp_all; done)) (lc rfl ln)) (fun _ hh=>hh)
   ·have hq5 : (decide (m0 0=1))=false := hc5
    have hp5 : ¬ (m0 0=1) := of_decide_eq_false hq5
    refine xw_cond_f rfl rfl (xw_seq (xw_region ?_)); refine xq rfl trivial (o_eql rfl rfl) ?_; refine xq rfl trivial (o_as rfl) ?_; refine xo_nil (xq_then ?_); refine xw_cut [(1,_)] (lc rfl ln) [(7,.bool ((decide (m0 0=4)) || ((decide (m0 0=6)) || (decide (m0 0=8)))))] ?_ ?_
    ·refine xw_bool 7 rfl (fun hc6=>?_) (fun hc6=>?_)
     ·have hq6 : (decide (m0 0=4))=true := hc6
      have hp6 : m0 0=4 := of_decide_eq_true hq6
      refine xw_cond_t rfl rfl (xw_skip ?_); exact xq_cut (lce rfl (by first | rfl | (simp only [hq1,hq5,hq6,if_neg hp1,if_neg hp5,if_pos hp6,bS,reduceIte,Bool.false_eq_true]; done) | (simp [hp1,hp5,hp6]; done) | (simp_all; done)) (lc rfl ln)) (fun _ hh=>hh)
     ·have hq6 : (decide (m0 0=4))=false := hc6
      have hp6 : ¬ (m0 0=4) := of_decide_eq_false hq6
      refine xw_cond_f rfl rfl (xw_seq (xw_region ?_)); refine xq rfl trivial (o_eql rfl rfl) ?_; refine xq rfl trivial (o_as rfl) ?_; refine xo_nil (xq_then ?_); refine xw_cut [(1,_)] (lc rfl ln) [(7,.bool ((decide (m0 0=6)) || (decide (m0 0=8))))] ?_ ?_
      ·refine xw_bool 7 rfl (fun hc7=>?_) (fun hc7=>?_)
       ·have hq7 : (decide (m0 0=6))=true := hc7
        have hp7 : m0 0=6 := of_decide_eq_true hq7
        refine xw_cond_t rfl rfl (xw_skip ?_); exact xq_cut (lce rfl (by first | rfl | (simp only [hq1,hq5,hq6,hq7,if_neg hp1,if_neg hp5,if_neg hp6,if_pos hp7,bS,reduceIte,Bool.false_eq_true]; done) | (simp [hp1,hp5,hp6,hp7]; done) | (simp_all; done)) (lc rfl ln)) (fun _ hh=>hh)
       ·have hq7 : (decide (m0 0=6))=false := hc7
        have hp7 : ¬ (m0 0=6) := of_decide_eq_false hq7
        refine xw_cond_f rfl rfl (xw_region ?_); refine xq rfl trivial (o_eql rfl rfl) ?_; refine xq rfl trivial (o_as rfl) ?_; refine xo_nil ?_; exact xq_cut (lce rfl (by first | rfl | (simp only [hq1,hq5,hq6,hq7,if_neg hp1,if_neg hp5,if_neg hp6,if_neg hp7,bS,reduceIte,Bool.false_eq_true]; done) | (simp [hp1,hp5,hp6,hp7]; done) | (simp_all; done)) (lc rfl ln)) (fun _ hh=>hh)
      ·exact xq_cut (lce rfl (by first | rfl | (simp only [hq1,hq5,hq6,if_neg hp1,if_neg hp5,if_neg hp6,bS,reduceIte,Bool.false_eq_true]; done) | (simp [hp1,hp5,hp6]; done) | (simp_all; done)) (lc rfl ln)) (fun _ hh=>hh)
    ·exact xq_cut (lce rfl (by first | rfl | (simp only [hq1,hq5,if_neg hp1,if_neg hp5,bS,reduceIte,Bool.false_eq_true]; done) | (simp [hp1,hp5]; done) | (simp_all; done)) (lc rfl ln)) (fun _ hh=>hh)
  ·refine xq_then ?_; refine xw_bool 7 rfl (fun hc8=>?_) (fun hc8=>?_)
   ·have hq8 : ((decide (m0 0=1)) || ((decide (m0 0=4)) || ((decide (m0 0=6)) || (decide (m0 0=8)))))=true := hc8
    have hp8 : ((decide (m0 0=1)) || ((decide (m0 0=4)) || ((decide (m0 0=6)) || (decide (m0 0=8)))))=true := hq8
    rw [if_pos hp8] at h; refine xw_cond_t rfl rfl (xw_exit (xq_then_exit (xq_blk_ne rfl (xq_then_exit ?_)))); refine xq_blk_eq ?_; refine xq_then (xw_seq (xw_seq ?_)); refine xw_cut [] ln [(2,.bool ((decide (m0 1=0)) && ((shard_F (m0 2)))))] ?_ ?_
    ·refine xw_region ?_; refine xq rfl trivial (o_fa0 fl42_1 rfl) ?_; refine xq rfl trivial (o_ldI (v := m0 1) rfl ts3 mH (by omega) rfl) ?_; refine xq rfl trivial (o_eql rfl rfl) ?_; refine xq rfl trivial (o_mv rfl) ?_; refine xo_bool 26 rfl (fun hg9=>?_) (fun hg9=>?_)
     ·have hq9 : (decide (m0 1=0))=true := hg9
      have hp9 : m0 1=0 := of_decide_eq_true hq9
      refine xq rfl ⟨_,rfl,rfl⟩ (o_fa0 fl42_2 rfl) ?_; refine xq rfl ⟨_,rfl,rfl⟩ (o_ldI (v := m0 2) rfl ts3 mH (by omega) rfl) ?_; refine xcallq rfl ⟨_,rfl,rfl⟩ kf78 rfl (fun w1 hw1=>shard_c _ w1) ?_; refine xq rfl trivial (o_pick_t rfl rfl) ?_; refine xq rfl trivial (o_as rfl) ?_; refine xo_nil ?_; exact xq_cut ((lce rfl (by first | rfl | (simp only [hq1,hq8,hq9,if_neg hp1,if_pos hp8,if_pos hp9,bS,reduceIte,Bool.false_eq_true]; done) | (simp [hp1,hp8,hp9]; done) | (simp_all; done)) ln)) (fun _ h=>h)
     ·have hq9 : (decide (m0 1=0))=false := hg9
      have hp9 : ¬ (m0 1=0) := of_decide_eq_false hq9
      refine xs rfl ⟨_,_,rfl,rfl,rfl⟩ (xs rfl ⟨_,_,rfl,rfl,rfl⟩ (xs rfl ⟨_,_,rfl,rfl,rfl⟩ ?_)); refine xq rfl trivial (o_pick_f rfl rfl) ?_; refine xq rfl trivial (o_as rfl) ?_; refine xo_nil ?_; exact xq_cut ((lce rfl (by first | rfl | (simp only [hq1,hq8,hq9,if_neg hp1,if_pos hp8,if_neg hp9,bS,reduceIte,Bool.false_eq_true]; done) | (simp [hp1,hp8,hp9]; done) | (simp_all; done)) ln)) (fun _ h=>h)
    ·refine xq_then (xw_ret (xq_then_ret (xq_blk_ret (xq_then_ret ?_)))); subst h
     exact con_ret1 (.inl rfl) Try.results74 rfl [] (Kp.st (Kp.new hb1 Kp.nil)) (⟨rfl,rfl⟩)
   ·have hq8 : ((decide (m0 0=1)) || ((decide (m0 0=4)) || ((decide (m0 0=6)) || (decide (m0 0=8)))))=false := hc8
    have hp8 : ¬ (((decide (m0 0=1)) || ((decide (m0 0=4)) || ((decide (m0 0=6)) || (decide (m0 0=8)))))=true) := bne' hq8
    rw [if_neg hp8] at h; refine xw_cond_f rfl rfl (xw_skip (xq_then (xw_exit (xq_blk_ne rfl (xq_then_exit (xq_blk_ne rfl (xq_then_exit ?_))))))); refine xq_blk_eq ?_; refine xq_then (xw_seq ?_); refine xw_cut [] ln [(2,.bool (((shard_F (m0 1))) && (decide (m0 2=0))))] ?_ ?_
    ·refine xw_region ?_; refine xq rfl trivial (o_fa0 fl42_1 rfl) ?_; refine xq rfl trivial (o_ldI (v := m0 1) rfl ts3 mH (by omega) rfl) ?_; refine xcallq rfl trivial kf78 rfl (fun w1 hw1=>shard_c _ w1) ?_; refine xq rfl trivial (o_mv rfl) ?_; refine xo_bool 34 rfl (fun hg10=>?_) (fun hg10=>?_)
     ·have hq10 : ((shard_F (m0 1)))=true := hg10
      have hp10 : ((shard_F (m0 1)))=true := hq10
      refine xq rfl ⟨_,rfl,rfl⟩ (o_fa0 fl42_2 rfl) ?_; refine xq rfl ⟨_,rfl,rfl⟩ (o_ldI (v := m0 2) rfl ts3 mH (by omega) rfl) ?_; refine xq rfl ⟨_,rfl,rfl⟩ (o_eql rfl rfl) ?_; refine xq rfl trivial (o_pick_t rfl rfl) ?_; refine xq rfl trivial (o_as rfl) ?_; refine xo_nil ?_; exact xq_cut ((lce rfl (by first | rfl | (simp only [hq1,hq8,hq10,if_neg hp1,if_neg hp8,if_pos hp10,bS,reduceIte,Bool.false_eq_true]; done) | (simp [hp1,hp8,hp10]; done) | (simp_all; done)) ln)) (fun _ h=>h)
     ·have hq10 : ((shard_F (m0 1)))=false := hg10
      have hp10 : ¬ (((shard_F (m0 1)))=true) := bne' hq10
      refine xs rfl ⟨_,_,rfl,rfl,rfl⟩ (xs rfl ⟨_,_,rfl,rfl,rfl⟩ (xs rfl ⟨_,_,rfl,rfl,rfl⟩ ?_)); refine xq rfl trivial (o_pick_f rfl rfl) ?_; refine xq rfl trivial (o_as rfl) ?_; refine xo_nil ?_; exact xq_cut ((lce rfl (by first | rfl | (simp only [hq1,hq8,hq10,if_neg hp1,if_neg hp8,if_neg hp10,bS,reduceIte,Bool.false_eq_true]; done) | (simp [hp1,hp8,hp10]; done) | (simp_all; done)) ln)) (fun _ h=>h)
    ·refine xq_then (xw_ret ?_); subst h
     exact con_ret1 (.inl rfl) Try.results74 rfl [] (Kp.st (Kp.new hb1 Kp.nil)) (⟨rfl,rfl⟩)

theorem ends_c (m0 : (Nat → Int)) (w : World) : Con Try.prog 74 #[AI 28 m0] w (Is (.bool (ends_F m0)) []) :=
 ends_con m0 w _ (ends_ok m0)

theorem resOk_con (r0 : (Nat → Int)) (w : World) (r : Bool) (h : resOk_S r0 r) : Con Try.prog 49 #[AI 2 r0] w (Is (.bool r) []) := by
 unfold resOk_S at h; refine con_enter (n := 21) [(0,_)] Try.func49 rfl Try.ntmps49 rfl (lac rfl lan) ?_; refine xw_seq (xw_region ?_); refine xo rfl trivial (o_boxA rfl) ?_; rintro _ _ ⟨b1,hb1,rfl,rfl⟩; refine xq rfl trivial (o_as rfl) ?_; refine xo_nil (xq_then (xw_seq ?_)); refine xw_cut [] ln [(2,.bool ((((decide (1≤r0 0)) && (decide (r0 0≤250))) && (decide (0≤r0 1))) && (decide (r0 1≤250))))] ?_ ?_
 ·refine xw_region ?_; refine xq rfl trivial (o_fa0 fl25_0 rfl) ?_; refine xq rfl trivial (o_ldI (v := r0 0) rfl ts3 mH (by omega) rfl) ?_; refine xq rfl trivial (o_geq rfl rfl) ?_; refine xq rfl trivial (o_mv rfl) ?_; refine xo_bool 6 rfl (fun hg1=>?_) (fun hg1=>?_)
  ·have hq1 : (decide (1≤r0 0))=true := hg1
   have hp1 : 1≤r0 0 := of_decide_eq_true hq1
   refine xq rfl ⟨_,rfl,rfl⟩ (o_fa0 fl25_0 rfl) ?_; refine xq rfl ⟨_,rfl,rfl⟩ (o_ldI (v := r0 0) rfl ts3 mH (by omega) rfl) ?_; refine xq rfl ⟨_,rfl,rfl⟩ (o_leq rfl rfl) ?_; refine xq rfl trivial (o_pick_t rfl rfl) ?_; refine xq rfl trivial (o_mv rfl) ?_; refine xo_bool 11 rfl (fun hg2=>?_) (fun hg2=>?_)
   ·have hq2 : (decide (r0 0≤250))=true := hg2
    have hp2 : r0 0≤250 := of_decide_eq_true hq2
    refine xq rfl ⟨_,rfl,rfl⟩ (o_fa0 fl25_1 rfl) ?_; refine xq rfl ⟨_,rfl,rfl⟩ (o_ldI (v := r0 1) rfl ts3 mH (by omega) rfl) ?_; refine xq rfl ⟨_,rfl,rfl⟩ (o_geq rfl rfl) ?_; refine xq rfl trivial (o_pick_t rfl rfl) ?_; refine xq rfl trivial (o_mv rfl) ?_; refine xo_bool 16 rfl (fun hg3=>?_) (fun hg3=>?_)
    ·have hq3 : (decide (0≤r0 1))=true := hg3
     have hp3 : 0≤r0 1 := of_decide_eq_true hq3
     refine xq rfl ⟨_,rfl,rfl⟩ (o_fa0 fl25_1 rfl) ?_; refine xq rfl ⟨_,rfl,rfl⟩ (o_ldI (v := r0 1) rfl ts3 mH (by omega) rfl) ?_; refine xq rfl ⟨_,rfl,rfl⟩ (o_leq rfl rfl) ?_; refine xq rfl trivial (o_pick_t rfl rfl) ?_; refine xq rfl trivial (o_as rfl) ?_; refine xo_nil ?_; exact xq_cut ((lce rfl (by first | rfl | (simp only [hq1,hq2,hq3,if_pos hp1,if_pos hp2,if_pos hp3,bS,reduceIte,Bool.false_eq_true]; done) | (simp [hp1,hp2,hp3]; done) | (simp_all; done)) ln)) (fun _ h=>h)
    ·have hq3 : (decide (0≤r0 1))=false := hg3
     have hp3 : ¬ (0≤r0 1) := of_decide_eq_false hq3
     refine xs rfl ⟨_,_,rfl,rfl,rfl⟩ (xs rfl ⟨_,_,rfl,rfl,rfl⟩ (xs rfl ⟨_,_,rfl,rfl,rfl⟩ ?_)); refine xq rfl trivial (o_pick_f rfl rfl) ?_; refine xq rfl trivial (o_as rfl) ?_; refine xo_nil ?_; exact xq_cut ((lce rfl (by first | rfl | (simp only [hq1,hq2,hq3,if_pos hp1,if_pos hp2,if_neg hp3,bS,reduceIte,Bool.false_eq_true]; done) | (simp [hp1,hp2,hp3]; done) | (simp_all; done)) ln)) (fun _ h=>h)
   ·have hq2 : (decide (r0 0≤250))=false := hg2
    have hp2 : ¬ (r0 0≤250) := of_decide_eq_false hq2
    refine xs rfl ⟨_,_,rfl,rfl,rfl⟩ (xs rfl ⟨_,_,rfl,rfl,rfl⟩ (xs rfl ⟨_,_,rfl,rfl,rfl⟩ ?_)); refine xq rfl trivial (o_pick_f rfl rfl) ?_; refine xq rfl trivial (o_mv rfl) ?_; refine xs rfl ⟨_,_,rfl,rfl,rfl⟩ (xs rfl ⟨_,_,rfl,rfl,rfl⟩ (xs rfl ⟨_,_,rfl,rfl,rfl⟩ ?_)); refine xq rfl trivial (o_pick_f rfl rfl) ?_; refine xq rfl trivial (o_as rfl) ?_; refine xo_nil ?_; exact xq_cut ((lce rfl (by first | rfl | (simp only [hq1,hq2,if_pos hp1,if_neg hp2,bS,reduceIte,Bool.false_eq_true]; done) | (simp [hp1,hp2]; done) | (simp_all; done)) ln)) (fun _ h=>h)
  ·have hq1 : (decide (1≤r0 0))=false := hg1
   have hp1 : ¬ (1≤r0 0) := of_decide_eq_false hq1
   refine xs rfl ⟨_,_,rfl,rfl,rfl⟩ (xs rfl ⟨_,_,rfl,rfl,rfl⟩ (xs rfl ⟨_,_,rfl,rfl,rfl⟩ ?_)); refine xq rfl trivial (o_pick_f rfl rfl) ?_; refine xq rfl trivial (o_mv rfl) ?_; refine xs rfl ⟨_,_,rfl,rfl,rfl⟩ (xs rfl ⟨_,_,rfl,rfl,rfl⟩ (xs rfl ⟨_,_,rfl,rfl,rfl⟩ ?_)); refine xq rfl trivial (o_pick_f rfl rfl) ?_; refine xq rfl trivial (o_mv rfl) ?_; refine xs rfl ⟨_,_,rfl,rfl,rfl⟩ (xs rfl ⟨_,_,rfl,rfl,rfl⟩ (xs rfl ⟨_,_,rfl,rfl,rfl⟩ ?_)); refine xq rfl trivial (o_pick_f rfl rfl) ?_; refine xq rfl trivial (o_as rfl) ?_; refine xo_nil ?_; exact xq_cut ((lce rfl (by first | rfl | (simp only [hq1,if_neg hp1,bS,reduceIte,Bool.false_eq_true]; done) | (simp [hp1]; done) | (simp_all; done)) ln)) (fun _ h=>h)
 ·refine xq_then (xw_ret ?_); subst h
  exact con_ret1 (.inl rfl) Try.results49 rfl [] (Kp.st (Kp.new hb1 Kp.nil)) (⟨rfl,rfl⟩)

theorem resOk_c (r0 : (Nat → Int)) (w : World) : Con Try.prog 49 #[AI 2 r0] w (Is (.bool (resOk_F r0)) []) :=
 resOk_con r0 w _ (resOk_ok r0)

theorem path_con (m0 : (Nat → Int)) (w : World) (r : Bool) (h : path_S m0 r) : Con Try.prog 81 #[AI 28 m0] w (Is (.bool r) []) := by
 unfold path_S at h; refine con_enter (n := 61) [(0,_)] Try.func81 rfl Try.ntmps81 rfl (lac rfl lan) ?_; refine xw_seq (xw_region ?_); refine xo rfl trivial (o_boxA rfl) ?_; rintro _ _ ⟨b1,hb1,rfl,rfl⟩; refine xq rfl trivial (o_as rfl) ?_; refine xo_nil (xq_then (xw_seq (xw_seq ?_))); refine xw_cut [(1,_)] (lc rfl ln) [(22,.bool (((!((inn_F (m0 11) 1 8))) || (!((tx_F (m0 9))))) || (!((inn_F (m0 10) 0 1048576)))))] ?_ ?_
 ·refine xw_region ?_; refine xq rfl trivial (o_fa0 fl42_10 rfl) ?_; refine xq rfl trivial (o_ldI (v := m0 11) rfl ts3 mH (by omega) rfl) ?_; refine xcallq rfl trivial kf79 rfl (fun w1 hw1=>inn_c _ _ _ w1) ?_; refine xq rfl trivial (o_not rfl) ?_; refine xq rfl trivial (o_mv rfl) ?_; refine xo_bool 11 rfl (fun hg1=>?_) (fun hg1=>?_)
  ·have hq1 : ((inn_F (m0 11) 1 8))=false := (bnT hg1)
   have hp1 : ¬ (((inn_F (m0 11) 1 8))=true) := bne' hq1
   refine xs rfl ⟨_,_,rfl,rfl,rfl⟩ (xs rfl ⟨_,_,rfl,rfl,rfl⟩ (xs rfl ⟨_,_,rfl,rfl,rfl⟩ (xs rfl ⟨_,_,rfl,rfl,rfl⟩ ?_))); refine xq rfl trivial (o_pick_t rfl rfl) ?_; refine xq rfl trivial (o_mv rfl) ?_; refine xs rfl ⟨_,_,rfl,rfl,rfl⟩ (xs rfl ⟨_,_,rfl,rfl,rfl⟩ (xs rfl ⟨_,_,rfl,rfl,rfl⟩ (xs rfl ⟨_,_,rfl,rfl,rfl⟩ ?_))); refine xq rfl trivial (o_pick_t rfl rfl) ?_; refine xo_nil ?_; exact xq_cut ((lce rfl (by first | rfl | (simp only [hq1,if_neg hp1,bS,reduceIte,Bool.false_eq_true]; done) | (simp [hp1]; done) | (simp_all; done)) (lc rfl ln))) (fun _ h=>h)
  ·have hq1 : ((inn_F (m0 11) 1 8))=true := (bnF hg1)
   have hp1 : ((inn_F (m0 11) 1 8))=true := hq1
   refine xq rfl ⟨_,rfl,rfl⟩ (o_fa0 fl42_8 rfl) ?_; refine xq rfl ⟨_,rfl,rfl⟩ (o_ldI (v := m0 9) rfl ts3 mH (by omega) rfl) ?_; refine xcallq rfl ⟨_,rfl,rfl⟩ kf80 rfl (fun w1 hw1=>tx_c _ w1) ?_; refine xq rfl ⟨_,rfl,rfl⟩ (o_not rfl) ?_; refine xq rfl trivial (o_pick_f rfl rfl) ?_; refine xq rfl trivial (o_mv rfl) ?_; refine xo_bool 17 rfl (fun hg2=>?_) (fun hg2=>?_)
   ·have hq2 : ((tx_F (m0 9)))=false := (bnT hg2)
    have hp2 : ¬ (((tx_F (m0 9)))=true) := bne' hq2
    refine xs rfl ⟨_,_,rfl,rfl,rfl⟩ (xs rfl ⟨_,_,rfl,rfl,rfl⟩ (xs rfl ⟨_,_,rfl,rfl,rfl⟩ (xs rfl ⟨_,_,rfl,rfl,rfl⟩ ?_))); refine xq rfl trivial (o_pick_t rfl rfl) ?_; refine xo_nil ?_; exact xq_cut ((lce rfl (by first | rfl | (simp only [hq1,hq2,if_pos hp1,if_neg hp2,bS,reduceIte,Bool.false_eq_true]; done) | (simp [hp1,hp2]; done) | (simp_all; done)) (lc rfl ln))) (fun _ h=>h)
   ·have hq2 : ((tx_F (m0 9)))=true := (bnF hg2)
    have hp2 : ((tx_F (m0 9)))=true := hq2
    refine xq rfl ⟨_,rfl,rfl⟩ (o_fa0 fl42_9 rfl) ?_; refine xq rfl ⟨_,rfl,rfl⟩ (o_ldI (v := m0 10) rfl ts3 mH (by omega) rfl) ?_; refine xcallq rfl ⟨_,rfl,rfl⟩ kf79 rfl (fun w1 hw1=>inn_c _ _ _ w1) ?_; refine xq rfl ⟨_,rfl,rfl⟩ (o_not rfl) ?_; refine xq rfl trivial (o_pick_f rfl rfl) ?_; refine xo_nil ?_; exact xq_cut ((lce rfl (by first | rfl | (simp only [hq1,hq2,if_pos hp1,if_pos hp2,bS,reduceIte,Bool.false_eq_true]; done) | (simp [hp1,hp2]; done) | (simp_all; done)) (lc rfl ln))) (fun _ h=>h)
 ·refine xq_then ?_; refine xw_bool 22 rfl (fun hc3=>?_) (fun hc3=>?_)
  ·have hq3 : (((!((inn_F (m0 11) 1 8))) || (!((tx_F (m0 9))))) || (!((inn_F (m0 10) 0 1048576))))=true := hc3
   have hp3 : (((!((inn_F (m0 11) 1 8))) || (!((tx_F (m0 9))))) || (!((inn_F (m0 10) 0 1048576))))=true := hq3
   rw [if_pos hp3] at h; refine xw_cond_t rfl rfl (xw_seq (xw_region ?_)); refine xq rfl trivial (o_as rfl) ?_; refine xo_nil (xq_then (xw_ret (xq_then_ret ?_))); subst h
   exact con_ret1 (.inl rfl) Try.results81 rfl [] (Kp.st (Kp.new hb1 Kp.nil)) (⟨rfl,rfl⟩)
  ·have hq3 : (((!((inn_F (m0 11) 1 8))) || (!((tx_F (m0 9))))) || (!((inn_F (m0 10) 0 1048576))))=false := hc3
   have hp3 : ¬ ((((!((inn_F (m0 11) 1 8))) || (!((tx_F (m0 9))))) || (!((inn_F (m0 10) 0 1048576))))=true) := bne' hq3
   rw [if_neg hp3] at h; refine xw_cond_f rfl rfl (xw_skip (xq_then (xw_seq (xw_seq (xw_region ?_))))); refine xq rfl trivial (o_fa0 fl42_11 rfl) ?_; refine xq rfl trivial (o_ldSI rfl ts40 mH (by omega) (fun _ _=>rfl)) ?_; refine xq rfl trivial (o_mv rfl) ?_; refine xo_nil (xq_then ?_); refine xw_block ?_; obtain ⟨x1,hx1,h⟩ := h; refine xw_wh (fun (x25 : Int) e H=>e=[(1,.pointer (some ⟨b1,0,none⟩)),(24,AI 16 (fun i=>m0 (12 + i))),(25,.int .i64 x25)]∧H=(b1,BK 28 (iv m0) 42)::([])) (fun x ex e H=>match x with | .inl _=>ex=.exit 0∧e=[]∧H=(b1,BK 28 (iv m0) 42)::([]) | .inr _=>ex=.ret∧e=[(2,.bool false)]∧H=(b1,BK 28 (iv m0) 42)::([])) hx1 ⟨[(1,.pointer (some ⟨b1,0,none⟩)),(24,AI 16 (fun i=>m0 (12 + i))),(25,.int .i64 0)],(b1,BK 28 (iv m0) 42)::([]),(lc rfl (lc rfl (lc rfl ln))),fun _ h=>h,⟨rfl,rfl⟩⟩ ?_ ?_
   ·rintro x25 o _ _ ⟨rfl,rfl⟩ hb; have h : path_l1 m0 x25 o := hb
    clear hb; unfold path_l1 at h; refine xw_seq (xw_region ?_); refine xq rfl trivial (o_lss rfl rfl) ?_; refine xo_nil (xq_then (xw_seq ?_)); refine xw_bool 26 rfl (fun hc4=>?_) (fun hc4=>?_)
    ·have hq4 : (decide (x25 < 8))=true := hc4
     have hp4 : x25 < 8 := of_decide_eq_true hq4
     rw [if_pos hp4] at h; refine xw_cond_t rfl rfl (xw_skip (xq_then (xw_seq ?_))); refine xw_block ?_; refine xw_seq (xw_region ?_); refine xq rfl trivial (o_mv rfl) ?_; obtain ⟨ho5,h⟩ := h; refine xq rfl trivial (o_ixAI (j := x25.toNat) ea40 rfl rfl ho5 rfl (by decide) (fun _ _=>rfl)) ?_; refine xo rfl trivial (o_alloc ze39 rfl) ?_; rintro _ _ ⟨b4,hb4,rfl,rfl⟩; refine xq rfl trivial (o_as rfl) ?_; refine xq0 trivial (o_stWI rfl rfl ts39 mH (.here _ _ _ _)) ?_; refine xo_nil (xq_then (xw_seq (xw_seq (xw_region ?_)))); refine xq rfl trivial (o_mv rfl) ?_; refine xq rfl trivial (o_fa0 fl42_10 rfl) ?_; refine xq rfl trivial (o_ldI (v := m0 11) rfl ts3 (mT mH) (by omega) rfl) ?_; refine xq rfl trivial (o_geq rfl rfl) ?_; refine xo_nil (xq_then ?_); refine xw_bool 32 rfl (fun hc6=>?_) (fun hc6=>?_)
     ·have hq6 : (decide (m0 11≤x25))=true := hc6
      have hp6 : m0 11≤x25 := of_decide_eq_true hq6
      rw [if_pos hp6] at h; refine xw_cond_t rfl rfl (xw_seq (xw_seq (xw_region ?_))); refine xq rfl trivial (o_ldW rfl ts39 mH) ?_; refine xq rfl trivial (o_build fk39 ze39 (.nil _)) ?_; refine xq rfl trivial (o_neqA eq39 rfl rfl) ?_; refine xo_nil (xq_then ?_); refine xw_bool 35 rfl (fun hc7=>?_) (fun hc7=>?_)
      ·have hq7 : ((eqN 2 (fun i=>(fun i=>m0 (12 + i)) ((x25.toNat * 2) + i)) (fun _=>0)))=false := (bnT hc7)
       have hp7 : ¬ (((eqN 2 (fun i=>(fun i=>m0 (12 + i)) ((x25.toNat * 2) + i)) (fun _=>0)))=true) := bne' hq7
       rw [if_neg hp7] at h; refine xw_cond_t rfl rfl (xw_seq (xw_region ?_)); refine xq rfl trivial (o_as rfl) ?_; refine xo_nil (xq_then (xw_ret (xq_then_ret (xq_then_ret (xq_blk_ret (xq_then_ret ?_)))))); exact xq_out (r := (.inr () : (Unit) ⊕ (Unit))) (e' := [(2,.bool false)]) ((b1,BK 28 (iv m0) 42)::([])) (lc rfl ln) (Kp.st (Kp.new hb4 (Kp.keep Kp.nil))) h (by intro hh; cases hh) ⟨rfl,rfl,rfl⟩
      ·have hq7 : ((eqN 2 (fun i=>(fun i=>m0 (12 + i)) ((x25.toNat * 2) + i)) (fun _=>0)))=true := (bnF hc7)
       have hp7 : ((eqN 2 (fun i=>(fun i=>m0 (12 + i)) ((x25.toNat * 2) + i)) (fun _=>0)))=true := hq7
       rw [if_pos hp7] at h; refine xw_cond_f rfl rfl (xw_skip (xq_then (xw_exit (xq_then_exit ?_)))); refine xq_blk_eq ?_; refine xq_then (xw_region ?_); obtain ⟨ho8,h⟩ := h; refine xq rfl trivial (o_add rfl rfl rfl ho8) ?_; refine xq rfl trivial (o_mv rfl) ?_; refine xo_nil ?_; exact xq_next (s' := (x25 + 1 : Int)) (e' := [(1,.pointer (some ⟨b1,0,none⟩)),(24,AI 16 (fun i=>m0 (12 + i))),(25,.int .i64 (x25 + 1))]) ((b1,BK 28 (iv m0) 42)::([])) (lc rfl (lc rfl (lc rfl ln))) (Kp.st (Kp.new hb4 (Kp.keep Kp.nil))) h ⟨rfl,rfl⟩
     ·have hq6 : (decide (m0 11≤x25))=false := hc6
      have hp6 : ¬ (m0 11≤x25) := of_decide_eq_false hq6
      rw [if_neg hp6] at h; refine xw_cond_f rfl rfl (xw_skip (xq_then (xw_seq (xw_seq ?_)))); refine xw_cut [(1,_),(3,_),(4,_),(24,_),(25,_)] (lc rfl (lc rfl (lc rfl (lc rfl (lc rfl ln))))) [(45,.bool ((!((tx_F (m0 (12 + (x25.toNat * 2)))))) || (!((inn_F (m0 (12 + ((x25.toNat * 2) + 1))) 1 1048576)))))] ?_ ?_
      ·refine xw_region ?_; refine xq rfl trivial (o_fa0 fl39_0 rfl) ?_; refine xq rfl trivial (o_ldI (v := m0 (12 + (x25.toNat * 2))) rfl ts3 mH (by omega) rfl) ?_; refine xcallq rfl trivial kf80 rfl (fun w1 hw1=>tx_c _ w1) ?_; refine xq rfl trivial (o_not rfl) ?_; refine xq rfl trivial (o_mv rfl) ?_; refine xo_bool 40 rfl (fun hg9=>?_) (fun hg9=>?_)
       ·have hq9 : ((tx_F (m0 (12 + (x25.toNat * 2)))))=false := (bnT hg9)
        have hp9 : ¬ (((tx_F (m0 (12 + (x25.toNat * 2)))))=true) := bne' hq9
        refine xs rfl ⟨_,_,rfl,rfl,rfl⟩ (xs rfl ⟨_,_,rfl,rfl,rfl⟩ (xs rfl ⟨_,_,rfl,rfl,rfl⟩ (xs rfl ⟨_,_,rfl,rfl,rfl⟩ ?_))); refine xq rfl trivial (o_pick_t rfl rfl) ?_; refine xo_nil ?_; exact xq_cut ((lce rfl (by first | rfl | (simp only [hq4,hq6,hq9,if_pos hp4,if_neg hp6,if_neg hp9,bS,reduceIte,Bool.false_eq_true]; done) | (simp [hp4,hp6,hp9]; done) | (simp_all; done)) (lc rfl (lc rfl (lc rfl (lc rfl (lc rfl ln))))))) (fun _ h=>h)
       ·have hq9 : ((tx_F (m0 (12 + (x25.toNat * 2)))))=true := (bnF hg9)
        have hp9 : ((tx_F (m0 (12 + (x25.toNat * 2)))))=true := hq9
        refine xq rfl ⟨_,rfl,rfl⟩ (o_fa0 fl39_1 rfl) ?_; refine xq rfl ⟨_,rfl,rfl⟩ (o_ldI (v := m0 (12 + ((x25.toNat * 2) + 1))) rfl ts3 mH (by omega) rfl) ?_; refine xcallq rfl ⟨_,rfl,rfl⟩ kf79 rfl (fun w1 hw1=>inn_c _ _ _ w1) ?_; refine xq rfl ⟨_,rfl,rfl⟩ (o_not rfl) ?_; refine xq rfl trivial (o_pick_f rfl rfl) ?_; refine xo_nil ?_; exact xq_cut ((lce rfl (by first | rfl | (simp only [hq4,hq6,hq9,if_pos hp4,if_neg hp6,if_pos hp9,bS,reduceIte,Bool.false_eq_true]; done) | (simp [hp4,hp6,hp9]; done) | (simp_all; done)) (lc rfl (lc rfl (lc rfl (lc rfl (lc rfl ln))))))) (fun _ h=>h)
      ·refine xq_then ?_; refine xw_bool 45 rfl (fun hc10=>?_) (fun hc10=>?_)
       ·have hq10 : ((!((tx_F (m0 (12 + (x25.toNat * 2)))))) || (!((inn_F (m0 (12 + ((x25.toNat * 2) + 1))) 1 1048576))))=true := hc10
        have hp10 : ((!((tx_F (m0 (12 + (x25.toNat * 2)))))) || (!((inn_F (m0 (12 + ((x25.toNat * 2) + 1))) 1 1048576))))=true := hq10
        rw [if_pos hp10] at h; refine xw_cond_t rfl rfl (xw_seq (xw_region ?_)); refine xq rfl trivial (o_as rfl) ?_; refine xo_nil (xq_then (xw_ret (xq_then_ret (xq_blk_ret (xq_then_ret ?_))))); exact xq_out (r := (.inr () : (Unit) ⊕ (Unit))) (e' := [(2,.bool false)]) ((b1,BK 28 (iv m0) 42)::([])) (lc rfl ln) (Kp.st (Kp.new hb4 (Kp.keep Kp.nil))) h (by intro hh; cases hh) ⟨rfl,rfl,rfl⟩
       ·have hq10 : ((!((tx_F (m0 (12 + (x25.toNat * 2)))))) || (!((inn_F (m0 (12 + ((x25.toNat * 2) + 1))) 1 1048576))))=false := hc10
        have hp10 : ¬ (((!((tx_F (m0 (12 + (x25.toNat * 2)))))) || (!((inn_F (m0 (12 + ((x25.toNat * 2) + 1))) 1 1048576))))=true) := bne' hq10
        rw [if_neg hp10] at h; refine xw_cond_f rfl rfl (xw_skip (xq_then (xw_seq (xw_region ?_)))); refine xq rfl trivial (o_fa0 fl42_11 rfl) ?_; refine xq rfl trivial (o_mv rfl) ?_; obtain ⟨ho11,h⟩ := h; refine xq rfl trivial (o_slA (h := x25.toNat) ea40 rfl rfl (Int.toNat_of_nonneg ho11.1).symm (by omega)) ?_; refine xq rfl trivial (o_len rfl Try.underlying128 rfl) ?_; refine xq rfl trivial (o_mv rfl) ?_; refine xo_nil (xq_then ?_); refine xw_block ?_; obtain ⟨x2,hx2,h⟩ := h; refine xw_wh (fun (x50 : Int) e H=>e=[(1,.pointer (some ⟨b1,0,none⟩)),(4,.pointer (some ⟨b4,0,none⟩)),(24,AI 16 (fun i=>m0 (12 + i))),(25,.int .i64 x25),(48,.slice (some ⟨b1,12,none⟩) x25.toNat 8),(49,.int .i64 (x25.toNat : Int)),(50,.int .i64 x50)]∧H=(b4,BK 2 (iv (fun i=>(fun i=>m0 (12 + i)) ((x25.toNat * 2) + i))) 39)::((b1,BK 28 (iv m0) 42)::([]))) (fun x ex e H=>match x with | .inl _=>ex=.exit 2∧e=[(1,.pointer (some ⟨b1,0,none⟩)),(24,AI 16 (fun i=>m0 (12 + i))),(25,.int .i64 x25)]∧H=(b4,BK 2 (iv (fun i=>(fun i=>m0 (12 + i)) ((x25.toNat * 2) + i))) 39)::((b1,BK 28 (iv m0) 42)::([])) | .inr _=>ex=.ret∧e=[(2,.bool false)]∧H=(b4,BK 2 (iv (fun i=>(fun i=>m0 (12 + i)) ((x25.toNat * 2) + i))) 39)::((b1,BK 28 (iv m0) 42)::([]))) hx2 ⟨[(1,.pointer (some ⟨b1,0,none⟩)),(4,.pointer (some ⟨b4,0,none⟩)),(24,AI 16 (fun i=>m0 (12 + i))),(25,.int .i64 x25),(48,.slice (some ⟨b1,12,none⟩) x25.toNat 8),(49,.int .i64 (x25.toNat : Int)),(50,.int .i64 0)],(b4,BK 2 (iv (fun i=>(fun i=>m0 (12 + i)) ((x25.toNat * 2) + i))) 39)::((b1,BK 28 (iv m0) 42)::([])),(lc rfl (lc rfl (lc rfl (lc rfl (lc rfl (lc rfl (lc rfl ln))))))),fun _ h=>h,⟨rfl,rfl⟩⟩ ?_ ?_
        ·rintro x50 o _ _ ⟨rfl,rfl⟩ hb; have h : path_l2 m0 x25 x50 o := hb
         clear hb; unfold path_l2 at h; refine xw_seq (xw_region ?_); refine xq rfl trivial (o_lss rfl rfl) ?_; refine xo_nil (xq_then (xw_seq ?_)); refine xw_bool 51 rfl (fun hc12=>?_) (fun hc12=>?_)
         ·have hq12 : (decide (x50 < (x25.toNat : Int)))=true := hc12
          have hp12 : x50 < (x25.toNat : Int) := of_decide_eq_true hq12
          rw [if_pos hp12] at h; refine xw_cond_t rfl rfl (xw_skip (xq_then (xw_seq ?_))); refine xw_block ?_; refine xw_seq (xw_region ?_); obtain ⟨ho13,h⟩ := h; refine xq rfl trivial (o_ixs el128 rfl rfl ho13 rfl) ?_; refine xq rfl trivial (o_ldSI rfl ts39 (mT mH) (by have := ho11; have := ho13; omega) (fun _ _=>rfl)) ?_; refine xo rfl trivial (o_alloc ze39 rfl) ?_; rintro _ _ ⟨b6,hb6,rfl,rfl⟩; refine xq0 trivial (o_stWI rfl rfl ts39 mH (.here _ _ _ _)) ?_; refine xo_nil (xq_then (xw_seq (xw_region ?_))); refine xq rfl trivial (o_fa0 fl39_0 rfl) ?_; refine xq rfl trivial (o_ldI (v := m0 (12 + (x50.toNat * 2))) rfl ts3 mH (by omega) rfl) ?_; refine xq rfl trivial (o_fa0 fl39_0 rfl) ?_; refine xq rfl trivial (o_ldI (v := m0 (12 + (x25.toNat * 2))) rfl ts3 (mT mH) (by omega) rfl) ?_; refine xq rfl trivial (o_eql rfl rfl) ?_; refine xo_nil (xq_then ?_); refine xw_bool 58 rfl (fun hc14=>?_) (fun hc14=>?_)
          ·have hq14 : (decide (m0 (12 + (x50.toNat * 2))=m0 (12 + (x25.toNat * 2))))=true := hc14
           have hp14 : m0 (12 + (x50.toNat * 2))=m0 (12 + (x25.toNat * 2)) := of_decide_eq_true hq14
           rw [if_pos hp14] at h; refine xw_cond_t rfl rfl (xw_seq (xw_region ?_)); refine xq rfl trivial (o_as rfl) ?_; refine xo_nil (xq_then (xw_ret (xq_blk_ret (xq_then_ret ?_)))); exact xq_out (r := (.inr () : (Unit) ⊕ (Unit))) (e' := [(2,.bool false)]) ((b4,BK 2 (iv (fun i=>(fun i=>m0 (12 + i)) ((x25.toNat * 2) + i))) 39)::((b1,BK 28 (iv m0) 42)::([]))) (lc rfl ln) (Kp.st (Kp.new hb6 (Kp.keep (Kp.keep Kp.nil)))) h (by intro hh; cases hh) ⟨rfl,rfl,rfl⟩
          ·have hq14 : (decide (m0 (12 + (x50.toNat * 2))=m0 (12 + (x25.toNat * 2))))=false := hc14
           have hp14 : ¬ (m0 (12 + (x50.toNat * 2))=m0 (12 + (x25.toNat * 2))) := of_decide_eq_false hq14
           rw [if_neg hp14] at h; refine xw_cond_f rfl rfl (xw_skip ?_); refine xq_blk 3 ?_; refine xq_then (xw_region ?_); obtain ⟨ho15,h⟩ := h; refine xq rfl trivial (o_add rfl rfl rfl ho15) ?_; refine xq rfl trivial (o_mv rfl) ?_; refine xo_nil ?_; exact xq_next (s' := (x50 + 1 : Int)) (e' := [(1,.pointer (some ⟨b1,0,none⟩)),(4,.pointer (some ⟨b4,0,none⟩)),(24,AI 16 (fun i=>m0 (12 + i))),(25,.int .i64 x25),(48,.slice (some ⟨b1,12,none⟩) x25.toNat 8),(49,.int .i64 (x25.toNat : Int)),(50,.int .i64 (x50 + 1))]) ((b4,BK 2 (iv (fun i=>(fun i=>m0 (12 + i)) ((x25.toNat * 2) + i))) 39)::((b1,BK 28 (iv m0) 42)::([]))) (lc rfl (lc rfl (lc rfl (lc rfl (lc rfl (lc rfl (lc rfl ln))))))) (Kp.st (Kp.new hb6 (Kp.keep (Kp.keep Kp.nil)))) h ⟨rfl,rfl⟩
         ·have hq12 : (decide (x50 < (x25.toNat : Int)))=false := hc12
          have hp12 : ¬ (x50 < (x25.toNat : Int)) := of_decide_eq_false hq12
          rw [if_neg hp12] at h; refine xw_cond_f rfl rfl (xw_exit (xq_then_exit ?_)); exact xq_out (r := (.inl () : (Unit) ⊕ (Unit))) (e' := [(1,.pointer (some ⟨b1,0,none⟩)),(24,AI 16 (fun i=>m0 (12 + i))),(25,.int .i64 x25)]) ((b4,BK 2 (iv (fun i=>(fun i=>m0 (12 + i)) ((x25.toNat * 2) + i))) 39)::((b1,BK 28 (iv m0) 42)::([]))) (lc rfl (lc rfl (lc rfl ln))) (fun _ h=>h) h (by intro hh; cases hh) ⟨rfl,rfl,rfl⟩
        ·rcases x2 with _ | x2
         ·rintro _ _ _ ⟨rfl,rfl,rfl⟩; replace h : path_k2a x25 o := h; unfold path_k2a at h; refine xq_blk_eq ?_; refine xq_blk 1 ?_; refine xq_then (xw_region ?_); obtain ⟨ho16,h⟩ := h; refine xq rfl trivial (o_add rfl rfl rfl ho16) ?_; refine xq rfl trivial (o_mv rfl) ?_; refine xo_nil ?_; exact xq_next (s' := (x25 + 1 : Int)) (e' := [(1,.pointer (some ⟨b1,0,none⟩)),(24,AI 16 (fun i=>m0 (12 + i))),(25,.int .i64 (x25 + 1))]) ((b1,BK 28 (iv m0) 42)::([])) (lc rfl (lc rfl (lc rfl ln))) (Kp.st (Kp.new hb4 (Kp.keep Kp.nil))) h ⟨rfl,rfl⟩
         cases x2
         rintro _ _ _ ⟨rfl,rfl,rfl⟩; replace h : path_k2b o := h; unfold path_k2b at h; refine xq_blk_ret (xq_blk_ret (xq_then_ret ?_)); exact xq_out (r := (.inr () : (Unit) ⊕ (Unit))) (e' := [(2,.bool false)]) ((b1,BK 28 (iv m0) 42)::([])) (lc rfl ln) (Kp.st (Kp.new hb4 (Kp.keep Kp.nil))) h (by intro hh; cases hh) ⟨rfl,rfl,rfl⟩
    ·have hq4 : (decide (x25 < 8))=false := hc4
     have hp4 : ¬ (x25 < 8) := of_decide_eq_false hq4
     rw [if_neg hp4] at h; refine xw_cond_f rfl rfl (xw_exit (xq_then_exit ?_)); exact xq_out (r := (.inl () : (Unit) ⊕ (Unit))) (e' := []) ((b1,BK 28 (iv m0) 42)::([])) ln (fun _ h=>h) h (by intro hh; cases hh) ⟨rfl,rfl,rfl⟩
   ·rcases x1 with _ | x1
    ·rintro _ _ _ ⟨rfl,rfl,rfl⟩; replace h : path_k1a r := h; unfold path_k1a at h; refine xq_blk_eq ?_; refine xq_then (xw_seq (xw_region ?_)); refine xq rfl trivial (o_as rfl) ?_; refine xo_nil (xq_then (xw_ret ?_)); subst h
     exact con_ret1 (.inl rfl) Try.results81 rfl [] (Kp.st (Kp.new hb1 Kp.nil)) (⟨rfl,rfl⟩)
    cases x1
    rintro _ _ _ ⟨rfl,rfl,rfl⟩; replace h : path_k1b r := h; unfold path_k1b at h; refine xq_blk_ret (xq_then_ret ?_); subst h
    exact con_ret1 (.inl rfl) Try.results81 rfl [] (Kp.st (Kp.new hb1 Kp.nil)) (⟨rfl,rfl⟩)

end Go.Proofs.Ytmfbefghdaiicaa
