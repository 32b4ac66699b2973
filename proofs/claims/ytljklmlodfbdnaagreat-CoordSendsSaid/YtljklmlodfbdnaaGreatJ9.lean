/- Part 9 of the proof. -/
import Derived.Test.YtljklmlodfbdnaaGreatJ2
import Derived.Test.YtljklmlodfbdnaaGreatJ3
import Derived.Test.YtljklmlodfbdnaaGreatJ5
import Derived.Test.YtljklmlodfbdnaaGreatJ8
import Derived.Test.YtljklmlodfbdnaaGreatJ4
set_option maxHeartbeats 1000000
set_option maxRecDepth 100000
set_option linter.unusedVariables false
set_option linter.unusedSimpArgs false
set_option linter.unusedSectionVars false
set_option linter.unnecessarySimpa false
namespace Go.Proofs.YtljklmlodfbdnaaGreat
open Go Go.E
theorem ref02Ok_con (r0 : NI) (w : World) (r : Bool) (h : ref02Ok_S r0 r) : Con Tryz.prog 68 #[AI 2 r0] w (Is (.bool r) []) := by
 unfold ref02Ok_S at h; refine ce Tryz.func68 rfl Tryz.ntmps68 rfl (wS (xr rfl (o_boxA rfl) ?_)); rintro _ _ ⟨b1,hb1,rfl,rfl⟩; refine va rfl (nS (xw_seq (wk [] rfl [(2,.bool ((((decide (0 < r0 0)) && (decide (r0 0 < 251))) && (decide ((-1) < r0 1))) && (decide (r0 1 < 251))))] ?_ ?_)))
 ·refine xw_region (xQ rfl (o_fa0 fl39_0 rfl) (xQ rfl (o_ldI (v := r0 0) rfl ts3 mH (by omega) rfl) (xQ rfl (o_gtr rfl rfl) (vm rfl (od' 6 rfl (fun hp1=>?_) fun hp1=>?_)))))
  ·refine xQ rfl (o_fa0 fl39_0 rfl) (xQ rfl (o_ldI (v := r0 0) rfl ts3 mH (by omega) rfl) (xQ rfl (o_lss rfl rfl) (vt rfl (vm rfl (od' 11 rfl (fun hp2=>?_) fun hp2=>?_)))))
   ·refine xQ rfl (o_fa0 fl39_1 rfl) (xQ rfl (o_ldI (v := r0 1) rfl ts3 mH (by omega) rfl) (xQ rfl (o_gtr rfl rfl) (vt rfl (vm rfl (od' 16 rfl (fun hp3=>?_) fun hp3=>?_)))))
    ·exact xQ rfl (o_fa0 fl39_1 rfl) (xQ rfl (o_ldI (v := r0 1) rfl ts3 mH (by omega) rfl) (xQ rfl (o_lss rfl rfl) (vt rfl (va rfl (xo_nil (qk rfl (by simp [hp1,hp2,hp3]) rfl))))))
    ·exact vs rfl (vs rfl (vs rfl (vf rfl (va rfl (xo_nil (qk rfl (by simp [hp1,hp2,hp3]) rfl))))))
   ·exact vs rfl (vs rfl (vs rfl (vf rfl (vm rfl (vs rfl (vs rfl (vs rfl (vf rfl (va rfl (xo_nil (qk rfl (by simp [hp1,hp2]) rfl)))))))))))
  ·refine vs rfl (vs rfl (vs rfl (vf rfl (vm rfl (vs rfl (vs rfl (vs rfl (vf rfl (vm rfl (vs rfl (vs rfl (vs rfl (vf rfl ?_))))))))))))); exact va rfl (xo_nil (qk rfl (by simp [hp1]) rfl))
 ·refine xq_then (xw_ret ?_); subst h
  exact yA Tryz.results68 rfl [] (Kp.st (Kp.new hb1 Kp.nil)) (⟨rfl,rfl⟩)
theorem number_con (n0 : Int) (w : World) (r : Bool) (h : number_S n0 r) : Con Tryz.prog 67 #[iI n0] w (Is (.bool r) []) := by
 unfold number_S at h; refine ce Tryz.func67 rfl Tryz.ntmps67 rfl (wS (va rfl (nS (xw_seq (wk [] rfl [(2,.bool ((decide (0 < n0)) && (decide (n0≤1048576))))] ?_ ?_)))))
 ·refine xw_region (vm rfl (xQ rfl (o_gtr rfl rfl) (vm rfl (od' 5 rfl (fun hp1=>?_) fun hp1=>?_))))
  ·exact vm rfl (xQ rfl (o_leq rfl rfl) (vt rfl (va rfl (xo_nil (qk rfl (by simp [hp1]) rfl)))))
  ·exact vs rfl (vs rfl (vf rfl (va rfl (xo_nil (qk rfl (by simp [hp1]) rfl)))))
 ·refine xq_then (xw_ret ?_); subst h
  exact rO Tryz.results67 rfl (⟨rfl,rfl⟩)
theorem ref04Ok_con (m0 : NI) (w : World) (r : Bool) (h : ref04Ok_S m0 r) : Con Tryz.prog 29 #[AI 28 m0] w (Is (.bool r) []) := by
 unfold ref04Ok_S at h; refine ce Tryz.func29 rfl Tryz.ntmps29 rfl (wS (xr rfl (o_boxA rfl) ?_)); rintro _ _ ⟨b1,hb1,rfl,rfl⟩; refine va rfl (nS (xw_seq (xw_seq (wk [1] rfl [(17,.bool ((decide (m0 0 < 1)) || (decide (11 < m0 0))))] ?_ ?_))))
 ·refine xw_region (xQ rfl (o_fa0 fl45_0 rfl) (xQ rfl (o_ldI (v := m0 0) rfl ts3 mH (by omega) rfl) (xQ rfl (o_lss rfl rfl) (vm rfl (od' 13 rfl (fun hp1=>?_) fun hp1=>?_)))))
  ·exact vs rfl (vs rfl (vs rfl (vt rfl (xo_nil (qk rfl (by simp [hp1]) rfl)))))
  ·exact xQ rfl (o_fa0 fl45_0 rfl) (xQ rfl (o_ldI (v := m0 0) rfl ts3 mH (by omega) rfl) (xQ rfl (o_gtr rfl rfl) (vf rfl (xo_nil (qk rfl (by simp [hp1]) rfl)))))
 ·refine xq_then (wb rfl h (fun hp2 h=>?_) fun hp2 h=>?_)
  ·refine wS (va rfl (nS (xw_ret (xq_then_ret ?_)))); subst h
   exact yA Tryz.results29 rfl [] (Kp.st (Kp.new hb1 Kp.nil)) (⟨rfl,rfl⟩)
  ·refine xw_skip (xq_then (xw_seq (wk [1] rfl [(3,.bool (((decide (m0 1=0)) && (decide (1≤m0 2))) && (decide (m0 2≤64))))] ?_ ?_)))
   ·refine xw_region (xQ rfl (o_fa0 fl45_1 rfl) (xQ rfl (o_ldI (v := m0 1) rfl ts3 mH (by omega) rfl) (xQ rfl (o_eql rfl rfl) (vm rfl (od' 21 rfl (fun hp3=>?_) fun hp3=>?_)))))
    ·refine xQ rfl (o_fa0 fl45_2 rfl) (xQ rfl (o_ldI (v := m0 2) rfl ts3 mH (by omega) rfl) (xQ rfl (o_geq rfl rfl) (vt rfl (vm rfl (od' 26 rfl (fun hp4=>?_) fun hp4=>?_)))))
     ·exact xQ rfl (o_fa0 fl45_2 rfl) (xQ rfl (o_ldI (v := m0 2) rfl ts3 mH (by omega) rfl) (xQ rfl (o_leq rfl rfl) (vt rfl (va rfl (xo_nil (qk rfl (by simp [hp2,hp3,hp4]) rfl))))))
     ·exact vs rfl (vs rfl (vs rfl (vf rfl (va rfl (xo_nil (qk rfl (by simp [hp2,hp3,hp4]) rfl))))))
    ·exact vs rfl (vs rfl (vs rfl (vf rfl (vm rfl (vs rfl (vs rfl (vs rfl (vf rfl (va rfl (xo_nil (qk rfl (by simp [hp2,hp3]) rfl)))))))))))
   ·refine xq_then (xw_seq (wk [1,3] rfl [(4,.bool (((decide (m0 2=0)) && (decide (1≤m0 1))) && (decide (m0 1≤64))))] ?_ ?_))
    ·refine xw_region (xQ rfl (o_fa0 fl45_2 rfl) (xQ rfl (o_ldI (v := m0 2) rfl ts3 mH (by omega) rfl) (xQ rfl (o_eql rfl rfl) (vm rfl (od' 34 rfl (fun hp5=>?_) fun hp5=>?_)))))
     ·refine xQ rfl (o_fa0 fl45_1 rfl) (xQ rfl (o_ldI (v := m0 1) rfl ts3 mH (by omega) rfl) (xQ rfl (o_geq rfl rfl) (vt rfl (vm rfl (od' 39 rfl (fun hp6=>?_) fun hp6=>?_)))))
      ·exact xQ rfl (o_fa0 fl45_1 rfl) (xQ rfl (o_ldI (v := m0 1) rfl ts3 mH (by omega) rfl) (xQ rfl (o_leq rfl rfl) (vt rfl (va rfl (xo_nil (qk rfl (by simp [hp2,hp5,hp6]) rfl))))))
      ·exact vs rfl (vs rfl (vs rfl (vf rfl (va rfl (xo_nil (qk rfl (by simp [hp2,hp5,hp6]) rfl))))))
     ·exact vs rfl (vs rfl (vs rfl (vf rfl (vm rfl (vs rfl (vs rfl (vs rfl (vf rfl (va rfl (xo_nil (qk rfl (by simp [hp2,hp5]) rfl)))))))))))
    ·refine xq_then (wS (va rfl (nR (vm rfl (xQ rfl (o_fa0 fl45_0 rfl) (xQ rfl (o_ldI (v := m0 0) rfl ts3 mH (by omega) rfl) ?_)))))); obtain ⟨ho7,h⟩ := h; refine xQ rfl (o_sub rfl rfl rfl ho7) ?_; obtain ⟨ho8,h⟩ := h; refine xQ rfl (o_ixStr Tryz.underlying9 rfl rfl ho8) (va rfl (nS (xw_seq (xw_seq (wk [1] rfl [(70,.bool ((((decide (strAt (⟨#[111,98,98,111,98,111,98,111,98,98,101]⟩ : ByteArray) ((m0 0) - 1)=111)) && (!(((decide (m0 1=0)) && (decide (1≤m0 2))) && (decide (m0 2≤64))))) || ((decide (strAt (⟨#[111,98,98,111,98,111,98,111,98,98,101]⟩ : ByteArray) ((m0 0) - 1)=98)) && (!(((decide (m0 2=0)) && (decide (1≤m0 1))) && (decide (m0 1≤64)))))) || ((!(((decide (m0 1=0)) && (decide (1≤m0 2))) && (decide (m0 2≤64)))) && (!(((decide (m0 2=0)) && (decide (1≤m0 1))) && (decide (m0 1≤64)))))))] ?_ ?_)))))
     ·refine xw_region (vm rfl (xQ rfl (o_eql rfl rfl) (vm rfl (od' 51 rfl (fun hp9=>?_) fun hp9=>?_))))
      ·refine vm rfl (xQ rfl (o_not rfl) (vt rfl (vm rfl (oc' 55 rfl (fun hp10=>?_) fun hp10=>?_))))
       ·refine vs rfl (vs rfl (vs rfl (vs rfl (vs rfl (vs rfl (vt rfl (vm rfl (vs rfl (vs rfl (vs rfl (vs rfl (vs rfl (vs rfl ?_))))))))))))); exact vt rfl (xo_nil (qk rfl (by simp [hp2,hp9,hp10]) rfl))
       ·refine vm rfl (xQ rfl (o_eql rfl rfl) (vm rfl (xo_val 58 rfl (v' := .bool false) (congrArg Value.bool (by simp; omega)) (vs rfl (vs rfl (vf rfl (vf rfl (vm rfl (vm rfl (xQ rfl (o_not rfl) (vm rfl (xo_val 66 rfl (v' := .bool false) (congrArg Value.bool (nF2 (hp10))) (vs rfl ?_))))))))))))); exact vs rfl (vf rfl (vf rfl (xo_nil (qk rfl (by simp [hp2,hp9,hp10]) rfl))))
      ·refine vs rfl (vs rfl (vf rfl (vm rfl (vm rfl (xQ rfl (o_eql rfl rfl) (vm rfl (od' 58 rfl (fun hp13=>?_) fun hp13=>?_)))))))
       ·refine vm rfl (xQ rfl (o_not rfl) (vt rfl (vf rfl (vm rfl (oc' 63 rfl (fun hp14=>?_) fun hp14=>?_)))))
        ·exact vs rfl (vs rfl (vs rfl (vs rfl (vs rfl (vs rfl (vt rfl (xo_nil (qk rfl (by simp [hp2,hp9,hp13,hp14]) rfl))))))))
        ·refine vm rfl (xQ rfl (o_not rfl) (vm rfl (oc' 66 rfl (fun hp15=>?_) fun hp15=>?_)))
         ·exact vm rfl (xQ rfl (o_not rfl) (vt rfl (vf rfl (xo_nil (qk rfl (by simp [hp2,hp9,hp13,hp14,hp15]) rfl)))))
         ·exact vs rfl (vs rfl (vf rfl (vf rfl (xo_nil (qk rfl (by simp [hp2,hp9,hp13,hp14,hp15]) rfl)))))
       ·refine vs rfl (vs rfl (vf rfl (vf rfl (vm rfl (vm rfl (xQ rfl (o_not rfl) (vm rfl (oc' 66 rfl (fun hp16=>?_) fun hp16=>?_))))))))
        ·exact vm rfl (xQ rfl (o_not rfl) (vt rfl (vf rfl (xo_nil (qk rfl (by simp [hp2,hp9,hp13,hp16]) rfl)))))
        ·exact vs rfl (vs rfl (vf rfl (vf rfl (xo_nil (qk rfl (by simp [hp2,hp9,hp13,hp16]) rfl)))))
     ·refine xq_then (wb rfl h (fun hp17 h=>?_) fun hp17 h=>?_)
      ·refine wS (va rfl (nS (xw_ret (xq_then_ret ?_)))); subst h
       exact yA Tryz.results29 rfl [] (Kp.st (Kp.new hb1 Kp.nil)) (⟨rfl,rfl⟩)
      ·refine xw_skip (xq_then (wS (xQ rfl (o_fa0 fl45_0 rfl) (xQ rfl (o_ldI (v := m0 0) rfl ts3 mH (by omega) rfl) (xQ rfl (o_fa0 fl45_1 rfl) (xQ rfl (o_ldI (v := m0 1) rfl ts3 mH (by omega) rfl) (xQ rfl (o_fa0 fl45_2 rfl) (xQ rfl (o_ldI (v := m0 2) rfl ts3 mH (by omega) rfl) (xQ rfl (o_build fk45 ze45 (.int fl45_0 rfl rfl (.int fl45_1 rfl rfl (.int fl45_2 rfl rfl (.nil _))))) (xr rfl (o_alloc ze45 rfl) ?_)))))))))); rintro _ _ ⟨b7,hb7,rfl,rfl⟩; refine xZ rfl (o_stWI rfl rfl ts45 mH (.here _ _ _ _)) (nS (xw_seq (wS (xQ rfl (o_fa0 fl45_0 rfl) (xQ rfl (o_ldI (v := m0 0) rfl ts3 (mT mH) (by omega) rfl) (xQ rfl (o_eql rfl rfl) (nS (wd rfl h (fun hp18 h=>?_) fun hp18 h=>?_))))))))
       ·refine wS (xQ rfl (o_fa0 fl45_10 rfl) (xQ rfl (o_ldI (v := m0 11) rfl ts3 (mT mH) (by omega) rfl) (xQ rfl (o_fa0 fl45_10 rfl) (xZ rfl (o_stI rfl rfl ts3 mH (by omega) (.here _ _ _ _)) (nR (xQ rfl (o_fa0 fl45_11 rfl) (xQ rfl (o_ldSI rfl ts43 (mT mH) (by omega) (fun _ _=>rfl)) (xQ rfl (o_fa0 fl45_11 rfl) (xZ rfl (o_stSI rfl rfl ts43 mH (by omega) (.here _ _ _ _)) ?_))))))))); refine nR (xQ rfl (o_fa0 fl45_8 rfl) (xQ rfl (o_ldI (v := m0 9) rfl ts3 (mT mH) (by omega) rfl) (xQ rfl (o_fa0 fl45_8 rfl) (xZ rfl (o_stI rfl rfl ts3 mH (by omega) (.here _ _ _ _)) (nR (xQ rfl (o_fa0 fl45_9 rfl) (xQ rfl (o_ldI (v := m0 10) rfl ts3 (mT mH) (by omega) rfl) ?_))))))); refine xQ rfl (o_fa0 fl45_9 rfl) (xZ rfl (o_stI rfl rfl ts3 mH (by omega) (.here _ _ _ _)) (nS (xw_seq (xw_seq (wk [1,7] rfl [(116,.bool (((((decide (m0 11 < 1)) || (decide (8 < m0 11))) || (!((number_F (m0 9))))) || (decide (m0 10 < 0))) || (decide (1048576 < m0 10))))] ?_ ?_)))))
        ·refine xw_region (xQ rfl (o_fa0 fl45_10 rfl) (xQ rfl (o_ldI (v := m0 11) rfl ts3 (mT mH) (by omega) rfl) (xQ rfl (o_lss rfl rfl) (vm rfl (od' 96 rfl (fun hp19=>?_) fun hp19=>?_)))))
         ·refine vs rfl (vs rfl (vs rfl (vt rfl (vm rfl (vs rfl (vs rfl (vs rfl (vs rfl (vt rfl (vm rfl (vs rfl (vs rfl (vs rfl ?_))))))))))))); exact vt rfl (vm rfl (vs rfl (vs rfl (vs rfl (vt rfl (xo_nil (qk rfl (by simp [hp2,hp17,hp18,hp19]) rfl)))))))
         ·refine xQ rfl (o_fa0 fl45_10 rfl) (xQ rfl (o_ldI (v := m0 11) rfl ts3 (mT mH) (by omega) rfl) (xQ rfl (o_gtr rfl rfl) (vf rfl (vm rfl (od' 101 rfl (fun hp20=>?_) fun hp20=>?_)))))
          ·refine vs rfl (vs rfl (vs rfl (vs rfl (vt rfl (vm rfl (vs rfl (vs rfl (vs rfl (vt rfl (vm rfl (vs rfl (vs rfl (vs rfl ?_))))))))))))); exact vt rfl (xo_nil (qk rfl (by simp [hp2,hp17,hp18,hp19,hp20]) rfl))
          ·refine xQ rfl (o_fa0 fl45_8 rfl) (xQ rfl (o_ldI (v := m0 9) rfl ts3 (mT mH) (by omega) rfl) (xc rfl kf67 rfl (fun w1 hw1=>number_con _ w1 _ (number_ok _)) (xQ rfl (o_not rfl) (vf rfl (vm rfl (oc' 107 rfl (fun hp21=>?_) fun hp21=>?_))))))
           ·exact vs rfl (vs rfl (vs rfl (vt rfl (vm rfl (vs rfl (vs rfl (vs rfl (vt rfl (xo_nil (qk rfl (by simp [hp2,hp17,hp18,hp19,hp20,hp21]) rfl))))))))))
           ·refine xQ rfl (o_fa0 fl45_9 rfl) (xQ rfl (o_ldI (v := m0 10) rfl ts3 (mT mH) (by omega) rfl) (xQ rfl (o_lss rfl rfl) (vf rfl (vm rfl (od' 112 rfl (fun hp22=>?_) fun hp22=>?_)))))
            ·exact vs rfl (vs rfl (vs rfl (vt rfl (xo_nil (qk rfl (by simp [hp2,hp17,hp18,hp19,hp20,hp21,hp22]) rfl)))))
            ·exact xQ rfl (o_fa0 fl45_9 rfl) (xQ rfl (o_ldI (v := m0 10) rfl ts3 (mT mH) (by omega) rfl) (xQ rfl (o_gtr rfl rfl) (vf rfl (xo_nil (qk rfl (by simp [hp2,hp17,hp18,hp19,hp20,hp21,hp22]) rfl)))))
        ·refine xq_then (wb rfl h (fun hp23 h=>?_) fun hp23 h=>?_)
         ·refine wS (va rfl (nS (xw_ret (xq_then_ret (xq_then_ret ?_))))); subst h
          exact yA Tryz.results29 rfl [] (Kp.st (Kp.new hb7 (Kp.new hb1 Kp.nil))) (⟨rfl,rfl⟩)
         ·refine xw_skip (xq_then (xw_seq (wS (va rfl (nS (xw_block ?_)))))); obtain ⟨x1,hx1,h⟩ := h; refine xw_wh (fun (i8 : Int) e H=>e=[(1,.pointer (some ⟨b1,0,none⟩)),(7,.pointer (some ⟨b7,0,none⟩)),(8,iI i8)]∧H=(b7,BK 28 (iv (updI (updI (updRI (updI (updI (updI (updI (fun _=>0) 0 (m0 0)) 1 (m0 1)) 2 (m0 2)) 11 (m0 11)) 12 16 (fun i=>m0 (12 + i))) 9 (m0 9)) 10 (m0 10))) 45)::((b1,BK 28 (iv m0) 45)::([]))) (fun x ex e H=>match x with | .inl _=>ex=.exit 0∧e=[(1,.pointer (some ⟨b1,0,none⟩)),(7,.pointer (some ⟨b7,0,none⟩))]∧H=(b7,BK 28 (iv (updI (updI (updRI (updI (updI (updI (updI (fun _=>0) 0 (m0 0)) 1 (m0 1)) 2 (m0 2)) 11 (m0 11)) 12 16 (fun i=>m0 (12 + i))) 9 (m0 9)) 10 (m0 10))) 45)::((b1,BK 28 (iv m0) 45)::([])) | .inr _=>ex=.ret∧e=[(2,.bool false)]∧H=(b7,BK 28 (iv (updI (updI (updRI (updI (updI (updI (updI (fun _=>0) 0 (m0 0)) 1 (m0 1)) 2 (m0 2)) 11 (m0 11)) 12 16 (fun i=>m0 (12 + i))) 9 (m0 9)) 10 (m0 10))) 45)::((b1,BK 28 (iv m0) 45)::([]))) hx1 ⟨[(1,.pointer (some ⟨b1,0,none⟩)),(7,.pointer (some ⟨b7,0,none⟩)),(8,iI 0)],(b7,_)::((b1,_)::([])),(sl rfl),fun _ h=>h,⟨rfl,rfl⟩⟩ ?_ ?_
          ·rintro i8 o _ _ ⟨rfl,rfl⟩ hb; have h : ref04Ok_l1 m0 i8 o := hb
           clear hb; unfold ref04Ok_l1 at h; refine xw_seq (wS (vm rfl (xQ rfl (o_lss rfl rfl) (nS (wd rfl h (fun hp24 h=>?_) fun hp24 h=>?_)))))
           ·refine xw_skip (xq_then (xw_seq (xw_block (xw_seq (wS (vm rfl (xQ rfl (o_fa0 fl45_10 rfl) (xQ rfl (o_ldI (v := m0 11) rfl ts3 (mT mH) (by omega) rfl) (xQ rfl (o_geq rfl rfl) (nS (wd rfl h (fun hp25 h=>?_) fun hp25 h=>?_)))))))))))
            ·refine xw_seq (xw_seq ?_); obtain ⟨ho26,ho27,h⟩ := h; refine wk [1,7,8] rfl [(138,.bool ((!(decide (m0 (12 + (i8.toNat * 2))=0))) || (!(decide (m0 ((12 + (i8.toNat * 2)) + 1)=0)))))] ?_ ?_
             ·refine xw_region (vm rfl (xQ rfl (o_fa0 fl45_11 rfl) (xQ rfl (o_ixa ea43 rfl rfl (ho26) rfl) (xQ rfl (o_fa fl42_0 rfl) (xQ rfl (o_ldI (v := m0 (12 + (i8.toNat * 2))) rfl ts3 (mT mH) (by have := (ho26); omega) rfl) (xQ rfl (o_neq rfl rfl) (vm rfl (on' 131 rfl (fun hp28=>?_) fun hp28=>?_))))))))
              ·exact vs rfl (vs rfl (vs rfl (vs rfl (vs rfl (vs rfl (vt rfl (xo_nil (qk rfl (by simp [hp24,hp25,hp28]) rfl))))))))
              ·exact vm rfl (xQ rfl (o_fa0 fl45_11 rfl) (xQ rfl (o_ixa ea43 rfl rfl (ho27 (by first | exact (nF1 hp28) | (simp only [dT hp24,dT hp25,dT hp28,if_pos hp24,if_pos hp25,if_pos hp28,bS,reduceIte,Bool.false_eq_true]; done) | (simp [hp24,hp25,hp28]; done) | (simp_all; done))) rfl) (xQ rfl (o_fa fl42_1 rfl) (xQ rfl (o_ldI (v := m0 ((12 + (i8.toNat * 2)) + 1)) rfl ts3 (mT mH) (by have := (ho27 (by first | exact (nF1 hp28) | (simp only [dT hp24,dT hp25,dT hp28,if_pos hp24,if_pos hp25,if_pos hp28,bS,reduceIte,Bool.false_eq_true]; done) | (simp [hp24,hp25,hp28]; done) | (simp_all; done))); omega) rfl) (xQ rfl (o_neq rfl rfl) (vf rfl (xo_nil (qk rfl (by simp [hp24,hp25,hp28]) rfl))))))))
             ·refine xq_then (wb rfl h (fun hp29 h=>?_) fun hp29 h=>?_)
              ·exact wS (va rfl (nS (xw_ret (xq_then_ret (xq_then_ret (xq_blk_ret (xq_then_ret (xq_out (r := (.inr () : (Unit) ⊕ (Unit))) (e' := [(2,.bool false)]) ((b7,_)::((b1,_)::([]))) (sl rfl) (fun _ h=>h) h (by intro hh; cases hh) ⟨rfl,rfl,rfl⟩))))))))
              ·refine xw_skip (xq_then (xw_exit (xq_then_exit (xq_blk_eq (xq_then (xw_region (vm rfl ?_))))))); obtain ⟨ho30,h⟩ := h; exact xQ rfl (o_add rfl rfl rfl ho30) (va rfl (xo_nil (xq_next (s' := (i8 + 1 : Int)) (e' := [(1,.pointer (some ⟨b1,0,none⟩)),(7,.pointer (some ⟨b7,0,none⟩)),(8,iI (i8 + 1))]) ((b7,_)::((b1,_)::([]))) (sl rfl) (fun _ h=>h) h ⟨rfl,rfl⟩)))
            ·refine xw_skip (xq_then (xw_seq (xw_seq ?_))); obtain ⟨ho31,ho32,h⟩ := h; refine wk [1,7,8] rfl [(154,.bool ((!((number_F (m0 (12 + (i8.toNat * 2)))))) || (!((number_F (m0 ((12 + (i8.toNat * 2)) + 1)))))))] ?_ ?_
             ·refine xw_region (vm rfl (xQ rfl (o_fa0 fl45_11 rfl) (xQ rfl (o_ixa ea43 rfl rfl (ho31) rfl) (xQ rfl (o_fa fl42_0 rfl) (xQ rfl (o_ldI (v := m0 (12 + (i8.toNat * 2))) rfl ts3 (mT mH) (by have := (ho31); omega) rfl) (xc rfl kf67 rfl (fun w1 hw1=>number_con _ w1 _ (number_ok _)) (xQ rfl (o_not rfl) (vm rfl (oc' 146 rfl (fun hp33=>?_) fun hp33=>?_)))))))))
              ·exact vs rfl (vs rfl (vs rfl (vs rfl (vs rfl (vs rfl (vs rfl (vt rfl (xo_nil (qk rfl (by simp [hp24,hp25,hp33]) rfl)))))))))
              ·exact vm rfl (xQ rfl (o_fa0 fl45_11 rfl) (xQ rfl (o_ixa ea43 rfl rfl (ho32 (by first | exact (nF2 hp33) | (simp only [dT hp24,dF hp25,hp33,if_pos hp24,if_neg hp25,if_pos hp33,bS,reduceIte,Bool.false_eq_true]; done) | (simp [hp24,hp25,hp33]; done) | (simp_all; done))) rfl) (xQ rfl (o_fa fl42_1 rfl) (xQ rfl (o_ldI (v := m0 ((12 + (i8.toNat * 2)) + 1)) rfl ts3 (mT mH) (by have := (ho32 (by first | exact (nF2 hp33) | (simp only [dT hp24,dF hp25,hp33,if_pos hp24,if_neg hp25,if_pos hp33,bS,reduceIte,Bool.false_eq_true]; done) | (simp [hp24,hp25,hp33]; done) | (simp_all; done))); omega) rfl) (xc rfl kf67 rfl (fun w1 hw1=>number_con _ w1 _ (number_ok _)) (xQ rfl (o_not rfl) (vf rfl (xo_nil (qk rfl (by simp [hp24,hp25,hp33]) rfl)))))))))
             ·refine xq_then (wb rfl h (fun hp34 h=>?_) fun hp34 h=>?_)
              ·exact wS (va rfl (nS (xw_ret (xq_then_ret (xq_blk_ret (xq_then_ret (xq_out (r := (.inr () : (Unit) ⊕ (Unit))) (e' := [(2,.bool false)]) ((b7,_)::((b1,_)::([]))) (sl rfl) (fun _ h=>h) h (by intro hh; cases hh) ⟨rfl,rfl,rfl⟩)))))))
              ·refine xw_skip (xq_then (wS (va rfl (nS (xw_block ?_))))); obtain ⟨x2,hx2,h⟩ := h; refine xw_wh (fun (k9 : Int) e H=>e=[(1,.pointer (some ⟨b1,0,none⟩)),(7,.pointer (some ⟨b7,0,none⟩)),(8,iI i8),(9,iI k9)]∧H=(b7,BK 28 (iv (updI (updI (updRI (updI (updI (updI (updI (fun _=>0) 0 (m0 0)) 1 (m0 1)) 2 (m0 2)) 11 (m0 11)) 12 16 (fun i=>m0 (12 + i))) 9 (m0 9)) 10 (m0 10))) 45)::((b1,BK 28 (iv m0) 45)::([]))) (fun x ex e H=>match x with | .inl _=>ex=.exit 2∧e=[(1,.pointer (some ⟨b1,0,none⟩)),(7,.pointer (some ⟨b7,0,none⟩)),(8,iI i8)]∧H=(b7,BK 28 (iv (updI (updI (updRI (updI (updI (updI (updI (fun _=>0) 0 (m0 0)) 1 (m0 1)) 2 (m0 2)) 11 (m0 11)) 12 16 (fun i=>m0 (12 + i))) 9 (m0 9)) 10 (m0 10))) 45)::((b1,BK 28 (iv m0) 45)::([])) | .inr _=>ex=.ret∧e=[(2,.bool false)]∧H=(b7,BK 28 (iv (updI (updI (updRI (updI (updI (updI (updI (fun _=>0) 0 (m0 0)) 1 (m0 1)) 2 (m0 2)) 11 (m0 11)) 12 16 (fun i=>m0 (12 + i))) 9 (m0 9)) 10 (m0 10))) 45)::((b1,BK 28 (iv m0) 45)::([]))) hx2 ⟨[(1,.pointer (some ⟨b1,0,none⟩)),(7,.pointer (some ⟨b7,0,none⟩)),(8,iI i8),(9,iI 0)],(b7,_)::((b1,_)::([])),(sl rfl),fun _ h=>h,⟨rfl,rfl⟩⟩ ?_ ?_
               ·rintro k9 o _ _ ⟨rfl,rfl⟩ hb; have h : ref04Ok_l2 m0 i8 k9 o := hb
                clear hb; unfold ref04Ok_l2 at h; refine xw_seq (wS (vm rfl (vm rfl (xQ rfl (o_lss rfl rfl) (nS (wd rfl h (fun hp35 h=>?_) fun hp35 h=>?_))))))
                ·refine xw_skip (xq_then (xw_seq (xw_block (xw_seq (xd_start (by kernel_rfl) (by kernel_rfl) (fun hok=>?_)))))); refine xb hok 0 [9] rfl (by kernel_rfl) (fun _ hK=>o_mv rfl) (xb hok 1 [1] rfl (by kernel_rfl) (fun _ hK=>o_fa0 fl45_11 rfl) ?_); obtain ⟨ho36,h⟩ := h; refine xb hok 2 [161,160] rfl (by kernel_rfl) (fun _ hK=>o_ixa ea43 rfl rfl ho36 rfl) (xb hok 3 [162] rfl (by kernel_rfl) (fun _ hK=>o_fa fl42_0 rfl) (xbr hok 4 [163] ((b1,_)::([])) (rsC (mT mH) rsN) rfl (by kernel_rfl) (fun _ hy hK=>o_ldI (v := m0 (12 + (k9.toNat * 2))) rfl ts3 (hy _ mH) (by have := ho36; omega) rfl) (xb hok 5 [8] rfl (by kernel_rfl) (fun _ hK=>o_mv rfl) (xb hok 6 [1] rfl (by kernel_rfl) (fun _ hK=>o_fa0 fl45_11 rfl) ?_)))); obtain ⟨ho37,h⟩ := h; refine xb hok 7 [166,165] rfl (by kernel_rfl) (fun _ hK=>o_ixa ea43 rfl rfl ho37 rfl) (xb hok 8 [167] rfl (by kernel_rfl) (fun _ hK=>o_fa fl42_0 rfl) (xbr hok 9 [168] ((b1,_)::([])) (rsC (mT mH) rsN) rfl (by kernel_rfl) (fun _ hy hK=>o_ldI (v := m0 (12 + (i8.toNat * 2))) rfl ts3 (hy _ mH) (by have := ho37; omega) rfl) (xb hok 10 [164,169] rfl (by kernel_rfl) (fun _ hK=>o_eql rfl rfl) (xd_end hok (by kernel_rfl) (xq_then (wd rfl h (fun hp38 h=>?_) fun hp38 h=>?_))))))
                 ·exact wS (va rfl (nS (xw_ret (xq_blk_ret (xq_then_ret (xq_out (r := (.inr () : (Unit) ⊕ (Unit))) (e' := [(2,.bool false)]) ((b7,_)::((b1,_)::([]))) (sl rfl) (fun _ h=>h) h (by intro hh; cases hh) ⟨rfl,rfl,rfl⟩))))))
                 ·refine xw_skip (xq_blk 3 (xq_then (xw_region (vm rfl ?_)))); obtain ⟨ho39,h⟩ := h; exact xQ rfl (o_add rfl rfl rfl ho39) (va rfl (xo_nil (xq_next (s' := (k9 + 1 : Int)) (e' := [(1,.pointer (some ⟨b1,0,none⟩)),(7,.pointer (some ⟨b7,0,none⟩)),(8,iI i8),(9,iI (k9 + 1))]) ((b7,_)::((b1,_)::([]))) (sl rfl) (fun _ h=>h) h ⟨rfl,rfl⟩)))
                ·exact xw_exit (xq_then_exit (xq_out (r := (.inl () : (Unit) ⊕ (Unit))) (e' := [(1,.pointer (some ⟨b1,0,none⟩)),(7,.pointer (some ⟨b7,0,none⟩)),(8,iI i8)]) ((b7,_)::((b1,_)::([]))) (sl rfl) (fun _ h=>h) h (by intro hh; cases hh) ⟨rfl,rfl,rfl⟩))
               ·rcases x2 with _ | x2
                ·rintro _ _ _ ⟨rfl,rfl,rfl⟩; replace h : ref04Ok_k2a i8 o := h; unfold ref04Ok_k2a at h; refine xq_blk_eq (xq_blk 1 (xq_then (xw_region (vm rfl ?_)))); obtain ⟨ho40,h⟩ := h; exact xQ rfl (o_add rfl rfl rfl ho40) (va rfl (xo_nil (xq_next (s' := (i8 + 1 : Int)) (e' := [(1,.pointer (some ⟨b1,0,none⟩)),(7,.pointer (some ⟨b7,0,none⟩)),(8,iI (i8 + 1))]) ((b7,_)::((b1,_)::([]))) (sl rfl) (fun _ h=>h) h ⟨rfl,rfl⟩)))
                cases x2
                rintro _ _ _ ⟨rfl,rfl,rfl⟩; replace h : ref04Ok_k2b o := h; unfold ref04Ok_k2b at h; exact xq_blk_ret (xq_blk_ret (xq_then_ret (xq_out (r := (.inr () : (Unit) ⊕ (Unit))) (e' := [(2,.bool false)]) ((b7,_)::((b1,_)::([]))) (sl rfl) (fun _ h=>h) h (by intro hh; cases hh) ⟨rfl,rfl,rfl⟩)))
           ·exact xw_exit (xq_then_exit (xq_out (r := (.inl () : (Unit) ⊕ (Unit))) (e' := [(1,.pointer (some ⟨b1,0,none⟩)),(7,.pointer (some ⟨b7,0,none⟩))]) ((b7,_)::((b1,_)::([]))) (sl rfl) (fun _ h=>h) h (by intro hh; cases hh) ⟨rfl,rfl,rfl⟩))
          ·rcases x1 with _ | x1
           ·rintro _ _ _ ⟨rfl,rfl,rfl⟩; replace h : ref04Ok_k1a m0 r := h; unfold ref04Ok_k1a at h; refine xq_blk_eq (xq_then (wS (xQ rfl (o_ldW rfl ts45 (mT mH)) (xQ rfl (o_ldW rfl ts45 mH) (xQ rfl (o_eqlA eq45 rfl rfl) (va rfl (nS (xw_ret (xq_then_ret ?_))))))))); subst h
            exact yA Tryz.results29 rfl [] (Kp.st (Kp.new hb7 (Kp.new hb1 Kp.nil))) (⟨rfl,rfl⟩)
           cases x1
           rintro _ _ _ ⟨rfl,rfl,rfl⟩; replace h : ref04Ok_k1b r := h; unfold ref04Ok_k1b at h; refine xq_blk_ret (xq_then_ret (xq_then_ret ?_)); subst h
           exact yA Tryz.results29 rfl [] (Kp.st (Kp.new hb7 (Kp.new hb1 Kp.nil))) (⟨rfl,rfl⟩)
       ·refine xw_skip (xq_then (wS (xQ rfl (o_fa0 fl45_3 rfl) (xQ rfl (o_ldI (v := m0 3) rfl ts3 (mT mH) (by omega) rfl) (xQ rfl (o_fa0 fl45_3 rfl) (xZ rfl (o_stI rfl rfl ts3 mH (by omega) (.here _ _ _ _)) (nS (xw_seq (wS (xQ rfl (o_fa0 fl45_3 rfl) ?_)))))))))); refine xQ rfl (o_ldI (v := m0 3) rfl ts3 (mT mH) (by omega) rfl) (xc rfl kf67 rfl (fun w1 hw1=>number_con _ w1 _ (number_ok _)) (xQ rfl (o_not rfl) (nS (wc rfl h (fun hp41 h=>?_) fun hp41 h=>?_))))
        ·refine wS (va rfl (nS (xw_ret (xq_then_ret ?_)))); subst h
         exact yA Tryz.results29 rfl [] (Kp.st (Kp.new hb7 (Kp.new hb1 Kp.nil))) (⟨rfl,rfl⟩)
        ·refine xw_skip (xq_then (xw_seq (wS (xQ rfl (o_fa0 fl45_0 rfl) (xQ rfl (o_ldI (v := m0 0) rfl ts3 (mT mH) (by omega) rfl) (xQ rfl (o_leq rfl rfl) (nS (wd rfl h (fun hp42 h=>?_) fun hp42 h=>?_))))))))
         ·refine wS (xQ rfl (o_fa0 fl45_4 rfl) (xQ rfl (o_ldI (v := m0 4) rfl ts3 (mT mH) (by omega) rfl) (xQ rfl (o_fa0 fl45_4 rfl) (xZ rfl (o_stI rfl rfl ts3 mH (by omega) (.here _ _ _ _)) (nR (xQ rfl (o_fa0 fl45_4 rfl) (xQ rfl (o_ldI (v := m0 4) rfl ts3 (mT mH) (by omega) rfl) (xc rfl kf67 rfl (fun w1 hw1=>number_con _ w1 _ (number_ok _)) (xQ rfl (o_not rfl) ?_))))))))); refine nS (wc rfl h (fun hp43 h=>?_) fun hp43 h=>?_)
          ·refine wS (va rfl (nS (xw_ret (xq_then_ret ?_)))); subst h
           exact yA Tryz.results29 rfl [] (Kp.st (Kp.new hb7 (Kp.new hb1 Kp.nil))) (⟨rfl,rfl⟩)
          ·refine xw_skip (xq_then (xw_seq (wS (xQ rfl (o_fa0 fl45_0 rfl) (xQ rfl (o_ldI (v := m0 0) rfl ts3 (mT mH) (by omega) rfl) (xQ rfl (o_leq rfl rfl) (nS (wd rfl h (fun hp44 h=>?_) fun hp44 h=>?_))))))))
           ·refine wS (xQ rfl (o_fa0 fl45_5 rfl) (xQ rfl (o_ldSI rfl ts39 (mT mH) (by omega) (fun _ _=>rfl)) (xQ rfl (o_fa0 fl45_5 rfl) (xZ rfl (o_stSI rfl rfl ts39 mH (by omega) (.here _ _ _ _)) (nR (xQ rfl (o_fa0 fl45_6 rfl) (xQ rfl (o_ldI (v := m0 7) rfl ts40 (mT mH) (by omega) rfl) (xQ rfl (o_fa0 fl45_6 rfl) (xZ rfl (o_stI rfl rfl ts40 mH (by omega) (.here _ _ _ _)) ?_))))))))); refine nS (xw_seq (wk [1,7] rfl [(213,.bool (((!((ref02Ok_F (fun i=>m0 (5 + i))))) || (decide (m0 7 < 1))) || (decide (4 < m0 7))))] ?_ ?_))
            ·refine xw_region (xQ rfl (o_fa0 fl45_5 rfl) (xQ rfl (o_ldSI rfl ts39 (mT mH) (by omega) (fun _ _=>rfl)) (xc rfl kf68 rfl (fun w1 hw1=>ref02Ok_con _ w1 _ (ref02Ok_ok _)) (xQ rfl (o_not rfl) (vm rfl (oc' 204 rfl (fun hp45=>?_) fun hp45=>?_))))))
             ·exact vs rfl (vs rfl (vs rfl (vt rfl (vm rfl (vs rfl (vs rfl (vs rfl (vt rfl (xo_nil (qk rfl (by simp [hp2,hp17,hp18,hp41,hp42,hp43,hp44,hp45]) rfl))))))))))
             ·refine xQ rfl (o_fa0 fl45_6 rfl) (xQ rfl (o_ldI (v := m0 7) rfl ts40 (mT mH) (by omega) rfl) (xQ rfl (o_lss rfl rfl) (vf rfl (vm rfl (od' 209 rfl (fun hp46=>?_) fun hp46=>?_)))))
              ·exact vs rfl (vs rfl (vs rfl (vt rfl (xo_nil (qk rfl (by simp [hp2,hp17,hp18,hp41,hp42,hp43,hp44,hp45,hp46]) rfl)))))
              ·exact xQ rfl (o_fa0 fl45_6 rfl) (xQ rfl (o_ldI (v := m0 7) rfl ts40 (mT mH) (by omega) rfl) (xQ rfl (o_gtr rfl rfl) (vf rfl (xo_nil (qk rfl (by simp [hp2,hp17,hp18,hp41,hp42,hp43,hp44,hp45,hp46]) rfl)))))
            ·refine xq_then (wb rfl h (fun hp47 h=>?_) fun hp47 h=>?_)
             ·refine wS (va rfl (nS (xw_ret (xq_then_ret ?_)))); subst h
              exact yA Tryz.results29 rfl [] (Kp.st (Kp.new hb7 (Kp.new hb1 Kp.nil))) (⟨rfl,rfl⟩)
             ·refine xw_skip (xq_then (xw_seq (wS (xQ rfl (o_fa0 fl45_0 rfl) (xQ rfl (o_ldI (v := m0 0) rfl ts3 (mT mH) (by omega) rfl) (xQ rfl (o_eql rfl rfl) (nS (wd rfl h (fun hp48 h=>?_) fun hp48 h=>?_))))))))
              ·refine wS (xQ rfl (o_fa0 fl45_7 rfl) (xQ rfl (o_ldI (v := m0 8) rfl ts3 (mT mH) (by omega) rfl) (xQ rfl (o_fa0 fl45_7 rfl) (xZ rfl (o_stI rfl rfl ts3 mH (by omega) (.here _ _ _ _)) (nS (xw_seq (wk [1,7] rfl [(227,.bool ((decide (m0 8 < 1)) || (decide (15 < m0 8))))] ?_ ?_)))))))
               ·refine xw_region (xQ rfl (o_fa0 fl45_7 rfl) (xQ rfl (o_ldI (v := m0 8) rfl ts3 (mT mH) (by omega) rfl) (xQ rfl (o_lss rfl rfl) (vm rfl (od' 223 rfl (fun hp49=>?_) fun hp49=>?_)))))
                ·exact vs rfl (vs rfl (vs rfl (vt rfl (xo_nil (qk rfl (by simp [hp2,hp17,hp18,hp41,hp42,hp43,hp44,hp47,hp48,hp49]) rfl)))))
                ·exact xQ rfl (o_fa0 fl45_7 rfl) (xQ rfl (o_ldI (v := m0 8) rfl ts3 (mT mH) (by omega) rfl) (xQ rfl (o_gtr rfl rfl) (vf rfl (xo_nil (qk rfl (by simp [hp2,hp17,hp18,hp41,hp42,hp43,hp44,hp47,hp48,hp49]) rfl)))))
               ·refine xq_then (wb rfl h (fun hp50 h=>?_) fun hp50 h=>?_)
                ·refine wS (va rfl (nS (xw_ret (xq_then_ret ?_)))); subst h
                 exact yA Tryz.results29 rfl [] (Kp.st (Kp.new hb7 (Kp.new hb1 Kp.nil))) (⟨rfl,rfl⟩)
                ·refine xw_skip (xq_then (xw_seq (xw_seq (wk [1,7] rfl [(235,.bool ((decide (m0 0=5)) || (decide (m0 0=6))))] ?_ ?_))))
                 ·exact xw_region (xQ rfl (o_fa0 fl45_0 rfl) (xQ rfl (o_ldI (v := m0 0) rfl ts3 (mT mH) (by omega) rfl) (xQ rfl (o_eql rfl rfl) (vm rfl (xo_val 231 rfl (v' := .bool false) (congrArg Value.bool (by simp; omega)) (xQ rfl (o_fa0 fl45_0 rfl) (xQ rfl (o_ldI (v := m0 0) rfl ts3 (mT mH) (by omega) rfl) (xQ rfl (o_eql rfl rfl) (vf rfl (xo_nil (qk rfl (by simp [hp2,hp17,hp18,hp41,hp42,hp43,hp44,hp47,hp48,hp50]) rfl)))))))))))
                 ·refine xq_then (wb rfl h (fun hp52 h=>?_) fun hp52 h=>?_)
                  ·refine wS (xQ rfl (o_fa0 fl45_7 rfl) (xQ rfl (o_ldI (v := m0 8) rfl ts3 (mT mH) (by omega) rfl) (xQ rfl (o_fa0 fl45_7 rfl) (xZ rfl (o_stI rfl rfl ts3 mH (by omega) (.here _ _ _ _)) (nS (xw_seq (wk [1,7] rfl [(246,.bool ((!(decide (m0 8=0))) && (!(decide (m0 8=1)))))] ?_ ?_)))))))
                   ·refine xw_region (xQ rfl (o_fa0 fl45_7 rfl) (xQ rfl (o_ldI (v := m0 8) rfl ts3 (mT mH) (by omega) rfl) (xQ rfl (o_neq rfl rfl) (vm rfl (on' 242 rfl (fun hp53=>?_) fun hp53=>?_)))))
                    ·exact xQ rfl (o_fa0 fl45_7 rfl) (xQ rfl (o_ldI (v := m0 8) rfl ts3 (mT mH) (by omega) rfl) (xQ rfl (o_neq rfl rfl) (vt rfl (xo_nil (qk rfl (by simp [hp2,hp17,hp18,hp41,hp42,hp43,hp44,hp47,hp48,hp50,hp52,hp53]) rfl)))))
                    ·exact vs rfl (vs rfl (vs rfl (vf rfl (xo_nil (qk rfl (by simp [hp2,hp17,hp18,hp41,hp42,hp43,hp44,hp47,hp48,hp50,hp52,hp53]) rfl)))))
                   ·refine xq_then (wb rfl h (fun hp54 h=>?_) fun hp54 h=>?_)
                    ·refine wS (va rfl (nS (xw_ret (xq_then_ret ?_)))); subst h
                     exact yA Tryz.results29 rfl [] (Kp.st (Kp.new hb7 (Kp.new hb1 Kp.nil))) (⟨rfl,rfl⟩)
                    ·refine xw_skip (xq_then (xw_seq (wS (xQ rfl (o_fa0 fl45_0 rfl) (xQ rfl (o_ldI (v := m0 0) rfl ts3 (mT mH) (by omega) rfl) (xQ rfl (o_eql rfl rfl) (nS (xw_cond_f rfl (by simp; omega) (xw_skip (xq_then (xw_seq ?_))))))))))); refine xw_region (xQ rfl (o_ldW rfl ts45 (mT mH)) (xQ rfl (o_ldW rfl ts45 mH) (xQ rfl (o_eqlA eq45 rfl rfl) (va rfl (nS (xw_ret ?_)))))); subst h
                     exact yA Tryz.results29 rfl [] (Kp.st (Kp.new hb7 (Kp.new hb1 Kp.nil))) (⟨rfl,rfl⟩)
                  ·refine xw_skip (xq_then (xw_seq (wS (xQ rfl (o_fa0 fl45_0 rfl) (xQ rfl (o_ldI (v := m0 0) rfl ts3 (mT mH) (by omega) rfl) (xQ rfl (o_eql rfl rfl) (nS (xw_cond_f rfl (by simp; omega) (xw_skip (xq_then (xw_seq ?_))))))))))); refine xw_region (xQ rfl (o_ldW rfl ts45 (mT mH)) (xQ rfl (o_ldW rfl ts45 mH) (xQ rfl (o_eqlA eq45 rfl rfl) (va rfl (nS (xw_ret ?_)))))); subst h
                   exact yA Tryz.results29 rfl [] (Kp.st (Kp.new hb7 (Kp.new hb1 Kp.nil))) (⟨rfl,rfl⟩)
              ·refine xw_skip (xq_then (xw_seq (xw_seq (wk [1,7] rfl [(235,.bool ((decide (m0 0=5)) || (decide (m0 0=6))))] ?_ ?_))))
               ·refine xw_region (xQ rfl (o_fa0 fl45_0 rfl) (xQ rfl (o_ldI (v := m0 0) rfl ts3 (mT mH) (by omega) rfl) (xQ rfl (o_eql rfl rfl) (vm rfl (od' 231 rfl (fun hp55=>?_) fun hp55=>?_)))))
                ·exact vs rfl (vs rfl (vs rfl (vt rfl (xo_nil (qk rfl (by simp [hp2,hp17,hp18,hp41,hp42,hp43,hp44,hp47,hp48,hp55]) rfl)))))
                ·exact xQ rfl (o_fa0 fl45_0 rfl) (xQ rfl (o_ldI (v := m0 0) rfl ts3 (mT mH) (by omega) rfl) (xQ rfl (o_eql rfl rfl) (vf rfl (xo_nil (qk rfl (by simp [hp2,hp17,hp18,hp41,hp42,hp43,hp44,hp47,hp48,hp55]) rfl)))))
               ·refine xq_then (wb rfl h (fun hp56 h=>?_) fun hp56 h=>?_)
                ·refine wS (xQ rfl (o_fa0 fl45_7 rfl) (xQ rfl (o_ldI (v := m0 8) rfl ts3 (mT mH) (by omega) rfl) (xQ rfl (o_fa0 fl45_7 rfl) (xZ rfl (o_stI rfl rfl ts3 mH (by omega) (.here _ _ _ _)) (nS (xw_seq (wk [1,7] rfl [(246,.bool ((!(decide (m0 8=0))) && (!(decide (m0 8=1)))))] ?_ ?_)))))))
                 ·refine xw_region (xQ rfl (o_fa0 fl45_7 rfl) (xQ rfl (o_ldI (v := m0 8) rfl ts3 (mT mH) (by omega) rfl) (xQ rfl (o_neq rfl rfl) (vm rfl (on' 242 rfl (fun hp57=>?_) fun hp57=>?_)))))
                  ·exact xQ rfl (o_fa0 fl45_7 rfl) (xQ rfl (o_ldI (v := m0 8) rfl ts3 (mT mH) (by omega) rfl) (xQ rfl (o_neq rfl rfl) (vt rfl (xo_nil (qk rfl (by simp [hp2,hp17,hp18,hp41,hp42,hp43,hp44,hp47,hp48,hp56,hp57]) rfl)))))
                  ·exact vs rfl (vs rfl (vs rfl (vf rfl (xo_nil (qk rfl (by simp [hp2,hp17,hp18,hp41,hp42,hp43,hp44,hp47,hp48,hp56,hp57]) rfl)))))
                 ·refine xq_then (wb rfl h (fun hp58 h=>?_) fun hp58 h=>?_)
                  ·refine wS (va rfl (nS (xw_ret (xq_then_ret ?_)))); subst h
                   exact yA Tryz.results29 rfl [] (Kp.st (Kp.new hb7 (Kp.new hb1 Kp.nil))) (⟨rfl,rfl⟩)
                  ·refine xw_skip (xq_then (xw_seq (wS (xQ rfl (o_fa0 fl45_0 rfl) (xQ rfl (o_ldI (v := m0 0) rfl ts3 (mT mH) (by omega) rfl) (xQ rfl (o_eql rfl rfl) (nS (wd rfl h (fun hp59 h=>?_) fun hp59 h=>?_))))))))
                   ·refine wS (xQ rfl (o_fa0 fl45_8 rfl) (xQ rfl (o_ldI (v := m0 9) rfl ts3 (mT mH) (by omega) rfl) (xQ rfl (o_fa0 fl45_8 rfl) (xZ rfl (o_stI rfl rfl ts3 mH (by omega) (.here _ _ _ _)) (nS (xw_seq (wk [1,7] rfl [(263,.bool ((!((number_F (m0 9)))) || (decide (m0 3≤m0 9))))] ?_ ?_)))))))
                    ·refine xw_region (xQ rfl (o_fa0 fl45_8 rfl) (xQ rfl (o_ldI (v := m0 9) rfl ts3 (mT mH) (by omega) rfl) (xc rfl kf67 rfl (fun w1 hw1=>number_con _ w1 _ (number_ok _)) (xQ rfl (o_not rfl) (vm rfl (oc' 257 rfl (fun hp60=>?_) fun hp60=>?_))))))
                     ·exact vs rfl (vs rfl (vs rfl (vs rfl (vs rfl (vt rfl (xo_nil (qk rfl (by simp [hp2,hp17,hp18,hp41,hp42,hp43,hp44,hp47,hp48,hp56,hp58,hp59,hp60]) rfl)))))))
                     ·exact xQ rfl (o_fa0 fl45_8 rfl) (xQ rfl (o_ldI (v := m0 9) rfl ts3 (mT mH) (by omega) rfl) (xQ rfl (o_fa0 fl45_3 rfl) (xQ rfl (o_ldI (v := m0 3) rfl ts3 (mT mH) (by omega) rfl) (xQ rfl (o_geq rfl rfl) (vf rfl (xo_nil (qk rfl (by simp [hp2,hp17,hp18,hp41,hp42,hp43,hp44,hp47,hp48,hp56,hp58,hp59,hp60]) rfl)))))))
                    ·refine xq_then (wb rfl h (fun hp61 h=>?_) fun hp61 h=>?_)
                     ·refine wS (va rfl (nS (xw_ret (xq_then_ret ?_)))); subst h
                      exact yA Tryz.results29 rfl [] (Kp.st (Kp.new hb7 (Kp.new hb1 Kp.nil))) (⟨rfl,rfl⟩)
                     ·refine xw_skip (xq_then (wS (xQ rfl (o_ldW rfl ts45 (mT mH)) (xQ rfl (o_ldW rfl ts45 mH) (xQ rfl (o_eqlA eq45 rfl rfl) (va rfl (nS (xw_ret ?_)))))))); subst h
                      exact yA Tryz.results29 rfl [] (Kp.st (Kp.new hb7 (Kp.new hb1 Kp.nil))) (⟨rfl,rfl⟩)
                   ·refine xw_skip (xq_then (wS (xQ rfl (o_ldW rfl ts45 (mT mH)) (xQ rfl (o_ldW rfl ts45 mH) (xQ rfl (o_eqlA eq45 rfl rfl) (va rfl (nS (xw_ret ?_)))))))); subst h
                    exact yA Tryz.results29 rfl [] (Kp.st (Kp.new hb7 (Kp.new hb1 Kp.nil))) (⟨rfl,rfl⟩)
                ·refine xw_skip (xq_then (xw_seq (wS (xQ rfl (o_fa0 fl45_0 rfl) (xQ rfl (o_ldI (v := m0 0) rfl ts3 (mT mH) (by omega) rfl) (xQ rfl (o_eql rfl rfl) (nS (wd rfl h (fun hp62 h=>?_) fun hp62 h=>?_))))))))
                 ·refine wS (xQ rfl (o_fa0 fl45_8 rfl) (xQ rfl (o_ldI (v := m0 9) rfl ts3 (mT mH) (by omega) rfl) (xQ rfl (o_fa0 fl45_8 rfl) (xZ rfl (o_stI rfl rfl ts3 mH (by omega) (.here _ _ _ _)) (nS (xw_seq (wk [1,7] rfl [(263,.bool ((!((number_F (m0 9)))) || (decide (m0 3≤m0 9))))] ?_ ?_)))))))
                  ·refine xw_region (xQ rfl (o_fa0 fl45_8 rfl) (xQ rfl (o_ldI (v := m0 9) rfl ts3 (mT mH) (by omega) rfl) (xc rfl kf67 rfl (fun w1 hw1=>number_con _ w1 _ (number_ok _)) (xQ rfl (o_not rfl) (vm rfl (oc' 257 rfl (fun hp63=>?_) fun hp63=>?_))))))
                   ·exact vs rfl (vs rfl (vs rfl (vs rfl (vs rfl (vt rfl (xo_nil (qk rfl (by simp [hp2,hp17,hp18,hp41,hp42,hp43,hp44,hp47,hp48,hp56,hp62,hp63]) rfl)))))))
                   ·exact xQ rfl (o_fa0 fl45_8 rfl) (xQ rfl (o_ldI (v := m0 9) rfl ts3 (mT mH) (by omega) rfl) (xQ rfl (o_fa0 fl45_3 rfl) (xQ rfl (o_ldI (v := m0 3) rfl ts3 (mT mH) (by omega) rfl) (xQ rfl (o_geq rfl rfl) (vf rfl (xo_nil (qk rfl (by simp [hp2,hp17,hp18,hp41,hp42,hp43,hp44,hp47,hp48,hp56,hp62,hp63]) rfl)))))))
                  ·refine xq_then (wb rfl h (fun hp64 h=>?_) fun hp64 h=>?_)
                   ·refine wS (va rfl (nS (xw_ret (xq_then_ret ?_)))); subst h
                    exact yA Tryz.results29 rfl [] (Kp.st (Kp.new hb7 (Kp.new hb1 Kp.nil))) (⟨rfl,rfl⟩)
                   ·refine xw_skip (xq_then (wS (xQ rfl (o_ldW rfl ts45 (mT mH)) (xQ rfl (o_ldW rfl ts45 mH) (xQ rfl (o_eqlA eq45 rfl rfl) (va rfl (nS (xw_ret ?_)))))))); subst h
                    exact yA Tryz.results29 rfl [] (Kp.st (Kp.new hb7 (Kp.new hb1 Kp.nil))) (⟨rfl,rfl⟩)
                 ·refine xw_skip (xq_then (wS (xQ rfl (o_ldW rfl ts45 (mT mH)) (xQ rfl (o_ldW rfl ts45 mH) (xQ rfl (o_eqlA eq45 rfl rfl) (va rfl (nS (xw_ret ?_)))))))); subst h
                  exact yA Tryz.results29 rfl [] (Kp.st (Kp.new hb7 (Kp.new hb1 Kp.nil))) (⟨rfl,rfl⟩)
           ·refine xw_skip (xq_then (xw_seq (wS (xQ rfl (o_fa0 fl45_0 rfl) (xQ rfl (o_ldI (v := m0 0) rfl ts3 (mT mH) (by omega) rfl) (xQ rfl (o_eql rfl rfl) (nS (wd rfl h (fun hp65 h=>?_) fun hp65 h=>?_))))))))
            ·refine wS (xQ rfl (o_fa0 fl45_7 rfl) (xQ rfl (o_ldI (v := m0 8) rfl ts3 (mT mH) (by omega) rfl) (xQ rfl (o_fa0 fl45_7 rfl) (xZ rfl (o_stI rfl rfl ts3 mH (by omega) (.here _ _ _ _)) (nS (xw_seq (wk [1,7] rfl [(227,.bool ((decide (m0 8 < 1)) || (decide (15 < m0 8))))] ?_ ?_)))))))
             ·refine xw_region (xQ rfl (o_fa0 fl45_7 rfl) (xQ rfl (o_ldI (v := m0 8) rfl ts3 (mT mH) (by omega) rfl) (xQ rfl (o_lss rfl rfl) (vm rfl (od' 223 rfl (fun hp66=>?_) fun hp66=>?_)))))
              ·exact vs rfl (vs rfl (vs rfl (vt rfl (xo_nil (qk rfl (by simp [hp2,hp17,hp18,hp41,hp42,hp43,hp44,hp65,hp66]) rfl)))))
              ·exact xQ rfl (o_fa0 fl45_7 rfl) (xQ rfl (o_ldI (v := m0 8) rfl ts3 (mT mH) (by omega) rfl) (xQ rfl (o_gtr rfl rfl) (vf rfl (xo_nil (qk rfl (by simp [hp2,hp17,hp18,hp41,hp42,hp43,hp44,hp65,hp66]) rfl)))))
             ·refine xq_then (wb rfl h (fun hp67 h=>?_) fun hp67 h=>?_)
              ·refine wS (va rfl (nS (xw_ret (xq_then_ret ?_)))); subst h
               exact yA Tryz.results29 rfl [] (Kp.st (Kp.new hb7 (Kp.new hb1 Kp.nil))) (⟨rfl,rfl⟩)
              ·refine xw_skip (xq_then (xw_seq (xw_seq (wk [1,7] rfl [(235,.bool ((decide (m0 0=5)) || (decide (m0 0=6))))] ?_ ?_))))
               ·exact xw_region (xQ rfl (o_fa0 fl45_0 rfl) (xQ rfl (o_ldI (v := m0 0) rfl ts3 (mT mH) (by omega) rfl) (xQ rfl (o_eql rfl rfl) (vm rfl (xo_val 231 rfl (v' := .bool false) (congrArg Value.bool (by simp; omega)) (xQ rfl (o_fa0 fl45_0 rfl) (xQ rfl (o_ldI (v := m0 0) rfl ts3 (mT mH) (by omega) rfl) (xQ rfl (o_eql rfl rfl) (vf rfl (xo_nil (qk rfl (by simp [hp2,hp17,hp18,hp41,hp42,hp43,hp44,hp65,hp67]) rfl)))))))))))
               ·refine xq_then (wb rfl h (fun hp69 h=>?_) fun hp69 h=>?_)
                ·refine wS (xQ rfl (o_fa0 fl45_7 rfl) (xQ rfl (o_ldI (v := m0 8) rfl ts3 (mT mH) (by omega) rfl) (xQ rfl (o_fa0 fl45_7 rfl) (xZ rfl (o_stI rfl rfl ts3 mH (by omega) (.here _ _ _ _)) (nS (xw_seq (wk [1,7] rfl [(246,.bool ((!(decide (m0 8=0))) && (!(decide (m0 8=1)))))] ?_ ?_)))))))
                 ·refine xw_region (xQ rfl (o_fa0 fl45_7 rfl) (xQ rfl (o_ldI (v := m0 8) rfl ts3 (mT mH) (by omega) rfl) (xQ rfl (o_neq rfl rfl) (vm rfl (on' 242 rfl (fun hp70=>?_) fun hp70=>?_)))))
                  ·exact xQ rfl (o_fa0 fl45_7 rfl) (xQ rfl (o_ldI (v := m0 8) rfl ts3 (mT mH) (by omega) rfl) (xQ rfl (o_neq rfl rfl) (vt rfl (xo_nil (qk rfl (by simp [hp2,hp17,hp18,hp41,hp42,hp43,hp44,hp65,hp67,hp69,hp70]) rfl)))))
                  ·exact vs rfl (vs rfl (vs rfl (vf rfl (xo_nil (qk rfl (by simp [hp2,hp17,hp18,hp41,hp42,hp43,hp44,hp65,hp67,hp69,hp70]) rfl)))))
                 ·refine xq_then (wb rfl h (fun hp71 h=>?_) fun hp71 h=>?_)
                  ·refine wS (va rfl (nS (xw_ret (xq_then_ret ?_)))); subst h
                   exact yA Tryz.results29 rfl [] (Kp.st (Kp.new hb7 (Kp.new hb1 Kp.nil))) (⟨rfl,rfl⟩)
                  ·refine xw_skip (xq_then (xw_seq (wS (xQ rfl (o_fa0 fl45_0 rfl) (xQ rfl (o_ldI (v := m0 0) rfl ts3 (mT mH) (by omega) rfl) (xQ rfl (o_eql rfl rfl) (nS (xw_cond_f rfl (by simp; omega) (xw_skip (xq_then (xw_seq ?_))))))))))); refine xw_region (xQ rfl (o_ldW rfl ts45 (mT mH)) (xQ rfl (o_ldW rfl ts45 mH) (xQ rfl (o_eqlA eq45 rfl rfl) (va rfl (nS (xw_ret ?_)))))); subst h
                   exact yA Tryz.results29 rfl [] (Kp.st (Kp.new hb7 (Kp.new hb1 Kp.nil))) (⟨rfl,rfl⟩)
                ·refine xw_skip (xq_then (xw_seq (wS (xQ rfl (o_fa0 fl45_0 rfl) (xQ rfl (o_ldI (v := m0 0) rfl ts3 (mT mH) (by omega) rfl) (xQ rfl (o_eql rfl rfl) (nS (xw_cond_f rfl (by simp; omega) (xw_skip (xq_then (xw_seq ?_))))))))))); refine xw_region (xQ rfl (o_ldW rfl ts45 (mT mH)) (xQ rfl (o_ldW rfl ts45 mH) (xQ rfl (o_eqlA eq45 rfl rfl) (va rfl (nS (xw_ret ?_)))))); subst h
                 exact yA Tryz.results29 rfl [] (Kp.st (Kp.new hb7 (Kp.new hb1 Kp.nil))) (⟨rfl,rfl⟩)
            ·refine xw_skip (xq_then (xw_seq (xw_seq (wk [1,7] rfl [(235,.bool ((decide (m0 0=5)) || (decide (m0 0=6))))] ?_ ?_))))
             ·refine xw_region (xQ rfl (o_fa0 fl45_0 rfl) (xQ rfl (o_ldI (v := m0 0) rfl ts3 (mT mH) (by omega) rfl) (xQ rfl (o_eql rfl rfl) (vm rfl (od' 231 rfl (fun hp72=>?_) fun hp72=>?_)))))
              ·exact vs rfl (vs rfl (vs rfl (vt rfl (xo_nil (qk rfl (by simp [hp2,hp17,hp18,hp41,hp42,hp43,hp44,hp65,hp72]) rfl)))))
              ·exact xQ rfl (o_fa0 fl45_0 rfl) (xQ rfl (o_ldI (v := m0 0) rfl ts3 (mT mH) (by omega) rfl) (xQ rfl (o_eql rfl rfl) (vf rfl (xo_nil (qk rfl (by simp [hp2,hp17,hp18,hp41,hp42,hp43,hp44,hp65,hp72]) rfl)))))
             ·refine xq_then (wb rfl h (fun hp73 h=>?_) fun hp73 h=>?_)
              ·refine wS (xQ rfl (o_fa0 fl45_7 rfl) (xQ rfl (o_ldI (v := m0 8) rfl ts3 (mT mH) (by omega) rfl) (xQ rfl (o_fa0 fl45_7 rfl) (xZ rfl (o_stI rfl rfl ts3 mH (by omega) (.here _ _ _ _)) (nS (xw_seq (wk [1,7] rfl [(246,.bool ((!(decide (m0 8=0))) && (!(decide (m0 8=1)))))] ?_ ?_)))))))
               ·refine xw_region (xQ rfl (o_fa0 fl45_7 rfl) (xQ rfl (o_ldI (v := m0 8) rfl ts3 (mT mH) (by omega) rfl) (xQ rfl (o_neq rfl rfl) (vm rfl (on' 242 rfl (fun hp74=>?_) fun hp74=>?_)))))
                ·exact xQ rfl (o_fa0 fl45_7 rfl) (xQ rfl (o_ldI (v := m0 8) rfl ts3 (mT mH) (by omega) rfl) (xQ rfl (o_neq rfl rfl) (vt rfl (xo_nil (qk rfl (by simp [hp2,hp17,hp18,hp41,hp42,hp43,hp44,hp65,hp73,hp74]) rfl)))))
                ·exact vs rfl (vs rfl (vs rfl (vf rfl (xo_nil (qk rfl (by simp [hp2,hp17,hp18,hp41,hp42,hp43,hp44,hp65,hp73,hp74]) rfl)))))
               ·refine xq_then (wb rfl h (fun hp75 h=>?_) fun hp75 h=>?_)
                ·refine wS (va rfl (nS (xw_ret (xq_then_ret ?_)))); subst h
                 exact yA Tryz.results29 rfl [] (Kp.st (Kp.new hb7 (Kp.new hb1 Kp.nil))) (⟨rfl,rfl⟩)
                ·refine xw_skip (xq_then (xw_seq (wS (xQ rfl (o_fa0 fl45_0 rfl) (xQ rfl (o_ldI (v := m0 0) rfl ts3 (mT mH) (by omega) rfl) (xQ rfl (o_eql rfl rfl) (nS (wd rfl h (fun hp76 h=>?_) fun hp76 h=>?_))))))))
                 ·refine wS (xQ rfl (o_fa0 fl45_8 rfl) (xQ rfl (o_ldI (v := m0 9) rfl ts3 (mT mH) (by omega) rfl) (xQ rfl (o_fa0 fl45_8 rfl) (xZ rfl (o_stI rfl rfl ts3 mH (by omega) (.here _ _ _ _)) (nS (xw_seq (wk [1,7] rfl [(263,.bool ((!((number_F (m0 9)))) || (decide (m0 3≤m0 9))))] ?_ ?_)))))))
                  ·refine xw_region (xQ rfl (o_fa0 fl45_8 rfl) (xQ rfl (o_ldI (v := m0 9) rfl ts3 (mT mH) (by omega) rfl) (xc rfl kf67 rfl (fun w1 hw1=>number_con _ w1 _ (number_ok _)) (xQ rfl (o_not rfl) (vm rfl (oc' 257 rfl (fun hp77=>?_) fun hp77=>?_))))))
                   ·exact vs rfl (vs rfl (vs rfl (vs rfl (vs rfl (vt rfl (xo_nil (qk rfl (by simp [hp2,hp17,hp18,hp41,hp42,hp43,hp44,hp65,hp73,hp75,hp76,hp77]) rfl)))))))
                   ·exact xQ rfl (o_fa0 fl45_8 rfl) (xQ rfl (o_ldI (v := m0 9) rfl ts3 (mT mH) (by omega) rfl) (xQ rfl (o_fa0 fl45_3 rfl) (xQ rfl (o_ldI (v := m0 3) rfl ts3 (mT mH) (by omega) rfl) (xQ rfl (o_geq rfl rfl) (vf rfl (xo_nil (qk rfl (by simp [hp2,hp17,hp18,hp41,hp42,hp43,hp44,hp65,hp73,hp75,hp76,hp77]) rfl)))))))
                  ·refine xq_then (wb rfl h (fun hp78 h=>?_) fun hp78 h=>?_)
                   ·refine wS (va rfl (nS (xw_ret (xq_then_ret ?_)))); subst h
                    exact yA Tryz.results29 rfl [] (Kp.st (Kp.new hb7 (Kp.new hb1 Kp.nil))) (⟨rfl,rfl⟩)
                   ·refine xw_skip (xq_then (wS (xQ rfl (o_ldW rfl ts45 (mT mH)) (xQ rfl (o_ldW rfl ts45 mH) (xQ rfl (o_eqlA eq45 rfl rfl) (va rfl (nS (xw_ret ?_)))))))); subst h
                    exact yA Tryz.results29 rfl [] (Kp.st (Kp.new hb7 (Kp.new hb1 Kp.nil))) (⟨rfl,rfl⟩)
                 ·refine xw_skip (xq_then (wS (xQ rfl (o_ldW rfl ts45 (mT mH)) (xQ rfl (o_ldW rfl ts45 mH) (xQ rfl (o_eqlA eq45 rfl rfl) (va rfl (nS (xw_ret ?_)))))))); subst h
                  exact yA Tryz.results29 rfl [] (Kp.st (Kp.new hb7 (Kp.new hb1 Kp.nil))) (⟨rfl,rfl⟩)
              ·refine xw_skip (xq_then (xw_seq (wS (xQ rfl (o_fa0 fl45_0 rfl) (xQ rfl (o_ldI (v := m0 0) rfl ts3 (mT mH) (by omega) rfl) (xQ rfl (o_eql rfl rfl) (nS (wd rfl h (fun hp79 h=>?_) fun hp79 h=>?_))))))))
               ·refine wS (xQ rfl (o_fa0 fl45_8 rfl) (xQ rfl (o_ldI (v := m0 9) rfl ts3 (mT mH) (by omega) rfl) (xQ rfl (o_fa0 fl45_8 rfl) (xZ rfl (o_stI rfl rfl ts3 mH (by omega) (.here _ _ _ _)) (nS (xw_seq (wk [1,7] rfl [(263,.bool ((!((number_F (m0 9)))) || (decide (m0 3≤m0 9))))] ?_ ?_)))))))
                ·refine xw_region (xQ rfl (o_fa0 fl45_8 rfl) (xQ rfl (o_ldI (v := m0 9) rfl ts3 (mT mH) (by omega) rfl) (xc rfl kf67 rfl (fun w1 hw1=>number_con _ w1 _ (number_ok _)) (xQ rfl (o_not rfl) (vm rfl (oc' 257 rfl (fun hp80=>?_) fun hp80=>?_))))))
                 ·exact vs rfl (vs rfl (vs rfl (vs rfl (vs rfl (vt rfl (xo_nil (qk rfl (by simp [hp2,hp17,hp18,hp41,hp42,hp43,hp44,hp65,hp73,hp79,hp80]) rfl)))))))
                 ·exact xQ rfl (o_fa0 fl45_8 rfl) (xQ rfl (o_ldI (v := m0 9) rfl ts3 (mT mH) (by omega) rfl) (xQ rfl (o_fa0 fl45_3 rfl) (xQ rfl (o_ldI (v := m0 3) rfl ts3 (mT mH) (by omega) rfl) (xQ rfl (o_geq rfl rfl) (vf rfl (xo_nil (qk rfl (by simp [hp2,hp17,hp18,hp41,hp42,hp43,hp44,hp65,hp73,hp79,hp80]) rfl)))))))
                ·refine xq_then (wb rfl h (fun hp81 h=>?_) fun hp81 h=>?_)
                 ·refine wS (va rfl (nS (xw_ret (xq_then_ret ?_)))); subst h
                  exact yA Tryz.results29 rfl [] (Kp.st (Kp.new hb7 (Kp.new hb1 Kp.nil))) (⟨rfl,rfl⟩)
                 ·refine xw_skip (xq_then (wS (xQ rfl (o_ldW rfl ts45 (mT mH)) (xQ rfl (o_ldW rfl ts45 mH) (xQ rfl (o_eqlA eq45 rfl rfl) (va rfl (nS (xw_ret ?_)))))))); subst h
                  exact yA Tryz.results29 rfl [] (Kp.st (Kp.new hb7 (Kp.new hb1 Kp.nil))) (⟨rfl,rfl⟩)
               ·refine xw_skip (xq_then (wS (xQ rfl (o_ldW rfl ts45 (mT mH)) (xQ rfl (o_ldW rfl ts45 mH) (xQ rfl (o_eqlA eq45 rfl rfl) (va rfl (nS (xw_ret ?_)))))))); subst h
                exact yA Tryz.results29 rfl [] (Kp.st (Kp.new hb7 (Kp.new hb1 Kp.nil))) (⟨rfl,rfl⟩)
         ·refine xw_skip (xq_then (xw_seq (wS (xQ rfl (o_fa0 fl45_0 rfl) (xQ rfl (o_ldI (v := m0 0) rfl ts3 (mT mH) (by omega) rfl) (xQ rfl (o_leq rfl rfl) (nS (wd rfl h (fun hp82 h=>?_) fun hp82 h=>?_))))))))
          ·refine wS (xQ rfl (o_fa0 fl45_5 rfl) (xQ rfl (o_ldSI rfl ts39 (mT mH) (by omega) (fun _ _=>rfl)) (xQ rfl (o_fa0 fl45_5 rfl) (xZ rfl (o_stSI rfl rfl ts39 mH (by omega) (.here _ _ _ _)) (nR (xQ rfl (o_fa0 fl45_6 rfl) (xQ rfl (o_ldI (v := m0 7) rfl ts40 (mT mH) (by omega) rfl) (xQ rfl (o_fa0 fl45_6 rfl) (xZ rfl (o_stI rfl rfl ts40 mH (by omega) (.here _ _ _ _)) ?_))))))))); refine nS (xw_seq (wk [1,7] rfl [(213,.bool (((!((ref02Ok_F (fun i=>m0 (5 + i))))) || (decide (m0 7 < 1))) || (decide (4 < m0 7))))] ?_ ?_))
           ·refine xw_region (xQ rfl (o_fa0 fl45_5 rfl) (xQ rfl (o_ldSI rfl ts39 (mT mH) (by omega) (fun _ _=>rfl)) (xc rfl kf68 rfl (fun w1 hw1=>ref02Ok_con _ w1 _ (ref02Ok_ok _)) (xQ rfl (o_not rfl) (vm rfl (oc' 204 rfl (fun hp83=>?_) fun hp83=>?_))))))
            ·exact vs rfl (vs rfl (vs rfl (vt rfl (vm rfl (vs rfl (vs rfl (vs rfl (vt rfl (xo_nil (qk rfl (by simp [hp2,hp17,hp18,hp41,hp42,hp82,hp83]) rfl))))))))))
            ·refine xQ rfl (o_fa0 fl45_6 rfl) (xQ rfl (o_ldI (v := m0 7) rfl ts40 (mT mH) (by omega) rfl) (xQ rfl (o_lss rfl rfl) (vf rfl (vm rfl (od' 209 rfl (fun hp84=>?_) fun hp84=>?_)))))
             ·exact vs rfl (vs rfl (vs rfl (vt rfl (xo_nil (qk rfl (by simp [hp2,hp17,hp18,hp41,hp42,hp82,hp83,hp84]) rfl)))))
             ·exact xQ rfl (o_fa0 fl45_6 rfl) (xQ rfl (o_ldI (v := m0 7) rfl ts40 (mT mH) (by omega) rfl) (xQ rfl (o_gtr rfl rfl) (vf rfl (xo_nil (qk rfl (by simp [hp2,hp17,hp18,hp41,hp42,hp82,hp83,hp84]) rfl)))))
           ·refine xq_then (wb rfl h (fun hp85 h=>?_) fun hp85 h=>?_)
            ·refine wS (va rfl (nS (xw_ret (xq_then_ret ?_)))); subst h
             exact yA Tryz.results29 rfl [] (Kp.st (Kp.new hb7 (Kp.new hb1 Kp.nil))) (⟨rfl,rfl⟩)
            ·refine xw_skip (xq_then (xw_seq (wS (xQ rfl (o_fa0 fl45_0 rfl) (xQ rfl (o_ldI (v := m0 0) rfl ts3 (mT mH) (by omega) rfl) (xQ rfl (o_eql rfl rfl) (nS (wd rfl h (fun hp86 h=>?_) fun hp86 h=>?_))))))))
             ·refine wS (xQ rfl (o_fa0 fl45_7 rfl) (xQ rfl (o_ldI (v := m0 8) rfl ts3 (mT mH) (by omega) rfl) (xQ rfl (o_fa0 fl45_7 rfl) (xZ rfl (o_stI rfl rfl ts3 mH (by omega) (.here _ _ _ _)) (nS (xw_seq (wk [1,7] rfl [(227,.bool ((decide (m0 8 < 1)) || (decide (15 < m0 8))))] ?_ ?_)))))))
              ·refine xw_region (xQ rfl (o_fa0 fl45_7 rfl) (xQ rfl (o_ldI (v := m0 8) rfl ts3 (mT mH) (by omega) rfl) (xQ rfl (o_lss rfl rfl) (vm rfl (od' 223 rfl (fun hp87=>?_) fun hp87=>?_)))))
               ·exact vs rfl (vs rfl (vs rfl (vt rfl (xo_nil (qk rfl (by simp [hp2,hp17,hp18,hp41,hp42,hp82,hp85,hp86,hp87]) rfl)))))
               ·exact xQ rfl (o_fa0 fl45_7 rfl) (xQ rfl (o_ldI (v := m0 8) rfl ts3 (mT mH) (by omega) rfl) (xQ rfl (o_gtr rfl rfl) (vf rfl (xo_nil (qk rfl (by simp [hp2,hp17,hp18,hp41,hp42,hp82,hp85,hp86,hp87]) rfl)))))
              ·refine xq_then (wb rfl h (fun hp88 h=>?_) fun hp88 h=>?_)
               ·refine wS (va rfl (nS (xw_ret (xq_then_ret ?_)))); subst h
                exact yA Tryz.results29 rfl [] (Kp.st (Kp.new hb7 (Kp.new hb1 Kp.nil))) (⟨rfl,rfl⟩)
               ·refine xw_skip (xq_then (xw_seq (xw_seq (wk [1,7] rfl [(235,.bool ((decide (m0 0=5)) || (decide (m0 0=6))))] ?_ ?_))))
                ·exact xw_region (xQ rfl (o_fa0 fl45_0 rfl) (xQ rfl (o_ldI (v := m0 0) rfl ts3 (mT mH) (by omega) rfl) (xQ rfl (o_eql rfl rfl) (vm rfl (xo_val 231 rfl (v' := .bool false) (congrArg Value.bool (by simp; omega)) (xQ rfl (o_fa0 fl45_0 rfl) (xQ rfl (o_ldI (v := m0 0) rfl ts3 (mT mH) (by omega) rfl) (xQ rfl (o_eql rfl rfl) (vf rfl (xo_nil (qk rfl (by simp [hp2,hp17,hp18,hp41,hp42,hp82,hp85,hp86,hp88]) rfl)))))))))))
                ·refine xq_then (wb rfl h (fun hp90 h=>?_) fun hp90 h=>?_)
                 ·refine wS (xQ rfl (o_fa0 fl45_7 rfl) (xQ rfl (o_ldI (v := m0 8) rfl ts3 (mT mH) (by omega) rfl) (xQ rfl (o_fa0 fl45_7 rfl) (xZ rfl (o_stI rfl rfl ts3 mH (by omega) (.here _ _ _ _)) (nS (xw_seq (wk [1,7] rfl [(246,.bool ((!(decide (m0 8=0))) && (!(decide (m0 8=1)))))] ?_ ?_)))))))
                  ·refine xw_region (xQ rfl (o_fa0 fl45_7 rfl) (xQ rfl (o_ldI (v := m0 8) rfl ts3 (mT mH) (by omega) rfl) (xQ rfl (o_neq rfl rfl) (vm rfl (on' 242 rfl (fun hp91=>?_) fun hp91=>?_)))))
                   ·exact xQ rfl (o_fa0 fl45_7 rfl) (xQ rfl (o_ldI (v := m0 8) rfl ts3 (mT mH) (by omega) rfl) (xQ rfl (o_neq rfl rfl) (vt rfl (xo_nil (qk rfl (by simp [hp2,hp17,hp18,hp41,hp42,hp82,hp85,hp86,hp88,hp90,hp91]) rfl)))))
                   ·exact vs rfl (vs rfl (vs rfl (vf rfl (xo_nil (qk rfl (by simp [hp2,hp17,hp18,hp41,hp42,hp82,hp85,hp86,hp88,hp90,hp91]) rfl)))))
                  ·refine xq_then (wb rfl h (fun hp92 h=>?_) fun hp92 h=>?_)
                   ·refine wS (va rfl (nS (xw_ret (xq_then_ret ?_)))); subst h
                    exact yA Tryz.results29 rfl [] (Kp.st (Kp.new hb7 (Kp.new hb1 Kp.nil))) (⟨rfl,rfl⟩)
                   ·refine xw_skip (xq_then (xw_seq (wS (xQ rfl (o_fa0 fl45_0 rfl) (xQ rfl (o_ldI (v := m0 0) rfl ts3 (mT mH) (by omega) rfl) (xQ rfl (o_eql rfl rfl) (nS (xw_cond_f rfl (by simp; omega) (xw_skip (xq_then (xw_seq ?_))))))))))); refine xw_region (xQ rfl (o_ldW rfl ts45 (mT mH)) (xQ rfl (o_ldW rfl ts45 mH) (xQ rfl (o_eqlA eq45 rfl rfl) (va rfl (nS (xw_ret ?_)))))); subst h
                    exact yA Tryz.results29 rfl [] (Kp.st (Kp.new hb7 (Kp.new hb1 Kp.nil))) (⟨rfl,rfl⟩)
                 ·refine xw_skip (xq_then (xw_seq (wS (xQ rfl (o_fa0 fl45_0 rfl) (xQ rfl (o_ldI (v := m0 0) rfl ts3 (mT mH) (by omega) rfl) (xQ rfl (o_eql rfl rfl) (nS (xw_cond_f rfl (by simp; omega) (xw_skip (xq_then (xw_seq ?_))))))))))); refine xw_region (xQ rfl (o_ldW rfl ts45 (mT mH)) (xQ rfl (o_ldW rfl ts45 mH) (xQ rfl (o_eqlA eq45 rfl rfl) (va rfl (nS (xw_ret ?_)))))); subst h
                  exact yA Tryz.results29 rfl [] (Kp.st (Kp.new hb7 (Kp.new hb1 Kp.nil))) (⟨rfl,rfl⟩)
             ·refine xw_skip (xq_then (xw_seq (xw_seq (wk [1,7] rfl [(235,.bool ((decide (m0 0=5)) || (decide (m0 0=6))))] ?_ ?_))))
              ·refine xw_region (xQ rfl (o_fa0 fl45_0 rfl) (xQ rfl (o_ldI (v := m0 0) rfl ts3 (mT mH) (by omega) rfl) (xQ rfl (o_eql rfl rfl) (vm rfl (od' 231 rfl (fun hp93=>?_) fun hp93=>?_)))))
               ·exact vs rfl (vs rfl (vs rfl (vt rfl (xo_nil (qk rfl (by simp [hp2,hp17,hp18,hp41,hp42,hp82,hp85,hp86,hp93]) rfl)))))
               ·exact xQ rfl (o_fa0 fl45_0 rfl) (xQ rfl (o_ldI (v := m0 0) rfl ts3 (mT mH) (by omega) rfl) (xQ rfl (o_eql rfl rfl) (vf rfl (xo_nil (qk rfl (by simp [hp2,hp17,hp18,hp41,hp42,hp82,hp85,hp86,hp93]) rfl)))))
              ·refine xq_then (wb rfl h (fun hp94 h=>?_) fun hp94 h=>?_)
               ·refine wS (xQ rfl (o_fa0 fl45_7 rfl) (xQ rfl (o_ldI (v := m0 8) rfl ts3 (mT mH) (by omega) rfl) (xQ rfl (o_fa0 fl45_7 rfl) (xZ rfl (o_stI rfl rfl ts3 mH (by omega) (.here _ _ _ _)) (nS (xw_seq (wk [1,7] rfl [(246,.bool ((!(decide (m0 8=0))) && (!(decide (m0 8=1)))))] ?_ ?_)))))))
                ·refine xw_region (xQ rfl (o_fa0 fl45_7 rfl) (xQ rfl (o_ldI (v := m0 8) rfl ts3 (mT mH) (by omega) rfl) (xQ rfl (o_neq rfl rfl) (vm rfl (on' 242 rfl (fun hp95=>?_) fun hp95=>?_)))))
                 ·exact xQ rfl (o_fa0 fl45_7 rfl) (xQ rfl (o_ldI (v := m0 8) rfl ts3 (mT mH) (by omega) rfl) (xQ rfl (o_neq rfl rfl) (vt rfl (xo_nil (qk rfl (by simp [hp2,hp17,hp18,hp41,hp42,hp82,hp85,hp86,hp94,hp95]) rfl)))))
                 ·exact vs rfl (vs rfl (vs rfl (vf rfl (xo_nil (qk rfl (by simp [hp2,hp17,hp18,hp41,hp42,hp82,hp85,hp86,hp94,hp95]) rfl)))))
                ·refine xq_then (wb rfl h (fun hp96 h=>?_) fun hp96 h=>?_)
                 ·refine wS (va rfl (nS (xw_ret (xq_then_ret ?_)))); subst h
                  exact yA Tryz.results29 rfl [] (Kp.st (Kp.new hb7 (Kp.new hb1 Kp.nil))) (⟨rfl,rfl⟩)
                 ·refine xw_skip (xq_then (xw_seq (wS (xQ rfl (o_fa0 fl45_0 rfl) (xQ rfl (o_ldI (v := m0 0) rfl ts3 (mT mH) (by omega) rfl) (xQ rfl (o_eql rfl rfl) (nS (wd rfl h (fun hp97 h=>?_) fun hp97 h=>?_))))))))
                  ·refine wS (xQ rfl (o_fa0 fl45_8 rfl) (xQ rfl (o_ldI (v := m0 9) rfl ts3 (mT mH) (by omega) rfl) (xQ rfl (o_fa0 fl45_8 rfl) (xZ rfl (o_stI rfl rfl ts3 mH (by omega) (.here _ _ _ _)) (nS (xw_seq (wk [1,7] rfl [(263,.bool ((!((number_F (m0 9)))) || (decide (m0 3≤m0 9))))] ?_ ?_)))))))
                   ·refine xw_region (xQ rfl (o_fa0 fl45_8 rfl) (xQ rfl (o_ldI (v := m0 9) rfl ts3 (mT mH) (by omega) rfl) (xc rfl kf67 rfl (fun w1 hw1=>number_con _ w1 _ (number_ok _)) (xQ rfl (o_not rfl) (vm rfl (oc' 257 rfl (fun hp98=>?_) fun hp98=>?_))))))
                    ·exact vs rfl (vs rfl (vs rfl (vs rfl (vs rfl (vt rfl (xo_nil (qk rfl (by simp [hp2,hp17,hp18,hp41,hp42,hp82,hp85,hp86,hp94,hp96,hp97,hp98]) rfl)))))))
                    ·exact xQ rfl (o_fa0 fl45_8 rfl) (xQ rfl (o_ldI (v := m0 9) rfl ts3 (mT mH) (by omega) rfl) (xQ rfl (o_fa0 fl45_3 rfl) (xQ rfl (o_ldI (v := m0 3) rfl ts3 (mT mH) (by omega) rfl) (xQ rfl (o_geq rfl rfl) (vf rfl (xo_nil (qk rfl (by simp [hp2,hp17,hp18,hp41,hp42,hp82,hp85,hp86,hp94,hp96,hp97,hp98]) rfl)))))))
                   ·refine xq_then (wb rfl h (fun hp99 h=>?_) fun hp99 h=>?_)
                    ·refine wS (va rfl (nS (xw_ret (xq_then_ret ?_)))); subst h
                     exact yA Tryz.results29 rfl [] (Kp.st (Kp.new hb7 (Kp.new hb1 Kp.nil))) (⟨rfl,rfl⟩)
                    ·refine xw_skip (xq_then (wS (xQ rfl (o_ldW rfl ts45 (mT mH)) (xQ rfl (o_ldW rfl ts45 mH) (xQ rfl (o_eqlA eq45 rfl rfl) (va rfl (nS (xw_ret ?_)))))))); subst h
                     exact yA Tryz.results29 rfl [] (Kp.st (Kp.new hb7 (Kp.new hb1 Kp.nil))) (⟨rfl,rfl⟩)
                  ·refine xw_skip (xq_then (wS (xQ rfl (o_ldW rfl ts45 (mT mH)) (xQ rfl (o_ldW rfl ts45 mH) (xQ rfl (o_eqlA eq45 rfl rfl) (va rfl (nS (xw_ret ?_)))))))); subst h
                   exact yA Tryz.results29 rfl [] (Kp.st (Kp.new hb7 (Kp.new hb1 Kp.nil))) (⟨rfl,rfl⟩)
               ·refine xw_skip (xq_then (xw_seq (wS (xQ rfl (o_fa0 fl45_0 rfl) (xQ rfl (o_ldI (v := m0 0) rfl ts3 (mT mH) (by omega) rfl) (xQ rfl (o_eql rfl rfl) (nS (wd rfl h (fun hp100 h=>?_) fun hp100 h=>?_))))))))
                ·refine wS (xQ rfl (o_fa0 fl45_8 rfl) (xQ rfl (o_ldI (v := m0 9) rfl ts3 (mT mH) (by omega) rfl) (xQ rfl (o_fa0 fl45_8 rfl) (xZ rfl (o_stI rfl rfl ts3 mH (by omega) (.here _ _ _ _)) (nS (xw_seq (wk [1,7] rfl [(263,.bool ((!((number_F (m0 9)))) || (decide (m0 3≤m0 9))))] ?_ ?_)))))))
                 ·refine xw_region (xQ rfl (o_fa0 fl45_8 rfl) (xQ rfl (o_ldI (v := m0 9) rfl ts3 (mT mH) (by omega) rfl) (xc rfl kf67 rfl (fun w1 hw1=>number_con _ w1 _ (number_ok _)) (xQ rfl (o_not rfl) (vm rfl (oc' 257 rfl (fun hp101=>?_) fun hp101=>?_))))))
                  ·exact vs rfl (vs rfl (vs rfl (vs rfl (vs rfl (vt rfl (xo_nil (qk rfl (by simp [hp2,hp17,hp18,hp41,hp42,hp82,hp85,hp86,hp94,hp100,hp101]) rfl)))))))
                  ·exact xQ rfl (o_fa0 fl45_8 rfl) (xQ rfl (o_ldI (v := m0 9) rfl ts3 (mT mH) (by omega) rfl) (xQ rfl (o_fa0 fl45_3 rfl) (xQ rfl (o_ldI (v := m0 3) rfl ts3 (mT mH) (by omega) rfl) (xQ rfl (o_geq rfl rfl) (vf rfl (xo_nil (qk rfl (by simp [hp2,hp17,hp18,hp41,hp42,hp82,hp85,hp86,hp94,hp100,hp101]) rfl)))))))
                 ·refine xq_then (wb rfl h (fun hp102 h=>?_) fun hp102 h=>?_)
                  ·refine wS (va rfl (nS (xw_ret (xq_then_ret ?_)))); subst h
                   exact yA Tryz.results29 rfl [] (Kp.st (Kp.new hb7 (Kp.new hb1 Kp.nil))) (⟨rfl,rfl⟩)
                  ·refine xw_skip (xq_then (wS (xQ rfl (o_ldW rfl ts45 (mT mH)) (xQ rfl (o_ldW rfl ts45 mH) (xQ rfl (o_eqlA eq45 rfl rfl) (va rfl (nS (xw_ret ?_)))))))); subst h
                   exact yA Tryz.results29 rfl [] (Kp.st (Kp.new hb7 (Kp.new hb1 Kp.nil))) (⟨rfl,rfl⟩)
                ·refine xw_skip (xq_then (wS (xQ rfl (o_ldW rfl ts45 (mT mH)) (xQ rfl (o_ldW rfl ts45 mH) (xQ rfl (o_eqlA eq45 rfl rfl) (va rfl (nS (xw_ret ?_)))))))); subst h
                 exact yA Tryz.results29 rfl [] (Kp.st (Kp.new hb7 (Kp.new hb1 Kp.nil))) (⟨rfl,rfl⟩)
          ·refine xw_skip (xq_then (xw_seq (wS (xQ rfl (o_fa0 fl45_0 rfl) (xQ rfl (o_ldI (v := m0 0) rfl ts3 (mT mH) (by omega) rfl) (xQ rfl (o_eql rfl rfl) (nS (wd rfl h (fun hp103 h=>?_) fun hp103 h=>?_))))))))
           ·refine wS (xQ rfl (o_fa0 fl45_7 rfl) (xQ rfl (o_ldI (v := m0 8) rfl ts3 (mT mH) (by omega) rfl) (xQ rfl (o_fa0 fl45_7 rfl) (xZ rfl (o_stI rfl rfl ts3 mH (by omega) (.here _ _ _ _)) (nS (xw_seq (wk [1,7] rfl [(227,.bool ((decide (m0 8 < 1)) || (decide (15 < m0 8))))] ?_ ?_)))))))
            ·refine xw_region (xQ rfl (o_fa0 fl45_7 rfl) (xQ rfl (o_ldI (v := m0 8) rfl ts3 (mT mH) (by omega) rfl) (xQ rfl (o_lss rfl rfl) (vm rfl (od' 223 rfl (fun hp104=>?_) fun hp104=>?_)))))
             ·exact vs rfl (vs rfl (vs rfl (vt rfl (xo_nil (qk rfl (by simp [hp2,hp17,hp18,hp41,hp42,hp82,hp103,hp104]) rfl)))))
             ·exact xQ rfl (o_fa0 fl45_7 rfl) (xQ rfl (o_ldI (v := m0 8) rfl ts3 (mT mH) (by omega) rfl) (xQ rfl (o_gtr rfl rfl) (vf rfl (xo_nil (qk rfl (by simp [hp2,hp17,hp18,hp41,hp42,hp82,hp103,hp104]) rfl)))))
            ·refine xq_then (wb rfl h (fun hp105 h=>?_) fun hp105 h=>?_)
             ·refine wS (va rfl (nS (xw_ret (xq_then_ret ?_)))); subst h
              exact yA Tryz.results29 rfl [] (Kp.st (Kp.new hb7 (Kp.new hb1 Kp.nil))) (⟨rfl,rfl⟩)
             ·refine xw_skip (xq_then (xw_seq (xw_seq (wk [1,7] rfl [(235,.bool ((decide (m0 0=5)) || (decide (m0 0=6))))] ?_ ?_))))
              ·exact xw_region (xQ rfl (o_fa0 fl45_0 rfl) (xQ rfl (o_ldI (v := m0 0) rfl ts3 (mT mH) (by omega) rfl) (xQ rfl (o_eql rfl rfl) (vm rfl (xo_val 231 rfl (v' := .bool false) (congrArg Value.bool (by simp; omega)) (xQ rfl (o_fa0 fl45_0 rfl) (xQ rfl (o_ldI (v := m0 0) rfl ts3 (mT mH) (by omega) rfl) (xQ rfl (o_eql rfl rfl) (vf rfl (xo_nil (qk rfl (by simp [hp2,hp17,hp18,hp41,hp42,hp82,hp103,hp105]) rfl)))))))))))
              ·refine xq_then (wb rfl h (fun hp107 h=>?_) fun hp107 h=>?_)
               ·refine wS (xQ rfl (o_fa0 fl45_7 rfl) (xQ rfl (o_ldI (v := m0 8) rfl ts3 (mT mH) (by omega) rfl) (xQ rfl (o_fa0 fl45_7 rfl) (xZ rfl (o_stI rfl rfl ts3 mH (by omega) (.here _ _ _ _)) (nS (xw_seq (wk [1,7] rfl [(246,.bool ((!(decide (m0 8=0))) && (!(decide (m0 8=1)))))] ?_ ?_)))))))
                ·refine xw_region (xQ rfl (o_fa0 fl45_7 rfl) (xQ rfl (o_ldI (v := m0 8) rfl ts3 (mT mH) (by omega) rfl) (xQ rfl (o_neq rfl rfl) (vm rfl (on' 242 rfl (fun hp108=>?_) fun hp108=>?_)))))
                 ·exact xQ rfl (o_fa0 fl45_7 rfl) (xQ rfl (o_ldI (v := m0 8) rfl ts3 (mT mH) (by omega) rfl) (xQ rfl (o_neq rfl rfl) (vt rfl (xo_nil (qk rfl (by simp [hp2,hp17,hp18,hp41,hp42,hp82,hp103,hp105,hp107,hp108]) rfl)))))
                 ·exact vs rfl (vs rfl (vs rfl (vf rfl (xo_nil (qk rfl (by simp [hp2,hp17,hp18,hp41,hp42,hp82,hp103,hp105,hp107,hp108]) rfl)))))
                ·refine xq_then (wb rfl h (fun hp109 h=>?_) fun hp109 h=>?_)
                 ·refine wS (va rfl (nS (xw_ret (xq_then_ret ?_)))); subst h
                  exact yA Tryz.results29 rfl [] (Kp.st (Kp.new hb7 (Kp.new hb1 Kp.nil))) (⟨rfl,rfl⟩)
                 ·refine xw_skip (xq_then (xw_seq (wS (xQ rfl (o_fa0 fl45_0 rfl) (xQ rfl (o_ldI (v := m0 0) rfl ts3 (mT mH) (by omega) rfl) (xQ rfl (o_eql rfl rfl) (nS (xw_cond_f rfl (by simp; omega) (xw_skip (xq_then (xw_seq ?_))))))))))); refine xw_region (xQ rfl (o_ldW rfl ts45 (mT mH)) (xQ rfl (o_ldW rfl ts45 mH) (xQ rfl (o_eqlA eq45 rfl rfl) (va rfl (nS (xw_ret ?_)))))); subst h
                  exact yA Tryz.results29 rfl [] (Kp.st (Kp.new hb7 (Kp.new hb1 Kp.nil))) (⟨rfl,rfl⟩)
               ·refine xw_skip (xq_then (xw_seq (wS (xQ rfl (o_fa0 fl45_0 rfl) (xQ rfl (o_ldI (v := m0 0) rfl ts3 (mT mH) (by omega) rfl) (xQ rfl (o_eql rfl rfl) (nS (xw_cond_f rfl (by simp; omega) (xw_skip (xq_then (xw_seq ?_))))))))))); refine xw_region (xQ rfl (o_ldW rfl ts45 (mT mH)) (xQ rfl (o_ldW rfl ts45 mH) (xQ rfl (o_eqlA eq45 rfl rfl) (va rfl (nS (xw_ret ?_)))))); subst h
                exact yA Tryz.results29 rfl [] (Kp.st (Kp.new hb7 (Kp.new hb1 Kp.nil))) (⟨rfl,rfl⟩)
           ·refine xw_skip (xq_then (xw_seq (xw_seq (wk [1,7] rfl [(235,.bool ((decide (m0 0=5)) || (decide (m0 0=6))))] ?_ ?_))))
            ·refine xw_region (xQ rfl (o_fa0 fl45_0 rfl) (xQ rfl (o_ldI (v := m0 0) rfl ts3 (mT mH) (by omega) rfl) (xQ rfl (o_eql rfl rfl) (vm rfl (od' 231 rfl (fun hp110=>?_) fun hp110=>?_)))))
             ·exact vs rfl (vs rfl (vs rfl (vt rfl (xo_nil (qk rfl (by simp [hp2,hp17,hp18,hp41,hp42,hp82,hp103,hp110]) rfl)))))
             ·exact xQ rfl (o_fa0 fl45_0 rfl) (xQ rfl (o_ldI (v := m0 0) rfl ts3 (mT mH) (by omega) rfl) (xQ rfl (o_eql rfl rfl) (vf rfl (xo_nil (qk rfl (by simp [hp2,hp17,hp18,hp41,hp42,hp82,hp103,hp110]) rfl)))))
            ·refine xq_then (wb rfl h (fun hp111 h=>?_) fun hp111 h=>?_)
             ·refine wS (xQ rfl (o_fa0 fl45_7 rfl) (xQ rfl (o_ldI (v := m0 8) rfl ts3 (mT mH) (by omega) rfl) (xQ rfl (o_fa0 fl45_7 rfl) (xZ rfl (o_stI rfl rfl ts3 mH (by omega) (.here _ _ _ _)) (nS (xw_seq (wk [1,7] rfl [(246,.bool ((!(decide (m0 8=0))) && (!(decide (m0 8=1)))))] ?_ ?_)))))))
              ·refine xw_region (xQ rfl (o_fa0 fl45_7 rfl) (xQ rfl (o_ldI (v := m0 8) rfl ts3 (mT mH) (by omega) rfl) (xQ rfl (o_neq rfl rfl) (vm rfl (on' 242 rfl (fun hp112=>?_) fun hp112=>?_)))))
               ·exact xQ rfl (o_fa0 fl45_7 rfl) (xQ rfl (o_ldI (v := m0 8) rfl ts3 (mT mH) (by omega) rfl) (xQ rfl (o_neq rfl rfl) (vt rfl (xo_nil (qk rfl (by simp [hp2,hp17,hp18,hp41,hp42,hp82,hp103,hp111,hp112]) rfl)))))
               ·exact vs rfl (vs rfl (vs rfl (vf rfl (xo_nil (qk rfl (by simp [hp2,hp17,hp18,hp41,hp42,hp82,hp103,hp111,hp112]) rfl)))))
              ·refine xq_then (wb rfl h (fun hp113 h=>?_) fun hp113 h=>?_)
               ·refine wS (va rfl (nS (xw_ret (xq_then_ret ?_)))); subst h
                exact yA Tryz.results29 rfl [] (Kp.st (Kp.new hb7 (Kp.new hb1 Kp.nil))) (⟨rfl,rfl⟩)
               ·refine xw_skip (xq_then (xw_seq (wS (xQ rfl (o_fa0 fl45_0 rfl) (xQ rfl (o_ldI (v := m0 0) rfl ts3 (mT mH) (by omega) rfl) (xQ rfl (o_eql rfl rfl) (nS (wd rfl h (fun hp114 h=>?_) fun hp114 h=>?_))))))))
                ·refine wS (xQ rfl (o_fa0 fl45_8 rfl) (xQ rfl (o_ldI (v := m0 9) rfl ts3 (mT mH) (by omega) rfl) (xQ rfl (o_fa0 fl45_8 rfl) (xZ rfl (o_stI rfl rfl ts3 mH (by omega) (.here _ _ _ _)) (nS (xw_seq (wk [1,7] rfl [(263,.bool ((!((number_F (m0 9)))) || (decide (m0 3≤m0 9))))] ?_ ?_)))))))
                 ·refine xw_region (xQ rfl (o_fa0 fl45_8 rfl) (xQ rfl (o_ldI (v := m0 9) rfl ts3 (mT mH) (by omega) rfl) (xc rfl kf67 rfl (fun w1 hw1=>number_con _ w1 _ (number_ok _)) (xQ rfl (o_not rfl) (vm rfl (oc' 257 rfl (fun hp115=>?_) fun hp115=>?_))))))
                  ·exact vs rfl (vs rfl (vs rfl (vs rfl (vs rfl (vt rfl (xo_nil (qk rfl (by simp [hp2,hp17,hp18,hp41,hp42,hp82,hp103,hp111,hp113,hp114,hp115]) rfl)))))))
                  ·exact xQ rfl (o_fa0 fl45_8 rfl) (xQ rfl (o_ldI (v := m0 9) rfl ts3 (mT mH) (by omega) rfl) (xQ rfl (o_fa0 fl45_3 rfl) (xQ rfl (o_ldI (v := m0 3) rfl ts3 (mT mH) (by omega) rfl) (xQ rfl (o_geq rfl rfl) (vf rfl (xo_nil (qk rfl (by simp [hp2,hp17,hp18,hp41,hp42,hp82,hp103,hp111,hp113,hp114,hp115]) rfl)))))))
                 ·refine xq_then (wb rfl h (fun hp116 h=>?_) fun hp116 h=>?_)
                  ·refine wS (va rfl (nS (xw_ret (xq_then_ret ?_)))); subst h
                   exact yA Tryz.results29 rfl [] (Kp.st (Kp.new hb7 (Kp.new hb1 Kp.nil))) (⟨rfl,rfl⟩)
                  ·refine xw_skip (xq_then (wS (xQ rfl (o_ldW rfl ts45 (mT mH)) (xQ rfl (o_ldW rfl ts45 mH) (xQ rfl (o_eqlA eq45 rfl rfl) (va rfl (nS (xw_ret ?_)))))))); subst h
                   exact yA Tryz.results29 rfl [] (Kp.st (Kp.new hb7 (Kp.new hb1 Kp.nil))) (⟨rfl,rfl⟩)
                ·refine xw_skip (xq_then (wS (xQ rfl (o_ldW rfl ts45 (mT mH)) (xQ rfl (o_ldW rfl ts45 mH) (xQ rfl (o_eqlA eq45 rfl rfl) (va rfl (nS (xw_ret ?_)))))))); subst h
                 exact yA Tryz.results29 rfl [] (Kp.st (Kp.new hb7 (Kp.new hb1 Kp.nil))) (⟨rfl,rfl⟩)
             ·refine xw_skip (xq_then (xw_seq (wS (xQ rfl (o_fa0 fl45_0 rfl) (xQ rfl (o_ldI (v := m0 0) rfl ts3 (mT mH) (by omega) rfl) (xQ rfl (o_eql rfl rfl) (nS (wd rfl h (fun hp117 h=>?_) fun hp117 h=>?_))))))))
              ·refine wS (xQ rfl (o_fa0 fl45_8 rfl) (xQ rfl (o_ldI (v := m0 9) rfl ts3 (mT mH) (by omega) rfl) (xQ rfl (o_fa0 fl45_8 rfl) (xZ rfl (o_stI rfl rfl ts3 mH (by omega) (.here _ _ _ _)) (nS (xw_seq (wk [1,7] rfl [(263,.bool ((!((number_F (m0 9)))) || (decide (m0 3≤m0 9))))] ?_ ?_)))))))
               ·refine xw_region (xQ rfl (o_fa0 fl45_8 rfl) (xQ rfl (o_ldI (v := m0 9) rfl ts3 (mT mH) (by omega) rfl) (xc rfl kf67 rfl (fun w1 hw1=>number_con _ w1 _ (number_ok _)) (xQ rfl (o_not rfl) (vm rfl (oc' 257 rfl (fun hp118=>?_) fun hp118=>?_))))))
                ·exact vs rfl (vs rfl (vs rfl (vs rfl (vs rfl (vt rfl (xo_nil (qk rfl (by simp [hp2,hp17,hp18,hp41,hp42,hp82,hp103,hp111,hp117,hp118]) rfl)))))))
                ·exact xQ rfl (o_fa0 fl45_8 rfl) (xQ rfl (o_ldI (v := m0 9) rfl ts3 (mT mH) (by omega) rfl) (xQ rfl (o_fa0 fl45_3 rfl) (xQ rfl (o_ldI (v := m0 3) rfl ts3 (mT mH) (by omega) rfl) (xQ rfl (o_geq rfl rfl) (vf rfl (xo_nil (qk rfl (by simp [hp2,hp17,hp18,hp41,hp42,hp82,hp103,hp111,hp117,hp118]) rfl)))))))
               ·refine xq_then (wb rfl h (fun hp119 h=>?_) fun hp119 h=>?_)
                ·refine wS (va rfl (nS (xw_ret (xq_then_ret ?_)))); subst h
                 exact yA Tryz.results29 rfl [] (Kp.st (Kp.new hb7 (Kp.new hb1 Kp.nil))) (⟨rfl,rfl⟩)
                ·refine xw_skip (xq_then (wS (xQ rfl (o_ldW rfl ts45 (mT mH)) (xQ rfl (o_ldW rfl ts45 mH) (xQ rfl (o_eqlA eq45 rfl rfl) (va rfl (nS (xw_ret ?_)))))))); subst h
                 exact yA Tryz.results29 rfl [] (Kp.st (Kp.new hb7 (Kp.new hb1 Kp.nil))) (⟨rfl,rfl⟩)
              ·refine xw_skip (xq_then (wS (xQ rfl (o_ldW rfl ts45 (mT mH)) (xQ rfl (o_ldW rfl ts45 mH) (xQ rfl (o_eqlA eq45 rfl rfl) (va rfl (nS (xw_ret ?_)))))))); subst h
               exact yA Tryz.results29 rfl [] (Kp.st (Kp.new hb7 (Kp.new hb1 Kp.nil))) (⟨rfl,rfl⟩)
end Go.Proofs.YtljklmlodfbdnaaGreat
namespace Go.Proofs.YtljklmlodfbdnaaGreat
open Go Go.E
theorem sends18_con (probe0 : Bool) (acts1 : LM) (v1 : Value) (w : World) (hs1 : SL w 33 iv v1 acts1) (r : Bool) (h : sends18_S probe0 acts1 r) : Con Tryz.prog 8 #[.bool (probe0),v1] w (Is (.bool r) []) := by
 unfold sends18_S at h; refine ce Tryz.func8 rfl Tryz.ntmps8 rfl (wS (va rfl (nS (xw_seq (wS (xc rfl kf10 rfl (fun w1 hw1=>alive18_con w1 _ alive18_ok) (xQ rfl (o_not rfl) (nS (wc rfl h (fun hp1 h=>?_) fun hp1 h=>?_)))))))))
 ·refine wS (va rfl (nS (xw_ret (xq_then_ret ?_)))); subst h
  exact rO Tryz.results8 rfl (⟨rfl,rfl⟩)
 ·refine xw_skip (xq_then (xw_seq (wS (vm rfl (xQ rfl (o_lenL rfl Tryz.underlying24 rfl (SL.val hs1)) (xQ rfl (o_gtr rfl rfl) (nS (wd rfl h (fun hp2 h=>?_) fun hp2 h=>?_))))))))
  ·refine wS (va rfl (nS (xw_ret (xq_then_ret ?_)))); subst h
   exact rO Tryz.results8 rfl (⟨rfl,rfl⟩)
  ·refine xw_skip (xq_then (wS (vm rfl (xin rfl kf19 rfl Tryz.func19 rfl Tryz.ntmps19 rfl (wS (xr rfl (o_alloc ze23 rfl) ?_)))))); rintro _ _ ⟨b2,hb2,rfl,rfl⟩; refine nR (vm rfl (xQ rfl (o_buildM (k := (kS [1])) (m := (updI (updI (updI (updI (updI (updI (updI (fun _=>0) 0 2) 1 (bI probe0)) 2 5) 3 3) 4 40) 5 6) 6 1000)) fk23 ze23 (.one fl23_0 rfl rfl rfl (.one fl23_1 rfl rfl rfl (.one fl23_2 rfl rfl rfl (.one fl23_3 rfl rfl rfl (.one fl23_4 rfl rfl rfl (.one fl23_5 rfl rfl rfl (.one fl23_6 rfl rfl rfl (.nil _)))))))) (M7 rfl (bBI probe0) rfl rfl rfl rfl rfl)) (xZ rfl (o_stW rfl rfl ts23 (fun _ _=>mv_one) mH (.here _ _ _ _)) (nS (xw_ret (con_retN (.inl rfl) (l := [.cell 2 23]) Tryz.results19 (.cell rfl ts23 mH .nil) rfl _ (fun _ h=>h) (?_))))))); refine xin rfl kf11 rfl Tryz.func11 rfl Tryz.ntmps11 rfl (wS (xr rfl (o_boxA rfl) ?_)); rintro _ _ ⟨b2a,hb2a,rfl,rfl⟩; refine va rfl (va rfl (nS (xw_seq (wS (xQ rfl (o_ldW rfl ts23 mH) (xin rfl kf31 rfl Tryz.func31 rfl Tryz.ntmps31 rfl (wS (xr rfl (o_boxA rfl) ?_)))))))); rintro _ _ ⟨b1,hb1,rfl,rfl⟩; refine va rfl (nS (xw_seq (wS (xQ rfl (o_fa0 fl23_0 rfl) (xQ rfl (o_ld (v := iI 2) rfl ts3 mH (by omega) (mv_i rfl)) (xin rfl kf69 rfl Tryz.func69 rfl Tryz.ntmps69 rfl (wS (va rfl (nS ?_))))))))); refine xw_seq (wk [] rfl [(6,.bool ((decide (1≤2)) && (decide (2≤64))))] ?_ ?_)
   ·refine xw_region (vm rfl (vm rfl (xQ rfl (o_geq rfl rfl) (vm rfl (od' 10 rfl (fun hp3=>?_) fun hp3=>?_)))))
    ·exact vm rfl (vm rfl (xQ rfl (o_leq rfl rfl) (vt rfl (va rfl (xo_nil (qk rfl (by first | rfl | (simp only [hp1,dF hp2,dT hp3,if_pos hp1,if_neg hp2,if_pos hp3,bS,reduceIte,Bool.false_eq_true]; done) | (simp [hp1,hp2,hp3]; done) | (simp_all; done)) rfl))))))
    ·exact vs rfl (vs rfl (vs rfl (vf rfl (va rfl (xo_nil (qk rfl (by first | rfl | (simp only [hp1,dF hp2,dF hp3,if_pos hp1,if_neg hp2,if_neg hp3,bS,reduceIte,Bool.false_eq_true]; done) | (simp [hp1,hp2,hp3]; done) | (simp_all; done)) rfl))))))
   ·refine xq_then (xw_ret (rO Tryz.results69 rfl (?_))); refine vm rfl (ob 6 rfl h (fun hp4 h=>?_) fun hp4 h=>?_)
    ·refine xQ rfl (o_fa0 fl23_2 rfl) (xQ rfl (o_ld (v := iI 5) rfl ts3 mH (by omega) (mv_i rfl)) (xin rfl kf69 rfl Tryz.func69 rfl Tryz.ntmps69 rfl (wS (va rfl (nS (xw_seq (wk [] rfl [(6,.bool ((decide (1≤5)) && (decide (5≤1000))))] ?_ ?_)))))))
     ·refine xw_region (vm rfl (vm rfl (xQ rfl (o_geq rfl rfl) (vm rfl (od' 10 rfl (fun hp5=>?_) fun hp5=>?_)))))
      ·exact vm rfl (vm rfl (xQ rfl (o_leq rfl rfl) (vt rfl (va rfl (xo_nil (qk rfl (by first | rfl | (simp only [hp1,dF hp2,hp4,dT hp5,if_pos hp1,if_neg hp2,if_pos hp4,if_pos hp5,bS,reduceIte,Bool.false_eq_true]; done) | (simp [hp1,hp2,hp4,hp5]; done) | (simp_all; done)) rfl))))))
      ·exact vs rfl (vs rfl (vs rfl (vf rfl (va rfl (xo_nil (qk rfl (by first | rfl | (simp only [hp1,dF hp2,hp4,dF hp5,if_pos hp1,if_neg hp2,if_pos hp4,if_neg hp5,bS,reduceIte,Bool.false_eq_true]; done) | (simp [hp1,hp2,hp4,hp5]; done) | (simp_all; done)) rfl))))))
     ·refine xq_then (xw_ret (rO Tryz.results69 rfl (?_))); refine vt rfl (vm rfl (ob 11 rfl h (fun hp6 h=>?_) fun hp6 h=>?_))
      ·refine xQ rfl (o_fa0 fl23_3 rfl) (xQ rfl (o_ld (v := iI 3) rfl ts3 mH (by omega) (mv_i rfl)) (xin rfl kf69 rfl Tryz.func69 rfl Tryz.ntmps69 rfl (wS (va rfl (nS (xw_seq (wk [] rfl [(6,.bool ((decide (1≤3)) && (decide (3≤1000))))] ?_ ?_)))))))
       ·refine xw_region (vm rfl (vm rfl (xQ rfl (o_geq rfl rfl) (vm rfl (od' 10 rfl (fun hp7=>?_) fun hp7=>?_)))))
        ·exact vm rfl (vm rfl (xQ rfl (o_leq rfl rfl) (vt rfl (va rfl (xo_nil (qk rfl (by first | rfl | (simp only [hp1,dF hp2,hp4,hp6,dT hp7,if_pos hp1,if_neg hp2,if_pos hp4,if_pos hp6,if_pos hp7,bS,reduceIte,Bool.false_eq_true]; done) | (simp [hp1,hp2,hp4,hp6,hp7]; done) | (simp_all; done)) rfl))))))
        ·exact vs rfl (vs rfl (vs rfl (vf rfl (va rfl (xo_nil (qk rfl (by first | rfl | (simp only [hp1,dF hp2,hp4,hp6,dF hp7,if_pos hp1,if_neg hp2,if_pos hp4,if_pos hp6,if_neg hp7,bS,reduceIte,Bool.false_eq_true]; done) | (simp [hp1,hp2,hp4,hp6,hp7]; done) | (simp_all; done)) rfl))))))
       ·refine xq_then (xw_ret (rO Tryz.results69 rfl (?_))); refine vt rfl (vm rfl (ob 16 rfl h (fun hp8 h=>?_) fun hp8 h=>?_))
        ·refine xQ rfl (o_fa0 fl23_4 rfl) (xQ rfl (o_ld (v := iI 40) rfl ts3 mH (by omega) (mv_i rfl)) (xin rfl kf69 rfl Tryz.func69 rfl Tryz.ntmps69 rfl (wS (va rfl (nS (xw_seq (wk [] rfl [(6,.bool ((decide (1≤40)) && (decide (40≤4096))))] ?_ ?_)))))))
         ·refine xw_region (vm rfl (vm rfl (xQ rfl (o_geq rfl rfl) (vm rfl (od' 10 rfl (fun hp9=>?_) fun hp9=>?_)))))
          ·exact vm rfl (vm rfl (xQ rfl (o_leq rfl rfl) (vt rfl (va rfl (xo_nil (qk rfl (by first | rfl | (simp only [hp1,dF hp2,hp4,hp6,hp8,dT hp9,if_pos hp1,if_neg hp2,if_pos hp4,if_pos hp6,if_pos hp8,if_pos hp9,bS,reduceIte,Bool.false_eq_true]; done) | (simp [hp1,hp2,hp4,hp6,hp8,hp9]; done) | (simp_all; done)) rfl))))))
          ·exact vs rfl (vs rfl (vs rfl (vf rfl (va rfl (xo_nil (qk rfl (by first | rfl | (simp only [hp1,dF hp2,hp4,hp6,hp8,dF hp9,if_pos hp1,if_neg hp2,if_pos hp4,if_pos hp6,if_pos hp8,if_neg hp9,bS,reduceIte,Bool.false_eq_true]; done) | (simp [hp1,hp2,hp4,hp6,hp8,hp9]; done) | (simp_all; done)) rfl))))))
         ·refine xq_then (xw_ret (rO Tryz.results69 rfl (?_))); refine vt rfl (vm rfl (ob 21 rfl h (fun hp10 h=>?_) fun hp10 h=>?_))
          ·refine xQ rfl (o_fa0 fl23_5 rfl) (xQ rfl (o_ld (v := iI 6) rfl ts3 mH (by omega) (mv_i rfl)) (xin rfl kf69 rfl Tryz.func69 rfl Tryz.ntmps69 rfl (wS (va rfl (nS (xw_seq (wk [] rfl [(6,.bool ((decide (1≤6)) && (decide (6≤64))))] ?_ ?_)))))))
           ·refine xw_region (vm rfl (vm rfl (xQ rfl (o_geq rfl rfl) (vm rfl (od' 10 rfl (fun hp11=>?_) fun hp11=>?_)))))
            ·exact vm rfl (vm rfl (xQ rfl (o_leq rfl rfl) (vt rfl (va rfl (xo_nil (qk rfl (by first | rfl | (simp only [hp1,dF hp2,hp4,hp6,hp8,hp10,dT hp11,if_pos hp1,if_neg hp2,if_pos hp4,if_pos hp6,if_pos hp8,if_pos hp10,if_pos hp11,bS,reduceIte,Bool.false_eq_true]; done) | (simp [hp1,hp2,hp4,hp6,hp8,hp10,hp11]; done) | (simp_all; done)) rfl))))))
            ·exact vs rfl (vs rfl (vs rfl (vf rfl (va rfl (xo_nil (qk rfl (by first | rfl | (simp only [hp1,dF hp2,hp4,hp6,hp8,hp10,dF hp11,if_pos hp1,if_neg hp2,if_pos hp4,if_pos hp6,if_pos hp8,if_pos hp10,if_neg hp11,bS,reduceIte,Bool.false_eq_true]; done) | (simp [hp1,hp2,hp4,hp6,hp8,hp10,hp11]; done) | (simp_all; done)) rfl))))))
           ·refine xq_then (xw_ret (rO Tryz.results69 rfl (?_))); refine vt rfl (vm rfl (ob 26 rfl h (fun hp12 h=>?_) fun hp12 h=>?_))
            ·refine xQ rfl (o_fa0 fl23_6 rfl) (xQ rfl (o_ld (v := iI 1000) rfl ts3 mH (by omega) (mv_i rfl)) (xin rfl kf69 rfl Tryz.func69 rfl Tryz.ntmps69 rfl (wS (va rfl (nS (xw_seq (wk [] rfl [(6,.bool ((decide (1≤1000)) && (decide (1000≤65536))))] ?_ ?_)))))))
             ·refine xw_region (vm rfl (vm rfl (xQ rfl (o_geq rfl rfl) (vm rfl (od' 10 rfl (fun hp13=>?_) fun hp13=>?_)))))
              ·exact vm rfl (vm rfl (xQ rfl (o_leq rfl rfl) (vt rfl (va rfl (xo_nil (qk rfl (by first | rfl | (simp only [hp1,dF hp2,hp4,hp6,hp8,hp10,hp12,dT hp13,if_pos hp1,if_neg hp2,if_pos hp4,if_pos hp6,if_pos hp8,if_pos hp10,if_pos hp12,if_pos hp13,bS,reduceIte,Bool.false_eq_true]; done) | (simp [hp1,hp2,hp4,hp6,hp8,hp10,hp12,hp13]; done) | (simp_all; done)) rfl))))))
              ·exact vs rfl (vs rfl (vs rfl (vf rfl (va rfl (xo_nil (qk rfl (by first | rfl | (simp only [hp1,dF hp2,hp4,hp6,hp8,hp10,hp12,dF hp13,if_pos hp1,if_neg hp2,if_pos hp4,if_pos hp6,if_pos hp8,if_pos hp10,if_pos hp12,if_neg hp13,bS,reduceIte,Bool.false_eq_true]; done) | (simp [hp1,hp2,hp4,hp6,hp8,hp10,hp12,hp13]; done) | (simp_all; done)) rfl))))))
             ·refine xq_then (xw_ret (rO Tryz.results69 rfl (?_))); refine vt rfl (nS (wb rfl h (fun hp14 h=>?_) fun hp14 h=>?_))
              ·refine wS (va rfl (nS (xw_ret (xq_then_ret (rO Tryz.results31 rfl (?_)))))); refine va rfl (nR (vm rfl (xQ rfl (o_nen Tryz.underlying28 rfl rfl rfl rfl) (nS (xw_cond_f rfl rfl (xw_skip (xq_then (wS ?_)))))))); refine vm rfl (xin rfl kf32 rfl Tryz.func32 rfl Tryz.ntmps32 rfl (wS (va rfl (va rfl (nS (xw_seq (xw_seq (wk [0] rfl [(9,.bool false)] ?_ ?_))))))))
               ·exact xw_region (vm rfl (xQ rfl (o_lss rfl rfl) (vm rfl (vm rfl (xQ rfl (o_gtr rfl rfl) (vf rfl (xo_nil (qk rfl (by first | rfl | (simp only [hp1,dF hp2,hp4,hp6,hp8,hp10,hp12,hp14,if_pos hp1,if_neg hp2,if_pos hp4,if_pos hp6,if_pos hp8,if_pos hp10,if_pos hp12,if_pos hp14,bS,reduceIte,Bool.false_eq_true]; done) | (simp [hp1,hp2,hp4,hp6,hp8,hp10,hp12,hp14]; done) | (simp_all; done)) rfl))))))))
               ·refine xq_then (xw_cond_f rfl rfl (xw_skip (xq_then (wS (vm rfl (xQ rfl (o_buildM (k := (kPA 1 3 (kS [2]))) (m := (updI (fun _=>0) 0 4)) fk130 ze130 (.one fl130_0 rfl rfl rfl (.nil _)) (M28 rfl rfl rfl rfl rfl rfl rfl rfl rfl rfl rfl rfl rfl rfl rfl rfl rfl rfl rfl rfl rfl rfl rfl rfl rfl rfl rfl rfl)) (xr rfl (o_boxA rfl) ?_))))))); rintro _ _ ⟨b13,hb13,rfl,rfl⟩; refine va rfl (va rfl (nS (xw_ret (rT Tryz.results32 rfl rfl (?_))))); refine vm rfl (ve rfl (ve rfl (va rfl (va rfl (nS (xw_seq (wS (vm rfl (xQ rfl (o_nen Tryz.underlying28 rfl rfl rfl rfl) (nS ?_)))))))))); refine xw_cond_f rfl rfl (xw_skip (xq_then (wS (xQ rfl (o_ldW rfl ts23 (mT (mT mH))) (vm rfl (xr rfl (o_mkmap (α := (Nat → Value)) (cv := (AG 13)) kt3 Tryz.underlying82) ?_)))))); rintro vs15 _ ⟨Bs15,rfl,hns15,hJs15⟩; have hcBs15 := hns15
                replace hJs15 := NM.nil (R := nT62) hJs15; refine xQ rfl (o_buildC [iI 2,.bool (nz ((bI probe0))),iI 5,iI 3,iI 40,iI 6,iI 1000,.pointer (some ⟨b13,0,none⟩),iI 0,iI 0,vs15,.slice none 0 0] fk84 ze84 (.agg fl84_0 rfl rfl (.one fl84_1 rfl rfl rfl (.one fl84_4 rfl rfl (NM.one hJs15) (.nil _)))) (M12 rfl rfl rfl rfl rfl rfl rfl rfl rfl rfl rfl rfl)) (xr rfl (o_boxC [iI 2,.bool (nz ((bI probe0))),iI 5,iI 3,iI 40,iI 6,iI 1000,.pointer (some ⟨b13,0,none⟩),iI 0,iI 0,vs15,.slice none 0 0] rfl (M12 rfl rfl rfl rfl rfl rfl rfl rfl rfl rfl rfl rfl)) ?_); rintro _ _ ⟨b26,hb26,rfl,rfl⟩; refine va rfl (va rfl (nS (xw_ret (rT Tryz.results11 rfl rfl (?_))))); refine vm rfl (ve rfl (ve rfl (va rfl (va rfl (nS (xw_seq (xw_seq (wk [1,5] rfl [(32,.bool false)] ?_ ?_))))))))
                ·exact xw_region (vm rfl (xQ rfl (o_eqn Tryz.underlying26 rfl rfl rfl rfl) (vm rfl (vm rfl (xQ rfl (o_nen Tryz.underlying28 rfl rfl rfl rfl) (vf rfl (xo_nil (qk rfl (by first | rfl | (simp only [hp1,dF hp2,hp4,hp6,hp8,hp10,hp12,hp14,if_pos hp1,if_neg hp2,if_pos hp4,if_pos hp6,if_pos hp8,if_pos hp10,if_pos hp12,if_pos hp14,bS,reduceIte,Bool.false_eq_true]; done) | (simp [hp1,hp2,hp4,hp6,hp8,hp10,hp12,hp14]; done) | (simp_all; done)) rfl))))))))
                ·refine xq_then (xw_cond_f rfl rfl (xw_skip (xq_then (xw_seq (wS (va rfl (nS (xw_block ?_)))))))); obtain ⟨x1,hx1,h⟩ := h; refine xw_wh (fun s e H=>match s with | (i7,zi,zj,zd,zf,fb13)=>∃ (vb26_11_1 : Value) (vb26_10_1 : Value) (Bb26_10_1 : GH) (Bb26_11_1 : GH),e=[(1,v1),(5,.pointer (some ⟨b26,0,none⟩)),(7,iI i7)]∧H=Bb26_11_1++((b26,BK 12 (cl [iI 2,.bool (nz ((bI probe0))),iI 5,iI 3,iI 40,iI 6,iI 1000,.pointer (some ⟨b13,0,none⟩),iI zi,iI zj,vb26_10_1,vb26_11_1]) 84)::(Bb26_10_1++((b13,BK 28 (mv (kPA 1 3 (kS [2])) fb13) 130)::([]))))∧NM 13 nT62 Bb26_10_1 vb26_10_1 zd∧OJ 65 7 iv Bb26_11_1 vb26_11_1 zf∧Cov w [] Bb26_10_1∧Cov w [] Bb26_11_1) (fun x ex e H=>match x with | .inl (zi,zj,zd,zf,fb13)=>∃ (vb26_11_1o : Value) (vb26_10_1o : Value) (Bb26_10_1o : GH) (Bb26_11_1o : GH),ex=.exit 0∧e=[]∧H=Bb26_11_1o++((b26,BK 12 (cl [iI 2,.bool (nz ((bI probe0))),iI 5,iI 3,iI 40,iI 6,iI 1000,.pointer (some ⟨b13,0,none⟩),iI zi,iI zj,vb26_10_1o,vb26_11_1o]) 84)::(Bb26_10_1o++((b13,BK 28 (mv (kPA 1 3 (kS [2])) fb13) 130)::([]))))∧NM 13 nT62 Bb26_10_1o vb26_10_1o zd∧OJ 65 7 iv Bb26_11_1o vb26_11_1o zf∧Cov w [] Bb26_10_1o∧Cov w [] Bb26_11_1o | .inr (zi,zj,zd,zf,fb13)=>∃ (vb26_11_1o : Value) (vb26_10_1o : Value) (Bb26_10_1o : GH) (Bb26_11_1o : GH),ex=.ret∧e=[(4,.bool false)]∧H=Bb26_11_1o++((b26,BK 12 (cl [iI 2,.bool (nz ((bI probe0))),iI 5,iI 3,iI 40,iI 6,iI 1000,.pointer (some ⟨b13,0,none⟩),iI zi,iI zj,vb26_10_1o,vb26_11_1o]) 84)::(Bb26_10_1o++((b13,BK 28 (mv (kPA 1 3 (kS [2])) fb13) 130)::([]))))∧NM 13 nT62 Bb26_10_1o vb26_10_1o zd∧OJ 65 7 iv Bb26_11_1o vb26_11_1o zf∧Cov w [] Bb26_10_1o∧Cov w [] Bb26_11_1o) hx1 ⟨[(1,v1),(5,.pointer (some ⟨b26,0,none⟩)),(7,iI 0)],[]++((b26,_)::(Bs15++((b13,_)::([])))),(sl rfl),Kp.st (Kp.keep (Kp.segKeep (Kp.keep (Kp.new hb1 (Kp.new hb2a (Kp.new hb2 Kp.nil)))))),⟨_,vs15,Bs15,[],rfl,rfl,hJs15,OJ.nil,hcBs15,(Cov.refl _)⟩⟩ ?_ ?_
                 ·rintro ⟨i7,zi,zj,zd,zf,fb13⟩ o _ _ ⟨vb26_11_1,vb26_10_1,Bb26_10_1,Bb26_11_1,rfl,rfl,hJb26_10_1,hJb26_11_1,zk,zl⟩ hb; have h : sends18_l1 probe0 acts1 i7 zi zj zd zf fb13 o := hb
                  clear hb; unfold sends18_l1 at h; refine xw_seq (wS (vm rfl (vm rfl (xQ rfl (o_lenL rfl Tryz.underlying24 rfl (SL.val hs1)) (xQ rfl (o_lss rfl rfl) (nS (wd rfl h (fun hp16 h=>?_) fun hp16 h=>?_)))))))
                  ·refine xw_skip (xq_then (xw_seq (xw_block (wS (vm rfl (vm rfl (vm rfl ?_))))))); obtain ⟨ho17,h⟩ := h; refine xQ rfl (o_ixL el24 rfl rfl (fun w hw=>(hs1.keep hw (Fr.seg zl (Fr.cons hb26 (Fr.seg zk (Fr.cons hb13 Fr.nil)))))) rfl ho17) (xQ rfl (o_ldLI rfl ts47 rfl (fun w hw=>(hs1.keep hw (Fr.seg zl (Fr.cons hb26 (Fr.seg zk (Fr.cons hb13 Fr.nil)))))) (toNat_lt ho17) rfl) ?_); obtain ⟨ho18,h⟩ := h; obtain ⟨za,hrn19,h⟩ := h; refine xr rfl (OT.st (fun _ h=>St.permJ [1,3,2,0] [Bb26_11_1,[(b26,_)],Bb26_10_1,[(b13,_)]] h) (ot_callF (Cs := [[(b26,_)],[(b13,_)],Bb26_10_1,Bb26_11_1]) (Rs := []) kf15 rfl (fun w1 hw1=>act18_con _ _ _ _ _ _ _ _ _ _ _ _ _ w1 hJb26_10_1 hJb26_11_1 (St.hasC hw1) za (sE hrn19 (act18_ok _ _ _ _ _ _ _ ho18))) (fun _ _ _ h=>h.1))) ?_; rintro _ _ ⟨w1,_,rfl,hle,-,vg21_0,Bg21_0,vg21_1,Bg21_1,vs22,zg,rfl,rfl,hJBg21_0,hcBg21_0,hJBg21_1,hcBg21_1,zc,hcBs22⟩; replace hcBg21_0 := Cov.trans zk (Cov.base (w0 := w) hcBg21_0 hle); replace hcBg21_1 := Cov.trans zl (Cov.base (w0 := w) hcBg21_1 hle); replace hcBs22 := Cov.base (w0 := w) hcBs22 hle; refine xo_st ((b26,_)::((b13,_)::(Bg21_0++(Bg21_1++(zg++([])))))) (fun _ h=>h) (vm rfl (ve rfl (ve rfl (ve rfl (va rfl (va rfl (va rfl (nR (vm rfl ?_))))))))); obtain ⟨ho23,h⟩ := h; obtain ⟨rn24,hrn24,h⟩ := h; refine xr rfl (OT.st (fun _ h=>h) (ot_callF (Cs := [[(b26,_)],[(b13,_)],Bg21_0,Bg21_1]) (Rs := [zg]) kf20 rfl (fun w1 hw1=>kview_con _ _ _ _ _ _ _ _ _ _ _ _ w1 hJBg21_0 hJBg21_1 (St.hasC hw1) rn24 (sE hrn24 (kview_ok _ _ _ _ _ _ ho23))) (fun _ _ _ h=>h.1))) ?_; rintro _ _ ⟨w1,_,rfl,hle,-,vs27,zh,vs28,Bs28,rfl,rfl,zb,hcBs27,hJs28,hcBs28⟩; replace hcBs27 := Cov.base (w0 := w) hcBs27 hle; replace hcBs28 := Cov.base (w0 := w) hcBs28 hle; refine xo_st ((b26,_)::((b13,_)::(Bg21_0++(Bg21_1++(zh++(Bs28++(zg++([])))))))) (fun _ h=>h) (xQ rfl (o_fd1 fl56_2 rfl rfl rfl) (va rfl (nR (va rfl (nS (xw_block ?_)))))); obtain ⟨x2,hx2,h⟩ := h; refine xw_wh (fun (k12 : Int) e H=>e=[(1,v1),(5,.pointer (some ⟨b26,0,none⟩)),(7,iI i7),(8,vs22),(11,vs27),(12,iI k12)]∧H=(b26,BK 12 (cl [iI 2,.bool (nz ((bI probe0))),iI 5,iI 3,iI 40,iI 6,iI 1000,.pointer (some ⟨b13,0,none⟩),iI za.2.2.2.1,iI za.2.2.2.2.1,vg21_0,vg21_1]) 84)::((b13,BK 28 (mv (kPA 1 3 (kS [2])) za.2.2.2.2.2.2.2) 130)::(Bg21_0++(Bg21_1++(zh++(zg++([]))))))) (fun x ex e H=>match x with | .inl _=>ex=.exit 2∧e=[(1,v1),(5,.pointer (some ⟨b26,0,none⟩)),(7,iI i7)]∧H=(b26,BK 12 (cl [iI 2,.bool (nz ((bI probe0))),iI 5,iI 3,iI 40,iI 6,iI 1000,.pointer (some ⟨b13,0,none⟩),iI za.2.2.2.1,iI za.2.2.2.2.1,vg21_0,vg21_1]) 84)::((b13,BK 28 (mv (kPA 1 3 (kS [2])) za.2.2.2.2.2.2.2) 130)::(Bg21_0++(Bg21_1++(zh++(zg++([])))))) | .inr _=>ex=.ret∧e=[(4,.bool false)]∧H=(b26,BK 12 (cl [iI 2,.bool (nz ((bI probe0))),iI 5,iI 3,iI 40,iI 6,iI 1000,.pointer (some ⟨b13,0,none⟩),iI za.2.2.2.1,iI za.2.2.2.2.1,vg21_0,vg21_1]) 84)::((b13,BK 28 (mv (kPA 1 3 (kS [2])) za.2.2.2.2.2.2.2) 130)::(Bg21_0++(Bg21_1++(zh++(zg++([]))))))) hx2 ⟨[(1,v1),(5,.pointer (some ⟨b26,0,none⟩)),(7,iI i7),(8,vs22),(11,vs27),(12,iI 0)],(b26,_)::((b13,_)::(Bg21_0++(Bg21_1++(zh++(zg++([])))))),(sl rfl),Kp.st (Kp.keep (Kp.keep (Kp.segKeep (Kp.segKeep (Kp.segKeep (Kp.segNew (Cov.fresh hcBs28) (Kp.segKeep Kp.nil))))))),⟨rfl,rfl⟩⟩ ?_ ?_
                   ·rintro k12 o _ _ ⟨rfl,rfl⟩ hb; have h : sends18_l2 za rn24 k12 o := hb
                    clear hb; unfold sends18_l2 at h; refine xw_seq (wS (vm rfl (vm rfl (xQ rfl (o_lenL rfl Tryz.underlying35 rfl (OJ.val zc)) (xQ rfl (o_lss rfl rfl) (nS (wd rfl h (fun hp29 h=>?_) fun hp29 h=>?_)))))))
                    ·refine xw_skip (xq_then (xw_seq (xw_block (xw_seq (xw_seq ?_))))); obtain ⟨ho30,ho31,ho32,ho33,h⟩ := h; refine wk [1,5,7,8,11,12] rfl [(87,.bool ((((!((okB (za.1[k12.toNat]!)))) || (!(decide (za.1[k12.toNat]! 1=0)))) || (decide (za.1[k12.toNat]! 2 < 1))) || (decide (2 < za.1[k12.toNat]! 2))))] ?_ ?_
                     ·refine xw_region (vm rfl (vm rfl (xQ rfl (o_ixL el35 rfl rfl (fun w hw=>(zc.sl hw (Pull.sub (.thereC _ (.thereC _ (.there _ (.there _ (.there _ (.here _ _))))))))) rfl (ho30)) (xQ rfl (o_ldLI rfl ts45 rfl (fun w hw=>(zc.sl hw (Pull.sub (.thereC _ (.thereC _ (.there _ (.there _ (.there _ (.here _ _))))))))) (toNat_lt (ho30)) rfl) (xc rfl kf29 rfl (fun w1 hw1=>ref04Ok_con _ w1 _ (ref04Ok_ok _)) (xQ rfl (o_not rfl) (vm rfl (oc' 64 rfl (fun hp34=>?_) fun hp34=>?_))))))))
                      ·refine vs rfl (vs rfl (vs rfl (vs rfl (vs rfl (vs rfl (vt rfl (vm rfl (vs rfl (vs rfl (vs rfl (vs rfl (vs rfl (vs rfl ?_))))))))))))); exact vt rfl (vm rfl (vs rfl (vs rfl (vs rfl (vs rfl (vs rfl (vs rfl (vt rfl (xo_nil (qk rfl (by first | rfl | (simp only [dT hp29,bF hp34,if_pos hp29,if_neg hp34,bS,reduceIte,Bool.false_eq_true]; done) | (simp [hp29,hp34]; done) | (simp_all; done)) rfl))))))))))
                      ·refine vm rfl (vm rfl (xQ rfl (o_ixL el35 rfl rfl (fun w hw=>(zc.sl hw (Pull.sub (.thereC _ (.thereC _ (.there _ (.there _ (.there _ (.here _ _))))))))) rfl (ho31 (by first | exact (nF2 hp34) | (simp only [dT hp29,hp34,if_pos hp29,if_pos hp34,bS,reduceIte,Bool.false_eq_true]; done) | (simp [hp29,hp34]; done) | (simp_all; done)))) (xQ rfl (o_faL fl45_1 rfl rfl (fun w hw=>(zc.sl hw (Pull.sub (.thereC _ (.thereC _ (.there _ (.there _ (.there _ (.here _ _))))))))) (toNat_lt (ho31 (by first | exact (nF2 hp34) | (simp only [dT hp29,hp34,if_pos hp29,if_pos hp34,bS,reduceIte,Bool.false_eq_true]; done) | (simp [hp29,hp34]; done) | (simp_all; done))))) (xQ rfl (o_ldL1 (off := 1) (u := iI (za.1[k12.toNat]! 1)) rfl ts3 rfl (fun w hw=>(zc.sl hw (Pull.sub (.thereC _ (.thereC _ (.there _ (.there _ (.there _ (.here _ _))))))))) (toNat_lt (ho31 (by first | exact (nF2 hp34) | (simp only [dT hp29,hp34,if_pos hp29,if_pos hp34,bS,reduceIte,Bool.false_eq_true]; done) | (simp [hp29,hp34]; done) | (simp_all; done)))) rfl rfl) (xQ rfl (o_neq rfl rfl) (vf rfl (vm rfl (on' 72 rfl (fun hp35=>?_) fun hp35=>?_))))))))
                       ·refine vs rfl (vs rfl (vs rfl (vs rfl (vs rfl (vs rfl (vt rfl (vm rfl (vs rfl (vs rfl (vs rfl (vs rfl (vs rfl (vs rfl ?_))))))))))))); exact vt rfl (xo_nil (qk rfl (by first | rfl | (simp only [dT hp29,hp34,dF hp35,if_pos hp29,if_pos hp34,if_neg hp35,bS,reduceIte,Bool.false_eq_true]; done) | (simp [hp29,hp34,hp35]; done) | (simp_all; done)) rfl))
                       ·refine vm rfl (vm rfl (xQ rfl (o_ixL el35 rfl rfl (fun w hw=>(zc.sl hw (Pull.sub (.thereC _ (.thereC _ (.there _ (.there _ (.there _ (.here _ _))))))))) rfl (ho32 (by first | exact (nF1 hp35) | (simp only [dT hp29,hp34,dT hp35,if_pos hp29,if_pos hp34,if_pos hp35,bS,reduceIte,Bool.false_eq_true]; done) | (simp [hp29,hp34,hp35]; done) | (simp_all; done)))) (xQ rfl (o_faL fl45_2 rfl rfl (fun w hw=>(zc.sl hw (Pull.sub (.thereC _ (.thereC _ (.there _ (.there _ (.there _ (.here _ _))))))))) (toNat_lt (ho32 (by first | exact (nF1 hp35) | (simp only [dT hp29,hp34,dT hp35,if_pos hp29,if_pos hp34,if_pos hp35,bS,reduceIte,Bool.false_eq_true]; done) | (simp [hp29,hp34,hp35]; done) | (simp_all; done))))) (xQ rfl (o_ldL1 (off := 2) (u := iI (za.1[k12.toNat]! 2)) rfl ts3 rfl (fun w hw=>(zc.sl hw (Pull.sub (.thereC _ (.thereC _ (.there _ (.there _ (.there _ (.here _ _))))))))) (toNat_lt (ho32 (by first | exact (nF1 hp35) | (simp only [dT hp29,hp34,dT hp35,if_pos hp29,if_pos hp34,if_pos hp35,bS,reduceIte,Bool.false_eq_true]; done) | (simp [hp29,hp34,hp35]; done) | (simp_all; done)))) rfl rfl) (xQ rfl (o_lss rfl rfl) (vf rfl (vm rfl (od' 80 rfl (fun hp36=>?_) fun hp36=>?_))))))))
                        ·exact vs rfl (vs rfl (vs rfl (vs rfl (vs rfl (vs rfl (vt rfl (xo_nil (qk rfl (by first | rfl | (simp only [dT hp29,hp34,dT hp35,dT hp36,if_pos hp29,if_pos hp34,if_pos hp35,if_pos hp36,bS,reduceIte,Bool.false_eq_true]; done) | (simp [hp29,hp34,hp35,hp36]; done) | (simp_all; done)) rfl))))))))
                        ·exact vm rfl (vm rfl (xQ rfl (o_ixL el35 rfl rfl (fun w hw=>(zc.sl hw (Pull.sub (.thereC _ (.thereC _ (.there _ (.there _ (.there _ (.here _ _))))))))) rfl (ho33 (by first | exact (dF hp36) | (simp only [dT hp29,hp34,dT hp35,dF hp36,if_pos hp29,if_pos hp34,if_pos hp35,if_neg hp36,bS,reduceIte,Bool.false_eq_true]; done) | (simp [hp29,hp34,hp35,hp36]; done) | (simp_all; done)))) (xQ rfl (o_faL fl45_2 rfl rfl (fun w hw=>(zc.sl hw (Pull.sub (.thereC _ (.thereC _ (.there _ (.there _ (.there _ (.here _ _))))))))) (toNat_lt (ho33 (by first | exact (dF hp36) | (simp only [dT hp29,hp34,dT hp35,dF hp36,if_pos hp29,if_pos hp34,if_pos hp35,if_neg hp36,bS,reduceIte,Bool.false_eq_true]; done) | (simp [hp29,hp34,hp35,hp36]; done) | (simp_all; done))))) (xQ rfl (o_ldL1 (off := 2) (u := iI (za.1[k12.toNat]! 2)) rfl ts3 rfl (fun w hw=>(zc.sl hw (Pull.sub (.thereC _ (.thereC _ (.there _ (.there _ (.there _ (.here _ _))))))))) (toNat_lt (ho33 (by first | exact (dF hp36) | (simp only [dT hp29,hp34,dT hp35,dF hp36,if_pos hp29,if_pos hp34,if_pos hp35,if_neg hp36,bS,reduceIte,Bool.false_eq_true]; done) | (simp [hp29,hp34,hp35,hp36]; done) | (simp_all; done)))) rfl rfl) (xQ rfl (o_gtr rfl rfl) (vf rfl (xo_nil (qk rfl (by first | rfl | (simp only [dT hp29,hp34,dT hp35,dF hp36,if_pos hp29,if_pos hp34,if_pos hp35,if_neg hp36,bS,reduceIte,Bool.false_eq_true]; done) | (simp [hp29,hp34,hp35,hp36]; done) | (simp_all; done)) rfl))))))))
                     ·refine xq_then (wb rfl h (fun hp37 h=>?_) fun hp37 h=>?_)
                      ·exact wS (va rfl (nS (xw_ret (xq_then_ret (xq_blk_ret (xq_then_ret (xq_out (r := (.inr () : (Unit) ⊕ (Unit))) (e' := [(4,.bool false)]) ((b26,_)::((b13,_)::(Bg21_0++(Bg21_1++(zh++(zg++([]))))))) (sl rfl) (fun _ h=>h) h (by intro hh; cases hh) ⟨rfl,rfl,rfl⟩)))))))
                      ·refine xw_skip (xq_then (xw_seq (wS (vm rfl (vm rfl ?_))))); obtain ⟨ho38,h⟩ := h; refine xQ rfl (o_ixL el35 rfl rfl (fun w hw=>(zc.sl hw (Pull.sub (.thereC _ (.thereC _ (.there _ (.there _ (.there _ (.here _ _))))))))) rfl ho38) (xQ rfl (o_faL fl45_0 rfl rfl (fun w hw=>(zc.sl hw (Pull.sub (.thereC _ (.thereC _ (.there _ (.there _ (.there _ (.here _ _))))))))) (toNat_lt ho38)) (xQ rfl (o_ldL1 (off := 0) (u := iI (za.1[k12.toNat]! 0)) rfl ts3 rfl (fun w hw=>(zc.sl hw (Pull.sub (.thereC _ (.thereC _ (.there _ (.there _ (.there _ (.here _ _))))))))) (toNat_lt ho38) rfl rfl) (xQ rfl (o_eql rfl rfl) (nS (wd rfl h (fun hp39 h=>?_) fun hp39 h=>?_)))))
                       ·refine xw_exit (xq_then_exit (xq_blk_eq (xq_then (xw_region (vm rfl ?_))))); obtain ⟨ho40,h⟩ := h; exact xQ rfl (o_add rfl rfl rfl ho40) (va rfl (xo_nil (xq_next (s' := (k12 + 1 : Int)) (e' := [(1,v1),(5,.pointer (some ⟨b26,0,none⟩)),(7,iI i7),(8,vs22),(11,vs27),(12,iI (k12 + 1))]) ((b26,_)::((b13,_)::(Bg21_0++(Bg21_1++(zh++(zg++([]))))))) (sl rfl) (fun _ h=>h) h ⟨rfl,rfl⟩)))
                       ·refine xw_skip (xq_then (wS (va rfl (nS (xw_seq (wS (va rfl (nS (xw_block ?_))))))))); obtain ⟨there13,hx3,h⟩ := h; refine xw_wh (fun s e H=>match s with | (there13,n14)=>e=[(1,v1),(5,.pointer (some ⟨b26,0,none⟩)),(7,iI i7),(8,vs22),(11,vs27),(12,iI k12),(13,.bool (there13)),(14,iI n14)]∧H=(b26,BK 12 (cl [iI 2,.bool (nz ((bI probe0))),iI 5,iI 3,iI 40,iI 6,iI 1000,.pointer (some ⟨b13,0,none⟩),iI za.2.2.2.1,iI za.2.2.2.2.1,vg21_0,vg21_1]) 84)::((b13,BK 28 (mv (kPA 1 3 (kS [2])) za.2.2.2.2.2.2.2) 130)::(Bg21_0++(Bg21_1++(zh++(zg++([]))))))) (fun (there13 : Bool) ex e H=>ex=.exit 4∧e=[(1,v1),(5,.pointer (some ⟨b26,0,none⟩)),(7,iI i7),(8,vs22),(11,vs27),(12,iI k12),(13,.bool (there13))]∧H=(b26,BK 12 (cl [iI 2,.bool (nz ((bI probe0))),iI 5,iI 3,iI 40,iI 6,iI 1000,.pointer (some ⟨b13,0,none⟩),iI za.2.2.2.1,iI za.2.2.2.2.1,vg21_0,vg21_1]) 84)::((b13,BK 28 (mv (kPA 1 3 (kS [2])) za.2.2.2.2.2.2.2) 130)::(Bg21_0++(Bg21_1++(zh++(zg++([]))))))) hx3 ⟨[(1,v1),(5,.pointer (some ⟨b26,0,none⟩)),(7,iI i7),(8,vs22),(11,vs27),(12,iI k12),(13,.bool false),(14,iI 0)],(b26,_)::((b13,_)::(Bg21_0++(Bg21_1++(zh++(zg++([])))))),(sl rfl),fun _ h=>h,⟨rfl,rfl⟩⟩ ?_ ?_
                        ·rintro ⟨there13,n14⟩ o _ _ ⟨rfl,rfl⟩ hb; have h : sends18_l3 za rn24 k12 there13 n14 o := hb
                         clear hb; unfold sends18_l3 at h; refine xw_seq (wS (vm rfl (vm rfl (xQ rfl (o_lenL rfl Tryz.underlying53 rfl (NJ.val zb)) (xQ rfl (o_lss rfl rfl) (nS (wd rfl h (fun hp41 h=>?_) fun hp41 h=>?_)))))))
                         ·refine xw_skip (xq_then (xw_seq (xw_block (wS (va rfl (nS (xw_block ?_))))))); obtain ⟨there13a,hx4,h⟩ := h; refine xw_wh (fun s e H=>match s with | (there13a,s15)=>e=[(1,v1),(5,.pointer (some ⟨b26,0,none⟩)),(7,iI i7),(8,vs22),(11,vs27),(12,iI k12),(13,.bool (there13a)),(14,iI n14),(15,iI s15)]∧H=(b26,BK 12 (cl [iI 2,.bool (nz ((bI probe0))),iI 5,iI 3,iI 40,iI 6,iI 1000,.pointer (some ⟨b13,0,none⟩),iI za.2.2.2.1,iI za.2.2.2.2.1,vg21_0,vg21_1]) 84)::((b13,BK 28 (mv (kPA 1 3 (kS [2])) za.2.2.2.2.2.2.2) 130)::(Bg21_0++(Bg21_1++(zh++(zg++([]))))))) (fun (there13a : Bool) ex e H=>ex=.exit 6∧e=[(1,v1),(5,.pointer (some ⟨b26,0,none⟩)),(7,iI i7),(8,vs22),(11,vs27),(12,iI k12),(13,.bool (there13a)),(14,iI n14)]∧H=(b26,BK 12 (cl [iI 2,.bool (nz ((bI probe0))),iI 5,iI 3,iI 40,iI 6,iI 1000,.pointer (some ⟨b13,0,none⟩),iI za.2.2.2.1,iI za.2.2.2.2.1,vg21_0,vg21_1]) 84)::((b13,BK 28 (mv (kPA 1 3 (kS [2])) za.2.2.2.2.2.2.2) 130)::(Bg21_0++(Bg21_1++(zh++(zg++([]))))))) hx4 ⟨[(1,v1),(5,.pointer (some ⟨b26,0,none⟩)),(7,iI i7),(8,vs22),(11,vs27),(12,iI k12),(13,.bool (there13)),(14,iI n14),(15,iI 0)],(b26,_)::((b13,_)::(Bg21_0++(Bg21_1++(zh++(zg++([])))))),(sl rfl),fun _ h=>h,⟨rfl,rfl⟩⟩ ?_ ?_
                          ·rintro ⟨there13a,s15⟩ o _ _ ⟨rfl,rfl⟩ hb; have h : sends18_l4 za rn24 k12 n14 there13a s15 o := hb
                           clear hb; unfold sends18_l4 at h; refine xw_seq (wS (vm rfl (vm rfl (vm rfl ?_)))); obtain ⟨ho42,h⟩ := h; refine xQ rfl (o_ixL el53 rfl rfl (fun w hw=>(zb.sl hw (Pull.sub (.thereC _ (.thereC _ (.there _ (.there _ (.here _ _)))))))) rfl (zb.ix ho42)) (xQ rfl (o_faL fl62_8 rfl rfl (fun w hw=>(zb.sl hw (Pull.sub (.thereC _ (.thereC _ (.there _ (.there _ (.here _ _)))))))) (toNat_lt (zb.ix ho42))) ?_); have hRn43 := zb.at nT62.mono (toNat_lt ho42)
                           refine xQ rfl (o_ldL1 (off := 9) (u := ((NJ.raw zb)[n14.toNat]! 9)) rfl ts59 rfl (fun w hw=>(zb.sl hw (Pull.sub (.thereC _ (.thereC _ (.there _ (.there _ (.here _ _)))))))) (toNat_lt (zb.ix ho42)) rfl rfl) (xQ rfl (o_lenL rfl Tryz.underlying59 rfl (OJ.val (nT62.s9 (f := (NJ.raw zb)[n14.toNat]!) hRn43))) (xQ rfl (o_lss rfl rfl) (nS (wd rfl h (fun hp44 h=>?_) fun hp44 h=>?_))))
                           ·refine xw_skip (xq_then (xw_seq (xw_block ?_))); obtain ⟨ho45,ho46,ho47,ho48,ho49,h⟩ := h; refine wk [1,5,7,8,11,12,14,15] rfl [(13,.bool ((there13a) || ((decide ((rn24.2.2.1[n14.toNat]!).1=za.1[k12.toNat]! 3)) && (decide (((rn24.2.2.1[n14.toNat]!).2.2.2.2.2.2.2.2.1)[s15.toNat]! = za.1[k12.toNat]! 2)))))] ?_ ?_
                            ·refine xd_start (by kernel_rfl) (by kernel_rfl) (fun hok=>?_); refine xb hok 0 [13] rfl (by kernel_rfl) (fun _ hK=>o_mv rfl) (xb hok 1 [110] rfl (by kernel_rfl) (fun _ hK=>o_mv rfl) (db' 111 rfl (fun hp50=>?_) fun hp50=>?_))
                             ·refine xbs hok 2 [11,111] rfl (by kernel_rfl) (xbs hok 3 [14,111] rfl (by kernel_rfl) (xbs hok 4 [112,113,111] rfl (by kernel_rfl) (xbs hok 5 [114,111] rfl (by kernel_rfl) (xbs hok 6 [115,111] rfl (by kernel_rfl) (xbs hok 7 [8,111] rfl (by kernel_rfl) (xbs hok 8 [12,111] rfl (by kernel_rfl) (xbs hok 9 [117,118,111] rfl (by kernel_rfl) (xbs hok 10 [119,111] rfl (by kernel_rfl) (xbs hok 11 [120,111] rfl (by kernel_rfl) (xbs hok 12 [116,121,111] rfl (by kernel_rfl) (xbs hok 13 [122,111] rfl (by kernel_rfl) (xbs hok 14 [11,123] rfl (by kernel_rfl) (xbs hok 15 [14,123] rfl (by kernel_rfl) ?_))))))))))))); refine xbs hok 16 [124,125,123] rfl (by kernel_rfl) (xbs hok 17 [126,123] rfl (by kernel_rfl) (xbs hok 18 [127,123] rfl (by kernel_rfl) (xbs hok 19 [15,123] rfl (by kernel_rfl) (xbs hok 20 [128,129,123] rfl (by kernel_rfl) (xbs hok 21 [130,123] rfl (by kernel_rfl) (xbs hok 22 [8,123] rfl (by kernel_rfl) (xbs hok 23 [12,123] rfl (by kernel_rfl) (xbs hok 24 [132,133,123] rfl (by kernel_rfl) (xbs hok 25 [134,123] rfl (by kernel_rfl) (xbs hok 26 [135,123] rfl (by kernel_rfl) (xbs hok 27 [131,136,123] rfl (by kernel_rfl) (xbs hok 28 [123,137,111] rfl (by kernel_rfl) (xb hok 29 [111,138] rfl (by kernel_rfl) (fun _ hK=>o_pick_t rfl rfl) ?_))))))))))))); exact xb hok 30 [139] rfl (by kernel_rfl) (fun _ hK=>o_as rfl) (xd_end hok (by kernel_rfl) (qk rfl (by first | rfl | (simp only [dT hp44,hp50,if_pos hp44,if_pos hp50,bS,reduceIte,Bool.false_eq_true]; done) | (simp [hp44,hp50]; done) | (simp_all; done)) rfl))
                             ·refine xb hok 2 [11,111] rfl (by kernel_rfl) (fun _ hK=>o_mv rfl) (xb hok 3 [14,111] rfl (by kernel_rfl) (fun _ hK=>o_mv rfl) (xbr hok 4 [112,113,111] (zh++([])) (rsA (Pull.sub (.thereC _ (.thereC _ (.there _ (.there _ (.here _ _)))))) rsN) rfl (by kernel_rfl) (fun _ hy hK=>o_ixL el53 rfl rfl (fun w hw=>(zb.sl hw (fun x hx=>hy x (Pull.sub (.here _ _) x hx)))) rfl (zb.ix (ho45 (by first | exact (bF hp50) | (simp only [dT hp44,bF hp50,if_pos hp44,if_neg hp50,bS,reduceIte,Bool.false_eq_true]; done) | (simp [hp44,hp50]; done) | (simp_all; done))))) (xbr hok 5 [114,111] (zh++([])) (rsA (Pull.sub (.thereC _ (.thereC _ (.there _ (.there _ (.here _ _)))))) rsN) rfl (by kernel_rfl) (fun _ hy hK=>o_faL fl62_0 rfl rfl (fun w hw=>(zb.sl hw (fun x hx=>hy x (Pull.sub (.here _ _) x hx)))) (toNat_lt (zb.ix (ho45 (by first | exact (bF hp50) | (simp only [dT hp44,bF hp50,if_pos hp44,if_neg hp50,bS,reduceIte,Bool.false_eq_true]; done) | (simp [hp44,hp50]; done) | (simp_all; done)))))) ?_))); have hRn51 := zb.at nT62.mono (toNat_lt (ho45 (by first | exact (bF hp50) | (simp only [dT hp44,bF hp50,if_pos hp44,if_neg hp50,bS,reduceIte,Bool.false_eq_true]; done) | (simp [hp44,hp50]; done) | (simp_all; done))))
                              refine xbr hok 6 [115,111] (zh++([])) (rsA (Pull.sub (.thereC _ (.thereC _ (.there _ (.there _ (.here _ _)))))) rsN) rfl (by kernel_rfl) (fun _ hy hK=>o_ldL1 (off := 0) (u := iI ((rn24.2.2.1[n14.toNat]!).1)) rfl ts3 rfl (fun w hw=>(zb.sl hw (fun x hx=>hy x (Pull.sub (.here _ _) x hx)))) (toNat_lt (zb.ix (ho45 (by first | exact (bF hp50) | (simp only [dT hp44,bF hp50,if_pos hp44,if_neg hp50,bS,reduceIte,Bool.false_eq_true]; done) | (simp [hp44,hp50]; done) | (simp_all; done))))) rfl (nT62.c0 hRn51)) (xb hok 7 [8,111] rfl (by kernel_rfl) (fun _ hK=>o_mv rfl) (xb hok 8 [12,111] rfl (by kernel_rfl) (fun _ hK=>o_mv rfl) (xbr hok 9 [117,118,111] (zg++([])) (rsA (Pull.sub (.thereC _ (.thereC _ (.there _ (.there _ (.there _ (.here _ _))))))) rsN) rfl (by kernel_rfl) (fun _ hy hK=>o_ixL el35 rfl rfl (fun w hw=>(zc.sl hw (fun x hx=>hy x (Pull.sub (.here _ _) x hx)))) rfl (ho46 (by first | exact (bF hp50) | (simp only [dT hp44,bF hp50,if_pos hp44,if_neg hp50,bS,reduceIte,Bool.false_eq_true]; done) | (simp [hp44,hp50]; done) | (simp_all; done)))) (xbr hok 10 [119,111] (zg++([])) (rsA (Pull.sub (.thereC _ (.thereC _ (.there _ (.there _ (.there _ (.here _ _))))))) rsN) rfl (by kernel_rfl) (fun _ hy hK=>o_faL fl45_3 rfl rfl (fun w hw=>(zc.sl hw (fun x hx=>hy x (Pull.sub (.here _ _) x hx)))) (toNat_lt (ho46 (by first | exact (bF hp50) | (simp only [dT hp44,bF hp50,if_pos hp44,if_neg hp50,bS,reduceIte,Bool.false_eq_true]; done) | (simp [hp44,hp50]; done) | (simp_all; done))))) (xbr hok 11 [120,111] (zg++([])) (rsA (Pull.sub (.thereC _ (.thereC _ (.there _ (.there _ (.there _ (.here _ _))))))) rsN) rfl (by kernel_rfl) (fun _ hy hK=>o_ldL1 (off := 3) (u := iI (za.1[k12.toNat]! 3)) rfl ts3 rfl (fun w hw=>(zc.sl hw (fun x hx=>hy x (Pull.sub (.here _ _) x hx)))) (toNat_lt (ho46 (by first | exact (bF hp50) | (simp only [dT hp44,bF hp50,if_pos hp44,if_neg hp50,bS,reduceIte,Bool.false_eq_true]; done) | (simp [hp44,hp50]; done) | (simp_all; done)))) rfl rfl) (xb hok 12 [116,121,111] rfl (by kernel_rfl) (fun _ hK=>o_eql rfl rfl) (xb hok 13 [122,111] rfl (by kernel_rfl) (fun _ hK=>o_mv rfl) (dd' 123 rfl (fun hp52=>?_) fun hp52=>?_))))))))
                              ·refine xb hok 14 [11,123] rfl (by kernel_rfl) (fun _ hK=>o_mv rfl) (xb hok 15 [14,123] rfl (by kernel_rfl) (fun _ hK=>o_mv rfl) (xbr hok 16 [124,125,123] (zh++([])) (rsA (Pull.sub (.thereC _ (.thereC _ (.there _ (.there _ (.here _ _)))))) rsN) rfl (by kernel_rfl) (fun _ hy hK=>o_ixL el53 rfl rfl (fun w hw=>(zb.sl hw (fun x hx=>hy x (Pull.sub (.here _ _) x hx)))) rfl (zb.ix (ho47 (by first | exact (bF hp50) | (simp only [dT hp44,bF hp50,dT hp52,if_pos hp44,if_neg hp50,if_pos hp52,bS,reduceIte,Bool.false_eq_true]; done) | (simp [hp44,hp50,hp52]; done) | (simp_all; done)) (by first | exact (dT hp52) | (simp only [dT hp44,bF hp50,dT hp52,if_pos hp44,if_neg hp50,if_pos hp52,bS,reduceIte,Bool.false_eq_true]; done) | (simp [hp44,hp50,hp52]; done) | (simp_all; done))))) (xbr hok 17 [126,123] (zh++([])) (rsA (Pull.sub (.thereC _ (.thereC _ (.there _ (.there _ (.here _ _)))))) rsN) rfl (by kernel_rfl) (fun _ hy hK=>o_faL fl62_8 rfl rfl (fun w hw=>(zb.sl hw (fun x hx=>hy x (Pull.sub (.here _ _) x hx)))) (toNat_lt (zb.ix (ho47 (by first | exact (bF hp50) | (simp only [dT hp44,bF hp50,dT hp52,if_pos hp44,if_neg hp50,if_pos hp52,bS,reduceIte,Bool.false_eq_true]; done) | (simp [hp44,hp50,hp52]; done) | (simp_all; done)) (by first | exact (dT hp52) | (simp only [dT hp44,bF hp50,dT hp52,if_pos hp44,if_neg hp50,if_pos hp52,bS,reduceIte,Bool.false_eq_true]; done) | (simp [hp44,hp50,hp52]; done) | (simp_all; done)))))) ?_))); have hRn53 := zb.at nT62.mono (toNat_lt (ho47 (by first | exact (bF hp50) | (simp only [dT hp44,bF hp50,dT hp52,if_pos hp44,if_neg hp50,if_pos hp52,bS,reduceIte,Bool.false_eq_true]; done) | (simp [hp44,hp50,hp52]; done) | (simp_all; done)) (by first | exact (dT hp52) | (simp only [dT hp44,bF hp50,dT hp52,if_pos hp44,if_neg hp50,if_pos hp52,bS,reduceIte,Bool.false_eq_true]; done) | (simp [hp44,hp50,hp52]; done) | (simp_all; done))))
                               refine xbr hok 18 [127,123] (zh++([])) (rsA (Pull.sub (.thereC _ (.thereC _ (.there _ (.there _ (.here _ _)))))) rsN) rfl (by kernel_rfl) (fun _ hy hK=>o_ldL1 (off := 9) (u := ((NJ.raw zb)[n14.toNat]! 9)) rfl ts59 rfl (fun w hw=>(zb.sl hw (fun x hx=>hy x (Pull.sub (.here _ _) x hx)))) (toNat_lt (zb.ix (ho47 (by first | exact (bF hp50) | (simp only [dT hp44,bF hp50,dT hp52,if_pos hp44,if_neg hp50,if_pos hp52,bS,reduceIte,Bool.false_eq_true]; done) | (simp [hp44,hp50,hp52]; done) | (simp_all; done)) (by first | exact (dT hp52) | (simp only [dT hp44,bF hp50,dT hp52,if_pos hp44,if_neg hp50,if_pos hp52,bS,reduceIte,Bool.false_eq_true]; done) | (simp [hp44,hp50,hp52]; done) | (simp_all; done))))) rfl rfl) (xb hok 19 [15,123] rfl (by kernel_rfl) (fun _ hK=>o_mv rfl) (xbr hok 20 [128,129,123] (zh++([])) (rsA (Pull.sub (.thereC _ (.thereC _ (.there _ (.there _ (.here _ _)))))) rsN) rfl (by kernel_rfl) (fun _ hy hK=>o_ixL el59 rfl rfl (fun w hw=>((nT62.s9 (f := (NJ.raw zb)[n14.toNat]!) hRn53).sl hw (fun x hx=>hy x (Pull.sub (.here _ _) x hx)))) rfl (ho48 (by first | exact (bF hp50) | (simp only [dT hp44,bF hp50,dT hp52,if_pos hp44,if_neg hp50,if_pos hp52,bS,reduceIte,Bool.false_eq_true]; done) | (simp [hp44,hp50,hp52]; done) | (simp_all; done)) (by first | exact (dT hp52) | (simp only [dT hp44,bF hp50,dT hp52,if_pos hp44,if_neg hp50,if_pos hp52,bS,reduceIte,Bool.false_eq_true]; done) | (simp [hp44,hp50,hp52]; done) | (simp_all; done)))) (xbr hok 21 [130,123] (zh++([])) (rsA (Pull.sub (.thereC _ (.thereC _ (.there _ (.there _ (.here _ _)))))) rsN) rfl (by kernel_rfl) (fun _ hy hK=>o_ldL1 (off := 0) (u := iI (((rn24.2.2.1[n14.toNat]!).2.2.2.2.2.2.2.2.1)[s15.toNat]!)) rfl ts3 rfl (fun w hw=>((nT62.s9 (f := (NJ.raw zb)[n14.toNat]!) hRn53).sl hw (fun x hx=>hy x (Pull.sub (.here _ _) x hx)))) (toNat_lt (ho48 (by first | exact (bF hp50) | (simp only [dT hp44,bF hp50,dT hp52,if_pos hp44,if_neg hp50,if_pos hp52,bS,reduceIte,Bool.false_eq_true]; done) | (simp [hp44,hp50,hp52]; done) | (simp_all; done)) (by first | exact (dT hp52) | (simp only [dT hp44,bF hp50,dT hp52,if_pos hp44,if_neg hp50,if_pos hp52,bS,reduceIte,Bool.false_eq_true]; done) | (simp [hp44,hp50,hp52]; done) | (simp_all; done)))) rfl rfl) (xb hok 22 [8,123] rfl (by kernel_rfl) (fun _ hK=>o_mv rfl) (xb hok 23 [12,123] rfl (by kernel_rfl) (fun _ hK=>o_mv rfl) (xbr hok 24 [132,133,123] (zg++([])) (rsA (Pull.sub (.thereC _ (.thereC _ (.there _ (.there _ (.there _ (.here _ _))))))) rsN) rfl (by kernel_rfl) (fun _ hy hK=>o_ixL el35 rfl rfl (fun w hw=>(zc.sl hw (fun x hx=>hy x (Pull.sub (.here _ _) x hx)))) rfl (ho49 (by first | exact (bF hp50) | (simp only [dT hp44,bF hp50,dT hp52,if_pos hp44,if_neg hp50,if_pos hp52,bS,reduceIte,Bool.false_eq_true]; done) | (simp [hp44,hp50,hp52]; done) | (simp_all; done)) (by first | exact (dT hp52) | (simp only [dT hp44,bF hp50,dT hp52,if_pos hp44,if_neg hp50,if_pos hp52,bS,reduceIte,Bool.false_eq_true]; done) | (simp [hp44,hp50,hp52]; done) | (simp_all; done)))) (xbr hok 25 [134,123] (zg++([])) (rsA (Pull.sub (.thereC _ (.thereC _ (.there _ (.there _ (.there _ (.here _ _))))))) rsN) rfl (by kernel_rfl) (fun _ hy hK=>o_faL fl45_2 rfl rfl (fun w hw=>(zc.sl hw (fun x hx=>hy x (Pull.sub (.here _ _) x hx)))) (toNat_lt (ho49 (by first | exact (bF hp50) | (simp only [dT hp44,bF hp50,dT hp52,if_pos hp44,if_neg hp50,if_pos hp52,bS,reduceIte,Bool.false_eq_true]; done) | (simp [hp44,hp50,hp52]; done) | (simp_all; done)) (by first | exact (dT hp52) | (simp only [dT hp44,bF hp50,dT hp52,if_pos hp44,if_neg hp50,if_pos hp52,bS,reduceIte,Bool.false_eq_true]; done) | (simp [hp44,hp50,hp52]; done) | (simp_all; done))))) (xbr hok 26 [135,123] (zg++([])) (rsA (Pull.sub (.thereC _ (.thereC _ (.there _ (.there _ (.there _ (.here _ _))))))) rsN) rfl (by kernel_rfl) (fun _ hy hK=>o_ldL1 (off := 2) (u := iI (za.1[k12.toNat]! 2)) rfl ts3 rfl (fun w hw=>(zc.sl hw (fun x hx=>hy x (Pull.sub (.here _ _) x hx)))) (toNat_lt (ho49 (by first | exact (bF hp50) | (simp only [dT hp44,bF hp50,dT hp52,if_pos hp44,if_neg hp50,if_pos hp52,bS,reduceIte,Bool.false_eq_true]; done) | (simp [hp44,hp50,hp52]; done) | (simp_all; done)) (by first | exact (dT hp52) | (simp only [dT hp44,bF hp50,dT hp52,if_pos hp44,if_neg hp50,if_pos hp52,bS,reduceIte,Bool.false_eq_true]; done) | (simp [hp44,hp50,hp52]; done) | (simp_all; done)))) rfl rfl) (xb hok 27 [131,136,123] rfl (by kernel_rfl) (fun _ hK=>o_eql rfl rfl) (xb hok 28 [123,137,111] rfl (by kernel_rfl) (fun _ hK=>o_pick_t rfl rfl) (xb hok 29 [111,138] rfl (by kernel_rfl) (fun _ hK=>o_pick_f rfl rfl) (xb hok 30 [139] rfl (by kernel_rfl) (fun _ hK=>o_as rfl) (xd_end hok (by kernel_rfl) ?_))))))))))))); exact qk rfl (by first | rfl | (simp only [dT hp44,bF hp50,dT hp52,if_pos hp44,if_neg hp50,if_pos hp52,bS,reduceIte,Bool.false_eq_true]; done) | (simp [hp44,hp50,hp52]; done) | (simp_all; done)) rfl
                              ·refine xbs hok 14 [11,123] rfl (by kernel_rfl) (xbs hok 15 [14,123] rfl (by kernel_rfl) (xbs hok 16 [124,125,123] rfl (by kernel_rfl) (xbs hok 17 [126,123] rfl (by kernel_rfl) (xbs hok 18 [127,123] rfl (by kernel_rfl) (xbs hok 19 [15,123] rfl (by kernel_rfl) (xbs hok 20 [128,129,123] rfl (by kernel_rfl) (xbs hok 21 [130,123] rfl (by kernel_rfl) (xbs hok 22 [8,123] rfl (by kernel_rfl) (xbs hok 23 [12,123] rfl (by kernel_rfl) (xbs hok 24 [132,133,123] rfl (by kernel_rfl) (xbs hok 25 [134,123] rfl (by kernel_rfl) (xbs hok 26 [135,123] rfl (by kernel_rfl) (xbs hok 27 [131,136,123] rfl (by kernel_rfl) ?_))))))))))))); exact xb hok 28 [123,137,111] rfl (by kernel_rfl) (fun _ hK=>o_pick_f rfl rfl) (xb hok 29 [111,138] rfl (by kernel_rfl) (fun _ hK=>o_pick_f rfl rfl) (xb hok 30 [139] rfl (by kernel_rfl) (fun _ hK=>o_as rfl) (xd_end hok (by kernel_rfl) (qk rfl (by first | rfl | (simp only [dT hp44,bF hp50,dF hp52,if_pos hp44,if_neg hp50,if_neg hp52,bS,reduceIte,Bool.false_eq_true]; done) | (simp [hp44,hp50,hp52]; done) | (simp_all; done)) rfl))))
                            ·refine xq_blk 7 (xq_then (xw_region (vm rfl ?_))); obtain ⟨ho54,h⟩ := h; exact xQ rfl (o_add rfl rfl rfl ho54) (va rfl (xo_nil (xq_next (s' := (((there13a) || ((decide ((rn24.2.2.1[n14.toNat]!).1=za.1[k12.toNat]! 3)) && (decide (((rn24.2.2.1[n14.toNat]!).2.2.2.2.2.2.2.2.1)[s15.toNat]! = za.1[k12.toNat]! 2))),s15 + 1) : Bool × Int)) (e' := [(1,v1),(5,.pointer (some ⟨b26,0,none⟩)),(7,iI i7),(8,vs22),(11,vs27),(12,iI k12),(13,.bool ((there13a) || ((decide ((rn24.2.2.1[n14.toNat]!).1=za.1[k12.toNat]! 3)) && (decide (((rn24.2.2.1[n14.toNat]!).2.2.2.2.2.2.2.2.1)[s15.toNat]! = za.1[k12.toNat]! 2))))),(14,iI n14),(15,iI (s15 + 1))]) ((b26,_)::((b13,_)::(Bg21_0++(Bg21_1++(zh++(zg++([]))))))) (sl rfl) (fun _ h=>h) h ⟨rfl,rfl⟩)))
                           ·exact xw_exit (xq_then_exit (xq_out (r := (there13a : Bool)) (e' := [(1,v1),(5,.pointer (some ⟨b26,0,none⟩)),(7,iI i7),(8,vs22),(11,vs27),(12,iI k12),(13,.bool (there13a)),(14,iI n14)]) ((b26,_)::((b13,_)::(Bg21_0++(Bg21_1++(zh++(zg++([]))))))) (sl rfl) (fun _ h=>h) h (by intro hh; cases hh) ⟨rfl,rfl,rfl⟩))
                          ·rintro _ _ _ ⟨rfl,rfl,rfl⟩; replace h : sends18_k4a n14 there13a o := h; unfold sends18_k4a at h; refine xq_blk_eq (xq_blk 5 (xq_then (xw_region (vm rfl ?_)))); obtain ⟨ho55,h⟩ := h; exact xQ rfl (o_add rfl rfl rfl ho55) (va rfl (xo_nil (xq_next (s' := ((there13a,n14 + 1) : Bool × Int)) (e' := [(1,v1),(5,.pointer (some ⟨b26,0,none⟩)),(7,iI i7),(8,vs22),(11,vs27),(12,iI k12),(13,.bool (there13a)),(14,iI (n14 + 1))]) ((b26,_)::((b13,_)::(Bg21_0++(Bg21_1++(zh++(zg++([]))))))) (sl rfl) (fun _ h=>h) h ⟨rfl,rfl⟩)))
                         ·exact xw_exit (xq_then_exit (xq_out (r := (there13 : Bool)) (e' := [(1,v1),(5,.pointer (some ⟨b26,0,none⟩)),(7,iI i7),(8,vs22),(11,vs27),(12,iI k12),(13,.bool (there13))]) ((b26,_)::((b13,_)::(Bg21_0++(Bg21_1++(zh++(zg++([]))))))) (sl rfl) (fun _ h=>h) h (by intro hh; cases hh) ⟨rfl,rfl,rfl⟩))
                        ·rintro _ _ _ ⟨rfl,rfl,rfl⟩; replace h : sends18_k3a k12 there13 o := h; unfold sends18_k3a at h; refine xq_blk_eq (xq_then (wS (vm rfl (xQ rfl (o_not rfl) (nS (wc rfl h (fun hp56 h=>?_) fun hp56 h=>?_))))))
                         ·exact wS (va rfl (nS (xw_ret (xq_blk_ret (xq_then_ret (xq_out (r := (.inr () : (Unit) ⊕ (Unit))) (e' := [(4,.bool false)]) ((b26,_)::((b13,_)::(Bg21_0++(Bg21_1++(zh++(zg++([]))))))) (sl rfl) (fun _ h=>h) h (by intro hh; cases hh) ⟨rfl,rfl,rfl⟩))))))
                         ·refine xw_skip (xq_blk 3 (xq_then (xw_region (vm rfl ?_)))); obtain ⟨ho57,h⟩ := h; exact xQ rfl (o_add rfl rfl rfl ho57) (va rfl (xo_nil (xq_next (s' := (k12 + 1 : Int)) (e' := [(1,v1),(5,.pointer (some ⟨b26,0,none⟩)),(7,iI i7),(8,vs22),(11,vs27),(12,iI (k12 + 1))]) ((b26,_)::((b13,_)::(Bg21_0++(Bg21_1++(zh++(zg++([]))))))) (sl rfl) (fun _ h=>h) h ⟨rfl,rfl⟩)))
                    ·exact xw_exit (xq_then_exit (xq_out (r := (.inl () : (Unit) ⊕ (Unit))) (e' := [(1,v1),(5,.pointer (some ⟨b26,0,none⟩)),(7,iI i7)]) ((b26,_)::((b13,_)::(Bg21_0++(Bg21_1++(zh++(zg++([]))))))) (sl rfl) (fun _ h=>h) h (by intro hh; cases hh) ⟨rfl,rfl,rfl⟩))
                   ·rcases x2 with _ | x2
                    ·rintro _ _ _ ⟨rfl,rfl,rfl⟩; replace h : sends18_k2a i7 za o := h; unfold sends18_k2a at h; refine xq_blk_eq (xq_blk 1 (xq_then (xw_region (vm rfl ?_)))); obtain ⟨ho58,h⟩ := h; exact xQ rfl (o_add rfl rfl rfl ho58) (va rfl (xo_nil (xq_next (s' := ((i7 + 1,za.2.2.2.1,za.2.2.2.2.1,za.2.2.2.2.2.1,za.2.2.2.2.2.2.1,za.2.2.2.2.2.2.2) : Int × Int × Int × UM × LM × NI)) (e' := [(1,v1),(5,.pointer (some ⟨b26,0,none⟩)),(7,iI (i7 + 1))]) (Bg21_1++((b26,_)::(Bg21_0++((b13,_)::([]))))) (sl rfl) (fun _ h=>St.permJ [3,0,2,1] [[(b26,_)],[(b13,_)],Bg21_0,Bg21_1] (Kp.st (Kp.keep (Kp.keep (Kp.segKeep (Kp.segKeep (Kp.segNew (Cov.fresh hcBs27) (Kp.segNew (Cov.fresh hcBs22) Kp.nil)))))) _ h)) h ⟨vg21_1,vg21_0,Bg21_0,Bg21_1,rfl,rfl,hJBg21_0,hJBg21_1,hcBg21_0,hcBg21_1⟩)))
                    cases x2
                    rintro _ _ _ ⟨rfl,rfl,rfl⟩; replace h : sends18_k2b za o := h; unfold sends18_k2b at h; exact xq_blk_ret (xq_blk_ret (xq_then_ret (xq_out (r := (.inr (za.2.2.2.1,za.2.2.2.2.1,za.2.2.2.2.2.1,za.2.2.2.2.2.2.1,za.2.2.2.2.2.2.2) : (Int × Int × UM × LM × NI) ⊕ (Int × Int × UM × LM × NI))) (e' := [(4,.bool false)]) (Bg21_1++((b26,_)::(Bg21_0++((b13,_)::([]))))) (sl rfl) (fun _ h=>St.permJ [3,0,2,1] [[(b26,_)],[(b13,_)],Bg21_0,Bg21_1] (Kp.st (Kp.keep (Kp.keep (Kp.segKeep (Kp.segKeep (Kp.segNew (Cov.fresh hcBs27) (Kp.segNew (Cov.fresh hcBs22) Kp.nil)))))) _ h)) h (by intro hh; cases hh) ⟨vg21_1,vg21_0,Bg21_0,Bg21_1,rfl,rfl,rfl,hJBg21_0,hJBg21_1,hcBg21_0,hcBg21_1⟩)))
                  ·exact xw_exit (xq_then_exit (xq_out (r := (.inl (zi,zj,zd,zf,fb13) : (Int × Int × UM × LM × NI) ⊕ (Int × Int × UM × LM × NI))) (e' := []) (Bb26_11_1++((b26,_)::(Bb26_10_1++((b13,_)::([]))))) (sl rfl) (fun _ h=>h) h (by intro hh; cases hh) ⟨vb26_11_1,vb26_10_1,Bb26_10_1,Bb26_11_1,rfl,rfl,rfl,hJb26_10_1,hJb26_11_1,zk,zl⟩))
                 ·rcases x1 with ⟨zi,zj,zd,zf,fb13⟩ | x1
                  ·rintro _ _ _ ⟨vb26_11_1o,vb26_10_1o,Bb26_10_1o,Bb26_11_1o,rfl,rfl,rfl,hJb26_10_1o,hJb26_11_1o,zm,zn⟩; replace h : sends18_k1a zi zj zd zf fb13 r := h; unfold sends18_k1a at h; refine xq_blk_eq (xq_then (wS (va rfl (nS (xw_ret ?_))))); subst h
                   exact yA Tryz.results8 rfl [] (Kp.st (Kp.segNew (Cov.fresh zn) (Kp.new hb26 (Kp.segNew (Cov.fresh zm) (Kp.new hb13 Kp.nil))))) (⟨rfl,rfl⟩)
                  obtain ⟨zi,zj,zd,zf,fb13⟩ := x1; rintro _ _ _ ⟨vb26_11_1o,vb26_10_1o,Bb26_10_1o,Bb26_11_1o,rfl,rfl,rfl,hJb26_10_1o,hJb26_11_1o,zm,zn⟩; replace h : sends18_k1b zi zj zd zf fb13 r := h; unfold sends18_k1b at h; refine xq_blk_ret (xq_then_ret ?_); subst h
                  exact yA Tryz.results8 rfl [] (Kp.st (Kp.segNew (Cov.fresh zn) (Kp.new hb26 (Kp.segNew (Cov.fresh zm) (Kp.new hb13 Kp.nil))))) (⟨rfl,rfl⟩)
              ·refine xw_skip (xq_then (wS (xQ rfl (o_mki rfl Tryz.underlying86 rfl) (va rfl (nS (xw_ret (rO Tryz.results31 rfl (?_)))))))); refine va rfl (nR (vm rfl (xQ rfl (o_nen Tryz.underlying28 rfl rfl rfl rfl) (nS (xw_cond_t rfl rfl (wS (vm rfl (va rfl ?_)))))))); refine va rfl (nS (xw_ret (xq_then_ret (rT Tryz.results11 rfl rfl (?_))))); refine vm rfl (ve rfl (ve rfl (va rfl (va rfl (nS (xw_seq (xw_seq (wk [1,5] rfl [(32,.bool true)] ?_ ?_))))))))
               ·exact xw_region (vm rfl (xQ rfl (o_eqn Tryz.underlying26 rfl rfl rfl rfl) (vm rfl (vs rfl (vs rfl (vt rfl (xo_nil (qk rfl (by first | rfl | (simp only [hp1,dF hp2,hp4,hp6,hp8,hp10,hp12,bF hp14,if_pos hp1,if_neg hp2,if_pos hp4,if_pos hp6,if_pos hp8,if_pos hp10,if_pos hp12,if_neg hp14,bS,reduceIte,Bool.false_eq_true]; done) | (simp [hp1,hp2,hp4,hp6,hp8,hp10,hp12,hp14]; done) | (simp_all; done)) rfl))))))))
               ·refine xq_then (xw_cond_t rfl rfl (wS (va rfl (nS (xw_ret (xq_then_ret ?_)))))); subst h
                exact yA Tryz.results8 rfl [] (Kp.st (Kp.new hb1 (Kp.new hb2a (Kp.new hb2 Kp.nil)))) (⟨rfl,rfl⟩)
            ·refine vs rfl (vs rfl (vs rfl (vf rfl (nS (xw_cond_f rfl rfl (xw_skip (xq_then (wS (xQ rfl (o_mki rfl Tryz.underlying86 rfl) (va rfl (xo_nil ?_))))))))))); refine xq_then (xw_ret (rO Tryz.results31 rfl (?_))); refine va rfl (nR (vm rfl (xQ rfl (o_nen Tryz.underlying28 rfl rfl rfl rfl) (nS (xw_cond_t rfl rfl (wS (vm rfl (va rfl ?_)))))))); refine va rfl (nS (xw_ret (xq_then_ret (rT Tryz.results11 rfl rfl (?_))))); refine vm rfl (ve rfl (ve rfl (va rfl (va rfl (nS (xw_seq (xw_seq (wk [1,5] rfl [(32,.bool true)] ?_ ?_))))))))
             ·exact xw_region (vm rfl (xQ rfl (o_eqn Tryz.underlying26 rfl rfl rfl rfl) (vm rfl (vs rfl (vs rfl (vt rfl (xo_nil (qk rfl (by first | rfl | (simp only [hp1,dF hp2,hp4,hp6,hp8,hp10,bF hp12,if_pos hp1,if_neg hp2,if_pos hp4,if_pos hp6,if_pos hp8,if_pos hp10,if_neg hp12,bS,reduceIte,Bool.false_eq_true]; done) | (simp [hp1,hp2,hp4,hp6,hp8,hp10,hp12]; done) | (simp_all; done)) rfl))))))))
             ·refine xq_then (xw_cond_t rfl rfl (wS (va rfl (nS (xw_ret (xq_then_ret ?_)))))); subst h
              exact yA Tryz.results8 rfl [] (Kp.st (Kp.new hb1 (Kp.new hb2a (Kp.new hb2 Kp.nil)))) (⟨rfl,rfl⟩)
          ·refine vs rfl (vs rfl (vs rfl (vf rfl (vm rfl (vs rfl (vs rfl (vs rfl (vf rfl (nS (xw_cond_f rfl rfl (xw_skip (xq_then ?_)))))))))))); refine wS (xQ rfl (o_mki rfl Tryz.underlying86 rfl) (va rfl (nS (xw_ret (rO Tryz.results31 rfl (?_)))))); refine va rfl (nR (vm rfl (xQ rfl (o_nen Tryz.underlying28 rfl rfl rfl rfl) (nS (xw_cond_t rfl rfl (wS (vm rfl (va rfl ?_)))))))); refine va rfl (nS (xw_ret (xq_then_ret (rT Tryz.results11 rfl rfl (?_))))); refine vm rfl (ve rfl (ve rfl (va rfl (va rfl (nS (xw_seq (xw_seq (wk [1,5] rfl [(32,.bool true)] ?_ ?_))))))))
           ·exact xw_region (vm rfl (xQ rfl (o_eqn Tryz.underlying26 rfl rfl rfl rfl) (vm rfl (vs rfl (vs rfl (vt rfl (xo_nil (qk rfl (by first | rfl | (simp only [hp1,dF hp2,hp4,hp6,hp8,bF hp10,if_pos hp1,if_neg hp2,if_pos hp4,if_pos hp6,if_pos hp8,if_neg hp10,bS,reduceIte,Bool.false_eq_true]; done) | (simp [hp1,hp2,hp4,hp6,hp8,hp10]; done) | (simp_all; done)) rfl))))))))
           ·refine xq_then (xw_cond_t rfl rfl (wS (va rfl (nS (xw_ret (xq_then_ret ?_)))))); subst h
            exact yA Tryz.results8 rfl [] (Kp.st (Kp.new hb1 (Kp.new hb2a (Kp.new hb2 Kp.nil)))) (⟨rfl,rfl⟩)
        ·refine vs rfl (vs rfl (vs rfl (vf rfl (vm rfl (vs rfl (vs rfl (vs rfl (vf rfl (vm rfl (vs rfl (vs rfl (vs rfl (vf rfl ?_))))))))))))); refine nS (xw_cond_f rfl rfl (xw_skip (xq_then (wS (xQ rfl (o_mki rfl Tryz.underlying86 rfl) (va rfl (nS (xw_ret (rO Tryz.results31 rfl (?_)))))))))); refine va rfl (nR (vm rfl (xQ rfl (o_nen Tryz.underlying28 rfl rfl rfl rfl) (nS (xw_cond_t rfl rfl (wS (vm rfl (va rfl ?_)))))))); refine va rfl (nS (xw_ret (xq_then_ret (rT Tryz.results11 rfl rfl (?_))))); refine vm rfl (ve rfl (ve rfl (va rfl (va rfl (nS (xw_seq (xw_seq (wk [1,5] rfl [(32,.bool true)] ?_ ?_))))))))
         ·exact xw_region (vm rfl (xQ rfl (o_eqn Tryz.underlying26 rfl rfl rfl rfl) (vm rfl (vs rfl (vs rfl (vt rfl (xo_nil (qk rfl (by first | rfl | (simp only [hp1,dF hp2,hp4,hp6,bF hp8,if_pos hp1,if_neg hp2,if_pos hp4,if_pos hp6,if_neg hp8,bS,reduceIte,Bool.false_eq_true]; done) | (simp [hp1,hp2,hp4,hp6,hp8]; done) | (simp_all; done)) rfl))))))))
         ·refine xq_then (xw_cond_t rfl rfl (wS (va rfl (nS (xw_ret (xq_then_ret ?_)))))); subst h
          exact yA Tryz.results8 rfl [] (Kp.st (Kp.new hb1 (Kp.new hb2a (Kp.new hb2 Kp.nil)))) (⟨rfl,rfl⟩)
      ·refine vs rfl (vs rfl (vs rfl (vf rfl (vm rfl (vs rfl (vs rfl (vs rfl (vf rfl (vm rfl (vs rfl (vs rfl (vs rfl (vf rfl ?_))))))))))))); refine vm rfl (vs rfl (vs rfl (vs rfl (vf rfl (nS (xw_cond_f rfl rfl (xw_skip (xq_then (wS (xQ rfl (o_mki rfl Tryz.underlying86 rfl) (va rfl ?_))))))))))); refine nS (xw_ret (rO Tryz.results31 rfl (?_))); refine va rfl (nR (vm rfl (xQ rfl (o_nen Tryz.underlying28 rfl rfl rfl rfl) (nS (xw_cond_t rfl rfl (wS (vm rfl (va rfl ?_)))))))); refine va rfl (nS (xw_ret (xq_then_ret (rT Tryz.results11 rfl rfl (?_))))); refine vm rfl (ve rfl (ve rfl (va rfl (va rfl (nS (xw_seq (xw_seq (wk [1,5] rfl [(32,.bool true)] ?_ ?_))))))))
       ·exact xw_region (vm rfl (xQ rfl (o_eqn Tryz.underlying26 rfl rfl rfl rfl) (vm rfl (vs rfl (vs rfl (vt rfl (xo_nil (qk rfl (by first | rfl | (simp only [hp1,dF hp2,hp4,bF hp6,if_pos hp1,if_neg hp2,if_pos hp4,if_neg hp6,bS,reduceIte,Bool.false_eq_true]; done) | (simp [hp1,hp2,hp4,hp6]; done) | (simp_all; done)) rfl))))))))
       ·refine xq_then (xw_cond_t rfl rfl (wS (va rfl (nS (xw_ret (xq_then_ret ?_)))))); subst h
        exact yA Tryz.results8 rfl [] (Kp.st (Kp.new hb1 (Kp.new hb2a (Kp.new hb2 Kp.nil)))) (⟨rfl,rfl⟩)
    ·refine vs rfl (vs rfl (vs rfl (vf rfl (vm rfl (vs rfl (vs rfl (vs rfl (vf rfl (vm rfl (vs rfl (vs rfl (vs rfl (vf rfl ?_))))))))))))); refine vm rfl (vs rfl (vs rfl (vs rfl (vf rfl (vm rfl (vs rfl (vs rfl (vs rfl (vf rfl (nS (xw_cond_f rfl rfl (xw_skip ?_)))))))))))); refine xq_then (wS (xQ rfl (o_mki rfl Tryz.underlying86 rfl) (va rfl (nS (xw_ret (rO Tryz.results31 rfl (?_))))))); refine va rfl (nR (vm rfl (xQ rfl (o_nen Tryz.underlying28 rfl rfl rfl rfl) (nS (xw_cond_t rfl rfl (wS (vm rfl (va rfl ?_)))))))); refine va rfl (nS (xw_ret (xq_then_ret (rT Tryz.results11 rfl rfl (?_))))); refine vm rfl (ve rfl (ve rfl (va rfl (va rfl (nS (xw_seq (xw_seq (wk [1,5] rfl [(32,.bool true)] ?_ ?_))))))))
     ·exact xw_region (vm rfl (xQ rfl (o_eqn Tryz.underlying26 rfl rfl rfl rfl) (vm rfl (vs rfl (vs rfl (vt rfl (xo_nil (qk rfl (by first | rfl | (simp only [hp1,dF hp2,bF hp4,if_pos hp1,if_neg hp2,if_neg hp4,bS,reduceIte,Bool.false_eq_true]; done) | (simp [hp1,hp2,hp4]; done) | (simp_all; done)) rfl))))))))
     ·refine xq_then (xw_cond_t rfl rfl (wS (va rfl (nS (xw_ret (xq_then_ret ?_)))))); subst h
      exact yA Tryz.results8 rfl [] (Kp.st (Kp.new hb1 (Kp.new hb2a (Kp.new hb2 Kp.nil)))) (⟨rfl,rfl⟩)
end Go.Proofs.YtljklmlodfbdnaaGreat
namespace Go.E
open Go
def nextK (c : Nat → Int) (N : Int) (s : KS) (a : Nat → Int) : KS :=
 if a 0=0 then (lockK (c 0) N s (a 1) (fun i=>a (2 + i)) (a 4)).2.2
 else if a 0=1 then (commitK N s (a 1)).2.2
 else if a 0=2 then (abortCK N s (a 1)).2.2
 else if a 0=3 then (crashK N s (a 1)).2
 else if a 0=4 then (beginK N s (a 1)).2.2
 else if a 0=5 then (handleK (c 0) (nz (c 1)) s (fun i=>a (5 + i))).2.2
 else if a 0=6 then (tickK c s).2
 else s
def sentK (c : Nat → Int) (N : Int) (s : KS) (a : Nat → Int) : LM :=
 if a 0=0 then (lockK (c 0) N s (a 1) (fun i=>a (2 + i)) (a 4)).1
 else if a 0=1 then (commitK N s (a 1)).1
 else if a 0=2 then (abortCK N s (a 1)).1
 else if a 0=5 then (handleK (c 0) (nz (c 1)) s (fun i=>a (5 + i))).1
 else if a 0=6 then (tickK c s).1
 else []
section
variable {N : Int} {n : Nat} {s : KS}
theorem nextK_KI (h : KI N n s) (hn : n≤90000) (c : Nat → Int) (a : Nat → Int) : KI N (n + 10) (nextK c N s a) := by
 unfold nextK
 split
 ·exact (lockK_KI h _ _ _ _).mono (by omega)
 ·split
  ·exact (commitK_KI h _).mono (by omega)
  ·split
   ·exact (abortCK_KI h _).mono (by omega)
   ·split
    ·exact (crashK_KI h (by omega) _).mono (by omega)
    ·split
     ·exact (beginK_KI h (by omega) _).mono (by omega)
     ·split
      ·exact (handleK_KI h _ _ _).mono (by omega)
      ·split
       ·exact tickK_KI h c
       ·exact h.mono (by omega)
theorem doneK_same (s : KS) (r : TT × LM × Int) : (doneK s r).2.2.ti=s.ti∧(doneK s r).2.2.la=s.la := by
 unfold doneK
 split
 ·exact setK_ti _ _
 ·exact ⟨rfl,rfl⟩
theorem lockK_same (sh N : Int) (s : KS) (id : Int) (a : Nat → Int) (m : Int) : (lockK sh N s id a m).2.2.ti=s.ti∧(lockK sh N s id a m).2.2.la=s.la := by
 unfold lockK
 split
 ·split
  ·exact ⟨rfl,rfl⟩
  ·split
   ·split
    ·exact setK_ti _ _
    ·exact ⟨rfl,rfl⟩
   ·exact ⟨rfl,rfl⟩
 ·exact ⟨rfl,rfl⟩
theorem commitK_same (N : Int) (s : KS) (id : Int) : (commitK N s id).2.2.ti=s.ti∧(commitK N s id).2.2.la=s.la := by
 unfold commitK
 split
 ·split
  ·exact ⟨rfl,rfl⟩
  ·exact doneK_same _ _
 ·exact ⟨rfl,rfl⟩
theorem abortCK_same (N : Int) (s : KS) (id : Int) : (abortCK N s id).2.2.ti=s.ti∧(abortCK N s id).2.2.la=s.la := by
 unfold abortCK
 split
 ·split
  ·exact ⟨rfl,rfl⟩
  ·exact abortK_same _ _ _ _
 ·exact ⟨rfl,rfl⟩
theorem crashK_same (N : Int) (s : KS) (id : Int) : (crashK N s id).2.ti=s.ti∧(crashK N s id).2.la=s.la∧(crashK N s id).2.m=s.m := by
 unfold crashK
 split <;> exact ⟨rfl,rfl,rfl⟩
theorem beginK_same (N : Int) (s : KS) (id : Int) : (beginK N s id).2.2.ti=s.ti := by
 unfold beginK
 split
 ·split <;> rfl
 ·rfl
theorem handleK_same (sh : Int) (pr : Bool) (s : KS) (m : Nat → Int) : (handleK sh pr s m).2.2.ti=s.ti∧(handleK sh pr s m).2.2.la=s.la := by
 have ha : (ansK s m).2.ti=s.ti∧(ansK s m).2.la=s.la := by
  unfold ansK
  split
  ·exact setK_ti _ _
  ·exact ⟨rfl,rfl⟩
 unfold handleK
 split
 ·split
  ·exact ⟨rfl,rfl⟩
  ·dsimp only
   unfold comesK
   split
   ·unfold probedK
    split
    ·split
     ·split
      ·exact abortK_same _ _ _ _
      ·split
       ·exact ⟨rfl,rfl⟩
       ·split <;> exact ⟨rfl,rfl⟩
     ·exact ⟨rfl,rfl⟩
    ·exact ⟨rfl,rfl⟩
   ·split
    ·split
     ·exact ha
     ·split
      ·exact ha
      ·split
       ·unfold voteK
        split
        ·exact setK_ti _ _
        ·exact ⟨rfl,rfl⟩
       ·split
        ·unfold ackK
         split
         ·exact setK_ti _ _
         ·exact ⟨rfl,rfl⟩
        ·split
         ·exact abortK_same _ _ _ _
         ·split
          ·unfold woundK
           split
           ·exact ⟨rfl,rfl⟩
           ·exact abortK_same _ _ _ _
          ·exact ⟨rfl,rfl⟩
    ·exact ⟨rfl,rfl⟩
 ·exact ⟨rfl,rfl⟩
theorem act18_is (h : KI N n s) (hn : n≤90000) (c : Nat → Int) (hc : 1≤c 0∧c 0≤64) (hc3 : c 3 ≠ 0) (a : Nat → Int) :
  act18_P c s.cl s.ti s.la s.m s.tr a∧(act18_F c s.cl s.ti s.la s.m s.tr a).1=sentK c N s a∧(act18_F c s.cl s.ti s.la s.m s.tr a).2.2.2=((nextK c N s a).ti,(nextK c N s a).la,(nextK c N s a).m,(nextK c N s a).tr,(nextK c N s a).cl) := by
 unfold act18_P act18_F sentK nextK
 by_cases h0 : a 0=0
 ·simp only [if_pos h0]
  obtain ⟨p,q⟩ := klock_is h (by omega) c hc (a 1) (fun i=>a (2 + i)) (a 4)
  have e := lockK_same (c 0) N s (a 1) (fun i=>a (2 + i)) (a 4)
  rw [q,e.1,e.2]
  exact ⟨⟨p,trivial⟩,rfl,rfl⟩
 ·simp only [if_neg h0]
  by_cases h1 : a 0=1
  ·simp only [if_pos h1]
   obtain ⟨p,q⟩ := kcommit_is h (by omega) c (a 1)
   have e := commitK_same N s (a 1)
   rw [q,e.1,e.2]
   exact ⟨⟨p,trivial⟩,rfl,rfl⟩
  ·simp only [if_neg h1]
   by_cases h2 : a 0=2
   ·simp only [if_pos h2]
    obtain ⟨p,q⟩ := kabortC_is h (by omega) c (a 1)
    have e := abortCK_same N s (a 1)
    rw [q,e.1,e.2]
    exact ⟨⟨p,trivial⟩,rfl,rfl⟩
   ·simp only [if_neg h2]
    by_cases h3 : a 0=3
    ·simp only [if_pos h3]
     obtain ⟨p,q⟩ := kcrash_is h (by omega) c (a 1)
     have e := crashK_same N s (a 1)
     have e5 : ¬ a 0=5 := by omega
     have e6 : ¬ a 0=6 := by omega
     rw [q,e.1,e.2.1,e.2.2,if_neg e5,if_neg e6]
     exact ⟨⟨p,trivial⟩,rfl,rfl⟩
    ·simp only [if_neg h3]
     by_cases h4 : a 0=4
     ·simp only [if_pos h4]
      obtain ⟨p,q⟩ := kbegin_is h (by omega) c (a 1)
      have e := beginK_same N s (a 1)
      have e5 : ¬ a 0=5 := by omega
      have e6 : ¬ a 0=6 := by omega
      rw [q,e,if_neg e5,if_neg e6]
      exact ⟨⟨p,trivial⟩,rfl,rfl⟩
     ·simp only [if_neg h4]
      by_cases h5 : a 0=5
      ·simp only [if_pos h5]
       obtain ⟨p,q⟩ := khandle_is h (by omega) c (fun i=>a (5 + i))
       have e := handleK_same (c 0) (nz (c 1)) s (fun i=>a (5 + i))
       rw [q,e.1,e.2]
       exact ⟨⟨p,trivial⟩,rfl,rfl⟩
      ·simp only [if_neg h5]
       by_cases h6 : a 0=6
       ·simp only [if_pos h6]
        have e := tick1_KI h c
        have e2 := tickK_2 c s
        have e3 : (tickK c s).2.ti=s.ti + 1 := by rw [e2]; exact e.2.2.1
        have e4 : (tickK c s).2.la=s.la := by rw [e2]; exact e.2.2.2
        refine ⟨⟨⟨⟨N,n,h,hn⟩,hc3⟩,trivial⟩,rfl,?_⟩
        rw [e3,e4]
        rfl
       ·simp only [if_neg h6]
        exact ⟨trivial,trivial,trivial⟩
theorem KI.viewP (h : KI N n s) (hn : n≤100000) (c : Nat → Int) : kview_P c s.cl s.ti s.la s.m s.tr := by
 have hl := h.hl
 have hr := h.hr
 refine ⟨h.skP hn,by rw [h.len]; omega,by omega,fun k=>?_⟩
 by_cases hk : 1≤k∧k≤s.la
 ·have hT := (h.hT k hk.1 hk.2).1
  have h1 := TI.lto hT
  have h2 := TI.lvo hT
  have h3 := TI.lac hT
  have h4 : _≤n := hT.hgo
  exact ⟨by omega,by omega,by omega,by omega⟩
 ·unfold TL
  rw [h.at0 hk]
  exact ⟨by decide,by decide,by decide,by decide⟩
theorem KI.view (h : KI N n s) (c : Nat → Int) : (kview_F c s.cl s.ti s.la s.m s.tr).2.2.1=(List.range s.la.toNat).map fun k : Nat=>tAt s.m ((k : Int) + 1) := by
 unfold kview_F
 dsimp only
 rw [h.keys,List.map_map]
 rfl
end
end Go.E
namespace Go.E
open Go
structure Ck (c : Nat → Int) (s : KS) (a : Nat → Int) (k : Int) (t t' : TT) : Prop where
 keep : 3≤t.2.1 → t'.2.1=t.2.1∧t'.2.2.1=t.2.2.1
 w3 : t.2.1≤2 → t'.2.1=4 → t'.2.2.1=3 → a 0=5∧okB (fun i=>a (5 + i))=true∧a 5=10∧a 8=k∧nz (c 1)=false∧t.2.1=1∧((tAt s.m (a 14)).2.1=1∨(tAt s.m (a 14)).2.1=2)
 w4 : t.2.1≤2 → t'.2.1=4 → t'.2.2.1=4 → a 0=5∧nz (c 1)=true∧live_F (fun i=>a (5 + i)) (openL s.m)=true∧back_F (fun i=>a (5 + i))=true∧k=(victim_F (fun i=>a (5 + i))).1
section
variable {c : Nat → Int} {s : KS} {a : Nat → Int} {k : Int} {t t' : TT} {N : Int} {n : Nat}
theorem Ck.same (h1 : t'.2.1=t.2.1) (h2 : t'.2.2.1=t.2.2.1) : Ck c s a k t t' where
 keep := fun _=>⟨h1,h2⟩
 w3 := fun h3 h4=>by omega
 w4 := fun h3 h4=>by omega
theorem Ck.rfl' : Ck c s a k t t := Ck.same rfl rfl
theorem Ck.oth (h1 : 3≤t.2.1 → t'.2.1=t.2.1∧t'.2.2.1=t.2.2.1) (h2 : t'.2.1=4 → t.2.1≤2 → t'.2.2.1 ≠ 3∧t'.2.2.1 ≠ 4) : Ck c s a k t t' where
 keep := h1
 w3 := fun h3 h4 h5=>absurd h5 (h2 h4 h3).1
 w4 := fun h3 h4 h5=>absurd h5 (h2 h4 h3).2
theorem tAt_setK (s : KS) (t : TT) (k : Int) : tAt (setK s t).m k=if k=t.1 then t else tAt s.m k := by rw [setK_m,tAt_mset]
end
end Go.E
namespace Go.E
open Go
def cfgK (pr : Bool) : Nat → Int := updI (updI (updI (updI (updI (updI (updI (fun _=>0) 0 2) 1 (bI pr)) 2 5) 3 3) 4 40) 5 6) 6 1000
theorem cfgK_0 (pr : Bool) : cfgK pr 0=2∧cfgK pr 3=3∧nz (cfgK pr 1)=pr := ⟨rfl,rfl,nz_bI pr⟩
def runK (pr : Bool) (N : Int) (acts : LM) : Nat → KS
 | 0=>startK N
 | k + 1=>nextK (cfgK pr) N (runK pr N acts k) (acts[k]!)
theorem runK_KI (pr : Bool) {N : Int} (hN : 1≤N∧N≤8) (acts : LM) (k : Nat) (hk : k≤9000) : KI N (10 * k) (runK pr N acts k) := by
 induction k with
 | zero=>exact KI.start hN
 | succ k ih=>exact (nextK_KI (ih (by omega)) (by omega) _ _).mono (by omega)
theorem seen_at {m : TM} {la : Int} {k : Nat} (h : (k : Int) < la) : ((List.range la.toNat).map fun k : Nat=>tAt m ((k : Int) + 1))[k]! = tAt m ((k : Int) + 1) := by
 rw [getElem!_pos _ _ (by simp; omega)]
 simp
theorem seen_len {m : TM} {la : Int} : ((List.range la.toNat).map fun k : Nat=>tAt m ((k : Int) + 1)).length=la.toNat := by simp
abbrev VW := Int × Int × List TT × LM
def seenL (m : TM) (la : Int) : List TT := (List.range la.toNat).map fun k : Nat=>tAt m ((k : Int) + 1)
section
variable {n : Nat} {s : KS}
end
end Go.E
namespace Go.E
open Go
section
variable {n : Nat} {tx st re sq : Int} {op : Bool} {sh : Int} {at_ : Nat → Int} {mo : Int} {to_ vo ac : List Int} {go : LM}
def SndT (r : T17 × LM × Int) : Prop := (∀ m ∈ r.2.1,Snd r.1.1 r.1.2.2.2.2.2.2.2.2.1 m)∧r.2.1.length≤64
theorem sndT_nil {t : T17} {e : Int} : SndT (t,[],e) := ⟨fun m hm=>by simp at hm,by simp⟩
theorem askC_snd (h : TI n tx st re sq op sh at_ mo to_ vo ac go) (s : Int) (a : Nat → Int) (m : Int) : SndT (askC tx st re sq op sh at_ mo to_ vo ac go s a m) := by
 unfold askC
 by_cases hb : (1≤s∧s≤64)∧resOk_F a=true∧(1≤m∧m≤4)
 ·rw [if_pos hb]
  by_cases hs : st=1
  ·rw [if_pos hs]
   cases op with
   | true=>rw [if_pos rfl]; exact sndT_nil
   | false =>
    rw [if_neg Bool.false_ne_true]
    by_cases h6 : sq=1048576
    ·rw [if_pos h6]; exact sndT_nil
    ·rw [if_neg h6]
     subst hs
     refine ⟨fun x hx=>?_,by simp⟩
     rw [List.mem_singleton.1 hx]
     exact snd_lock (h.ask h6 hb.1 hb.2.1 hb.2.2)
  ·rw [if_neg hs]; exact sndT_nil
 ·rw [if_neg hb]; exact sndT_nil
theorem sndT_all {t : T17} {kind code e : Int} (hk : (kind=4∨kind=8)∧code=0∨kind=6∧0≤code∧code≤1) (ht : 1≤t.1∧t.1≤1048576) (h1 : Rise t.2.2.2.2.2.2.2.2.1) (h2 : ∀ s ∈ t.2.2.2.2.2.2.2.2.1,1≤s∧s≤64) : SndT (t,t.2.2.2.2.2.2.2.2.1.map (toMsg t.1 kind code),e) :=
 ⟨fun m hm=>snd_all hk ht (fun _ h=>h) h2 hm,by simp only [List.length_map]; exact len64 h1 h2⟩
theorem finC_snd (h : TI n tx st re sq op sh at_ mo to_ vo ac go) : SndT (finC tx st re sq op sh at_ mo to_ vo ac go) := by
 unfold finC
 by_cases hs : st=1
 ·rw [if_pos hs]
  cases op with
  | true=>rw [if_pos rfl]; exact sndT_nil
  | false =>
   rw [if_neg Bool.false_ne_true]
   by_cases ht : to_=[]
   ·rw [if_pos ht]
    exact sndT_all (t := (tx,3,0,sq,false,sh,at_,mo,to_,vo,ac,go)) (.inr ⟨rfl,by omega,by omega⟩) h.htx h.to1 h.to2
   ·rw [if_neg ht]
    exact sndT_all (t := (tx,2,re,sq,false,sh,at_,mo,to_,vo,ac,go)) (.inl ⟨.inl rfl,rfl⟩) h.htx h.to1 h.to2
 ·rw [if_neg hs]; exact sndT_nil
theorem voteC_snd (h : TI n tx st re sq op sh at_ mo to_ vo ac go) (m : Nat → Int) : SndT (voteC tx st re sq op sh at_ mo to_ vo ac go m) := by
 unfold voteC
 by_cases hf : Form tx 5 m
 ·rw [if_pos hf]
  by_cases hs : st=2
  ·rw [if_pos hs]
   by_cases hm : m 1 ∈ to_
   ·rw [if_pos hm]
    by_cases h8 : m 8=0
    ·rw [if_pos h8]
     exact sndT_all (t := (tx,4,2,sq,false,sh,at_,mo,to_,vo,ac,go)) (.inr ⟨rfl,by omega,by omega⟩) h.htx h.to1 h.to2
    ·rw [if_neg h8]
     by_cases hl : (insI (m 1) vo).length < to_.length
     ·rw [if_pos hl]; exact sndT_nil
     ·rw [if_neg hl]
      exact sndT_all (t := (tx,3,0,sq,false,sh,at_,mo,to_,insI (m 1) vo,ac,go)) (.inr ⟨rfl,by omega,by omega⟩) h.htx h.to1 h.to2
   ·rw [if_neg hm]; exact sndT_nil
  ·rw [if_neg hs]; exact sndT_nil
 ·rw [if_neg hf]; exact sndT_nil
theorem abortC_snd (h : TI n tx st re sq op sh at_ mo to_ vo ac go) (r : Int) : SndT (abortC tx st re sq op sh at_ mo to_ vo ac go r) := by
 unfold abortC
 by_cases hr : 1≤r∧r≤5
 ·rw [if_pos hr]
  by_cases hd : st=3∨st=4
  ·rw [if_pos hd]; exact sndT_nil
  ·rw [if_neg hd]
   exact sndT_all (t := (tx,4,r,sq,false,sh,at_,mo,to_,vo,ac,go)) (.inr ⟨rfl,by omega,by omega⟩) h.htx h.to1 h.to2
 ·rw [if_neg hr]; exact sndT_nil
theorem mem_leftL {l but : List Int} {x : Int} (h : x ∈ leftL l but) : x ∈ l := (List.mem_filter.1 h).1
theorem againC_snd (h : TI n tx st re sq op sh at_ mo to_ vo ac go) (b : Bool) : (∀ m ∈ againC tx st sq op sh at_ mo to_ vo ac b,Snd tx to_ m)∧(againC tx st sq op sh at_ mo to_ vo ac b).length≤65 := by
 have h1 := h.lto
 have hv := Nat.le_trans (leftL_len to_ vo) h1
 have ha := Nat.le_trans (leftL_len to_ ac) h1
 unfold againC
 by_cases s1 : st=1
 ·rw [if_pos s1]
  refine ⟨fun m hm=>?_,?_⟩
  ·rcases List.mem_append.1 hm with hm | hm
   ·cases op with
    | true =>
     rw [if_pos rfl] at hm
     rw [List.mem_singleton.1 hm]
     exact snd_lock h
    | false=>rw [if_neg Bool.false_ne_true] at hm; simp at hm
   ·cases b with
    | true=>rw [if_pos rfl] at hm; exact snd_all (.inl ⟨.inr rfl,rfl⟩) h.htx (fun _ h=>h) h.to2 hm
    | false=>rw [if_neg Bool.false_ne_true] at hm; simp at hm
  ·cases op <;> cases b <;> simp <;> omega
 rw [if_neg s1]
 by_cases s2 : st=2
 ·rw [if_pos s2]
  exact ⟨fun m hm=>snd_all (.inl ⟨.inl rfl,rfl⟩) h.htx (fun _ h=>mem_leftL h) h.to2 hm,by simp; omega⟩
 rw [if_neg s2]
 by_cases s3 : st=3
 ·rw [if_pos s3]
  exact ⟨fun m hm=>snd_all (.inr ⟨rfl,by omega,by omega⟩) h.htx (fun _ h=>mem_leftL h) h.to2 hm,by simp; omega⟩
 rw [if_neg s3]
 by_cases s4 : st=4
 ·rw [if_pos s4]
  exact ⟨fun m hm=>snd_all (.inr ⟨rfl,by omega,by omega⟩) h.htx (fun _ h=>mem_leftL h) h.to2 hm,by simp; omega⟩
 rw [if_neg s4]
 exact ⟨fun m hm=>by simp at hm,by simp⟩
end
end Go.E
namespace Go.E
open Go
def toT (t : TT) : List Int := t.2.2.2.2.2.2.2.2.1
def S2 (s : KS) : Prop := ∀ k,1≤k → k≤s.la → ∀ x ∈ toT (tAt s.m k),x≤2
def Gm (s : KS) (m : Nat → Int) : Prop := okB m=true∧m 1=0∧1≤m 2∧m 2≤2∧(m 0=11∨(m 0 ≠ 11∧1≤m 3∧m 3≤s.la∧m 2 ∈ toT (tAt s.m (m 3))))
def Le (s s' : KS) : Prop := s.la≤s'.la∧∀ k,1≤k → k≤s.la → ∀ x ∈ toT (tAt s.m k),x ∈ toT (tAt s'.m k)
theorem Le.rfl' (s : KS) : Le s s := ⟨Int.le_refl _,fun _ _ _ _ h=>h⟩
theorem Le.trans {s s' s'' : KS} (h : Le s s') (k : Le s' s'') : Le s s'' := ⟨Int.le_trans h.1 k.1,fun i h1 h2 x hx=>k.2 i h1 (Int.le_trans h2 h.1) x (h.2 i h1 h2 x hx)⟩
theorem Gm.mono {s s' : KS} {m : Nat → Int} (h : Gm s m) (k : Le s s') : Gm s' m :=
 ⟨h.1,h.2.1,h.2.2.1,h.2.2.2.1,h.2.2.2.2.elim .inl fun q=>.inr ⟨q.1,q.2.1,Int.le_trans q.2.2.1 k.1,k.2 _ q.2.1 q.2.2.1 _ q.2.2.2⟩⟩
structure Good (s : KS) (out : LM) (s' : KS) : Prop where
 g : ∀ m ∈ out,Gm s' m
 s2 : S2 s'
 le : Le s s'
theorem Good.same {s : KS} (h : S2 s) : Good s [] s := ⟨fun m hm=>by simp at hm,h,Le.rfl' s⟩
theorem ends_out {m : Nat → Int} (h : okB m=true) (hk : m 0=1∨m 0=4∨m 0=6∨m 0=8) : m 1=0∧1≤m 2∧m 2≤64 := by
 have h1 := ((okB_oth m (by omega)).1 h).1
 unfold endsB shB inB at h1
 rw [if_neg (by omega),if_pos (by omega)] at h1
 simp only [Bool.and_eq_true,decide_eq_true_eq] at h1
 exact ⟨h1.1,h1.2.1,h1.2.2⟩
section
variable {N : Int} {n : Nat} {s : KS}
theorem Snd.gm {s' : KS} (h2 : S2 s') {k : Int} (hk : 1≤k∧k≤s'.la) {m : Nat → Int} (h : Snd k (toT (tAt s'.m k)) m) : Gm s' m := by
 obtain ⟨a1,a2,a3,a4⟩ := h
 obtain ⟨e1,e2,e3⟩ := ends_out a4 a3
 exact ⟨a4,e1,e2,h2 k hk.1 hk.2 _ a1,.inr ⟨by omega,by omega,by omega,by rw [a2]; exact a1⟩⟩
theorem set_good (h2 : S2 s) {t : TT} {k : Int} (hx : t.1=k) (hk : 1≤k∧k≤s.la) (hs : ∀ x ∈ toT (tAt s.m k),x ∈ toT t) (hb : ∀ x ∈ toT t,x≤2) : S2 (setK s t)∧Le s (setK s t) := by
 have hl := (setK_ti s t).2
 refine ⟨fun i h1 h3 x hxx=>?_,by rw [hl]; exact Int.le_refl _,fun i h1 h3 x hxx=>?_⟩
 ·rw [hl] at h3
  rw [tAt_setK,hx] at hxx
  by_cases e : i=k
  ·rw [if_pos e] at hxx; exact hb x hxx
  ·rw [if_neg e] at hxx; exact h2 i h1 h3 x hxx
 ·rw [tAt_setK,hx]
  by_cases e : i=k
  ·rw [if_pos e]; exact hs x (e ▸ hxx)
  ·rw [if_neg e]; exact hxx
theorem done_good (h2 : S2 s) {r : TT × LM × Int} {k : Int} (hx : r.1.1=k) (hk : 1≤k∧k≤s.la) (hS : SndT r) (hs : ∀ x ∈ toT (tAt s.m k),x ∈ toT r.1) (hb : ∀ x ∈ toT r.1,x≤2) : Good s (doneK s r).1 (doneK s r).2.2 := by
 unfold doneK
 by_cases hz : r.2.2=0
 ·rw [if_pos hz]
  obtain ⟨q1,q2⟩ := set_good h2 hx hk hs hb
  refine ⟨fun m hm=>Snd.gm (k := k) q1 (by rw [(setK_ti s r.1).2]; exact hk) ?_,q1,q2⟩
  rw [tAt_setK,hx,if_pos rfl]
  have := hS.1 m hm
  rw [hx] at this
  exact this
 ·rw [if_neg hz]; exact Good.same h2
theorem fin_to (t : TT) : toT (finT t).1=toT t := by
 unfold finT finC
 split
 ·split
  ·rfl
  ·split <;> rfl
 ·rfl
theorem abort_to (t : TT) (r : Int) : toT (abortT t r).1=toT t := by
 unfold abortT abortC
 split
 ·split <;> rfl
 ·rfl
theorem vote_to (t : TT) (m : Nat → Int) : toT (voteT t m).1=toT t := by
 unfold voteT voteC
 split
 ·split
  ·split
   ·split
    ·rfl
    ·split <;> rfl
   ·rfl
  ·rfl
 ·rfl
theorem ack_to (t : TT) (m : Nat → Int) : toT (ackT t m).1=toT t := by
 unfold ackT ackC
 split
 ·split
  ·split <;> rfl
  ·rfl
 ·rfl
theorem ans_to (t : TT) (m : Nat → Int) : toT (ansT t m).1=toT t := by
 unfold ansT ansC
 split
 ·split
  ·split <;> rfl
  ·rfl
 ·rfl
theorem ask_to (t : TT) (x : Int) (a : Nat → Int) (m : Int) (h : (askT t x a m).2.2=0) : toT (askT t x a m).1=insI x (toT t) := by
 unfold askT askC at h ⊢
 split at h
 ·rename_i h1
  split at h
  ·rename_i h2
   split at h
   ·exact absurd h (by simp)
   ·rename_i h3
    split at h
    ·exact absurd h (by simp)
    ·rename_i h4
     rw [if_pos h1,if_pos h2,if_neg h3,if_neg h4]; rfl
  ·exact absurd h (by simp)
 ·exact absurd h (by simp)
theorem abortK_good (h : KI N n s) (h2 : S2 s) (tx re : Int) {l : List Int} (hl : ∀ x ∈ l,1≤x) : Good s (abortK s tx re l).1 (abortK s tx re l).2.2 := by
 unfold abortK
 by_cases hm : (tAt s.m tx).2.1 ∈ l
 ·rw [if_pos hm]
  have hk : 1≤tx∧tx≤s.la := by
   by_cases hk : 1≤tx∧tx≤s.la
   ·exact hk
   ·rw [h.at0 hk] at hm
    exact absurd (show (1 : Int)≤0 from hl _ hm) (by decide)
  have hT := h.hT _ hk.1 hk.2
  exact done_good h2 (by rw [abort_tx]; exact hT.2) hk (abortC_snd hT.1 re) (by rw [abort_to]; exact fun _ h=>h) (by rw [abort_to]; exact h2 tx hk.1 hk.2)
 ·rw [if_neg hm]; exact Good.same h2
theorem commitK_good (h : KI N n s) (h2 : S2 s) (id : Int) : Good s (commitK N s id).1 (commitK N s id).2.2 := by
 unfold commitK
 by_cases ha : aliveC N s.cl id=0
 ·rw [if_pos ha]
  by_cases h0 : s.cl (1 + id.toNat * 3)=0
  ·rw [if_pos h0]; exact Good.same h2
  ·rw [if_neg h0]
   have hk := h.now ha h0
   have hT := h.hT _ hk.1 hk.2
   exact done_good h2 (by rw [fin_tx]; exact hT.2) hk (finC_snd hT.1) (by rw [fin_to]; exact fun _ h=>h) (by rw [fin_to]; exact h2 _ hk.1 hk.2)
 ·rw [if_neg ha]; exact Good.same h2
theorem abortCK_good (h : KI N n s) (h2 : S2 s) (id : Int) : Good s (abortCK N s id).1 (abortCK N s id).2.2 := by
 unfold abortCK
 by_cases ha : aliveC N s.cl id=0
 ·rw [if_pos ha]
  by_cases h0 : s.cl (1 + id.toNat * 3)=0
  ·rw [if_pos h0]; exact Good.same h2
  ·rw [if_neg h0]; exact abortK_good h h2 _ _ (by simp)
 ·rw [if_neg ha]; exact Good.same h2
theorem resShard_le (a : Nat → Int) (h : (resShard_F a 2).2=0) : (resShard_F a 2).1≤2 := by
 unfold resShard_F at h ⊢
 by_cases h1 : resOk_F a=true
 ·rw [if_pos h1] at h ⊢
  rw [if_neg (by decide)]
  dsimp only
  have := Int.tmod_lt_of_pos (a 0 - 1) (b := 2) (by decide)
  omega
 ·rw [if_neg h1] at h; exact absurd h (by simp)
theorem lockK_good (h : KI N n s) (h2 : S2 s) (id : Int) (a : Nat → Int) (m : Int) : Good s (lockK 2 N s id a m).1 (lockK 2 N s id a m).2.2 := by
 unfold lockK
 by_cases ha : aliveC N s.cl id=0
 ·rw [if_pos ha]
  by_cases h0 : s.cl (1 + id.toNat * 3)=0
  ·rw [if_pos h0]; exact Good.same h2
  ·rw [if_neg h0]
   by_cases hr : (resShard_F a 2).2=0
   ·rw [if_pos hr]
    have hk := h.now ha h0
    have hT := h.hT _ hk.1 hk.2
    have hle := resShard_le a hr
    have hsn := askC_snd hT.1 (resShard_F a 2).1 a m
    by_cases hz : (askT (tAt s.m (s.cl (1 + id.toNat * 3))) (resShard_F a 2).1 a m).2.2=0
    ·rw [if_pos hz]
     have hto := ask_to _ _ _ _ hz
     have hx : (askT (tAt s.m (s.cl (1 + id.toNat * 3))) (resShard_F a 2).1 a m).1.1=s.cl (1 + id.toNat * 3) := by rw [ask_tx]; exact hT.2
     have hsn' : SndT (askT (tAt s.m (s.cl (1 + id.toNat * 3))) (resShard_F a 2).1 a m) := hsn
     generalize askT (tAt s.m (s.cl (1 + id.toNat * 3))) (resShard_F a 2).1 a m=r at hz hto hx hsn' ⊢
     generalize hs' : ({ s with tr := s.tr++[askE r.1.1 a m] } : KS)=s1
     have e1 : s1.m=s.m := by rw [← hs']
     have e2 : s1.la=s.la := by rw [← hs']
     have h21 : S2 s1 := fun i p q=>by rw [e1]; exact h2 i p (by omega)
     have hle1 : Le s s1 := ⟨by rw [e2]; exact Int.le_refl _,fun i p q x hx=>by rw [e1]; exact hx⟩
     have := done_good (s := s1) h21 (r := r) hx ⟨hk.1,by omega⟩ hsn' (by rw [e1,hto]; exact fun x hx=>mem_insI.2 (.inr hx)) (by
      rw [hto]
      intro x hx
      rcases mem_insI.1 hx with rfl | hx
      ·exact hle
      ·exact h2 _ hk.1 hk.2 x hx)
     unfold doneK at this
     rw [if_pos hz] at this
     exact ⟨this.g,this.s2,hle1.trans this.le⟩
    ·rw [if_neg hz]; exact Good.same h2
   ·rw [if_neg hr]; exact Good.same h2
 ·rw [if_neg ha]; exact Good.same h2
theorem beginK_good (h : KI N n s) (h2 : S2 s) (id : Int) : S2 (beginK N s id).2.2 := by
 unfold beginK
 split
 ·split
  ·intro k h1 h3 x hx
   have h3' : k≤s.la + 1 := h3
   have hx' : x ∈ toT (tAt (mset ieq s.m (s.la + 1) (newT (s.la + 1))) k) := hx
   rw [tAt_mset] at hx'
   by_cases e : k=s.la + 1
   ·rw [if_pos e] at hx'
    simp [toT,newT] at hx'
   ·rw [if_neg e] at hx'
    exact h2 k h1 (by omega) x hx'
  ·exact h2
 ·exact h2
theorem crashK_good (h2 : S2 s) (id : Int) : S2 (crashK N s id).2 := by
 unfold crashK
 split <;> exact h2
theorem ansK_good (h : KI N n s) (h2 : S2 s) (m : Nat → Int) (hk : 1≤m 3∧m 3≤s.la) : Good s (ansK s m).1 (ansK s m).2 := by
 unfold ansK
 have hT := h.hT _ hk.1 hk.2
 split
 ·have hx : (ansT (tAt s.m (m 3)) m).1.1=m 3 := by rw [ans_tx]; exact hT.2
  obtain ⟨q1,q2⟩ := set_good h2 hx hk (by rw [ans_to]; exact fun _ h=>h) (by rw [ans_to]; exact h2 _ hk.1 hk.2)
  exact ⟨fun m hm=>by simp at hm,q1,q2⟩
 ·exact Good.same h2
theorem ackK_good (h : KI N n s) (h2 : S2 s) (m : Nat → Int) (hk : 1≤m 3∧m 3≤s.la) : Good s (ackK s m).1 (ackK s m).2 := by
 unfold ackK
 have hT := h.hT _ hk.1 hk.2
 split
 ·have hx : (ackT (tAt s.m (m 3)) m).1.1=m 3 := by rw [ack_tx]; exact hT.2
  obtain ⟨q1,q2⟩ := set_good h2 hx hk (by rw [ack_to]; exact fun _ h=>h) (by rw [ack_to]; exact h2 _ hk.1 hk.2)
  exact ⟨fun m hm=>by simp at hm,q1,q2⟩
 ·exact Good.same h2
theorem voteK_good (h : KI N n s) (h2 : S2 s) (m : Nat → Int) (hk : 1≤m 3∧m 3≤s.la) : Good s (voteK s m).1 (voteK s m).2 := by
 have hT := h.hT _ hk.1 hk.2
 have := done_good h2 (r := voteT (tAt s.m (m 3)) m) (by rw [vote_tx]; exact hT.2) hk (voteC_snd hT.1 m) (by rw [vote_to]; exact fun _ h=>h) (by rw [vote_to]; exact h2 _ hk.1 hk.2)
 unfold doneK at this
 unfold voteK
 split
 ·rename_i hz; rw [if_pos hz] at this; exact this
 ·exact Good.same h2
theorem probedK_good (h : KI N n s) (h2 : S2 s) (pr : Bool) (m : Nat → Int) : Good s (probedK pr s m).1 (probedK pr s m).2 := by
 unfold probedK
 by_cases h1 : pr=true
 ·rw [if_pos h1]
  by_cases h3 : live_F m (openL s.m)=true
  ·rw [if_pos h3]
   by_cases h4 : back_F m=true
   ·rw [if_pos h4]; exact abortK_good h h2 _ _ (by simp)
   ·rw [if_neg h4]
    by_cases h5 : ((!(tAt s.m (m 9)).2.2.2.2.1) || ((!(decide (m 10=0))) && (!(decide (m 10=(tAt s.m (m 9)).2.2.2.1)))))=true
    ·rw [if_pos h5]; exact Good.same h2
    ·rw [if_neg h5]
     have hop : (tAt s.m (m 9)).2.2.2.2.1=true := by
      simp only [Bool.or_eq_true,Bool.not_eq_true',not_or,Bool.not_eq_false] at h5
      exact h5.1
     have hk : 1≤m 9∧m 9≤s.la := by
      by_cases hk : 1≤m 9∧m 9≤s.la
      ·exact hk
      ·rw [h.at0 hk] at hop
       exact absurd hop (by decide)
     have hT := (h.hT _ hk.1 hk.2).1
     obtain ⟨-,-,-,hsh,-,-⟩ := hT.hop hop
     have hle := h2 _ hk.1 hk.2 _ hsh
     generalize (tAt s.m (m 9)).2.2.2.2.2.1=sh at hle ⊢
     by_cases h6 : (onward_F sh m).2=0
     ·rw [if_pos h6]
      refine ⟨fun x hx=>?_,h2,Le.rfl' s⟩
      rw [List.mem_singleton.1 hx]
      unfold onward_F at h6 ⊢
      by_cases i1 : isP_F m=true
      ·rw [if_pos i1] at h6 ⊢
       by_cases i2 : isP_F (updI (updI m 1 0) 2 sh)=true
       ·rw [if_pos i2]
        obtain ⟨j1,j2⟩ := (isP_iff _).1 i2
        have j3 : endsB (updI (updI m 1 0) 2 sh)=true := by
         unfold okB at j2
         simp only [Bool.and_eq_true] at j2
         exact j2.1.1
        have e1 : endsB (updI (updI m 1 0) 2 sh)=(decide (1≤sh) && decide (sh≤64)) := by
         have e0 : (updI (updI m 1 0) 2 sh) 0=11 := j1
         unfold endsB shB inB
         rw [e0]
         simp [updI]
        rw [e1,Bool.and_eq_true,decide_eq_true_eq] at j3
        exact ⟨j2,rfl,j3.1,hle,.inl j1⟩
       ·rw [if_neg i2] at h6; exact absurd h6 (by simp)
      ·rw [if_neg i1] at h6; exact absurd h6 (by simp)
     ·rw [if_neg h6]; exact Good.same h2
  ·rw [if_neg h3]; exact Good.same h2
 ·rw [if_neg h1]; exact Good.same h2
theorem woundK_good (h : KI N n s) (h2 : S2 s) (pr : Bool) (m : Nat → Int) : Good s (woundK pr s m).1 (woundK pr s m).2 := by
 unfold woundK
 split
 ·exact Good.same h2
 ·exact abortK_good h h2 _ _ (by simp)
theorem comesK_good (h : KI N n s) (h2 : S2 s) (pr : Bool) (m : Nat → Int) : Good s (comesK pr s m).1 (comesK pr s m).2 := by
 unfold comesK
 split
 ·exact probedK_good h h2 pr m
 ·split
  ·rename_i hm
   have hk := (h.hk _).1 hm
   split
   ·exact ansK_good h h2 m hk
   ·split
    ·exact ansK_good h h2 m hk
    ·split
     ·exact voteK_good h h2 m hk
     ·split
      ·exact ackK_good h h2 m hk
      ·split
       ·exact abortK_good h h2 _ _ (by simp)
       ·split
        ·exact woundK_good h h2 pr m
        ·exact Good.same h2
  ·exact Good.same h2
theorem handleK_good (h : KI N n s) (h2 : S2 s) (sh : Int) (pr : Bool) (m : Nat → Int) : Good s (handleK sh pr s m).1 (handleK sh pr s m).2.2 := by
 unfold handleK
 split
 ·split
  ·exact Good.same h2
  ·exact comesK_good h h2 pr m
 ·exact Good.same h2
theorem lostF_good (h : KI N n s) (h2 : S2 s) (l : List Int) (out : LM) (ho : ∀ m ∈ out,Gm s m) : Good s (lostF l (out,s)).1 (lostF l (out,s)).2 := by
 induction l generalizing n s out with
 | nil=>exact ⟨ho,h2,Le.rfl' s⟩
 | cons a l ih =>
  have e : lostF (a::l) (out,s)=lostF l (out++(abortK s a 5 [1]).1,(abortK s a 5 [1]).2.2) := rfl
  have g := abortK_good h h2 a 5 (l := [1]) (by simp)
  have i := ih (abortK_KI h a 5 (l := [1]) (by simp)) g.s2 (out++(abortK s a 5 [1]).1) (fun m hm=>(List.mem_append.1 hm).elim (fun q=>(ho m q).mono g.le) (g.g m))
  rw [e]
  exact ⟨i.g,i.s2,g.le.trans i.le⟩
theorem tickK_good (h : KI N n s) (h2 : S2 s) (c : Nat → Int) : Good s (tickK c s).1 (tickK c s).2 := by
 have h1 : Good s (tick1 c s).1 (tick1 c s).2 := by
  have := lostF_good (s := { s with ti := s.ti + 1 }) h.later h2 (clost_F s.cl (s.ti + 1) (c 2)) [] (fun m hm=>by simp at hm)
  exact ⟨this.g,this.s2,this.le⟩
 have hK := (tick1_KI h c).1
 unfold tickK
 split
 ·refine ⟨fun m hm=>?_,h1.s2,h1.le⟩
  rcases List.mem_append.1 hm with hm | hm
  ·exact h1.g m hm
  ·obtain ⟨k,hk,hm⟩ := List.mem_flatMap.1 hm
   have hk := (hK.hk k).1 (mem_skeys.1 hk)
   obtain ⟨hT,hx⟩ := hK.hT k hk.1 hk.2
   have := (againC_snd hT (calive_F (tick1 c s).2.cl (cofI (tick1 c s).2.cl k))).1 m hm
   rw [hx] at this
   exact Snd.gm h1.s2 hk this
 ·exact h1
theorem next_good (h : KI N n s) (h2 : S2 s) {c : Nat → Int} (hc : c 0=2) (a : Nat → Int) : (∀ m ∈ sentK c N s a,Gm (nextK c N s a) m)∧S2 (nextK c N s a) := by
 have fin : ∀ {out s'},Good s out s' → (∀ m ∈ out,Gm s' m)∧S2 s' := fun g=>⟨g.g,g.s2⟩
 unfold sentK nextK
 rw [hc]
 by_cases h0 : a 0=0
 ·rw [if_pos h0,if_pos h0]; exact fin (lockK_good h h2 _ _ _)
 ·rw [if_neg h0,if_neg h0]
  by_cases h1 : a 0=1
  ·rw [if_pos h1,if_pos h1]; exact fin (commitK_good h h2 _)
  ·rw [if_neg h1,if_neg h1]
   by_cases k2 : a 0=2
   ·rw [if_pos k2,if_pos k2]; exact fin (abortCK_good h h2 _)
   ·rw [if_neg k2,if_neg k2]
    by_cases h3 : a 0=3
    ·rw [if_neg (by omega),if_neg (by omega),if_pos h3]; exact ⟨fun m hm=>by simp at hm,crashK_good h2 _⟩
    ·rw [if_neg h3]
     by_cases h4 : a 0=4
     ·rw [if_neg (by omega),if_neg (by omega),if_pos h4]; exact ⟨fun m hm=>by simp at hm,beginK_good h h2 _⟩
     ·rw [if_neg h4]
      by_cases h5 : a 0=5
      ·rw [if_pos h5,if_pos h5]; exact fin (handleK_good h h2 _ _ _)
      ·rw [if_neg h5,if_neg h5]
       by_cases h6 : a 0=6
       ·rw [if_pos h6,if_pos h6]; exact fin (tickK_good h h2 _)
       ·rw [if_neg h6,if_neg h6]; exact ⟨fun m hm=>by simp at hm,h2⟩
theorem done_len {r : TT × LM × Int} (hS : SndT r) : (doneK s r).1.length≤64 := by
 unfold doneK
 split
 ·exact hS.2
 ·exact Nat.zero_le _
theorem probedK_len (h : KI N n s) (pr : Bool) (m : Nat → Int) : (probedK pr s m).1.length≤64 := by
 unfold probedK
 split
 ·split
  ·split
   ·exact abortK_len h _ _ (by simp)
   ·split
    ·exact Nat.zero_le _
    ·split
     ·simp
     ·exact Nat.zero_le _
  ·exact Nat.zero_le _
 ·exact Nat.zero_le _
theorem comesK_len (h : KI N n s) (pr : Bool) (m : Nat → Int) : (comesK pr s m).1.length≤64 := by
 have hz : ([] : LM).length≤64 := Nat.zero_le _
 unfold comesK
 split
 ·exact probedK_len h pr m
 ·split
  ·rename_i hm
   have hk := (h.hk _).1 hm
   have hT := (h.hT _ hk.1 hk.2).1
   have ha : (ansK s m).1.length≤64 := by unfold ansK; split <;> exact hz
   split
   ·exact ha
   ·split
    ·exact ha
    ·split
     ·unfold voteK
      split
      ·exact (voteC_snd hT m).2
      ·exact hz
     ·split
      ·unfold ackK; split <;> exact hz
      ·split
       ·exact abortK_len h _ _ (by simp)
       ·split
        ·unfold woundK
         split
         ·exact hz
         ·exact abortK_len h _ _ (by simp)
        ·exact hz
  ·exact hz
theorem sent_len (h : KI N n s) (hn : n≤90000) (c : Nat → Int) (a : Nat → Int) : (sentK c N s a).length≤10000000 := by
 have hz : ([] : LM).length≤10000000 := Nat.zero_le _
 have h64 : ∀ {l : LM},l.length≤64 → l.length≤10000000 := fun h=>by omega
 unfold sentK
 split
 ·unfold lockK
  split
  ·rename_i ha
   split
   ·exact hz
   ·rename_i h0
    have hk := h.now ha h0
    have hT := h.hT _ hk.1 hk.2
    split
    ·split
     ·exact h64 (askC_snd hT.1 _ _ _).2
     ·exact hz
    ·exact hz
  ·exact hz
 ·split
  ·unfold commitK
   split
   ·rename_i ha
    split
    ·exact hz
    ·rename_i h0
     have hk := h.now ha h0
     have hT := h.hT _ hk.1 hk.2
     exact h64 (done_len (finC_snd hT.1))
   ·exact hz
  ·split
   ·unfold abortCK
    split
    ·split
     ·exact hz
     ·exact h64 (abortK_len h _ _ (by simp))
    ·exact hz
   ·split
    ·unfold handleK
     split
     ·split
      ·exact hz
      ·exact h64 (comesK_len h _ _)
     ·exact hz
    ·split
     ·obtain ⟨h1,h2,-,h4⟩ := tick1_KI h c
      unfold tickK
      split
      ·rw [List.length_append,List.length_flatMap]
       have : ∀ l : List Int,(∀ k ∈ l,1≤k∧k≤(tick1 c s).2.la) → (List.map (fun x=>(againK (tick1 c s).2 x).length) l).sum≤65 * l.length := by
        intro l hl
        induction l with
        | nil=>simp
        | cons k l ih =>
         have := againK_len h1 (hl k (by simp))
         have := ih fun x hx=>hl x (by simp [hx])
         simp only [List.map_cons,List.sum_cons,List.length_cons]
         omega
       have q := this (skeys (tick1 c s).2.m) fun k hk=>(h1.hk k).1 (mem_skeys.1 hk)
       rw [len_skeys,h1.len] at q
       have := h1.hl
       omega
      ·show (tick1 c s).1.length≤_
       omega
     ·exact hz
abbrev RA := LM × Int × Int × Int × Int × TM × LM × NI
def thereL (m : Nat → Int) (t : TT) (j : Nat) : Bool := (List.range j).any fun j=>decide (t.1=m 3) && decide ((toT t)[j]! = m 2)
theorem sends_l4 (r : RA) (v : VW) (k i : Nat) (hk : k < r.1.length) (hi : i < v.2.2.1.length) (b : Bool) (hl : (toT (v.2.2.1[i]!)).length≤1000) :
  Wh (fun (x : Bool × Int) (o : (Bool × Int) ⊕ Bool)=>sends18_l4 r v (k : Int) (i : Int) x.1 x.2 o) ((b,0) : Bool × Int) (b || thereL (r.1[k]!) (v.2.2.1[i]!) (toT (v.2.2.1[i]!)).length) := by
 have hir : 0≤(i : Int)∧(i : Int) < v.2.2.1.length := ⟨by omega,by omega⟩
 have hkr : 0≤(k : Int)∧(k : Int) < r.1.length := ⟨by omega,by omega⟩
 have e0 : ((b,0) : Bool × Int)=(b || thereL (r.1[k]!) (v.2.2.1[i]!) 0,((0 : Nat) : Int)) := by simp [thereL]
 rw [e0]
 refine Wh.fold (f := fun (x : Bool × Int) (o : (Bool × Int) ⊕ Bool)=>sends18_l4 r v (k : Int) (i : Int) x.1 x.2 o) (toT (v.2.2.1[i]!)).length (fun j=>(b || thereL (r.1[k]!) (v.2.2.1[i]!) j,(j : Int))) _ (fun j hj=>?_) ?_
 ·have e : ((j + 1 : Nat) : Int)=(j : Int) + 1 := by omega
  have hjr : 0≤(j : Int)∧(j : Int) < (toT (v.2.2.1[i]!)).length := ⟨by omega,by omega⟩
  dsimp only
  unfold sends18_l4
  refine ⟨hir,?_⟩
  rw [if_pos (by rw [Int.toNat_natCast]; exact hjr.2),e]
  simp only [Int.toNat_natCast]
  refine ⟨fun _=>hir,fun _=>hkr,fun _ _=>hir,fun _ _=>hjr,fun _ _=>hkr,by unfold inI64; omega,?_⟩
  unfold thereL
  rw [List.range_succ,List.any_append]
  simp [toT,Bool.or_assoc]
 ·dsimp only
  unfold sends18_l4
  refine ⟨hir,?_⟩
  rw [if_neg (by rw [Int.toNat_natCast]; show ¬ ((toT (v.2.2.1[i]!)).length : Int) < _; unfold toT; omega)]
theorem sends_l3 (r : RA) (v : VW) (k : Nat) (hk : k < r.1.length) (hv : v.2.2.1.length≤1000000) (hl : ∀ i,i < v.2.2.1.length → (toT (v.2.2.1[i]!)).length≤1000) :
  Wh (fun (x : Bool × Int) (o : (Bool × Int) ⊕ Bool)=>sends18_l3 r v (k : Int) x.1 x.2 o) ((false,0) : Bool × Int) ((List.range v.2.2.1.length).any fun i=>thereL (r.1[k]!) (v.2.2.1[i]!) (toT (v.2.2.1[i]!)).length) := by
 refine Wh.fold (f := fun (x : Bool × Int) (o : (Bool × Int) ⊕ Bool)=>sends18_l3 r v (k : Int) x.1 x.2 o) v.2.2.1.length (fun i=>((List.range i).any fun i=>thereL (r.1[k]!) (v.2.2.1[i]!) (toT (v.2.2.1[i]!)).length,(i : Int))) _ (fun i hi=>?_) ?_
 ·have e : ((i + 1 : Nat) : Int)=(i : Int) + 1 := by omega
  dsimp only
  unfold sends18_l3
  rw [if_pos (by omega),e]
  refine ⟨_,sends_l4 r v k i hk hi _ (hl i hi),?_⟩
  unfold sends18_k4a
  refine ⟨by unfold inI64; omega,?_⟩
  rw [List.range_succ,List.any_append]
  simp
 ·dsimp only
  unfold sends18_l3
  rw [if_neg (by omega)]
theorem sends_l2 (h : KI N n s) (hn : n≤90000) {r : RA} {v : VW} (hv : v.2.2.1=seenL s.m s.la) (hr : r.1.length≤10000000) (k : Nat) (hk : k < r.1.length) (hg : Gm s (r.1[k]!)) : sends18_l2 r v (k : Int) (.inl ((k + 1 : Nat) : Int)) := by
 have e : ((k + 1 : Nat) : Int)=(k : Int) + 1 := by omega
 have hkr : 0≤(k : Int)∧(k : Int) < r.1.length := ⟨by omega,by omega⟩
 have hl := h.hl
 have hvl : v.2.2.1.length=s.la.toNat := by rw [hv]; exact seen_len
 have hat : ∀ i,i < v.2.2.1.length → v.2.2.1[i]! = tAt s.m ((i : Int) + 1) := fun i hi=>by rw [hv]; exact seen_at (by omega)
 obtain ⟨g1,g2,g3,g4,g5⟩ := hg
 unfold sends18_l2
 rw [if_pos (by omega),e]
 simp only [Int.toNat_natCast]
 refine ⟨hkr,fun _=>hkr,fun _=>hkr,fun _=>hkr,?_⟩
 rw [if_neg (by rw [g1]; simp only [g2,decide_true,Bool.not_true,Bool.false_or,Bool.or_eq_true,decide_eq_true_eq]; omega)]
 refine ⟨hkr,?_⟩
 by_cases h11 : r.1[k]! 0=11
 ·rw [if_pos h11]; exact ⟨by unfold inI64; omega,trivial⟩
 ·rw [if_neg h11]
  rcases g5 with g5 | ⟨-,g6,g7,g8⟩
  ·exact absurd g5 h11
  ·refine ⟨_,sends_l3 r v k hk (by omega) (fun i hi=>?_),?_⟩
   ·rw [hat i hi]
    have := TI.lto (h.hT ((i : Int) + 1) (by omega) (by omega)).1
    unfold toT
    omega
   ·have hth : ((List.range v.2.2.1.length).any fun i=>thereL (r.1[k]!) (v.2.2.1[i]!) (toT (v.2.2.1[i]!)).length)=true := by
     rw [List.any_eq_true]
     refine ⟨(r.1[k]! 3 - 1).toNat,by rw [List.mem_range]; omega,?_⟩
     rw [hat _ (by omega),show (((r.1[k]! 3 - 1).toNat : Nat) : Int) + 1=r.1[k]! 3 by omega]
     unfold thereL
     rw [List.any_eq_true]
     obtain ⟨j,hj,hje⟩ := List.getElem_of_mem g8
     refine ⟨j,List.mem_range.2 hj,?_⟩
     rw [getElem!_pos _ j hj,hje,(h.hT _ g6 g7).2]
     simp
    rw [hth]
    unfold sends18_k3a
    rw [if_pos rfl]
    exact ⟨by unfold inI64; omega,rfl⟩
theorem sends_l1 (h : KI 4 n s) (hn : n≤80000) (h2 : S2 s) (pr : Bool) (acts : LM) (i : Nat) (hi : i < acts.length) (hL : acts.length≤100) {s' : KS} (hs' : nextK (cfgK pr) 4 s (acts[i]!)=s') :
  sends18_l1 pr acts (i : Int) s.ti s.la s.m s.tr s.cl (.inl (((i + 1 : Nat) : Int),s'.ti,s'.la,s'.m,s'.tr,s'.cl)) := by
 have e : ((i + 1 : Nat) : Int)=(i : Int) + 1 := by omega
 have hcf : (updI (updI (updI (updI (updI (updI (updI (fun _=>0) 0 2) 1 (bI pr)) 2 5) 3 3) 4 40) 5 6) 6 1000 : Nat → Int)=cfgK pr := rfl
 obtain ⟨p,q0,q⟩ := act18_is h (by omega) (cfgK pr) (by rw [(cfgK_0 pr).1]; omega) (by rw [(cfgK_0 pr).2.1]; omega) (acts[i]!)
 have hn' := nextK_KI h (by omega) (cfgK pr) (acts[i]!)
 have hg := (next_good h h2 (cfgK_0 pr).1 (acts[i]!)).1
 have hsl := sent_len h (by omega) (cfgK pr) (acts[i]!)
 have hvn := hn'.viewP (by omega) (cfgK pr)
 rw [hs'] at q hn' hvn hg
 unfold sends18_l1
 rw [if_pos (by omega),hcf,Int.toNat_natCast]
 refine ⟨⟨by omega,by omega⟩,p,_,rfl,?_⟩
 generalize act18_F (cfgK pr) s.cl s.ti s.la s.m s.tr (acts[i]!)=r at q0 q ⊢
 obtain ⟨l,x1,x2,ti',la',m',tr',cl'⟩ := r
 dsimp only at q0 q ⊢
 simp only [Prod.mk.injEq] at q
 obtain ⟨rfl,rfl,rfl,rfl,rfl⟩ := q
 subst q0
 refine ⟨hvn,_,rfl,.inl (),?_,?_⟩
 ·refine Wh.fold (sentK (cfgK pr) 4 s (acts[i]!)).length (fun k : Nat=>(k : Int)) (Sum.inl () : Unit ⊕ Unit) (fun k hk=>?_) ?_
  ·exact sends_l2 hn' (by omega) (hn'.view (cfgK pr)) hsl k hk (hg _ (by
    show (sentK (cfgK pr) 4 s (acts[i]!))[k]! ∈ _
    rw [getElem!_pos _ k hk]; exact List.getElem_mem hk))
  ·unfold sends18_l2
   rw [if_neg (by dsimp only; omega)]
 ·unfold sends18_k2a
  rw [e]
  exact ⟨by unfold inI64; omega,rfl⟩
end
theorem runK_S2 (pr : Bool) (acts : LM) (k : Nat) (hk : k≤9000) : S2 (runK pr 4 acts k) := by
 induction k with
 | zero =>
  intro i h1 h3
  have h3' : i≤0 := h3
  omega
 | succ k ih=>exact (next_good (runK_KI pr (by omega) acts k (by omega)) (ih (by omega)) (cfgK_0 pr).1 _).2
theorem sends18_all (pr : Bool) (acts : LM) : sends18_S pr acts true := by
 unfold sends18_S
 rw [if_pos (show alive18_F=true from rfl)]
 by_cases hL : 60 < (acts.length : Int)
 ·rw [if_pos hL]
 ·rw [if_neg hL,if_pos (by decide),if_pos (by decide),if_pos (by decide),if_pos (by decide),if_pos (by decide),if_pos (by decide)]
  refine ⟨.inl ((runK pr 4 acts acts.length).ti,(runK pr 4 acts acts.length).la,(runK pr 4 acts acts.length).m,(runK pr 4 acts acts.length).tr,(runK pr 4 acts acts.length).cl),?_,rfl⟩
  refine Wh.fold acts.length (fun i=>((i : Int),(runK pr 4 acts i).ti,(runK pr 4 acts i).la,(runK pr 4 acts i).m,(runK pr 4 acts i).tr,(runK pr 4 acts i).cl)) _ (fun i hi=>?_) ?_
  ·exact sends_l1 (runK_KI pr (by omega) acts i (by omega)) (by omega) (runK_S2 pr acts i (by omega)) pr acts i hi (by omega) rfl
  ·dsimp only
   unfold sends18_l1
   rw [if_neg (by omega)]
end Go.E
