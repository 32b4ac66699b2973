/- Part 4 of the proof. -/
import Derived.Test.YtdmibiefinhneaaJ2
import Derived.Test.YtdmibiefinhneaaJ3
set_option maxHeartbeats 1000000
set_option maxRecDepth 100000
set_option linter.unusedVariables false
set_option linter.unusedSimpArgs false
set_option linter.unusedSectionVars false
set_option linter.unnecessarySimpa false
/- The code answers as the relations say. -/
namespace Go.Proofs.Ytdmibiefinhneaa
open Go Go.E
theorem wayR_con (l0 : (List (Nat → Int))) (from1 : Int) (to2 : Int) (v0 : Value) (w : World) (hs0 : SL w 4 iv v0 l0) (r : (List Int)) (h : wayR_S l0 from1 to2 r) : Con Try.prog 15 #[v0,.int .i64 from1,.int .i64 to2] w (fun v F=>∃ (u0 : Value) (C0 : GH),v=u0∧F=(C0++[])∧OJ 3 1 ic C0 u0 r∧Cov w [] C0) := by
 unfold wayR_S at h; refine ce Try.func15 rfl Try.ntmps15 rfl (wS (va rfl (nR (vm rfl ?_)))); obtain ⟨ho1,h⟩ := h; refine xcall rfl trivial kf26 rfl (fun w1 hw1=>nodesR_con _ _ w1 (hs0.keep hw1 Fr.nil) _ (nodesR_ok _ ho1)) ?_; rintro w1 vs2 _ hw1 ⟨_,Bs2,rfl,rfl,hJs2,hcBs2⟩; refine ⟨_,Mg.news (Cov.fresh hcBs2) (.nil _),?_⟩; replace hcBs2 := Cov.base (w0 := w) hcBs2 hw1.size; refine va rfl (nR (vm rfl (xr rfl (o_bsl el25 ze3 (cells_one rfl) rfl rfl (.int rfl rfl (.nil _))) ?_))); rintro _ _ ⟨b18,hb18,rfl,rfl⟩; refine xo_lit fun Bs3 hEBs3=>?_
 have hJs3 : OJ 3 1 ic Bs3 (.slice (some ⟨b18,0,none⟩) 1 1) [from1] := by rw [hEBs3]; exact litO 1 (l := [from1]) mH rfl rfl (M1 rfl)
 have hcBs3 : Cov w [] Bs3 := by rw [hEBs3]; exact Cov.new hb18
 refine xr rfl (o_bsl el52 ze25 (cells_one rfl) rfl rfl (.one rfl rfl rfl (oneOf (OJ.val hJs3)) (.nil _))) ?_; rintro _ _ ⟨b19,hb19,rfl,rfl⟩; refine xo_lit fun Bs4 hBs4=>?_
 have hcBs4 : Cov w [] Bs4 := by rw [hBs4]; exact Cov.new hb19
 obtain ⟨Ns4,hEs4⟩ : ∃ B : GH,B=Bs4++Bs3 := ⟨_,rfl⟩; have hJs4 : NJ 25 1 (rL 3 1 ic) Ns4 (.slice (some ⟨b19,0,none⟩) 1 1) [([from1] : List Int)] := by rw [hEs4,hBs4]; exact NJ.one (f := (fun _=>(.slice (some ⟨b18,0,none⟩) 1 1))) rfl (by omega) (M1 rfl) hJs3
 have hcNs4 : Cov w [] Ns4 := hEs4 ▸ Cov.more hcBs4 hcBs3
 have hJm5 : OJ 3 1 ic Ns4 (.slice (some ⟨b18,0,none⟩) 1 1) ([from1] : List Int) := hEs4 ▸ OJ.right hJs3
 refine xo_st (Ns4++(Bs2++([]))) (fun _ h=>by rw [hEs4]; exact St.join [] [Bs2] _ _ (St.permJ [0,1,2] [Bs4,Bs3,Bs2] h)) (va rfl (nR (va rfl (nS (xw_seq (xw_block ?_)))))); obtain ⟨x1,hx1,h⟩ := h; refine xw_wh (fun s e H=>match s with | (rows8,met9)=>∃ (v9_1 : Value) (v8_1 : Value) (B8_1 : GH) (B9_1 : GH),e=[(0,v0),(2,.int .i64 to2),(7,vs2),(8,v8_1),(9,v9_1)]∧H=B9_1++(B8_1++(Bs2++([])))∧NJ 25 1 (rL 3 1 ic) B8_1 v8_1 rows8∧OJ 3 1 ic B9_1 v9_1 met9∧Cov w [] B8_1∧Cov w [] B9_1) (fun x ex e H=>match x with | .inl _=>∃ (B8_1o : GH) (B9_1o : GH),ex=.exit 0∧e=[]∧H=B9_1o++(B8_1o++(Bs2++([])))∧Cov w [] B8_1o∧Cov w [] B9_1o | .inr x6=>∃ (v6_1o : Value) (B8_1o : GH) (B9_1o : GH) (B6_1o : GH),ex=.ret∧e=[(6,v6_1o)]∧H=B6_1o++(B9_1o++(B8_1o++(Bs2++([]))))∧OJ 3 1 ic B6_1o v6_1o x6∧Cov w [] B8_1o∧Cov w [] B9_1o∧Cov w [] B6_1o) hx1 ⟨[(0,v0),(2,.int .i64 to2),(7,vs2),(8,(.slice (some ⟨b19,0,none⟩) 1 1)),(9,.slice none 0 0)],[]++(Ns4++(Bs2++([]))),(sl rfl),fun _ h=>h,⟨_,(.slice (some ⟨b19,0,none⟩) 1 1),Ns4,[],rfl,rfl,hJs4,OJ.nil,hcNs4,(Cov.refl _)⟩⟩ ?_ ?_
 ·rintro ⟨rows8,met9⟩ o _ _ ⟨v9_1,v8_1,B8_1,B9_1,rfl,rfl,hJ8_1,hJ9_1,hcB8_1,hcB9_1⟩ hb; have h : wayR_l1 l0 to2 rows8 met9 o := hb
  clear hb; unfold wayR_l1 at h; refine xw_seq (wS (vm rfl (xQ rfl (o_lenL rfl Try.underlying52 rfl (NJ.val hJ8_1)) (xQ rfl (o_gtr rfl rfl) (nS (wd rfl h (fun hp6 h=>?_) fun hp6 h=>?_))))))
  ·refine xw_skip (xq_then (xw_block (wS (va rfl (nS (xw_seq (wS (va rfl (nS ?_))))))))); refine xw_block ?_; obtain ⟨x2,hx2,h⟩ := h; refine xw_wh (fun s e H=>match s with | (met9a,more10,i11)=>∃ (v10_2 : Value) (v9_2 : Value) (B9_2 : GH) (B10_2 : GH),e=[(0,v0),(2,.int .i64 to2),(7,vs2),(8,v8_1),(9,v9_2),(10,v10_2),(11,.int .i64 i11)]∧H=B10_2++(B9_2++(B8_1++(Bs2++([]))))∧OJ 3 1 ic B9_2 v9_2 met9a∧NJ 25 1 (rL 3 1 ic) B10_2 v10_2 more10∧Cov w [] B9_2∧Cov w [] B10_2) (fun x ex e H=>match x with | .inl (met9a,more10)=>∃ (v10_2o : Value) (v9_2o : Value) (B9_2o : GH) (B10_2o : GH),ex=.exit 2∧e=[(0,v0),(2,.int .i64 to2),(7,vs2),(9,v9_2o),(10,v10_2o)]∧H=B10_2o++(B9_2o++(B8_1++(Bs2++([]))))∧OJ 3 1 ic B9_2o v9_2o met9a∧NJ 25 1 (rL 3 1 ic) B10_2o v10_2o more10∧Cov w [] B9_2o∧Cov w [] B10_2o | .inr x6=>∃ (v6_2o : Value) (B9_2o : GH) (B10_2o : GH) (B6_2o : GH),ex=.ret∧e=[(6,v6_2o)]∧H=B6_2o++(B10_2o++(B9_2o++(B8_1++(Bs2++([])))))∧OJ 3 1 ic B6_2o v6_2o x6∧Cov w [] B9_2o∧Cov w [] B10_2o∧Cov w [] B6_2o) hx2 ⟨[(0,v0),(2,.int .i64 to2),(7,vs2),(8,v8_1),(9,v9_1),(10,.slice none 0 0),(11,.int .i64 0)],[]++(B9_1++(B8_1++(Bs2++([])))),(sl rfl),fun _ h=>h,⟨_,v9_1,B9_1,[],rfl,rfl,hJ9_1,NJ.nil,hcB9_1,(Cov.refl _)⟩⟩ ?_ ?_
   ·rintro ⟨met9a,more10,i11⟩ o _ _ ⟨v10_2,v9_2,B9_2,B10_2,rfl,rfl,hJ9_2,hJ10_2,hcB9_2,hcB10_2⟩ hb; have h : wayR_l2 l0 to2 rows8 met9a more10 i11 o := hb
    clear hb; unfold wayR_l2 at h; refine xw_seq (wS (vm rfl (vm rfl (xQ rfl (o_lenL rfl Try.underlying52 rfl (NJ.val hJ8_1)) (xQ rfl (o_lss rfl rfl) (nS (wd rfl h (fun hp7 h=>?_) fun hp7 h=>?_)))))))
    ·refine xw_skip (xq_then (xw_seq (xw_block (wS (va rfl (nS (xw_block ?_))))))); obtain ⟨x3,hx3,h⟩ := h; refine xw_wh (fun s e H=>match s with | (met9aa,more10a,k12)=>∃ (v10_3 : Value) (v9_3 : Value) (B9_3 : GH) (B10_3 : GH),e=[(0,v0),(2,.int .i64 to2),(7,vs2),(8,v8_1),(9,v9_3),(10,v10_3),(11,.int .i64 i11),(12,.int .i64 k12)]∧H=B10_3++(B9_3++(B8_1++(Bs2++([]))))∧OJ 3 1 ic B9_3 v9_3 met9aa∧NJ 25 1 (rL 3 1 ic) B10_3 v10_3 more10a∧Cov w [] B9_3∧Cov w [] B10_3) (fun x ex e H=>match x with | .inl (met9aa,more10a)=>∃ (v10_3o : Value) (v9_3o : Value) (B9_3o : GH) (B10_3o : GH),ex=.exit 4∧e=[(0,v0),(2,.int .i64 to2),(7,vs2),(8,v8_1),(9,v9_3o),(10,v10_3o),(11,.int .i64 i11)]∧H=B10_3o++(B9_3o++(B8_1++(Bs2++([]))))∧OJ 3 1 ic B9_3o v9_3o met9aa∧NJ 25 1 (rL 3 1 ic) B10_3o v10_3o more10a∧Cov w [] B9_3o∧Cov w [] B10_3o | .inr x6=>∃ (v6_3o : Value) (B9_3o : GH) (B10_3o : GH) (B6_3o : GH),ex=.ret∧e=[(6,v6_3o)]∧H=B6_3o++(B10_3o++(B9_3o++(B8_1++(Bs2++([])))))∧OJ 3 1 ic B6_3o v6_3o x6∧Cov w [] B9_3o∧Cov w [] B10_3o∧Cov w [] B6_3o) hx3 ⟨[(0,v0),(2,.int .i64 to2),(7,vs2),(8,v8_1),(9,v9_2),(10,v10_2),(11,.int .i64 i11),(12,.int .i64 0)],B10_2++(B9_2++(B8_1++(Bs2++([])))),(sl rfl),fun _ h=>h,⟨v10_2,v9_2,B9_2,B10_2,rfl,rfl,hJ9_2,hJ10_2,hcB9_2,hcB10_2⟩⟩ ?_ ?_
     ·rintro ⟨met9aa,more10a,k12⟩ o _ _ ⟨v10_3,v9_3,B9_3,B10_3,rfl,rfl,hJ9_3,hJ10_3,hcB9_3,hcB10_3⟩ hb; have h : wayR_l3 l0 to2 rows8 i11 met9aa more10a k12 o := hb
      clear hb; unfold wayR_l3 at h; refine xw_seq (wS (vm rfl (vm rfl (xQ rfl (o_lenL rfl Try.underlying25 rfl (OJ.val hJs2)) (xQ rfl (o_lss rfl rfl) (nS (wd rfl h (fun hp8 h=>?_) fun hp8 h=>?_)))))))
      ·refine xw_skip (xq_then (xw_seq (xw_block (wS (vm rfl (vm rfl ?_)))))); obtain ⟨ho9,h⟩ := h; refine xQ rfl (o_ixL el52 rfl rfl (fun w hw=>(hJ8_1.sl hw (Pull.sub (.there _ (.there _ (.here _ _)))))) rfl (hJ8_1.ix ho9)) ?_; have hRn10 := hJ8_1.at rL.mono (toNat_lt ho9)
       refine xQ rfl (o_ldL1 (off := 0) (u := (NJ.raw hJ8_1)[i11.toNat]! 0) rfl ts25 rfl (fun w hw=>(hJ8_1.sl hw (Pull.sub (.there _ (.there _ (.here _ _)))))) (toNat_lt (hJ8_1.ix ho9)) rfl rfl) (va rfl (nS (xw_seq (xw_seq ?_)))); obtain ⟨ho11,ho12,ho13,ho14,ho15,ho16,h⟩ := h; refine wk [0,2,7,8,9,10,11,12,13] rfl [(59,.bool ((!((edgeR_F l0 ((rows8[i11.toNat]!)[(((rows8[i11.toNat]!).length : Int) - 1).toNat]!) ((nodesR_F l0)[k12.toNat]!)))) || ((hasR_F met9aa ((nodesR_F l0)[k12.toNat]!)))))] ?_ ?_
       ·refine xd_start (by kernel_rfl) (by kernel_rfl) (fun hok=>?_); refine xb hok 0 [0] rfl (by kernel_rfl) (fun _ hK=>o_mv rfl) (xb hok 1 [13] rfl (by kernel_rfl) (fun _ hK=>o_mv rfl) (xb hok 2 [13] rfl (by kernel_rfl) (fun _ hK=>o_mv rfl) (xb hok 3 [41] rfl (by kernel_rfl) (fun _ hK=>o_lenL rfl Try.underlying25 rfl (OJ.val (rL.oj hRn10))) (xb hok 4 [42] rfl (by kernel_rfl) (fun _ hK=>o_sub rfl rfl rfl (ho11)) (xbr hok 5 [40,43] (B8_1++([])) (rsA (Pull.sub (.there _ (.there _ (.here _ _)))) rsN) rfl (by kernel_rfl) (fun _ hy hK=>o_ixL el25 rfl rfl (fun w hw=>((rL.oj hRn10).sl hw (fun x hx=>hy x (Pull.sub (.here _ _) x hx)))) rfl (ho12)) (xbr hok 6 [44] (B8_1++([])) (rsA (Pull.sub (.there _ (.there _ (.here _ _)))) rsN) rfl (by kernel_rfl) (fun _ hy hK=>o_ldL1 (off := 0) (u := .int .i64 ((rows8[i11.toNat]!)[(((rows8[i11.toNat]!).length : Int) - 1).toNat]!)) rfl ts3 rfl (fun w hw=>((rL.oj hRn10).sl hw (fun x hx=>hy x (Pull.sub (.here _ _) x hx)))) (toNat_lt (ho12)) rfl rfl) (xb hok 7 [7] rfl (by kernel_rfl) (fun _ hK=>o_mv rfl) (xb hok 8 [12] rfl (by kernel_rfl) (fun _ hK=>o_mv rfl) (xbr hok 9 [46,47] (Bs2++([])) (rsA (Pull.sub (.there _ (.there _ (.there _ (.here _ _))))) rsN) rfl (by kernel_rfl) (fun _ hy hK=>o_ixL el25 rfl rfl (fun w hw=>(hJs2.sl hw (fun x hx=>hy x (Pull.sub (.here _ _) x hx)))) rfl (ho13)) (xbr hok 10 [48] (Bs2++([])) (rsA (Pull.sub (.there _ (.there _ (.there _ (.here _ _))))) rsN) rfl (by kernel_rfl) (fun _ hy hK=>o_ldL1 (off := 0) (u := .int .i64 ((nodesR_F l0)[k12.toNat]!)) rfl ts3 rfl (fun w hw=>(hJs2.sl hw (fun x hx=>hy x (Pull.sub (.here _ _) x hx)))) (toNat_lt (ho13)) rfl rfl) (xb hok 11 [39,45,49] rfl (by kernel_rfl) (fun _ hK=>o_callq kf28 rfl (fun w1 hw1=>edgeR_con _ _ _ _ w1 (hs0.keep hw1 (fun k hk=>(hK k hk).elim (fun h=>(Fr.seg hcB10_3 (Fr.seg hcB9_3 (Fr.seg hcB8_1 (Fr.seg hcBs2 Fr.nil)))) k h) id)) _ (edgeR_ok _ _ _ (ho14)))) (xb hok 12 [50] rfl (by kernel_rfl) (fun _ hK=>o_not rfl) (xb hok 13 [51] rfl (by kernel_rfl) (fun _ hK=>o_mv rfl) ?_))))))))))))); refine dc' 52 rfl (fun hp17=>?_) fun hp17=>?_
        ·exact xbs hok 14 [9,52] rfl (by kernel_rfl) (xbs hok 15 [7,52] rfl (by kernel_rfl) (xbs hok 16 [12,52] rfl (by kernel_rfl) (xbs hok 17 [54,55,52] rfl (by kernel_rfl) (xbs hok 18 [56,52] rfl (by kernel_rfl) (xbs hok 19 [53,57,52] rfl (by kernel_rfl) (xb hok 20 [52,58] rfl (by kernel_rfl) (fun _ hK=>o_pick_t rfl rfl) (xd_end hok (by kernel_rfl) (qk rfl (by first | rfl | (simp only [dT hp8,bF hp17,if_pos hp8,if_neg hp17,bS,reduceIte,Bool.false_eq_true]; done) | (simp [hp8,hp17]; done) | (simp_all; done)) rfl))))))))
        ·exact xb hok 14 [9,52] rfl (by kernel_rfl) (fun _ hK=>o_mv rfl) (xb hok 15 [7,52] rfl (by kernel_rfl) (fun _ hK=>o_mv rfl) (xb hok 16 [12,52] rfl (by kernel_rfl) (fun _ hK=>o_mv rfl) (xbr hok 17 [54,55,52] (Bs2++([])) (rsA (Pull.sub (.there _ (.there _ (.there _ (.here _ _))))) rsN) rfl (by kernel_rfl) (fun _ hy hK=>o_ixL el25 rfl rfl (fun w hw=>(hJs2.sl hw (fun x hx=>hy x (Pull.sub (.here _ _) x hx)))) rfl (ho15 (by first | exact (nF2 hp17) | (simp only [dT hp8,hp17,if_pos hp8,if_pos hp17,bS,reduceIte,Bool.false_eq_true]; done) | (simp [hp8,hp17]; done) | (simp_all; done)))) (xbr hok 18 [56,52] (Bs2++([])) (rsA (Pull.sub (.there _ (.there _ (.there _ (.here _ _))))) rsN) rfl (by kernel_rfl) (fun _ hy hK=>o_ldL1 (off := 0) (u := .int .i64 ((nodesR_F l0)[k12.toNat]!)) rfl ts3 rfl (fun w hw=>(hJs2.sl hw (fun x hx=>hy x (Pull.sub (.here _ _) x hx)))) (toNat_lt (ho15 (by first | exact (nF2 hp17) | (simp only [dT hp8,hp17,if_pos hp8,if_pos hp17,bS,reduceIte,Bool.false_eq_true]; done) | (simp [hp8,hp17]; done) | (simp_all; done)))) rfl rfl) (xbr hok 19 [53,57,52] (B9_3++([])) (rsA (Pull.sub (.there _ (.here _ _))) rsN) rfl (by kernel_rfl) (fun _ hy hK=>o_callq kf22 rfl (fun w1 hw1=>hasR_con _ _ _ w1 (hJ9_3.sl hw1 (fun x hx=>hy x (Pull.sub (.here _ _) x hx))) _ (hasR_ok _ _ (ho16 (by first | exact (nF2 hp17) | (simp only [dT hp8,hp17,if_pos hp8,if_pos hp17,bS,reduceIte,Bool.false_eq_true]; done) | (simp [hp8,hp17]; done) | (simp_all; done)))))) (xb hok 20 [52,58] rfl (by kernel_rfl) (fun _ hK=>o_pick_f rfl rfl) (xd_end hok (by kernel_rfl) (qk rfl (by first | rfl | (simp only [dT hp8,hp17,if_pos hp8,if_pos hp17,bS,reduceIte,Bool.false_eq_true]; done) | (simp [hp8,hp17]; done) | (simp_all; done)) rfl))))))))
       ·refine xq_then (wb rfl h (fun hp18 h=>?_) fun hp18 h=>?_)
        ·refine xw_exit (xq_then_exit (xq_blk_eq (xq_then (xw_region (vm rfl ?_))))); obtain ⟨ho19,h⟩ := h; exact xQ rfl (o_add rfl rfl rfl ho19) (va rfl (xo_nil (xq_next (s' := ((met9aa,more10a,k12 + 1) : (List Int) × (List (List Int)) × Int)) (e' := [(0,v0),(2,.int .i64 to2),(7,vs2),(8,v8_1),(9,v9_3),(10,v10_3),(11,.int .i64 i11),(12,.int .i64 (k12 + 1))]) (B10_3++(B9_3++(B8_1++(Bs2++([]))))) (sl rfl) (fun _ h=>h) h ⟨v10_3,v9_3,B9_3,B10_3,rfl,rfl,hJ9_3,hJ10_3,hcB9_3,hcB10_3⟩)))
        ·refine xw_skip (xq_then (xw_seq ?_)); have hk := h.2
         replace h := h.1; refine xw_cutI (fun e H=>∃ (vj21 : Value) (Bj20 : GH),e=[(0,v0),(2,.int .i64 to2),(7,vs2),(8,v8_1),(9,v9_3),(10,v10_3),(11,.int .i64 i11),(12,.int .i64 k12),(14,vj21)]∧H=Bj20++(B10_3++(B9_3++(B8_1++(Bs2++([])))))∧Cov w [] Bj20∧OJ 3 1 ic Bj20 vj21 (([]++(rows8[i11.toNat]!))++[(nodesR_F l0)[k12.toNat]!])) ?_ ?_
         ·refine xd_start (by kernel_rfl) (by kernel_rfl) (fun hok=>?_); refine xb hok 1 [13] rfl (by kernel_rfl) (fun _ hK=>o_mv rfl) (xb hok 3 [7] rfl (by kernel_rfl) (fun _ hK=>o_mv rfl) (xb hok 4 [12] rfl (by kernel_rfl) (fun _ hK=>o_mv rfl) ?_)); obtain ⟨ho22,h⟩ := h; refine xbr hok 5 [63,64] (Bs2++([])) (rsA (Pull.sub (.there _ (.there _ (.there _ (.here _ _))))) rsN) rfl (by kernel_rfl) (fun _ hy hK=>o_ixL el25 rfl rfl (fun w hw=>(hJs2.sl hw (fun x hx=>hy x (Pull.sub (.here _ _) x hx)))) rfl ho22) (xbr hok 6 [65] (Bs2++([])) (rsA (Pull.sub (.there _ (.there _ (.there _ (.here _ _))))) rsN) rfl (by kernel_rfl) (fun _ hy hK=>o_ldL1 (off := 0) (u := .int .i64 ((nodesR_F l0)[k12.toNat]!)) rfl ts3 rfl (fun w hw=>(hJs2.sl hw (fun x hx=>hy x (Pull.sub (.here _ _) x hx)))) (toNat_lt ho22) rfl rfl) (xd_step2 hok 0 7 [] [(66,_)] rfl rfl rfl rfl (by kernel_rfl) ln (lc rfl ln) (by kernel_rfl) (by kernel_rfl) trivial trivial (o_bsl el25 ze3 (cells_one rfl) rfl rfl (.nil _)) (o_bsl el25 ze3 (cells_one rfl) rfl rfl (.int rfl rfl (.nil _))) ?_ ?_))
          ·rintro _ _ ⟨b60,hb60,rfl,rfl⟩; refine ⟨(rsA (rsA (Pull.sub (.thereC _ (.there _ (.there _ (.there _ (.here _ _)))))) rsN) (rsA (rsA (Pull.sub (.thereC _ (.there _ (.there _ (.there _ (.here _ _)))))) rsN) rsN)),(Ks.consN hb60 (Ks.segK (fun k hk=>by simp [hk]) (Ks.segK (fun k hk=>by simp [hk]) (Ks.segK (fun k hk=>by simp [hk]) (Ks.segK (fun k hk=>by simp [hk]) Ks.nil))))),?_⟩; obtain ⟨ho24,h⟩ := h; refine xd_step2 hok 2 7 [(60,_),(61,_)] [(66,_)] rfl rfl rfl rfl (by kernel_rfl) (lc rfl (lc rfl ln)) (lc rfl ln) (by kernel_rfl) (by kernel_rfl) trivial trivial (OT.st (fun _ h=>Pull.st (.hereC _ _) h) (o_appJ (l := []) (l' := (rows8[i11.toNat]!)) (B := [_]) ap25 rfl rfl (litO 0 (l := []) mH rfl rfl (fun i hi=>match i,hi with  | q + 0,h=>absurd h (by omega))) (fun w2 hw2=>((rL.oj hRn10).sl hw2 (Pull.sub (.there _ (.there _ (.there _ (.here _ _))))))) (fun _ _=>rfl) ho24 (len_max ho24 (by decide)))) (o_bsl el25 ze3 (cells_one rfl) rfl rfl (.int rfl rfl (.nil _))) ?_ ?_
           ·rintro vs23 _ ⟨Bs23,rfl,hns23,hJs23⟩; have hcBs23 := Cov.trans (Cov.new hb60) hns23
            refine ⟨(rsA (rsA (Pull.sub (.there _ (.there _ (.there _ (.there _ (.here _ _)))))) rsN) (rsA (rsA (Pull.sub (.there _ (.there _ (.there _ (.there _ (.here _ _)))))) rsN) rsN)),(Ks.segN hcBs23 (Ks.segK (fun k hk=>by simp [hk]) (Ks.segK (fun k hk=>by simp [hk]) (Ks.segK (fun k hk=>by simp [hk]) (Ks.segK (fun k hk=>by simp [hk]) Ks.nil))))),?_⟩; refine xd_step hok 7 [(66,_)] rfl rfl (by kernel_rfl) (lc rfl ln) (by kernel_rfl) trivial (o_bsl el25 ze3 (cells_one rfl) rfl rfl (.int rfl rfl (.nil _))) ?_; rintro _ _ ⟨b67,hb67,rfl,rfl⟩; refine ⟨(rsA (rsA (Pull.sub (.thereC _ (.there _ (.there _ (.there _ (.there _ (.here _ _))))))) rsN) (rsA (rsA (Pull.sub (.thereC _ (.there _ (.there _ (.there _ (.there _ (.here _ _))))))) rsN) rsN)),(Ks.consN hb67 (Ks.segN hcBs23 (Ks.segK (fun k hk=>by simp [hk]) (Ks.segK (fun k hk=>by simp [hk]) (Ks.segK (fun k hk=>by simp [hk]) (Ks.segK (fun k hk=>by simp [hk]) Ks.nil)))))),?_⟩; obtain ⟨ho26,h⟩ := h; refine xd_fl hok 3 8 [(62,_),(67,_)] rfl rfl (by kernel_rfl) (by kernel_rfl) (lc rfl (lc rfl ln)) (by kernel_rfl) trivial (OT.push (fun q_=>(b67,_)::(q_++(B10_3++(B9_3++(B8_1++(Bs2++([]))))))) (fun _=>(.thereC _ (.here _ _))) (OT.st (fun _ h=>Pull.st (.thereC _ (.here _ _)) h) (o_appJ (l := ([]++(rows8[i11.toNat]!))) (l' := [(nodesR_F l0)[k12.toNat]!]) (B := Bs23) ap25 rfl rfl hJs23 (fun w2 hw2=>(litS 1 (l := [(nodesR_F l0)[k12.toNat]!]) hw2 (mR mH) rfl rfl (M1 rfl))) (fun _ _=>rfl) ho26 (len_max ho26 (by decide))))) ?_; rintro vs25 _ ⟨Bs25,rfl,hns25,hJs25⟩; have hcBs25 := Cov.trans hcBs23 hns25
            refine ⟨(Ks.consN hb67 (Ks.segN hcBs25 (Ks.segK (fun k hk=>by simp [hk]) (Ks.segK (fun k hk=>by simp [hk]) (Ks.segK (fun k hk=>by simp [hk]) (Ks.segK (fun k hk=>by simp [hk]) Ks.nil)))))),?_⟩; exact xd_show (H' := (b67,_)::(Bs25++(B10_3++(B9_3++(B8_1++(Bs2++([]))))))) rfl (xb hok 9 [68] rfl (by kernel_rfl) (fun _ hK=>o_as rfl) (xd_end hok (by kernel_rfl) (xq_cutI (e' := [(0,v0),(2,.int .i64 to2),(7,vs2),(8,v8_1),(9,v9_3),(10,v10_3),(11,.int .i64 i11),(12,.int .i64 k12),(14,vs25)]) (Bs25++(B10_3++(B9_3++(B8_1++(Bs2++([])))))) (sl rfl) (Kp.st (Kp.new hb67 (Kp.segKeep (Kp.segKeep (Kp.segKeep (Kp.segKeep (Kp.segKeep Kp.nil))))))) ⟨vs25,Bs25,rfl,rfl,hcBs25,hJs25⟩)))
           ·rintro _ _ ⟨b67,hb67,rfl,rfl⟩; refine ⟨(rsA (rsA (Pull.sub (.thereC _ (.thereC _ (.there _ (.there _ (.there _ (.here _ _))))))) rsN) (rsA (rsA (Pull.sub (.thereC _ (.thereC _ (.there _ (.there _ (.there _ (.here _ _))))))) rsN) rsN)),(Ks.consN hb67 (Ks.consN hb60 (Ks.segK (fun k hk=>by simp [hk]) (Ks.segK (fun k hk=>by simp [hk]) (Ks.segK (fun k hk=>by simp [hk]) (Ks.segK (fun k hk=>by simp [hk]) Ks.nil)))))),?_⟩; refine xd_step hok 2 [(60,_),(61,_)] rfl rfl (by kernel_rfl) (lc rfl (lc rfl ln)) (by kernel_rfl) trivial (OT.push (fun q_=>(b67,_)::(q_++(B10_3++(B9_3++(B8_1++(Bs2++([]))))))) (fun _=>(.thereC _ (.here _ _))) (OT.st (fun _ h=>Pull.st (.thereC _ (.hereC _ _)) h) (o_appJ (l := []) (l' := (rows8[i11.toNat]!)) (B := [_]) ap25 rfl rfl (litO 0 (l := []) mH rfl rfl (fun i hi=>match i,hi with  | q + 0,h=>absurd h (by omega))) (fun w2 hw2=>((rL.oj hRn10).sl hw2 (Pull.sub (.there _ (.thereC _ (.there _ (.there _ (.here _ _)))))))) (fun _ _=>rfl) ho24 (len_max ho24 (by decide))))) ?_; rintro vs27 _ ⟨Bs27,rfl,hns27,hJs27⟩; have hcBs27 := Cov.trans (Cov.new hb60) hns27
            refine ⟨(rsA (rsA (Pull.sub (.thereC _ (.there _ (.there _ (.there _ (.there _ (.here _ _))))))) rsN) (rsA (rsA (Pull.sub (.thereC _ (.there _ (.there _ (.there _ (.there _ (.here _ _))))))) rsN) rsN)),(Ks.consN hb67 (Ks.segN hcBs27 (Ks.segK (fun k hk=>by simp [hk]) (Ks.segK (fun k hk=>by simp [hk]) (Ks.segK (fun k hk=>by simp [hk]) (Ks.segK (fun k hk=>by simp [hk]) Ks.nil)))))),?_⟩; refine xd_show (H' := (b67,_)::(Bs27++(B10_3++(B9_3++(B8_1++(Bs2++([]))))))) rfl ?_; obtain ⟨ho29,h⟩ := h; refine xd_fl hok 3 8 [(62,_),(67,_)] rfl rfl (by kernel_rfl) (by kernel_rfl) (lc rfl (lc rfl ln)) (by kernel_rfl) trivial (OT.push (fun q_=>(b67,_)::(q_++(B10_3++(B9_3++(B8_1++(Bs2++([]))))))) (fun _=>(.thereC _ (.here _ _))) (OT.st (fun _ h=>Pull.st (.thereC _ (.here _ _)) h) (o_appJ (l := ([]++(rows8[i11.toNat]!))) (l' := [(nodesR_F l0)[k12.toNat]!]) (B := Bs27) ap25 rfl rfl hJs27 (fun w2 hw2=>(litS 1 (l := [(nodesR_F l0)[k12.toNat]!]) hw2 (mR mH) rfl rfl (M1 rfl))) (fun _ _=>rfl) ho29 (len_max ho29 (by decide))))) ?_; rintro vs28 _ ⟨Bs28,rfl,hns28,hJs28⟩; have hcBs28 := Cov.trans hcBs27 hns28
            refine ⟨(Ks.consN hb67 (Ks.segN hcBs28 (Ks.segK (fun k hk=>by simp [hk]) (Ks.segK (fun k hk=>by simp [hk]) (Ks.segK (fun k hk=>by simp [hk]) (Ks.segK (fun k hk=>by simp [hk]) Ks.nil)))))),?_⟩; exact xd_show (H' := (b67,_)::(Bs28++(B10_3++(B9_3++(B8_1++(Bs2++([]))))))) rfl (xb hok 9 [68] rfl (by kernel_rfl) (fun _ hK=>o_as rfl) (xd_end hok (by kernel_rfl) (xq_cutI (e' := [(0,v0),(2,.int .i64 to2),(7,vs2),(8,v8_1),(9,v9_3),(10,v10_3),(11,.int .i64 i11),(12,.int .i64 k12),(14,vs28)]) (Bs28++(B10_3++(B9_3++(B8_1++(Bs2++([])))))) (sl rfl) (Kp.st (Kp.new hb67 (Kp.segKeep (Kp.segKeep (Kp.segKeep (Kp.segKeep (Kp.segKeep Kp.nil))))))) ⟨vs28,Bs28,rfl,rfl,hcBs28,hJs28⟩)))
          ·rintro _ _ ⟨b67,hb67,rfl,rfl⟩; refine ⟨(rsA (rsA (Pull.sub (.thereC _ (.there _ (.there _ (.there _ (.here _ _)))))) rsN) (rsA (rsA (Pull.sub (.thereC _ (.there _ (.there _ (.there _ (.here _ _)))))) rsN) rsN)),(Ks.consN hb67 (Ks.segK (fun k hk=>by simp [hk]) (Ks.segK (fun k hk=>by simp [hk]) (Ks.segK (fun k hk=>by simp [hk]) (Ks.segK (fun k hk=>by simp [hk]) Ks.nil))))),?_⟩; refine xd_step hok 0 [] rfl rfl (by kernel_rfl) ln (by kernel_rfl) trivial (o_bsl el25 ze3 (cells_one rfl) rfl rfl (.nil _)) ?_; rintro _ _ ⟨b60,hb60,rfl,rfl⟩; refine ⟨(rsA (rsA (Pull.sub (.thereC _ (.thereC _ (.there _ (.there _ (.there _ (.here _ _))))))) rsN) (rsA (rsA (Pull.sub (.thereC _ (.thereC _ (.there _ (.there _ (.there _ (.here _ _))))))) rsN) rsN)),(Ks.consN hb60 (Ks.consN hb67 (Ks.segK (fun k hk=>by simp [hk]) (Ks.segK (fun k hk=>by simp [hk]) (Ks.segK (fun k hk=>by simp [hk]) (Ks.segK (fun k hk=>by simp [hk]) Ks.nil)))))),?_⟩; obtain ⟨ho31,h⟩ := h; refine xd_step hok 2 [(60,_),(61,_)] rfl rfl (by kernel_rfl) (lc rfl (lc rfl ln)) (by kernel_rfl) trivial (OT.st (fun _ h=>Pull.st (.hereC _ _) h) (o_appJ (l := []) (l' := (rows8[i11.toNat]!)) (B := [_]) ap25 rfl rfl (litO 0 (l := []) mH rfl rfl (fun i hi=>match i,hi with  | q + 0,h=>absurd h (by omega))) (fun w2 hw2=>((rL.oj hRn10).sl hw2 (Pull.sub (.there _ (.thereC _ (.there _ (.there _ (.here _ _)))))))) (fun _ _=>rfl) ho31 (len_max ho31 (by decide)))) ?_; rintro vs30 _ ⟨Bs30,rfl,hns30,hJs30⟩; have hcBs30 := Cov.trans (Cov.new hb60) hns30
           refine ⟨(rsA (rsA (Pull.sub (.there _ (.thereC _ (.there _ (.there _ (.there _ (.here _ _))))))) rsN) (rsA (rsA (Pull.sub (.there _ (.thereC _ (.there _ (.there _ (.there _ (.here _ _))))))) rsN) rsN)),(Ks.segN hcBs30 (Ks.consN hb67 (Ks.segK (fun k hk=>by simp [hk]) (Ks.segK (fun k hk=>by simp [hk]) (Ks.segK (fun k hk=>by simp [hk]) (Ks.segK (fun k hk=>by simp [hk]) Ks.nil)))))),?_⟩; obtain ⟨ho33,h⟩ := h; refine xd_fl hok 3 8 [(62,_),(67,_)] rfl rfl (by kernel_rfl) (by kernel_rfl) (lc rfl (lc rfl ln)) (by kernel_rfl) trivial (OT.st (fun _ h=>Pull.st (.here _ _) h) (o_appJ (l := ([]++(rows8[i11.toNat]!))) (l' := [(nodesR_F l0)[k12.toNat]!]) (B := Bs30) ap25 rfl rfl hJs30 (fun w2 hw2=>(litS 1 (l := [(nodesR_F l0)[k12.toNat]!]) hw2 (mR mH) rfl rfl (M1 rfl))) (fun _ _=>rfl) ho33 (len_max ho33 (by decide)))) ?_; rintro vs32 _ ⟨Bs32,rfl,hns32,hJs32⟩; have hcBs32 := Cov.trans hcBs30 hns32
           refine ⟨(Ks.segN hcBs32 (Ks.consN hb67 (Ks.segK (fun k hk=>by simp [hk]) (Ks.segK (fun k hk=>by simp [hk]) (Ks.segK (fun k hk=>by simp [hk]) (Ks.segK (fun k hk=>by simp [hk]) Ks.nil)))))),?_⟩; exact xb hok 9 [68] rfl (by kernel_rfl) (fun _ hK=>o_as rfl) (xd_end hok (by kernel_rfl) (xq_cutI (e' := [(0,v0),(2,.int .i64 to2),(7,vs2),(8,v8_1),(9,v9_3),(10,v10_3),(11,.int .i64 i11),(12,.int .i64 k12),(14,vs32)]) (Bs32++(B10_3++(B9_3++(B8_1++(Bs2++([])))))) (sl rfl) (Kp.st (Kp.segKeep (Kp.new hb67 (Kp.segKeep (Kp.segKeep (Kp.segKeep (Kp.segKeep Kp.nil))))))) ⟨vs32,Bs32,rfl,rfl,hcBs32,hJs32⟩))
         ·rintro _ _ ⟨vj21,Bj20,rfl,rfl,hcBj20,hJvj21⟩; replace h := hk; refine xq_then (xw_seq (wS (vm rfl (vm rfl ?_)))); obtain ⟨ho34,h⟩ := h; refine xQ rfl (o_ixL el25 rfl rfl (fun w hw=>(hJs2.sl hw (Pull.sub (.there _ (.there _ (.there _ (.there _ (.here _ _)))))))) rfl ho34) (xQ rfl (o_ldL1 (off := 0) (u := .int .i64 ((nodesR_F l0)[k12.toNat]!)) rfl ts3 rfl (fun w hw=>(hJs2.sl hw (Pull.sub (.there _ (.there _ (.there _ (.there _ (.here _ _)))))))) (toNat_lt ho34) rfl rfl) (vm rfl (xQ rfl (o_eql rfl rfl) (nS (wd rfl h (fun hp35 h=>?_) fun hp35 h=>?_)))))
          ·exact wS (vm rfl (va rfl (nS (xw_ret (xq_then_ret (xq_blk_ret (xq_then_ret (xq_out (r := (.inr (([]++(rows8[i11.toNat]!))++[(nodesR_F l0)[k12.toNat]!]) : ((List Int) × (List (List Int))) ⊕ ((List Int)))) (e' := [(6,vj21)]) (Bj20++(B10_3++(B9_3++(B8_1++(Bs2++([])))))) (sl rfl) (fun _ h=>h) h (by intro hh; cases hh) ⟨vj21,B9_3,B10_3,Bj20,rfl,rfl,rfl,hJvj21,hcB9_3,hcB10_3,hcBj20⟩))))))))
          ·refine xw_skip (xq_then (wS (vm rfl (vm rfl (vm rfl ?_))))); obtain ⟨ho36,h⟩ := h; refine xQ rfl (o_ixL el25 rfl rfl (fun w hw=>(hJs2.sl hw (Pull.sub (.there _ (.there _ (.there _ (.there _ (.here _ _)))))))) rfl ho36) (xQ rfl (o_ldL1 (off := 0) (u := .int .i64 ((nodesR_F l0)[k12.toNat]!)) rfl ts3 rfl (fun w hw=>(hJs2.sl hw (Pull.sub (.there _ (.there _ (.there _ (.there _ (.here _ _)))))))) (toNat_lt ho36) rfl rfl) (xr rfl (o_bsl el25 ze3 (cells_one rfl) rfl rfl (.int rfl rfl (.nil _))) ?_)); rintro _ _ ⟨b81,hb81,rfl,rfl⟩; obtain ⟨ho38,h⟩ := h; refine xr rfl (OT.st (fun _ h=>Pull.st (.thereC _ (.there _ (.there _ (.here _ _)))) h) (o_appJ (l := met9aa) (l' := [(nodesR_F l0)[k12.toNat]!]) (B := B9_3) ap25 rfl rfl hJ9_3 (fun w2 hw2=>(litS 1 (l := [(nodesR_F l0)[k12.toNat]!]) hw2 (mR mH) rfl rfl (M1 rfl))) (fun _ _=>rfl) ho38 (len_max ho38 (by decide)))) ?_; rintro vs37 _ ⟨Bs37,rfl,hns37,hJs37⟩; have hcBs37 := Cov.trans hcB9_3 hns37
           refine xo_st ((b81,_)::(Bj20++(B10_3++(Bs37++(B8_1++(Bs2++([]))))))) (fun _ h=>Pull.push (.thereC _ (.there _ (.there _ (.here _ _)))) h) (va rfl (nS (xw_region (vm rfl (vm rfl (xr rfl (o_bsl el52 ze25 (cells_one rfl) rfl rfl (.one rfl rfl rfl (oneOf (OJ.val hJvj21)) (.nil _))) ?_)))))); rintro _ _ ⟨b85,hb85,rfl,rfl⟩; obtain ⟨ho39,h⟩ := h; refine xr rfl (OT.st (fun _ h=>St.permJ [3,2,0,1,4,5,6] [[(b85,_)],[(b81,_)],Bj20,B10_3,Bs37,B8_1,Bs2] h) (o_appN (B := B10_3) (Ss := [Bj20]) (Rs := [[(b85,_)],[(b81,_)],Bs37,B8_1,Bs2]) (l := more10a) (x := (([]++(rows8[i11.toNat]!))++[(nodesR_F l0)[k12.toNat]!])) (f := (fun _=>vj21)) ap52 rfl rfl hJ10_3 rL.mono (by exact (hJvj21.mono (fun y hy=>by simp [cat,hy]))) (Cov.app0 hcBj20 Cov.nil) (fun w2 hw2=>(SL.lit (l := [(fun _=>vj21)]) (c := rawc) hw2 (mR (mR mH)) rfl (by omega) (by simp [maxLen]) (by exact (M1 rfl)))) (M1 (oneOf (OJ.val hJvj21))) ho39 (len_max ho39 (by decide)))) ?_; rintro vs40 _ ⟨Bs40,rfl,hns40,hJs40,hSs40⟩; have hcBs40 := Cov.trans hcB10_3 hns40
           have hJm41 : OJ 3 1 ic Bs40 vj21 (([]++(rows8[i11.toNat]!))++[(nodesR_F l0)[k12.toNat]!]) := hJvj21.mono (fun y hy=>hSs40 y (by simp [cat,hy]))
           refine xo_st (Bs40++((b85,_)::((b81,_)::(Bs37++(B8_1++(Bs2++([]))))))) (fun _ h=>h) (va rfl (xo_nil (xq_blk 5 (xq_then (xw_region (vm rfl ?_)))))); obtain ⟨ho42,h⟩ := h; exact xQ rfl (o_add rfl rfl rfl ho42) (va rfl (xo_nil (xq_next (s' := (((met9aa++[(nodesR_F l0)[k12.toNat]!]),(more10a++[(([]++(rows8[i11.toNat]!))++[(nodesR_F l0)[k12.toNat]!])]),k12 + 1) : (List Int) × (List (List Int)) × Int)) (e' := [(0,v0),(2,.int .i64 to2),(7,vs2),(8,v8_1),(9,vs37),(10,vs40),(11,.int .i64 i11),(12,.int .i64 (k12 + 1))]) (Bs40++(Bs37++(B8_1++(Bs2++([]))))) (sl rfl) (Kp.st (Kp.segKeep (Kp.new hb85 (Kp.new hb81 (Kp.segKeep (Kp.segKeep (Kp.segKeep Kp.nil))))))) h ⟨vs40,vs37,Bs37,Bs40,rfl,rfl,hJs37,hJs40,hcBs37,hcBs40⟩)))
      ·exact xw_exit (xq_then_exit (xq_out (r := (.inl (met9aa,more10a) : ((List Int) × (List (List Int))) ⊕ ((List Int)))) (e' := [(0,v0),(2,.int .i64 to2),(7,vs2),(8,v8_1),(9,v9_3),(10,v10_3),(11,.int .i64 i11)]) (B10_3++(B9_3++(B8_1++(Bs2++([]))))) (sl rfl) (fun _ h=>h) h (by intro hh; cases hh) ⟨v10_3,v9_3,B9_3,B10_3,rfl,rfl,rfl,hJ9_3,hJ10_3,hcB9_3,hcB10_3⟩))
     ·rcases x3 with ⟨met9aa,more10a⟩ | x6
      ·rintro _ _ _ ⟨v10_3o,v9_3o,B9_3o,B10_3o,rfl,rfl,rfl,hJ9_3o,hJ10_3o,hcB9_3o,hcB10_3o⟩; replace h : wayR_k3a i11 met9aa more10a o := h; unfold wayR_k3a at h; refine xq_blk_eq (xq_blk 3 (xq_then (xw_region (vm rfl ?_)))); obtain ⟨ho43,h⟩ := h; exact xQ rfl (o_add rfl rfl rfl ho43) (va rfl (xo_nil (xq_next (s' := ((met9aa,more10a,i11 + 1) : (List Int) × (List (List Int)) × Int)) (e' := [(0,v0),(2,.int .i64 to2),(7,vs2),(8,v8_1),(9,v9_3o),(10,v10_3o),(11,.int .i64 (i11 + 1))]) (B10_3o++(B9_3o++(B8_1++(Bs2++([]))))) (sl rfl) (fun _ h=>h) h ⟨v10_3o,v9_3o,B9_3o,B10_3o,rfl,rfl,hJ9_3o,hJ10_3o,hcB9_3o,hcB10_3o⟩)))
      rintro _ _ _ ⟨v6_3o,B9_3o,B10_3o,B6_3o,rfl,rfl,rfl,hJ6_3o,hcB9_3o,hcB10_3o,hcB6_3o⟩; replace h : wayR_k3b x6 o := h; unfold wayR_k3b at h; exact xq_blk_ret (xq_blk_ret (xq_then_ret (xq_out (r := (.inr x6 : ((List Int) × (List (List Int))) ⊕ ((List Int)))) (e' := [(6,v6_3o)]) (B6_3o++([]++([]++(B8_1++(Bs2++([])))))) (sl rfl) (Kp.st (Kp.segKeep (Kp.segNew (Cov.fresh hcB10_3o) (Kp.segNew (Cov.fresh hcB9_3o) (Kp.segKeep (Kp.segKeep Kp.nil)))))) h (by intro hh; cases hh) ⟨v6_3o,[],[],B6_3o,rfl,rfl,rfl,hJ6_3o,(Cov.refl _),(Cov.refl _),hcB6_3o⟩)))
    ·exact xw_exit (xq_then_exit (xq_out (r := (.inl (met9a,more10) : ((List Int) × (List (List Int))) ⊕ ((List Int)))) (e' := [(0,v0),(2,.int .i64 to2),(7,vs2),(9,v9_2),(10,v10_2)]) (B10_2++(B9_2++(B8_1++(Bs2++([]))))) (sl rfl) (fun _ h=>h) h (by intro hh; cases hh) ⟨v10_2,v9_2,B9_2,B10_2,rfl,rfl,rfl,hJ9_2,hJ10_2,hcB9_2,hcB10_2⟩))
   ·rcases x2 with ⟨met9a,more10⟩ | x6
    ·rintro _ _ _ ⟨v10_2o,v9_2o,B9_2o,B10_2o,rfl,rfl,rfl,hJ9_2o,hJ10_2o,hcB9_2o,hcB10_2o⟩; replace h : wayR_k2a met9a more10 o := h; unfold wayR_k2a at h; exact xq_blk_eq (xq_then (xw_region (vm rfl (va rfl (xo_nil (xq_blk 1 (xq_next (s' := ((more10,met9a) : (List (List Int)) × (List Int))) (e' := [(0,v0),(2,.int .i64 to2),(7,vs2),(8,v10_2o),(9,v9_2o)]) (B9_2o++(B10_2o++(Bs2++([])))) (sl rfl) (fun _ h=>St.permJ [1,0,2] [B10_2o,B9_2o,Bs2] (Kp.st (Kp.segKeep (Kp.segKeep (Kp.segNew (Cov.fresh hcB8_1) (Kp.segKeep Kp.nil)))) _ h)) h ⟨v9_2o,v10_2o,B10_2o,B9_2o,rfl,rfl,hJ10_2o,hJ9_2o,hcB10_2o,hcB9_2o⟩)))))))
    rintro _ _ _ ⟨v6_2o,B9_2o,B10_2o,B6_2o,rfl,rfl,rfl,hJ6_2o,hcB9_2o,hcB10_2o,hcB6_2o⟩; replace h : wayR_k2b x6 o := h; unfold wayR_k2b at h; exact xq_blk_ret (xq_then_ret (xq_blk_ret (xq_out (r := (.inr x6 : (Unit) ⊕ ((List Int)))) (e' := [(6,v6_2o)]) (B6_2o++([]++(B8_1++(Bs2++([]))))) (sl rfl) (Kp.st (Kp.segKeep (Kp.segNew (Cov.fresh hcB10_2o) (Kp.segNew (Cov.fresh hcB9_2o) (Kp.segKeep (Kp.segKeep Kp.nil)))))) h (by intro hh; cases hh) ⟨v6_2o,B8_1,[],B6_2o,rfl,rfl,rfl,hJ6_2o,hcB8_1,(Cov.refl _),hcB6_2o⟩)))
  ·exact xw_exit (xq_then_exit (xq_out (r := (.inl () : (Unit) ⊕ ((List Int)))) (e' := []) (B9_1++(B8_1++(Bs2++([])))) (sl rfl) (fun _ h=>h) h (by intro hh; cases hh) ⟨B8_1,B9_1,rfl,rfl,rfl,hcB8_1,hcB9_1⟩))
 ·rcases x1 with _ | x6
  ·rintro _ _ _ ⟨B8_1o,B9_1o,rfl,rfl,rfl,hcB8_1o,hcB9_1o⟩; replace h : wayR_k1a r := h; unfold wayR_k1a at h; refine xq_blk_eq (xq_then (wS (va rfl (nS (xw_ret ?_))))); subst h
   exact yA Try.results15 rfl _ (Kp.st (Kp.segNew (Cov.fresh hcB9_1o) (Kp.segNew (Cov.fresh hcB8_1o) (Kp.segNew (Cov.fresh hcBs2) Kp.nil)))) (⟨_,[],rfl,rfl,OJ.nil,Cov.refl _⟩)
  rintro _ _ _ ⟨v6_1o,B8_1o,B9_1o,B6_1o,rfl,rfl,rfl,hJ6_1o,hcB8_1o,hcB9_1o,hcB6_1o⟩; replace h : wayR_k1b x6 r := h; unfold wayR_k1b at h; refine xq_blk_ret (xq_then_ret ?_); subst h
  exact yA Try.results15 rfl _ (Kp.st (Kp.segKeep (Kp.segNew (Cov.fresh hcB9_1o) (Kp.segNew (Cov.fresh hcB8_1o) (Kp.segNew (Cov.fresh hcBs2) Kp.nil))))) (⟨_,B6_1o,rfl,rfl,hJ6_1o,hcB6_1o⟩)
end Go.Proofs.Ytdmibiefinhneaa
/- The code answers as the relations say. -/
namespace Go.Proofs.Ytdmibiefinhneaa
open Go Go.E
theorem alive10_con (w : World) (r : Bool) (h : alive10_S r) : Con Try.prog 8 #[] w (Is (.bool r) []) := by
  unfold alive10_S at h
  refine ce Try.func8 rfl Try.ntmps8 rfl (wS (va rfl (nR (xQ rfl (o_build fk32 ze32 (.int fl32_0 rfl rfl (.int fl32_2 rfl rfl (.nil _)))) (xQ rfl (o_build fk32 ze32 (.int fl32_0 rfl rfl (.int fl32_2 rfl rfl (.nil _)))) (xQ rfl (o_build fk32 ze32 (.int fl32_0 rfl rfl (.int fl32_2 rfl rfl (.nil _)))) (xQ rfl (o_build fk32 ze32 (.int fl32_0 rfl rfl (.int fl32_2 rfl rfl (.nil _)))) (xr rfl (o_bsl el22 ze32 rfl rfl rfl (.ints rfl rfl (.ints rfl rfl (.ints rfl rfl (.ints rfl rfl (.nil _)))))) ?_))))))))
  rintro _ _ ⟨b6, hb6, rfl, rfl⟩
  refine va rfl (nR (vm rfl ?_))
  obtain ⟨ho1, h⟩ := h
  refine xcall rfl trivial kf10 rfl (fun w1 hw1 => greach_con _ _ _ w1 (litS 4 (l := [(updI (updI (fun _ => 0) 0 1) 2 2), (updI (updI (fun _ => 0) 0 2) 2 3), (updI (updI (fun _ => 0) 0 3) 2 1), (updI (updI (fun _ => 0) 0 4) 2 1)]) hw1 (List.Mem.head _) rfl rfl (fun i hi => match i, hi with | 0, _ => rfl | 1, _ => rfl | 2, _ => rfl | 3, _ => rfl | 4, _ => rfl | 5, _ => rfl | 6, _ => rfl | 7, _ => rfl | 8, _ => rfl | 9, _ => rfl | 10, _ => rfl | 11, _ => rfl | 12, _ => rfl | 13, _ => rfl | 14, _ => rfl | 15, _ => rfl | q + 16, h => absurd h (by omega))) _ (greach_ok _ _ ho1)) ?_
  rintro w1 vs2 _ hw1 ⟨_, Bs2, rfl, rfl, hJs2, hcBs2⟩
  refine ⟨_, Mg.news (Cov.fresh hcBs2) (.nil _), ?_⟩
  replace hcBs2 := Cov.base (w0 := w) hcBs2 hw1.size
  refine xr rfl (o_bsl el25 ze3 (cells_one rfl) rfl rfl (.int rfl rfl (.int rfl rfl (.int rfl rfl (.nil _))))) ?_
  rintro _ _ ⟨b9, hb9, rfl, rfl⟩
  obtain ⟨ho3, h⟩ := h
  refine xc rfl kf9 rfl (fun w1 hw1 => ints_con _ _ _ _ w1 (hJs2.sl hw1 (Pull.sub (.thereC _ (.here _ _)))) (litS 3 (l := [1, 2, 3]) hw1 (List.Mem.head _) rfl rfl (fun i hi => match i, hi with | 0, _ => rfl | 1, _ => rfl | 2, _ => rfl | q + 3, h => absurd h (by omega))) _ (ints_ok _ _ ho3)) (vm rfl (ob 11 rfl h (fun hp4 h => ?_) fun hp4 h => ?_))
  · refine vm rfl ?_
    obtain ⟨ho5, h⟩ := h
    refine xcall rfl ⟨_, rfl, rfl⟩ kf12 rfl (fun w1 hw1 => gcirc_con _ _ w1 (litS 4 (l := [(updI (updI (fun _ => 0) 0 1) 2 2), (updI (updI (fun _ => 0) 0 2) 2 3), (updI (updI (fun _ => 0) 0 3) 2 1), (updI (updI (fun _ => 0) 0 4) 2 1)]) hw1 (List.Mem.tail _ (List.mem_append_right _ (List.Mem.head _))) rfl rfl (fun i hi => match i, hi with | 0, _ => rfl | 1, _ => rfl | 2, _ => rfl | 3, _ => rfl | 4, _ => rfl | 5, _ => rfl | 6, _ => rfl | 7, _ => rfl | 8, _ => rfl | 9, _ => rfl | 10, _ => rfl | 11, _ => rfl | 12, _ => rfl | 13, _ => rfl | 14, _ => rfl | 15, _ => rfl | q + 16, h => absurd h (by omega))) _ (gcirc_ok _ ho5)) ?_
    rintro w1 vs6 _ hw1 ⟨_, Bs6, rfl, rfl, hJs6, hcBs6⟩
    refine ⟨_, Mg.news (Cov.fresh hcBs6) (.nil _), ?_⟩
    replace hcBs6 := Cov.base (w0 := w) hcBs6 hw1.size
    refine xr rfl (o_bsl el25 ze3 (cells_one rfl) rfl rfl (.int rfl rfl (.int rfl rfl (.int rfl rfl (.nil _))))) ?_
    rintro _ _ ⟨b14, hb14, rfl, rfl⟩
    obtain ⟨ho7, h⟩ := h
    refine xc rfl kf9 rfl (fun w1 hw1 => ints_con _ _ _ _ w1 (hJs6.sl hw1 (Pull.sub (.thereC _ (.here _ _)))) (litS 3 (l := [1, 2, 3]) hw1 (List.Mem.head _) rfl rfl (fun i hi => match i, hi with | 0, _ => rfl | 1, _ => rfl | 2, _ => rfl | q + 3, h => absurd h (by omega))) _ (ints_ok _ _ ho7)) (vt rfl (vm rfl (ob 17 rfl h (fun hp8 h => ?_) fun hp8 h => ?_)))
    · refine vm rfl ?_
      obtain ⟨ho9, h⟩ := h
      refine xcall rfl ⟨_, rfl, rfl⟩ kf14 rfl (fun w1 hw1 => gway_con _ _ _ _ w1 (litS 4 (l := [(updI (updI (fun _ => 0) 0 1) 2 2), (updI (updI (fun _ => 0) 0 2) 2 3), (updI (updI (fun _ => 0) 0 3) 2 1), (updI (updI (fun _ => 0) 0 4) 2 1)]) hw1 (List.Mem.tail _ (List.mem_append_right _ (List.Mem.tail _ (List.mem_append_right _ (List.Mem.head _))))) rfl rfl (fun i hi => match i, hi with | 0, _ => rfl | 1, _ => rfl | 2, _ => rfl | 3, _ => rfl | 4, _ => rfl | 5, _ => rfl | 6, _ => rfl | 7, _ => rfl | 8, _ => rfl | 9, _ => rfl | 10, _ => rfl | 11, _ => rfl | 12, _ => rfl | 13, _ => rfl | 14, _ => rfl | 15, _ => rfl | q + 16, h => absurd h (by omega))) _ (gway_ok _ _ _ ho9)) ?_
      rintro w1 vs10 _ hw1 ⟨_, Bs10, rfl, rfl, hJs10, hcBs10⟩
      refine ⟨_, Mg.news (Cov.fresh hcBs10) (.nil _), ?_⟩
      replace hcBs10 := Cov.base (w0 := w) hcBs10 hw1.size
      refine xr rfl (o_bsl el25 ze3 (cells_one rfl) rfl rfl (.int rfl rfl (.int rfl rfl (.int rfl rfl (.int rfl rfl (.nil _)))))) ?_
      rintro _ _ ⟨b20, hb20, rfl, rfl⟩
      obtain ⟨ho11, h⟩ := h
      refine xc rfl kf9 rfl (fun w1 hw1 => ints_con _ _ _ _ w1 (hJs10.sl hw1 (Pull.sub (.thereC _ (.here _ _)))) (litS 4 (l := [4, 1, 2, 3]) hw1 (List.Mem.head _) rfl rfl (fun i hi => match i, hi with | 0, _ => rfl | 1, _ => rfl | 2, _ => rfl | 3, _ => rfl | q + 4, h => absurd h (by omega))) _ (ints_ok _ _ ho11)) (vt rfl (va rfl (nS (xw_ret ?_))))
      subst h
      exact yA Try.results8 rfl [] (Kp.st (Kp.new hb20 (Kp.segNew (Cov.fresh hcBs10) (Kp.new hb14 (Kp.segNew (Cov.fresh hcBs6) (Kp.new hb9 (Kp.segNew (Cov.fresh hcBs2) (Kp.new hb6 Kp.nil)))))))) (⟨rfl, rfl⟩)
    · refine vs rfl (vs rfl (vs rfl (vs rfl (vf rfl (va rfl (nS (xw_ret ?_)))))))
      subst h
      exact yA Try.results8 rfl [] (Kp.st (Kp.new hb14 (Kp.segNew (Cov.fresh hcBs6) (Kp.new hb9 (Kp.segNew (Cov.fresh hcBs2) (Kp.new hb6 Kp.nil)))))) (⟨rfl, rfl⟩)
  · refine vs rfl (vs rfl (vs rfl (vs rfl (vf rfl (vm rfl (vs rfl (vs rfl (vs rfl (vs rfl (vf rfl (va rfl (nS ?_))))))))))))
    refine xw_ret ?_
    subst h
    exact yA Try.results8 rfl [] (Kp.st (Kp.new hb9 (Kp.segNew (Cov.fresh hcBs2) (Kp.new hb6 Kp.nil)))) (⟨rfl, rfl⟩)
theorem way10_con (l0 : (List (Nat → Int))) (from1 : Int) (to2 : Int) (v0 : Value) (w : World) (hs0 : SL w 4 iv v0 l0) (r : Bool) (h : way10_S l0 from1 to2 r) : Con Try.prog 4 #[v0, .int .i64 from1, .int .i64 to2] w (Is (.bool r) []) := by
  unfold way10_S at h
  refine ce Try.func4 rfl Try.ntmps4 rfl (wS (va rfl (nS (xw_seq (wS ?_)))))
  obtain ⟨ho1, h⟩ := h
  refine xc rfl kf8 rfl (fun w1 hw1 => alive10_con w1 _ (alive10_ok ho1)) (xQ rfl (o_not rfl) (nS (wc rfl h (fun hp2 h => ?_) fun hp2 h => ?_)))
  · refine wS (va rfl (nS (xw_ret (xq_then_ret ?_))))
    subst h
    exact rO Try.results4 rfl (⟨rfl, rfl⟩)
  · refine xw_skip (xq_then (xw_seq (wS (vm rfl (xQ rfl (o_lenL rfl Try.underlying22 rfl (SL.val hs0)) (xQ rfl (o_gtr rfl rfl) (nS (wd rfl h (fun hp3 h => ?_) fun hp3 h => ?_))))))))
    · refine wS (va rfl (nS (xw_ret (xq_then_ret ?_))))
      subst h
      exact rO Try.results4 rfl (⟨rfl, rfl⟩)
    · refine xw_skip (xq_then (wS (vm rfl (vm rfl (vm rfl ?_)))))
      obtain ⟨ho4, h⟩ := h
      refine xcall rfl trivial kf14 rfl (fun w1 hw1 => gway_con _ _ _ _ w1 (hs0.keep hw1 Fr.nil) _ (gway_ok _ _ _ ho4)) ?_
      rintro w1 vs5 _ hw1 ⟨_, Bs5, rfl, rfl, hJs5, hcBs5⟩
      refine ⟨_, Mg.news (Cov.fresh hcBs5) (.nil _), ?_⟩
      replace hcBs5 := Cov.base (w0 := w) hcBs5 hw1.size
      refine vm rfl (vm rfl (vm rfl ?_))
      obtain ⟨ho6, h⟩ := h
      refine xcall rfl trivial kf15 rfl (fun w1 hw1 => wayR_con _ _ _ _ w1 (hs0.keep hw1 (Fr.seg hcBs5 Fr.nil)) _ (wayR_ok _ _ _ ho6)) ?_
      rintro w1 vs7 _ hw1 ⟨_, Bs7, rfl, rfl, hJs7, hcBs7⟩
      refine ⟨_, Mg.news (Cov.fresh hcBs7) (.nil _), ?_⟩
      replace hcBs7 := Cov.base (w0 := w) hcBs7 hw1.size
      obtain ⟨ho8, h⟩ := h
      refine xc rfl kf9 rfl (fun w1 hw1 => ints_con _ _ _ _ w1 (hJs5.sl hw1 (Pull.sub (.there _ (.here _ _)))) (hJs7.sl hw1 (Pull.sub (.here _ _))) _ (ints_ok _ _ ho8)) (va rfl (nS (xw_ret ?_)))
      subst h
      exact yA Try.results4 rfl [] (Kp.st (Kp.segNew (Cov.fresh hcBs7) (Kp.segNew (Cov.fresh hcBs5) Kp.nil))) (⟨rfl, rfl⟩)
end Go.Proofs.Ytdmibiefinhneaa
/- The chapter example; edges whose numbers are numbers. -/
namespace Go.E
open Go
/-! ### The example -/
def exL : List (Nat → Int) := [(updI (updI (fun _ => 0) 0 1) 2 2), (updI (updI (fun _ => 0) 0 2) 2 3), (updI (updI (fun _ => 0) 0 3) 2 1), (updI (updI (fun _ => 0) 0 4) 2 1)]
theorem exL_adj {a b : Int} : Adj exL a b ↔ (a = 1 ∧ b = 2) ∨ (a = 2 ∧ b = 3) ∨ (a = 3 ∧ b = 1) ∨ (a = 4 ∧ b = 1) := by
  unfold Adj exL
  constructor
  · rintro ⟨e, he, h1, h2⟩
    simp only [List.mem_cons, List.not_mem_nil, or_false] at he
    rcases he with rfl | rfl | rfl | rfl
    · exact .inl ⟨h1.symm, h2.symm⟩
    · exact .inr (.inl ⟨h1.symm, h2.symm⟩)
    · exact .inr (.inr (.inl ⟨h1.symm, h2.symm⟩))
    · exact .inr (.inr (.inr ⟨h1.symm, h2.symm⟩))
  · rintro (⟨rfl, rfl⟩ | ⟨rfl, rfl⟩ | ⟨rfl, rfl⟩ | ⟨rfl, rfl⟩)
    · exact ⟨_, List.mem_cons_self, rfl, rfl⟩
    · exact ⟨_, List.mem_cons_of_mem _ List.mem_cons_self, rfl, rfl⟩
    · exact ⟨_, List.mem_cons_of_mem _ (List.mem_cons_of_mem _ List.mem_cons_self), rfl, rfl⟩
    · exact ⟨_, List.mem_cons_of_mem _ (List.mem_cons_of_mem _ (List.mem_cons_of_mem _ List.mem_cons_self)), rfl, rfl⟩
theorem exL_E : Edges exL := ⟨by decide, by unfold exL; decide⟩
theorem exL_to {a x : Int} (h : Rt exL a x) : x = 1 ∨ x = 2 ∨ x = 3 := by
  cases h with
  | one e => have := exL_adj.1 e; omega
  | more _ e => have := exL_adj.1 e; omega
theorem exL_12 : Rt exL 1 2 := .one (exL_adj.2 (by omega))
theorem exL_23 : Rt exL 2 3 := .one (exL_adj.2 (by omega))
theorem exL_31 : Rt exL 3 1 := .one (exL_adj.2 (by omega))
theorem exL_41 : Rt exL 4 1 := .one (exL_adj.2 (by omega))
theorem exL_reach : greach_F exL 4 = [1, 2, 3] := by
  refine (greach_eq (by decide) fun x => ?_).symm
  constructor
  · intro h
    simp only [List.mem_cons, List.not_mem_nil, or_false] at h
    rcases h with rfl | rfl | rfl
    · exact exL_41
    · exact exL_41.trans exL_12
    · exact exL_41.trans (exL_12.trans exL_23)
  · intro h
    have := exL_to h
    simp only [List.mem_cons, List.not_mem_nil, or_false]
    exact this
theorem rising_gcirc (l : List (Nat → Int)) : (gcirc_F l).Pairwise fun a b => a < b := List.Pairwise.sublist List.filter_sublist (rising_rising _)
theorem exL_circ : gcirc_F exL = [1, 2, 3] := by
  refine rising_ext (rising_gcirc _) (by decide) fun x => ?_
  rw [mem_gcirc]
  constructor
  · intro h
    have := exL_to h
    simp only [List.mem_cons, List.not_mem_nil, or_false]
    exact this
  · intro h
    simp only [List.mem_cons, List.not_mem_nil, or_false] at h
    rcases h with rfl | rfl | rfl
    · exact exL_12.trans (exL_23.trans exL_31)
    · exact exL_23.trans (exL_31.trans exL_12)
    · exact exL_31.trans (exL_12.trans exL_23)
theorem exL_way : gway_F exL 4 3 = [4, 1, 2, 3] := by
  have hI := (gway_is exL 4 3 exL_E).1 (exL_41.trans (exL_12.trans exL_23))
  generalize gway_F exL 4 3 = w at hI
  obtain ⟨h2, h0, hl, ha, hm, _⟩ := hI
  have a0 := exL_adj.1 (show Adj exL (w[0]!) (w[1]!) from ha 0 (by omega))
  have n2 : w.length ≠ 2 := fun e => by rw [e] at hl; have hl : w[1]! = 3 := hl; omega
  have a1 := exL_adj.1 (show Adj exL (w[1]!) (w[2]!) from ha 1 (by omega))
  have n3 : w.length ≠ 3 := fun e => by rw [e] at hl; have hl : w[2]! = 3 := hl; omega
  have a2 := exL_adj.1 (show Adj exL (w[2]!) (w[3]!) from ha 2 (by omega))
  have n4 : w.length = 4 := by
    by_cases h : w.length = 4
    · exact h
    · exact absurd (by omega) (hm 3 (by omega) (by omega))
  refine List.ext_getElem (by rw [n4]; rfl) fun i h1 h3 => ?_
  have e : w[i] = w[i]! := (getElem!_pos w i h1).symm
  rw [e]
  have : i < 4 := by omega
  rcases (show i = 0 ∨ i = 1 ∨ i = 2 ∨ i = 3 by omega) with rfl | rfl | rfl | rfl
  · exact h0
  · show w[1]! = 1; omega
  · show w[2]! = 2; omega
  · show w[3]! = 3; omega
theorem alive10_t : alive10_F = true := by
  show (if ints_F (greach_F exL 4) [1, 2, 3] = true then if ints_F (gcirc_F exL) [1, 2, 3] = true then ints_F (gway_F exL 4 3) [4, 1, 2, 3] else false else false) = true
  rw [exL_reach, exL_circ, exL_way]
  decide
theorem alive10_p : alive10_P := by
  show greach_P exL 4 ∧ ints_P (greach_F exL 4) [1, 2, 3] ∧ if ints_F (greach_F exL 4) [1, 2, 3] = true then gcirc_P exL ∧ ints_P (gcirc_F exL) [1, 2, 3] ∧ if ints_F (gcirc_F exL) [1, 2, 3] = true then gway_P exL 4 3 ∧ ints_P (gway_F exL 4 3) [4, 1, 2, 3] ∧ True else True else True
  rw [exL_reach, exL_circ, exL_way, if_pos (ints_self _), if_pos (ints_self _)]
  exact ⟨exL_E, by unfold ints_P; decide, exL_E, by unfold ints_P; decide, exL_E, by unfold ints_P; decide, trivial⟩
theorem edges_of {l : List (Nat → Int)} {n : Nat} (hl : l.length ≤ n) (hn : n ≤ 100000) (hw : ∀ m ∈ l, ∀ i, i < 4 → inI64 (m i)) : Edges l := ⟨by omega, fun e he => ⟨hw e he 0 (by omega), hw e he 2 (by omega)⟩⟩
/-! ### The document's -/
/-! ### More edges, edges turned about -/
end Go.E
namespace Go.E
open Go
theorem way10_all (l : List (Nat → Int)) (a b : Int) (hw : ∀ m ∈ l, ∀ i, i < 4 → inI64 (m i)) : way10_S l a b true := by
  unfold way10_S
  refine ⟨alive10_p, ?_⟩
  rw [if_pos alive10_t]
  by_cases hL : 60 < (l.length : Int)
  · rw [if_pos hL]
  · rw [if_neg hL]
    have hE : Edges l := edges_of (n := 60) (by omega) (by omega) hw
    have e : wayR_F l a b = gway_F l a b := rfl
    have hlen : (gway_F l a b).length ≤ 2 * l.length + 3 := by
      have := gway_is l a b hE
      by_cases hr : Rt l a b
      · exact (this.1 hr).top
      · rw [this.2 hr]; simp
    refine ⟨hE, hE, ?_, ?_⟩
    · rw [e]; unfold ints_P; omega
    · rw [e]; unfold ints_F; exact (decide_eq_true rfl).symm
end Go.E
