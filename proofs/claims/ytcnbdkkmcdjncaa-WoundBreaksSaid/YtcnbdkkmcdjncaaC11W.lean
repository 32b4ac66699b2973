/- The code answers as the relations say. -/
import Derived.Test.YtcnbdkkmcdjncaaTab
import Derived.Test.YtcnbdkkmcdjncaaC11S
import Derived.Test.YtcnbdkkmcdjncaaB11W
set_option maxHeartbeats 1000000
set_option linter.unusedVariables false
set_option linter.unusedSimpArgs false
set_option maxRecDepth 100000
namespace Go.Proofs.Ytcnbdkkmcdjncaa
open Go Go.E

theorem wof_c (l0 : (List (Nat → Int))) (v0 : Value) (w : World) (hs0 : SL w 4 iv v0 l0) (hP : wof_P l0) : Con Try.prog 8 #[v0] w (fun v F => ∃ (u0 : Value) (C0 : GH), v = u0 ∧ F = (C0 ++ []) ∧ OJ 29 2 iv C0 u0 (wof_F l0) ∧ Cov w [] C0) :=
  wof_con l0 v0 w hs0 _ (wof_ok l0 hP)

theorem wrest_con (l0 : (List (Nat → Int))) (v0 : Value) (w : World) (hs0 : SL w 4 iv v0 l0) (r : (List (Nat → Int))) (h : wrest_S l0 r) : Con Try.prog 11 #[v0] w (fun v F => ∃ (u0 : Value) (C0 : GH), v = u0 ∧ F = (C0 ++ []) ∧ OJ 37 4 iv C0 u0 r ∧ Cov w [] C0) := by
  unfold wrest_S at h
  refine con_enter (n := 35) [(0, _)] Try.func11 rfl Try.ntmps11 rfl (lac rfl lan) ?_
  refine xw_seq (xw_region ?_)
  refine xo rfl trivial (o_box1 rfl (oneOf (SL.val hs0))) ?_
  rintro _ _ ⟨b1, hb1, rfl, rfl⟩
  refine xq rfl trivial (o_as rfl) ?_
  refine xo_nil (xq_then (xw_seq (xw_region ?_)))
  refine xq rfl trivial (o_ldV rfl ts22 (List.Mem.head _)) ?_
  obtain ⟨ho1, h⟩ := h
  refine xcall rfl trivial kf8 rfl (fun w1 hw1 => wof_c _ _ w1 (hs0.keep hw1 (Fr.cons hb1 Fr.nil)) ho1) ?_
  rintro w1 vs2 _ hw1 ⟨_, Bs2, rfl, rfl, hJs2, hcBs2⟩
  refine ⟨_, Mg.news (Cov.fresh hcBs2) (.nil _), ?_⟩
  replace hcBs2 := Cov.base (w0 := w) hcBs2 hw1.size
  refine xo rfl trivial (o_alloc ze24 (cells_one rfl)) ?_
  rintro _ _ ⟨b3, hb3, rfl, rfl⟩
  refine xq0 trivial (o_stV rfl rfl ts24 (oneOf (OJ.val hJs2)) (List.Mem.head _) (.here _ _ _ _)) ?_
  refine xo_nil (xq_then (xw_seq (xw_region ?_)))
  refine xq rfl trivial (o_mkf rfl rfl) ?_
  refine xq rfl trivial (o_as rfl) ?_
  refine xo_nil (xq_then (xw_seq (xw_region ?_)))
  refine xq rfl trivial (o_as rfl) ?_
  refine xo_nil (xq_then (xw_seq (xw_seq (xw_region ?_))))
  refine xq rfl trivial (o_ldV rfl ts22 (List.Mem.tail _ (List.mem_append_right _ (List.Mem.head _)))) ?_
  refine xq rfl trivial (o_lenL rfl Try.underlying22 rfl (SL.val hs0)) ?_
  refine xq rfl trivial (o_mv rfl) ?_
  refine xo_nil (xq_then ?_)
  refine xw_block ?_
  obtain ⟨out5, hx1, h⟩ := h
  refine xw_wh (fun s e H => match s with | (out5, x13) => ∃ (v5_1 : Value) (B5_1 : GH), e = [(4, .func (.func 21) [].toArray [.pointer (some ⟨b3, 0, none⟩), .pointer (some ⟨b1, 0, none⟩)].toArray), (5, v5_1), (11, v0), (12, .int .i64 (l0.length : Int)), (13, .int .i64 x13)] ∧ H = B5_1 ++ ((b3, BK 1 (fun _ => vs2) 24) :: (Bs2 ++ ((b1, BK 1 (fun _ => v0) 22) :: ([])))) ∧ OJ 37 4 iv B5_1 v5_1 out5 ∧ Cov w [] B5_1) (fun (out5 : (List (Nat → Int))) ex e H => ∃ (v5_1o : Value) (B5_1o : GH), ex = .exit 0 ∧ e = [(5, v5_1o)] ∧ H = B5_1o ++ ((b3, BK 1 (fun _ => vs2) 24) :: (Bs2 ++ ((b1, BK 1 (fun _ => v0) 22) :: ([])))) ∧ OJ 37 4 iv B5_1o v5_1o out5 ∧ Cov w [] B5_1o) hx1 ⟨[(4, .func (.func 21) [].toArray [.pointer (some ⟨b3, 0, none⟩), .pointer (some ⟨b1, 0, none⟩)].toArray), (5, .slice none 0 0), (11, v0), (12, .int .i64 (l0.length : Int)), (13, .int .i64 0)], [] ++ ((b3, BK 1 (fun _ => vs2) 24) :: (Bs2 ++ ((b1, BK 1 (fun _ => v0) 22) :: ([])))), (lc rfl (lc rfl (lc rfl (lc rfl (lc rfl ln))))), fun _ h => h, ⟨_, [], rfl, rfl, OJ.nil, (Cov.refl _)⟩⟩ ?_ ?_
  · rintro ⟨out5, x13⟩ o _ _ ⟨v5_1, B5_1, rfl, rfl, hJ5_1, hcB5_1⟩ hb
    have h : wrest_l1 l0 out5 x13 o := hb
    clear hb
    unfold wrest_l1 at h
    refine xw_seq (xw_region ?_)
    refine xq rfl trivial (o_lss rfl rfl) ?_
    refine xo_nil (xq_then (xw_seq ?_))
    refine xw_bool 14 rfl (fun hc3 => ?_) (fun hc3 => ?_)
    · have hq3 : (decide (x13 < (l0.length : Int))) = true := hc3
      have hp3 : x13 < (l0.length : Int) := of_decide_eq_true hq3
      rw [if_pos hp3] at h
      refine xw_cond_t rfl rfl (xw_skip (xq_then (xw_seq ?_)))
      refine xw_block ?_
      refine xw_seq (xw_region ?_)
      obtain ⟨ho4, h⟩ := h
      refine xq rfl trivial (o_ixL el22 rfl rfl (fun w hw => (hs0.keep hw (Fr.seg hcB5_1 (Fr.cons hb3 (Fr.seg hcBs2 (Fr.cons hb1 Fr.nil)))))) rfl ho4) ?_
      refine xq rfl trivial (o_ldLI rfl ts37 rfl (fun w hw => (hs0.keep hw (Fr.seg hcB5_1 (Fr.cons hb3 (Fr.seg hcBs2 (Fr.cons hb1 Fr.nil)))))) (toNat_lt ho4) rfl) ?_
      refine xo rfl trivial (o_alloc ze37 rfl) ?_
      rintro _ _ ⟨b7, hb7, rfl, rfl⟩
      refine xq0 trivial (o_stWI rfl rfl ts37 (List.Mem.head _) (.here _ _ _ _)) ?_
      refine xo_nil (xq_then (xw_seq (xw_region ?_)))
      refine xq rfl trivial (o_mv rfl) ?_
      first | refine xq rfl trivial (o_fa0 fl37_0 rfl) ?_ | refine xq rfl trivial (o_fa fl37_0 rfl) ?_
      refine xq rfl trivial (o_ldI (v := (l0[x13.toNat]!) 0) rfl ts3 (List.Mem.head _) (by omega) rfl) ?_
      refine xoR rfl trivial (ot_inv (l := [(0, _), (1, _), (2, _)]) rfl kf21 rfl Try.func21 rfl Try.ntmps21 rfl (lac rfl (lac rfl (lac rfl lan))) ?_)
      refine xw_seq (xw_region ?_)
      refine xq rfl trivial (o_as rfl) ?_
      refine xo_nil (xq_then (xw_seq ?_))
      refine xd_start (by kernel_rfl) (by kernel_rfl) (fun hok => ?_)
      refine xd_b hok 0 [(1, _)] ((b3, BK 1 (fun _ => vs2) 24) :: ([])) (rsC (List.Mem.tail _ (List.mem_append_right _ (List.Mem.head _))) rsN) rfl rfl rfl (lc rfl ln) (by kernel_rfl) trivial (fun H' hy hK => o_ldV rfl ts24 (hy _ (List.Mem.head _))) ?_
      refine xd_b hok 1 [(0, _)] ([]) rsN rfl rfl rfl (lc rfl ln) (by kernel_rfl) trivial (fun H' hy hK => o_mv rfl) ?_
      refine xd_b hok 2 [(2, _)] ((b1, BK 1 (fun _ => v0) 22) :: ([])) (rsC (List.Mem.tail _ (List.mem_append_right _ (List.Mem.tail _ (List.mem_append_right _ (List.Mem.head _))))) rsN) rfl rfl rfl (lc rfl ln) (by kernel_rfl) trivial (fun H' hy hK => o_ldV rfl ts22 (hy _ (List.Mem.head _))) ?_
      refine xd_b hok 4 [(0, _)] ([]) rsN rfl rfl rfl (lc rfl ln) (by kernel_rfl) trivial (fun H' hy hK => o_mv rfl) ?_
      obtain ⟨ho5, h⟩ := h
      refine xd_step hok 3 [(7, _)] rfl rfl (by kernel_rfl) (lc rfl ln) (by kernel_rfl) trivial (OT.st (fun _ h => h) (ot_callF (Cs := []) (Rs := [[(b7, _)], B5_1, [(b3, _)], Bs2, [(b1, _)]]) kf17 rfl (fun w1 hw1 => Con.cat1 ((fun (hw1 : St w ((b7, BK 4 (iv (l0[x13.toNat]!)) 37) :: (B5_1 ++ ((b3, BK 1 (fun _ => vs2) 24) :: (Bs2 ++ ((b1, BK 1 (fun _ => v0) 22) :: ([])))))) w1) => wby_c _ _ w1 (hs0.keep hw1 (Fr.cons hb7 (Fr.seg hcB5_1 (Fr.cons hb3 (Fr.seg hcBs2 (Fr.cons hb1 Fr.nil)))))) ho5) hw1)) (by exact fun _ _ _ h => h.1))) ?_
      rintro vs6 _ ⟨w1, _, rfl, hle, -, _, Bs6, rfl, rfl, hJs6, hcBs6⟩
      replace hcBs6 := Cov.base (w0 := w) hcBs6 hle
      refine xd_sh2 (H' := Bs6 ++ ((b7, BK 4 (iv (l0[x13.toNat]!)) 37) :: (B5_1 ++ ((b3, BK 1 (fun _ => vs2) 24) :: (Bs2 ++ ((b1, BK 1 (fun _ => v0) 22) :: ([]))))))) rfl ?_
      refine ⟨(rsA rsN (rsA (rsC (List.mem_append_right _ (List.Mem.tail _ (List.mem_append_right _ (List.Mem.tail _ (List.mem_append_right _ (List.Mem.head _)))))) rsN) (rsA rsN (rsA (rsC (List.mem_append_right _ (List.Mem.tail _ (List.mem_append_right _ (List.Mem.head _)))) rsN) rsN)))), (Ks.segN hcBs6 (Ks.consK (by simp) (Ks.segK (fun k hk => by simp [hk]) (Ks.consK (by simp) (Ks.segK (fun k hk => by simp [hk]) (Ks.consK (by simp) Ks.nil)))))), ?_⟩
      refine xd_b hok 5 [(8, _), (9, _)] (Bs6 ++ ([])) (rsA (Pull.sub (.here _ _)) rsN) rfl rfl rfl (lc rfl (lc rfl ln)) (by kernel_rfl) trivial (fun H' hy hK => o_lk (z := 0) (k := (l0[x13.toNat]!) 0) kt3 Try.underlying45 ze3 rfl rfl hJs6 (fun x hx => hy x (Pull.sub (.here _ _) x hx))) ?_
      refine xd_b hok 6 [(6, _), (10, _)] ([]) rsN rfl rfl rfl (lc rfl (lc rfl ln)) (by kernel_rfl) trivial (fun H' hy hK => o_build fk29 ze29 (.int fl29_0 rfl rfl (.int fl29_1 rfl rfl (.nil _)))) ?_
      obtain ⟨ho7, h⟩ := h
      refine xd_b hok 7 [(5, _), (11, _)] (Bs2 ++ ([])) (rsA (Pull.sub (.there _ (.thereC _ (.there _ (.thereC _ (.here _ _)))))) rsN) rfl rfl rfl (lc rfl (lc rfl ln)) (by kernel_rfl) trivial (fun H' hy hK => o_callq kf22 rfl (fun w1 hw1 => hasW_c _ _ _ w1 (hJs2.sl hw1 (fun x hx => hy x (Pull.sub (.here _ _) x hx))) ho7)) ?_
      refine xd_b hok 8 [(12, _)] ([]) rsN rfl rfl rfl (lc rfl ln) (by kernel_rfl) trivial (fun H' hy hK => o_as rfl) ?_
      refine xd_end hok (by kernel_rfl) ?_
      refine xq_then (xw_ret ?_)
      refine con_ret1 (.inl rfl) Try.results21 rfl _ (fun _ h => h) (?_)
      refine xq rfl trivial (o_not rfl) ?_
      refine xq rfl trivial (o_mv rfl) ?_
      refine xo_bool 22 rfl (fun hg8 => ?_) (fun hg8 => ?_)
      · have hq8 : ((hasW_F (wof_F l0) (updI (updI (fun _ => 0) 0 ((l0[x13.toNat]!) 0)) 1 (mget ieq (wby_F l0) ((l0[x13.toNat]!) 0) 0)))) = false := (bnT hg8)
        have hp8 : ¬ (((hasW_F (wof_F l0) (updI (updI (fun _ => 0) 0 ((l0[x13.toNat]!) 0)) 1 (mget ieq (wby_F l0) ((l0[x13.toNat]!) 0) 0)))) = true) := bne' hq8
        rw [if_neg hp8] at h
        refine xq rfl ⟨_, rfl, rfl⟩ (o_mv rfl) ?_
        first | refine xq rfl ⟨_, rfl, rfl⟩ (o_fa0 fl37_2 rfl) ?_ | refine xq rfl ⟨_, rfl, rfl⟩ (o_fa fl37_2 rfl) ?_
        refine xq rfl ⟨_, rfl, rfl⟩ (o_ldI (v := (l0[x13.toNat]!) 2) rfl ts3 (List.mem_append_right _ (List.Mem.head _)) (by omega) rfl) ?_
        refine xoR rfl ⟨_, rfl, rfl⟩ (ot_inv (l := [(0, _), (1, _), (2, _)]) rfl kf21 rfl Try.func21 rfl Try.ntmps21 rfl (lac rfl (lac rfl (lac rfl lan))) ?_)
        refine xw_seq (xw_region ?_)
        refine xq rfl trivial (o_as rfl) ?_
        refine xo_nil (xq_then (xw_seq ?_))
        refine xd_start (by kernel_rfl) (by kernel_rfl) (fun hok => ?_)
        refine xd_b hok 0 [(1, _)] ((b3, BK 1 (fun _ => vs2) 24) :: ([])) (rsC (List.mem_append_right _ (List.Mem.tail _ (List.mem_append_right _ (List.Mem.head _)))) rsN) rfl rfl rfl (lc rfl ln) (by kernel_rfl) trivial (fun H' hy hK => o_ldV rfl ts24 (hy _ (List.Mem.head _))) ?_
        refine xd_b hok 1 [(0, _)] ([]) rsN rfl rfl rfl (lc rfl ln) (by kernel_rfl) trivial (fun H' hy hK => o_mv rfl) ?_
        refine xd_b hok 2 [(2, _)] ((b1, BK 1 (fun _ => v0) 22) :: ([])) (rsC (List.mem_append_right _ (List.Mem.tail _ (List.mem_append_right _ (List.Mem.tail _ (List.mem_append_right _ (List.Mem.head _)))))) rsN) rfl rfl rfl (lc rfl ln) (by kernel_rfl) trivial (fun H' hy hK => o_ldV rfl ts22 (hy _ (List.Mem.head _))) ?_
        refine xd_b hok 4 [(0, _)] ([]) rsN rfl rfl rfl (lc rfl ln) (by kernel_rfl) trivial (fun H' hy hK => o_mv rfl) ?_
        obtain ⟨ho9, h⟩ := h
        refine xd_step hok 3 [(7, _)] rfl rfl (by kernel_rfl) (lc rfl ln) (by kernel_rfl) trivial (OT.st (fun _ h => h) (ot_callF (Cs := []) (Rs := [Bs6, [(b7, _)], B5_1, [(b3, _)], Bs2, [(b1, _)]]) kf17 rfl (fun w1 hw1 => Con.cat1 ((fun (hw1 : St w (Bs6 ++ ((b7, BK 4 (iv (l0[x13.toNat]!)) 37) :: (B5_1 ++ ((b3, BK 1 (fun _ => vs2) 24) :: (Bs2 ++ ((b1, BK 1 (fun _ => v0) 22) :: ([]))))))) w1) => wby_c _ _ w1 (hs0.keep hw1 (Fr.seg hcBs6 (Fr.cons hb7 (Fr.seg hcB5_1 (Fr.cons hb3 (Fr.seg hcBs2 (Fr.cons hb1 Fr.nil))))))) ho9) hw1)) (by exact fun _ _ _ h => h.1))) ?_
        rintro vs10 _ ⟨w1, _, rfl, hle, -, _, Bs10, rfl, rfl, hJs10, hcBs10⟩
        replace hcBs10 := Cov.base (w0 := w) hcBs10 hle
        refine xd_sh2 (H' := Bs10 ++ (Bs6 ++ ((b7, BK 4 (iv (l0[x13.toNat]!)) 37) :: (B5_1 ++ ((b3, BK 1 (fun _ => vs2) 24) :: (Bs2 ++ ((b1, BK 1 (fun _ => v0) 22) :: ([])))))))) rfl ?_
        refine ⟨(rsA rsN (rsA (rsC (List.mem_append_right _ (List.mem_append_right _ (List.Mem.tail _ (List.mem_append_right _ (List.Mem.tail _ (List.mem_append_right _ (List.Mem.head _))))))) rsN) (rsA rsN (rsA (rsC (List.mem_append_right _ (List.mem_append_right _ (List.Mem.tail _ (List.mem_append_right _ (List.Mem.head _))))) rsN) rsN)))), (Ks.segN hcBs10 (Ks.segK (fun k hk => by simp [hk]) (Ks.consK (by simp) (Ks.segK (fun k hk => by simp [hk]) (Ks.consK (by simp) (Ks.segK (fun k hk => by simp [hk]) (Ks.consK (by simp) Ks.nil))))))), ?_⟩
        refine xd_b hok 5 [(8, _), (9, _)] (Bs10 ++ ([])) (rsA (Pull.sub (.here _ _)) rsN) rfl rfl rfl (lc rfl (lc rfl ln)) (by kernel_rfl) trivial (fun H' hy hK => o_lk (z := 0) (k := (l0[x13.toNat]!) 2) kt3 Try.underlying45 ze3 rfl rfl hJs10 (fun x hx => hy x (Pull.sub (.here _ _) x hx))) ?_
        refine xd_b hok 6 [(6, _), (10, _)] ([]) rsN rfl rfl rfl (lc rfl (lc rfl ln)) (by kernel_rfl) trivial (fun H' hy hK => o_build fk29 ze29 (.int fl29_0 rfl rfl (.int fl29_1 rfl rfl (.nil _)))) ?_
        obtain ⟨ho11, h⟩ := h
        refine xd_b hok 7 [(5, _), (11, _)] (Bs2 ++ ([])) (rsA (Pull.sub (.there _ (.there _ (.thereC _ (.there _ (.thereC _ (.here _ _))))))) rsN) rfl rfl rfl (lc rfl (lc rfl ln)) (by kernel_rfl) trivial (fun H' hy hK => o_callq kf22 rfl (fun w1 hw1 => hasW_c _ _ _ w1 (hJs2.sl hw1 (fun x hx => hy x (Pull.sub (.here _ _) x hx))) ho11)) ?_
        refine xd_b hok 8 [(12, _)] ([]) rsN rfl rfl rfl (lc rfl ln) (by kernel_rfl) trivial (fun H' hy hK => o_as rfl) ?_
        refine xd_end hok (by kernel_rfl) ?_
        refine xq_then (xw_ret ?_)
        refine con_ret1 (.inl rfl) Try.results21 rfl _ (fun _ h => h) (?_)
        refine xq rfl ⟨_, rfl, rfl⟩ (o_not rfl) ?_
        refine xq rfl trivial (o_pick_t rfl rfl) ?_
        refine xo_nil (xq_then ?_)
        refine xw_bool 28 rfl (fun hc12 => ?_) (fun hc12 => ?_)
        · have hq12 : ((hasW_F (wof_F l0) (updI (updI (fun _ => 0) 0 ((l0[x13.toNat]!) 2)) 1 (mget ieq (wby_F l0) ((l0[x13.toNat]!) 2) 0)))) = false := (bnT hc12)
          have hp12 : ¬ (((hasW_F (wof_F l0) (updI (updI (fun _ => 0) 0 ((l0[x13.toNat]!) 2)) 1 (mget ieq (wby_F l0) ((l0[x13.toNat]!) 2) 0)))) = true) := bne' hq12
          rw [if_neg hp12] at h
          refine xw_cond_t rfl rfl (xw_region ?_)
          refine xq rfl trivial (o_mv rfl) ?_
          refine xq rfl trivial (o_ldW rfl ts37 (List.mem_append_right _ (List.mem_append_right _ (List.Mem.head _)))) ?_
          refine xo rfl trivial (o_bsl el22 ze37 rfl rfl rfl (.ints rfl rfl (.nil _))) ?_
          rintro _ _ ⟨b31, hb31, rfl, rfl⟩
          obtain ⟨ho14, h⟩ := h
          refine xo rfl trivial (OT.st (fun _ h => Pull.st (.thereC _ (.there _ (.there _ (.thereC _ (.here _ _))))) h) (o_appJ (l := out5) (l' := [(l0[x13.toNat]!)]) (B := B5_1) ap22 rfl rfl hJ5_1 (fun w2 hw2 => (SL.lit (l := [(l0[x13.toNat]!)]) hw2 (List.mem_append_right _ (List.Mem.head _)) rfl (by omega) (by simp [maxLen]) (by exact (fun i hi => match i, hi with | 0, _ => rfl | 1, _ => rfl | 2, _ => rfl | 3, _ => rfl | q + 4, h => absurd h (by omega))))) (fun _ _ => rfl) ho14 (len_max ho14 (by decide)))) ?_
          rintro vs13 _ ⟨Bs13, rfl, hns13, hJs13⟩
          have hcBs13 := Cov.trans hcB5_1 hns13
          refine xo_st ((b31, BK 4 _ 37) :: (Bs10 ++ (Bs6 ++ ((b7, BK 4 (iv (l0[x13.toNat]!)) 37) :: (Bs13 ++ ((b3, BK 1 (fun _ => vs2) 24) :: (Bs2 ++ ((b1, BK 1 (fun _ => v0) 22) :: ([]))))))))) (fun _ h => Pull.push (.thereC _ (.there _ (.there _ (.thereC _ (.here _ _))))) h) ?_
          refine xq rfl trivial (o_as rfl) ?_
          refine xo_nil ?_
          refine xq_blk 1 ?_
          refine xq_then (xw_region ?_)
          obtain ⟨ho15, h⟩ := h
          refine xq rfl trivial (o_add rfl rfl rfl ho15) ?_
          refine xq rfl trivial (o_mv rfl) ?_
          refine xo_nil ?_
          exact xq_next (s' := (((out5 ++ [(l0[x13.toNat]!)]), x13 + 1) : (List (Nat → Int)) × Int)) (e' := [(4, .func (.func 21) [].toArray [.pointer (some ⟨b3, 0, none⟩), .pointer (some ⟨b1, 0, none⟩)].toArray), (5, vs13), (11, v0), (12, .int .i64 (l0.length : Int)), (13, .int .i64 (x13 + 1))]) (Bs13 ++ ((b3, BK 1 (fun _ => vs2) 24) :: (Bs2 ++ ((b1, BK 1 (fun _ => v0) 22) :: ([]))))) (lc rfl (lc rfl (lc rfl (lc rfl (lc rfl ln))))) (Kp.st (Kp.new hb31 (Kp.segNew (Cov.fresh hcBs10) (Kp.segNew (Cov.fresh hcBs6) (Kp.new hb7 (Kp.segKeep (Kp.keep (Kp.segKeep (Kp.keep Kp.nil))))))))) h ⟨vs13, Bs13, rfl, rfl, hJs13, hcBs13⟩
        · have hq12 : ((hasW_F (wof_F l0) (updI (updI (fun _ => 0) 0 ((l0[x13.toNat]!) 2)) 1 (mget ieq (wby_F l0) ((l0[x13.toNat]!) 2) 0)))) = true := (bnF hc12)
          have hp12 : ((hasW_F (wof_F l0) (updI (updI (fun _ => 0) 0 ((l0[x13.toNat]!) 2)) 1 (mget ieq (wby_F l0) ((l0[x13.toNat]!) 2) 0)))) = true := hq12
          rw [if_pos hp12] at h
          refine xw_cond_f rfl rfl (xw_skip ?_)
          refine xq_blk 1 ?_
          refine xq_then (xw_region ?_)
          obtain ⟨ho16, h⟩ := h
          refine xq rfl trivial (o_add rfl rfl rfl ho16) ?_
          refine xq rfl trivial (o_mv rfl) ?_
          refine xo_nil ?_
          exact xq_next (s' := ((out5, x13 + 1) : (List (Nat → Int)) × Int)) (e' := [(4, .func (.func 21) [].toArray [.pointer (some ⟨b3, 0, none⟩), .pointer (some ⟨b1, 0, none⟩)].toArray), (5, v5_1), (11, v0), (12, .int .i64 (l0.length : Int)), (13, .int .i64 (x13 + 1))]) (B5_1 ++ ((b3, BK 1 (fun _ => vs2) 24) :: (Bs2 ++ ((b1, BK 1 (fun _ => v0) 22) :: ([]))))) (lc rfl (lc rfl (lc rfl (lc rfl (lc rfl ln))))) (Kp.st (Kp.segNew (Cov.fresh hcBs10) (Kp.segNew (Cov.fresh hcBs6) (Kp.new hb7 (Kp.segKeep (Kp.keep (Kp.segKeep (Kp.keep Kp.nil)))))))) h ⟨v5_1, B5_1, rfl, rfl, hJ5_1, hcB5_1⟩
      · have hq8 : ((hasW_F (wof_F l0) (updI (updI (fun _ => 0) 0 ((l0[x13.toNat]!) 0)) 1 (mget ieq (wby_F l0) ((l0[x13.toNat]!) 0) 0)))) = true := (bnF hg8)
        have hp8 : ((hasW_F (wof_F l0) (updI (updI (fun _ => 0) 0 ((l0[x13.toNat]!) 0)) 1 (mget ieq (wby_F l0) ((l0[x13.toNat]!) 0) 0)))) = true := hq8
        rw [if_pos hp8] at h
        refine xs rfl ⟨_, _, rfl, rfl, rfl⟩ (xs rfl ⟨_, _, rfl, rfl, rfl⟩ (xs rfl ⟨_, _, rfl, rfl, rfl⟩ (xs rfl ⟨_, _, rfl, rfl, rfl⟩ (xs rfl ⟨_, _, rfl, rfl, rfl⟩ ?_))))
        refine xq rfl trivial (o_pick_f rfl rfl) ?_
        refine xo_nil (xq_then (xw_cond_f rfl rfl (xw_skip ?_)))
        refine xq_blk 1 ?_
        refine xq_then (xw_region ?_)
        obtain ⟨ho17, h⟩ := h
        refine xq rfl trivial (o_add rfl rfl rfl ho17) ?_
        refine xq rfl trivial (o_mv rfl) ?_
        refine xo_nil ?_
        exact xq_next (s' := ((out5, x13 + 1) : (List (Nat → Int)) × Int)) (e' := [(4, .func (.func 21) [].toArray [.pointer (some ⟨b3, 0, none⟩), .pointer (some ⟨b1, 0, none⟩)].toArray), (5, v5_1), (11, v0), (12, .int .i64 (l0.length : Int)), (13, .int .i64 (x13 + 1))]) (B5_1 ++ ((b3, BK 1 (fun _ => vs2) 24) :: (Bs2 ++ ((b1, BK 1 (fun _ => v0) 22) :: ([]))))) (lc rfl (lc rfl (lc rfl (lc rfl (lc rfl ln))))) (Kp.st (Kp.segNew (Cov.fresh hcBs6) (Kp.new hb7 (Kp.segKeep (Kp.keep (Kp.segKeep (Kp.keep Kp.nil))))))) h ⟨v5_1, B5_1, rfl, rfl, hJ5_1, hcB5_1⟩
    · have hq3 : (decide (x13 < (l0.length : Int))) = false := hc3
      have hp3 : ¬ (x13 < (l0.length : Int)) := of_decide_eq_false hq3
      rw [if_neg hp3] at h
      refine xw_cond_f rfl rfl (xw_exit (xq_then_exit ?_))
      exact xq_out (r := (out5 : (List (Nat → Int)))) (e' := [(5, v5_1)]) (B5_1 ++ ((b3, BK 1 (fun _ => vs2) 24) :: (Bs2 ++ ((b1, BK 1 (fun _ => v0) 22) :: ([]))))) (lc rfl ln) (fun _ h => h) h (by intro hh; cases hh) ⟨v5_1, B5_1, rfl, rfl, rfl, hJ5_1, hcB5_1⟩
  · rintro _ _ _ ⟨v5_1o, B5_1o, rfl, rfl, rfl, hJ5_1o, hcB5_1o⟩
    replace h : wrest_k1a out5 r := h
    unfold wrest_k1a at h
    refine xq_blk_eq ?_
    refine xq_then (xw_seq (xw_region ?_))
    refine xq rfl trivial (o_mv rfl) ?_
    refine xq rfl trivial (o_as rfl) ?_
    refine xo_nil (xq_then (xw_ret ?_))
    subst h
    exact con_ret1 (.inl rfl) Try.results11 rfl (B5_1o ++ []) (Kp.st (Kp.segKeep (Kp.new hb3 (Kp.segNew (Cov.fresh hcBs2) (Kp.new hb1 Kp.nil))))) (⟨_, B5_1o, rfl, rfl, hJ5_1o, hcB5_1o⟩)

theorem nodesR_c (l0 : (List (Nat → Int))) (v0 : Value) (w : World) (hs0 : SL w 4 iv v0 l0) (hP : nodesR_P l0) : Con Try.prog 15 #[v0] w (fun v F => ∃ (u0 : Value) (C0 : GH), v = u0 ∧ F = (C0 ++ []) ∧ OJ 3 1 ic C0 u0 (nodesR_F l0) ∧ Cov w [] C0) :=
  nodesR_con l0 v0 w hs0 _ (nodesR_ok l0 hP)

theorem ofR_con (l0 : (List (Nat → Int))) (v0 : Value) (w : World) (hs0 : SL w 4 iv v0 l0) (r : (List (Nat → Int))) (h : ofR_S l0 r) : Con Try.prog 9 #[v0] w (fun v F => ∃ (u0 : Value) (C0 : GH), v = u0 ∧ F = (C0 ++ []) ∧ OJ 30 2 iv C0 u0 r ∧ Cov w [] C0) := by
  unfold ofR_S at h
  refine con_enter (n := 36) [(0, _)] Try.func9 rfl Try.ntmps9 rfl (lac rfl lan) ?_
  refine xw_seq (xw_region ?_)
  refine xq rfl trivial (o_as rfl) ?_
  refine xo_nil (xq_then (xw_seq (xw_region ?_)))
  refine xq rfl trivial (o_mv rfl) ?_
  obtain ⟨ho1, h⟩ := h
  refine xcall rfl trivial kf15 rfl (fun w1 hw1 => nodesR_c _ _ w1 (hs0.keep hw1 Fr.nil) ho1) ?_
  rintro w1 vs2 _ hw1 ⟨_, Bs2, rfl, rfl, hJs2, hcBs2⟩
  refine ⟨_, Mg.news (Cov.fresh hcBs2) (.nil _), ?_⟩
  replace hcBs2 := Cov.base (w0 := w) hcBs2 hw1.size
  refine xq rfl trivial (o_as rfl) ?_
  refine xo_nil (xq_then (xw_seq (xw_region ?_)))
  refine xq rfl trivial (o_as rfl) ?_
  refine xo_nil (xq_then (xw_seq (xw_seq (xw_region ?_))))
  refine xq rfl trivial (o_as rfl) ?_
  refine xo_nil (xq_then ?_)
  refine xw_block ?_
  obtain ⟨out4, hx1, h⟩ := h
  refine xw_wh (fun s e H => match s with | (out4, i5) => ∃ (v4_1 : Value) (B4_1 : GH), e = [(0, v0), (3, vs2), (4, v4_1), (5, .int .i64 i5)] ∧ H = B4_1 ++ (Bs2 ++ ([])) ∧ OJ 30 2 iv B4_1 v4_1 out4 ∧ Cov w [] B4_1) (fun (out4 : (List (Nat → Int))) ex e H => ∃ (v4_1o : Value) (B4_1o : GH), ex = .exit 0 ∧ e = [(4, v4_1o)] ∧ H = B4_1o ++ (Bs2 ++ ([])) ∧ OJ 30 2 iv B4_1o v4_1o out4 ∧ Cov w [] B4_1o) hx1 ⟨[(0, v0), (3, vs2), (4, .slice none 0 0), (5, .int .i64 0)], [] ++ (Bs2 ++ ([])), (lc rfl (lc rfl (lc rfl (lc rfl ln)))), fun _ h => h, ⟨_, [], rfl, rfl, OJ.nil, (Cov.refl _)⟩⟩ ?_ ?_
  · rintro ⟨out4, i5⟩ o _ _ ⟨v4_1, B4_1, rfl, rfl, hJ4_1, hcB4_1⟩ hb
    have h : ofR_l1 l0 out4 i5 o := hb
    clear hb
    unfold ofR_l1 at h
    refine xw_seq (xw_seq (xw_region ?_))
    refine xq rfl trivial (o_mv rfl) ?_
    refine xq rfl trivial (o_mv rfl) ?_
    refine xq rfl trivial (o_lenL rfl Try.underlying38 rfl (OJ.val hJs2)) ?_
    refine xq rfl trivial (o_lss rfl rfl) ?_
    refine xo_nil (xq_then ?_)
    refine xw_bool 13 rfl (fun hc3 => ?_) (fun hc3 => ?_)
    · have hq3 : (decide (i5 < ((nodesR_F l0).length : Int))) = true := hc3
      have hp3 : i5 < ((nodesR_F l0).length : Int) := of_decide_eq_true hq3
      rw [if_pos hp3] at h
      refine xw_cond_t rfl rfl (xw_skip (xq_then (xw_seq ?_)))
      refine xw_block ?_
      refine xw_seq (xw_region ?_)
      refine xq rfl trivial (o_mv rfl) ?_
      refine xq rfl trivial (o_mv rfl) ?_
      refine xq rfl trivial (o_mv rfl) ?_
      obtain ⟨ho4, h⟩ := h
      refine xq rfl trivial (o_ixL el38 rfl rfl (fun w hw => (hJs2.sl hw (Pull.sub (.there _ (.here _ _))))) rfl ho4) ?_
      refine xq rfl trivial (o_ldL1 (off := 0) (u := .int .i64 ((nodesR_F l0)[i5.toNat]!)) rfl ts3 rfl (fun w hw => (hJs2.sl hw (Pull.sub (.there _ (.here _ _))))) (toNat_lt ho4) rfl rfl) ?_
      obtain ⟨ho5, h⟩ := h
      refine xcallq rfl trivial kf20 rfl (fun w1 hw1 => byR_c _ _ _ w1 (hs0.keep hw1 (Fr.seg hcB4_1 (Fr.seg hcBs2 Fr.nil))) ho5) ?_
      refine xq rfl trivial (o_mv rfl) ?_
      refine xq rfl trivial (o_ext rfl rfl) ?_
      refine xq rfl trivial (o_ext rfl rfl) ?_
      refine xq rfl trivial (o_as rfl) ?_
      refine xq rfl trivial (o_as rfl) ?_
      refine xo_nil (xq_then (xw_seq (xw_region ?_)))
      refine xq rfl trivial (o_mv rfl) ?_
      refine xo_nil (xq_then ?_)
      refine xw_bool 25 rfl (fun hc6 => ?_) (fun hc6 => ?_)
      · have hq6 : ((byR_F l0 ((nodesR_F l0)[i5.toNat]!)).2) = true := hc6
        have hp6 : ((byR_F l0 ((nodesR_F l0)[i5.toNat]!)).2) = true := hq6
        rw [if_pos hp6] at h
        refine xw_cond_t rfl rfl (xw_region ?_)
        refine xq rfl trivial (o_mv rfl) ?_
        refine xq rfl trivial (o_mv rfl) ?_
        refine xq rfl trivial (o_mv rfl) ?_
        obtain ⟨ho7, h⟩ := h
        refine xq rfl trivial (o_ixL el38 rfl rfl (fun w hw => (hJs2.sl hw (Pull.sub (.there _ (.here _ _))))) rfl ho7) ?_
        refine xq rfl trivial (o_ldL1 (off := 0) (u := .int .i64 ((nodesR_F l0)[i5.toNat]!)) rfl ts3 rfl (fun w hw => (hJs2.sl hw (Pull.sub (.there _ (.here _ _))))) (toNat_lt ho7) rfl rfl) ?_
        refine xq rfl trivial (o_mv rfl) ?_
        refine xq rfl trivial (o_bldP ea30 ze30 (.int rfl rfl (.int rfl rfl (.nil _)))) ?_
        refine xo rfl trivial (o_bsl el26 ze30 rfl rfl rfl (.ints rfl rfl (.nil _))) ?_
        rintro _ _ ⟨b33, hb33, rfl, rfl⟩
        obtain ⟨ho9, h⟩ := h
        refine xo rfl trivial (OT.st (fun _ h => Pull.st (.thereC _ (.here _ _)) h) (o_appJ (l := out4) (l' := [(updI (updI (fun _ => 0) 0 ((nodesR_F l0)[i5.toNat]!)) 1 ((byR_F l0 ((nodesR_F l0)[i5.toNat]!)).1))]) (B := B4_1) ap26 rfl rfl hJ4_1 (fun w2 hw2 => (SL.lit (l := [(updI (updI (fun _ => 0) 0 ((nodesR_F l0)[i5.toNat]!)) 1 ((byR_F l0 ((nodesR_F l0)[i5.toNat]!)).1))]) hw2 (List.mem_append_right _ (List.Mem.head _)) rfl (by omega) (by simp [maxLen]) (by exact (fun i hi => match i, hi with | 0, _ => rfl | 1, _ => rfl | q + 2, h => absurd h (by omega))))) (fun _ _ => rfl) ho9 (len_max ho9 (by decide)))) ?_
        rintro vs8 _ ⟨Bs8, rfl, hns8, hJs8⟩
        have hcBs8 := Cov.trans hcB4_1 hns8
        refine xo_st ((b33, BK 2 _ 30) :: (Bs8 ++ (Bs2 ++ ([])))) (fun _ h => Pull.push (.thereC _ (.here _ _)) h) ?_
        refine xq rfl trivial (o_as rfl) ?_
        refine xo_nil ?_
        refine xq_blk 1 ?_
        refine xq_then (xw_region ?_)
        refine xq rfl trivial (o_mv rfl) ?_
        obtain ⟨ho10, h⟩ := h
        refine xq rfl trivial (o_add rfl rfl rfl ho10) ?_
        refine xq rfl trivial (o_as rfl) ?_
        refine xo_nil ?_
        exact xq_next (s' := (((out4 ++ [(updI (updI (fun _ => 0) 0 ((nodesR_F l0)[i5.toNat]!)) 1 ((byR_F l0 ((nodesR_F l0)[i5.toNat]!)).1))]), i5 + 1) : (List (Nat → Int)) × Int)) (e' := [(0, v0), (3, vs2), (4, vs8), (5, .int .i64 (i5 + 1))]) (Bs8 ++ (Bs2 ++ ([]))) (lc rfl (lc rfl (lc rfl (lc rfl ln)))) (Kp.st (Kp.new hb33 (Kp.segKeep (Kp.segKeep Kp.nil)))) h ⟨vs8, Bs8, rfl, rfl, hJs8, hcBs8⟩
      · have hq6 : ((byR_F l0 ((nodesR_F l0)[i5.toNat]!)).2) = false := hc6
        have hp6 : ¬ (((byR_F l0 ((nodesR_F l0)[i5.toNat]!)).2) = true) := bne' hq6
        rw [if_neg hp6] at h
        refine xw_cond_f rfl rfl (xw_skip ?_)
        refine xq_blk 1 ?_
        refine xq_then (xw_region ?_)
        refine xq rfl trivial (o_mv rfl) ?_
        obtain ⟨ho11, h⟩ := h
        refine xq rfl trivial (o_add rfl rfl rfl ho11) ?_
        refine xq rfl trivial (o_as rfl) ?_
        refine xo_nil ?_
        exact xq_next (s' := ((out4, i5 + 1) : (List (Nat → Int)) × Int)) (e' := [(0, v0), (3, vs2), (4, v4_1), (5, .int .i64 (i5 + 1))]) (B4_1 ++ (Bs2 ++ ([]))) (lc rfl (lc rfl (lc rfl (lc rfl ln)))) (fun _ h => h) h ⟨v4_1, B4_1, rfl, rfl, hJ4_1, hcB4_1⟩
    · have hq3 : (decide (i5 < ((nodesR_F l0).length : Int))) = false := hc3
      have hp3 : ¬ (i5 < ((nodesR_F l0).length : Int)) := of_decide_eq_false hq3
      rw [if_neg hp3] at h
      refine xw_cond_f rfl rfl (xw_exit (xq_then_exit ?_))
      exact xq_out (r := (out4 : (List (Nat → Int)))) (e' := [(4, v4_1)]) (B4_1 ++ (Bs2 ++ ([]))) (lc rfl ln) (fun _ h => h) h (by intro hh; cases hh) ⟨v4_1, B4_1, rfl, rfl, rfl, hJ4_1, hcB4_1⟩
  · rintro _ _ _ ⟨v4_1o, B4_1o, rfl, rfl, rfl, hJ4_1o, hcB4_1o⟩
    replace h : ofR_k1a out4 r := h
    unfold ofR_k1a at h
    refine xq_blk_eq ?_
    refine xq_then (xw_seq (xw_region ?_))
    refine xq rfl trivial (o_mv rfl) ?_
    refine xq rfl trivial (o_as rfl) ?_
    refine xo_nil (xq_then (xw_ret ?_))
    subst h
    exact con_ret1 (.inl rfl) Try.results9 rfl (B4_1o ++ []) (Kp.st (Kp.segKeep (Kp.segNew (Cov.fresh hcBs2) Kp.nil))) (⟨_, B4_1o, rfl, rfl, hJ4_1o, hcB4_1o⟩)

theorem restR_con (l0 : (List (Nat → Int))) (v0 : Value) (w : World) (hs0 : SL w 4 iv v0 l0) (r : (List (Nat → Int))) (h : restR_S l0 r) : Con Try.prog 12 #[v0] w (fun v F => ∃ (u0 : Value) (C0 : GH), v = u0 ∧ F = (C0 ++ []) ∧ OJ 37 4 iv C0 u0 r ∧ Cov w [] C0) := by
  unfold restR_S at h
  refine con_enter (n := 49) [(0, _)] Try.func12 rfl Try.ntmps12 rfl (lac rfl lan) ?_
  refine xw_seq (xw_region ?_)
  refine xq rfl trivial (o_as rfl) ?_
  refine xo_nil (xq_then (xw_seq (xw_region ?_)))
  refine xq rfl trivial (o_as rfl) ?_
  refine xo_nil (xq_then (xw_seq (xw_seq (xw_region ?_))))
  refine xq rfl trivial (o_as rfl) ?_
  refine xo_nil (xq_then ?_)
  refine xw_block ?_
  obtain ⟨out3, hx1, h⟩ := h
  refine xw_wh (fun s e H => match s with | (out3, i4) => ∃ (v3_1 : Value) (B3_1 : GH), e = [(0, v0), (3, v3_1), (4, .int .i64 i4)] ∧ H = B3_1 ++ ([]) ∧ OJ 37 4 iv B3_1 v3_1 out3 ∧ Cov w [] B3_1) (fun (out3 : (List (Nat → Int))) ex e H => ∃ (v3_1o : Value) (B3_1o : GH), ex = .exit 0 ∧ e = [(3, v3_1o)] ∧ H = B3_1o ++ ([]) ∧ OJ 37 4 iv B3_1o v3_1o out3 ∧ Cov w [] B3_1o) hx1 ⟨[(0, v0), (3, .slice none 0 0), (4, .int .i64 0)], [] ++ ([]), (lc rfl (lc rfl (lc rfl ln))), fun _ h => h, ⟨_, [], rfl, rfl, OJ.nil, (Cov.refl _)⟩⟩ ?_ ?_
  · rintro ⟨out3, i4⟩ o _ _ ⟨v3_1, B3_1, rfl, rfl, hJ3_1, hcB3_1⟩ hb
    have h : restR_l1 l0 out3 i4 o := hb
    clear hb
    unfold restR_l1 at h
    refine xw_seq (xw_seq (xw_region ?_))
    refine xq rfl trivial (o_mv rfl) ?_
    refine xq rfl trivial (o_mv rfl) ?_
    refine xq rfl trivial (o_lenL rfl Try.underlying22 rfl (SL.val hs0)) ?_
    refine xq rfl trivial (o_lss rfl rfl) ?_
    refine xo_nil (xq_then ?_)
    refine xw_bool 12 rfl (fun hc1 => ?_) (fun hc1 => ?_)
    · have hq1 : (decide (i4 < (l0.length : Int))) = true := hc1
      have hp1 : i4 < (l0.length : Int) := of_decide_eq_true hq1
      rw [if_pos hp1] at h
      refine xw_cond_t rfl rfl (xw_skip (xq_then (xw_seq ?_)))
      refine xw_block ?_
      refine xw_seq (xw_region ?_)
      refine xq rfl trivial (o_mv rfl) ?_
      refine xq rfl trivial (o_mv rfl) ?_
      refine xq rfl trivial (o_mv rfl) ?_
      obtain ⟨ho2, h⟩ := h
      refine xq rfl trivial (o_ixL el22 rfl rfl (fun w hw => (hs0.keep hw (Fr.seg hcB3_1 Fr.nil))) rfl ho2) ?_
      refine xq rfl trivial (o_faL fl37_0 rfl rfl (fun w hw => (hs0.keep hw (Fr.seg hcB3_1 Fr.nil))) (toNat_lt ho2)) ?_
      refine xq rfl trivial (o_ldL1 (off := 0) (u := .int .i64 (l0[i4.toNat]! 0)) rfl ts3 rfl (fun w hw => (hs0.keep hw (Fr.seg hcB3_1 Fr.nil))) (toNat_lt ho2) rfl rfl) ?_
      obtain ⟨ho3, h⟩ := h
      refine xcallq rfl trivial kf20 rfl (fun w1 hw1 => byR_c _ _ _ w1 (hs0.keep hw1 (Fr.seg hcB3_1 Fr.nil)) ho3) ?_
      refine xq rfl trivial (o_mv rfl) ?_
      refine xq rfl trivial (o_ext rfl rfl) ?_
      refine xq rfl trivial (o_ext rfl rfl) ?_
      refine xq rfl trivial (o_as rfl) ?_
      refine xq rfl trivial (o_as rfl) ?_
      refine xo_nil (xq_then (xw_seq (xw_region ?_)))
      refine xq rfl trivial (o_mv rfl) ?_
      refine xq rfl trivial (o_mv rfl) ?_
      refine xq rfl trivial (o_mv rfl) ?_
      obtain ⟨ho4, h⟩ := h
      refine xq rfl trivial (o_ixL el22 rfl rfl (fun w hw => (hs0.keep hw (Fr.seg hcB3_1 Fr.nil))) rfl ho4) ?_
      refine xq rfl trivial (o_faL fl37_2 rfl rfl (fun w hw => (hs0.keep hw (Fr.seg hcB3_1 Fr.nil))) (toNat_lt ho4)) ?_
      refine xq rfl trivial (o_ldL1 (off := 2) (u := .int .i64 (l0[i4.toNat]! 2)) rfl ts3 rfl (fun w hw => (hs0.keep hw (Fr.seg hcB3_1 Fr.nil))) (toNat_lt ho4) rfl rfl) ?_
      obtain ⟨ho5, h⟩ := h
      refine xcallq rfl trivial kf20 rfl (fun w1 hw1 => byR_c _ _ _ w1 (hs0.keep hw1 (Fr.seg hcB3_1 Fr.nil)) ho5) ?_
      refine xq rfl trivial (o_mv rfl) ?_
      refine xq rfl trivial (o_ext rfl rfl) ?_
      refine xq rfl trivial (o_ext rfl rfl) ?_
      refine xq rfl trivial (o_as rfl) ?_
      refine xq rfl trivial (o_as rfl) ?_
      refine xo_nil (xq_then (xw_seq ?_))
      refine xw_cut [(0, _), (3, _), (4, _)] (lc rfl (lc rfl (lc rfl ln))) [(40, .bool ((!((byR_F l0 (l0[i4.toNat]! 0)).2)) && (!((byR_F l0 (l0[i4.toNat]! 2)).2))))] ?_ ?_
      · refine xw_region ?_
        refine xq rfl trivial (o_mv rfl) ?_
        refine xq rfl trivial (o_not rfl) ?_
        refine xq rfl trivial (o_mv rfl) ?_
        refine xo_bool 37 rfl (fun hg6 => ?_) (fun hg6 => ?_)
        · have hq6 : ((byR_F l0 (l0[i4.toNat]! 0)).2) = false := (bnT hg6)
          have hp6 : ¬ (((byR_F l0 (l0[i4.toNat]! 0)).2) = true) := bne' hq6
          refine xq rfl ⟨_, rfl, rfl⟩ (o_mv rfl) ?_
          refine xq rfl ⟨_, rfl, rfl⟩ (o_not rfl) ?_
          refine xq rfl trivial (o_pick_t rfl rfl) ?_
          refine xo_nil ?_
          exact xq_cut ((lce rfl (by first | rfl | (simp only [hq1, hq6, if_pos hp1, if_neg hp6, bS]; done) | (simp only [hq1, hq6, if_pos hp1, if_neg hp6, bS, reduceIte, Bool.false_eq_true]; done) | (simp [hp1, hp6]; done) | (simp_all; done)) (lc rfl (lc rfl (lc rfl ln))))) (fun _ h => h)
        · have hq6 : ((byR_F l0 (l0[i4.toNat]! 0)).2) = true := (bnF hg6)
          have hp6 : ((byR_F l0 (l0[i4.toNat]! 0)).2) = true := hq6
          refine xs rfl ⟨_, _, rfl, rfl, rfl⟩ (xs rfl ⟨_, _, rfl, rfl, rfl⟩ ?_)
          refine xq rfl trivial (o_pick_f rfl rfl) ?_
          refine xo_nil ?_
          exact xq_cut ((lce rfl (by first | rfl | (simp only [hq1, hq6, if_pos hp1, if_pos hp6, bS]; done) | (simp only [hq1, hq6, if_pos hp1, if_pos hp6, bS, reduceIte, Bool.false_eq_true]; done) | (simp [hp1, hp6]; done) | (simp_all; done)) (lc rfl (lc rfl (lc rfl ln))))) (fun _ h => h)
      · refine xq_then ?_
        refine xw_bool 40 rfl (fun hc7 => ?_) (fun hc7 => ?_)
        · have hq7 : ((!((byR_F l0 (l0[i4.toNat]! 0)).2)) && (!((byR_F l0 (l0[i4.toNat]! 2)).2))) = true := hc7
          have hp7 : ((!((byR_F l0 (l0[i4.toNat]! 0)).2)) && (!((byR_F l0 (l0[i4.toNat]! 2)).2))) = true := hq7
          rw [if_pos hp7] at h
          refine xw_cond_t rfl rfl (xw_region ?_)
          refine xq rfl trivial (o_mv rfl) ?_
          refine xq rfl trivial (o_mv rfl) ?_
          refine xq rfl trivial (o_mv rfl) ?_
          obtain ⟨ho8, h⟩ := h
          refine xq rfl trivial (o_ixL el22 rfl rfl (fun w hw => (hs0.keep hw (Fr.seg hcB3_1 Fr.nil))) rfl ho8) ?_
          refine xq rfl trivial (o_ldLI rfl ts37 rfl (fun w hw => (hs0.keep hw (Fr.seg hcB3_1 Fr.nil))) (toNat_lt ho8) rfl) ?_
          refine xo rfl trivial (o_bsl el22 ze37 rfl rfl rfl (.ints rfl rfl (.nil _))) ?_
          rintro _ _ ⟨b46, hb46, rfl, rfl⟩
          obtain ⟨ho10, h⟩ := h
          refine xo rfl trivial (OT.st (fun _ h => Pull.st (.thereC _ (.here _ _)) h) (o_appJ (l := out3) (l' := [(l0[i4.toNat]!)]) (B := B3_1) ap22 rfl rfl hJ3_1 (fun w2 hw2 => (SL.lit (l := [(l0[i4.toNat]!)]) hw2 (List.mem_append_right _ (List.Mem.head _)) rfl (by omega) (by simp [maxLen]) (by exact (fun i hi => match i, hi with | 0, _ => rfl | 1, _ => rfl | 2, _ => rfl | 3, _ => rfl | q + 4, h => absurd h (by omega))))) (fun _ _ => rfl) ho10 (len_max ho10 (by decide)))) ?_
          rintro vs9 _ ⟨Bs9, rfl, hns9, hJs9⟩
          have hcBs9 := Cov.trans hcB3_1 hns9
          refine xo_st ((b46, BK 4 _ 37) :: (Bs9 ++ ([]))) (fun _ h => Pull.push (.thereC _ (.here _ _)) h) ?_
          refine xq rfl trivial (o_as rfl) ?_
          refine xo_nil ?_
          refine xq_blk 1 ?_
          refine xq_then (xw_region ?_)
          refine xq rfl trivial (o_mv rfl) ?_
          obtain ⟨ho11, h⟩ := h
          refine xq rfl trivial (o_add rfl rfl rfl ho11) ?_
          refine xq rfl trivial (o_as rfl) ?_
          refine xo_nil ?_
          exact xq_next (s' := (((out3 ++ [(l0[i4.toNat]!)]), i4 + 1) : (List (Nat → Int)) × Int)) (e' := [(0, v0), (3, vs9), (4, .int .i64 (i4 + 1))]) (Bs9 ++ ([])) (lc rfl (lc rfl (lc rfl ln))) (Kp.st (Kp.new hb46 (Kp.segKeep Kp.nil))) h ⟨vs9, Bs9, rfl, rfl, hJs9, hcBs9⟩
        · have hq7 : ((!((byR_F l0 (l0[i4.toNat]! 0)).2)) && (!((byR_F l0 (l0[i4.toNat]! 2)).2))) = false := hc7
          have hp7 : ¬ (((!((byR_F l0 (l0[i4.toNat]! 0)).2)) && (!((byR_F l0 (l0[i4.toNat]! 2)).2))) = true) := bne' hq7
          rw [if_neg hp7] at h
          refine xw_cond_f rfl rfl (xw_skip ?_)
          refine xq_blk 1 ?_
          refine xq_then (xw_region ?_)
          refine xq rfl trivial (o_mv rfl) ?_
          obtain ⟨ho12, h⟩ := h
          refine xq rfl trivial (o_add rfl rfl rfl ho12) ?_
          refine xq rfl trivial (o_as rfl) ?_
          refine xo_nil ?_
          exact xq_next (s' := ((out3, i4 + 1) : (List (Nat → Int)) × Int)) (e' := [(0, v0), (3, v3_1), (4, .int .i64 (i4 + 1))]) (B3_1 ++ ([])) (lc rfl (lc rfl (lc rfl ln))) (fun _ h => h) h ⟨v3_1, B3_1, rfl, rfl, hJ3_1, hcB3_1⟩
    · have hq1 : (decide (i4 < (l0.length : Int))) = false := hc1
      have hp1 : ¬ (i4 < (l0.length : Int)) := of_decide_eq_false hq1
      rw [if_neg hp1] at h
      refine xw_cond_f rfl rfl (xw_exit (xq_then_exit ?_))
      exact xq_out (r := (out3 : (List (Nat → Int)))) (e' := [(3, v3_1)]) (B3_1 ++ ([])) (lc rfl ln) (fun _ h => h) h (by intro hh; cases hh) ⟨v3_1, B3_1, rfl, rfl, rfl, hJ3_1, hcB3_1⟩
  · rintro _ _ _ ⟨v3_1o, B3_1o, rfl, rfl, rfl, hJ3_1o, hcB3_1o⟩
    replace h : restR_k1a out3 r := h
    unfold restR_k1a at h
    refine xq_blk_eq ?_
    refine xq_then (xw_seq (xw_region ?_))
    refine xq rfl trivial (o_mv rfl) ?_
    refine xq rfl trivial (o_as rfl) ?_
    refine xo_nil (xq_then (xw_ret ?_))
    subst h
    exact con_ret1 (.inl rfl) Try.results12 rfl (B3_1o ++ []) (fun _ h => h) (⟨_, B3_1o, rfl, rfl, hJ3_1o, hcB3_1o⟩)

end Go.Proofs.Ytcnbdkkmcdjncaa
