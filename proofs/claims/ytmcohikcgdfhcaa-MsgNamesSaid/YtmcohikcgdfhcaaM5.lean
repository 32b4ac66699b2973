/- Part of the proof: contracts of functions. -/
import Derived.Test.YtmcohikcgdfhcaaM4
import Derived.Test.YtmcohikcgdfhcaaNames4
set_option linter.unusedVariables false
set_option linter.unusedSimpArgs false
set_option maxRecDepth 100000
namespace Go.Proofs.Ytmcohikcgdfhcaa
open Go Go.E

theorem same_con (l q : List Int) (v u : Value) (w : World) (hv : SL w 1 u8c v l) (hu : SL w 1 u8c u q) (hlb : l.length ≤ 1099511627776) : Con Try.prog 14 #[v, u] w (Is (.bool (decide (l = q))) []) := by
  refine con_enter (n := 26) [(0, _), (1, _)] Try.func14 rfl Try.ntmps14 rfl (lac rfl (lac rfl lan)) ?_
  refine xw_seq ?_
  refine xw_region ?_
  refine xq rfl trivial (o_as rfl) ?_
  refine xo_nil ?_
  refine xq_then ?_
  refine xw_seq ?_
  refine xw_seq ?_
  refine xw_region ?_
  refine xq rfl trivial (o_mv rfl) ?_
  refine xq rfl trivial (o_lenS rfl Try.underlying35 rfl hv.val) ?_
  refine xq rfl trivial (o_mv rfl) ?_
  refine xq rfl trivial (o_lenS rfl Try.underlying35 rfl hu.val) ?_
  refine xq rfl trivial (o_neq rfl rfl) ?_
  refine xo_nil ?_
  refine xq_then ?_
  refine xw_bool 10 rfl (fun hc1 => ?_) (fun hc1 => ?_)
  · try simp only [Bool.and_eq_true, Bool.or_eq_true, Bool.not_eq_true', Bool.not_eq_false', Bool.and_eq_false_iff, Bool.or_eq_false_iff, decide_eq_true_eq, decide_eq_false_iff_not, Int.not_le, Int.not_lt] at hc1
    refine xw_cond_t rfl rfl ?_
    refine xw_seq ?_
    refine xw_region ?_
    refine xq rfl trivial (o_as rfl) ?_
    refine xo_nil ?_
    refine xq_then ?_
    refine xw_ret ?_
    refine xq_then_ret ?_
    exact con_ret1 (.inl rfl) Try.results14 rfl [] (Kp.st (by repeat (first | exact Kp.nil | apply Kp.keep | refine Kp.new (by omega) ?_ | refine Kp.same (by assumption) ?_))) (⟨congrArg Value.bool (by rw [eq_comm, decide_eq_false_iff_not]; intro e; subst e; exact hc1 rfl), rfl⟩)
  · try simp only [Bool.and_eq_true, Bool.or_eq_true, Bool.not_eq_true', Bool.not_eq_false', Bool.and_eq_false_iff, Bool.or_eq_false_iff, decide_eq_true_eq, decide_eq_false_iff_not, Int.not_le, Int.not_lt] at hc1
    refine xw_cond_f rfl rfl ?_
    refine xw_skip ?_
    refine xq_then ?_
    refine xw_seq ?_
    refine xw_seq ?_
    refine xw_region ?_
    refine xq rfl trivial (o_as rfl) ?_
    refine xo_nil ?_
    refine xq_then ?_
    refine xw_block ?_
    have hlq : l.length = q.length := by omega
    refine xw_loop (fun mm ee HH => ∃ (k : Nat), mm = l.length - k ∧ ee = [(5, .int .i64 k), (0, v), (1, u)] ∧ HH = [] ∧ (k ≤ l.length) ∧ (l.take k = q.take k)) _ ⟨_, _, (lc rfl (lc rfl (lc rfl ln))), fun _ h => h, 0, rfl, rfl, rfl, (by omega), rfl⟩ ?_
    rintro _ _ _ ⟨k, rfl, rfl, rfl, hk, he⟩
    refine xw_seq ?_
    refine xw_seq ?_
    refine xw_region ?_
    refine xq rfl trivial (o_mv rfl) ?_
    refine xq rfl trivial (o_mv rfl) ?_
    refine xq rfl trivial (o_lenS rfl Try.underlying35 rfl hv.val) ?_
    refine xq rfl trivial (o_lss rfl rfl) ?_
    refine xo_nil ?_
    refine xq_then ?_
    refine xw_bool 14 rfl (fun hc2 => ?_) (fun hc2 => ?_)
    · try simp only [Bool.and_eq_true, Bool.or_eq_true, Bool.not_eq_true', Bool.not_eq_false', Bool.and_eq_false_iff, Bool.or_eq_false_iff, decide_eq_true_eq, decide_eq_false_iff_not, Int.not_le, Int.not_lt] at hc2
      refine xw_cond_t rfl rfl ?_
      refine xw_skip ?_
      refine xq_then ?_
      refine xw_seq ?_
      refine xw_block ?_
      refine xw_seq ?_
      have hkl : k < l.length := by omega
      have hkq : k < q.length := by omega
      obtain ⟨b1, o1, c1, rfl, hn1, hm1, hlt1, hcell1⟩ := Sl.at hv (i := k) (by omega) (by omega)
      obtain ⟨b2, o2, c2, rfl, hn2, hm2, hlt2, hcell2⟩ := Sl.at hu (i := k) (by omega) (by omega)
      have hcc1 : w.cell? ⟨b1, o1 + k * 1, none⟩ = some (.int .u8 l[k]) := by rw [Nat.mul_one, hcell1 k (by omega), eG_one (by omega)]; rfl
      have hcc2 : w.cell? ⟨b2, o2 + k * 1, none⟩ = some (.int .u8 q[k]) := by rw [Nat.mul_one, hcell2 k (by omega), eG_one (by omega)]; rfl
      
      refine xd_start (by kernel_rfl) (by kernel_rfl) (fun hok => ?_)
      refine xd_pure hok 0 [(0, _)] rfl rfl rfl (lc rfl ln) (by kernel_rfl) trivial (fun H' hK => o_mv rfl) ?_
      refine xd_pure hok 1 [(5, _)] rfl rfl rfl (lc rfl ln) (by kernel_rfl) trivial (fun H' hK => o_mv rfl) ?_
      refine xd_pure hok 2 [(17, _), (18, _)] rfl rfl rfl (lc rfl (lc rfl ln)) (by kernel_rfl) trivial (fun H' hK => o_ixs el35 rfl rfl ⟨by omega, by omega⟩ (by first | with_reducible exact Int.toNat_natCast _ | exact Eq.refl (Int.toNat _))) ?_
      refine xd_pure hok 3 [(19, _)] rfl rfl rfl (lc rfl ln) (by kernel_rfl) trivial (fun H' hK => o_ld0 rfl ts5 hcc1 (nokey hK hlt1 (by simp))) ?_
      refine xd_pure hok 4 [(1, _)] rfl rfl rfl (lc rfl ln) (by kernel_rfl) trivial (fun H' hK => o_mv rfl) ?_
      refine xd_pure hok 5 [(5, _)] rfl rfl rfl (lc rfl ln) (by kernel_rfl) trivial (fun H' hK => o_mv rfl) ?_
      refine xd_pure hok 6 [(21, _), (22, _)] rfl rfl rfl (lc rfl (lc rfl ln)) (by kernel_rfl) trivial (fun H' hK => o_ixs el35 rfl rfl ⟨by omega, by omega⟩ (by first | with_reducible exact Int.toNat_natCast _ | exact Eq.refl (Int.toNat _))) ?_
      refine xd_pure hok 7 [(23, _)] rfl rfl rfl (lc rfl ln) (by kernel_rfl) trivial (fun H' hK => o_ld0 rfl ts5 hcc2 (nokey hK hlt2 (by simp))) ?_
      refine xd_pure hok 8 [(20, _), (24, _)] rfl rfl rfl (lc rfl (lc rfl ln)) (by kernel_rfl) trivial (fun H' hK => o_neq rfl rfl) ?_
      refine xd_end hok (by kernel_rfl) ?_
      refine xq_then ?_
      refine xw_bool 25 rfl (fun hc3 => ?_) (fun hc3 => ?_)
      · try simp only [Bool.and_eq_true, Bool.or_eq_true, Bool.not_eq_true', Bool.not_eq_false', Bool.and_eq_false_iff, Bool.or_eq_false_iff, decide_eq_true_eq, decide_eq_false_iff_not, Int.not_le, Int.not_lt] at hc3
        refine xw_cond_t rfl rfl ?_
        refine xw_seq ?_
        refine xw_region ?_
        refine xq rfl trivial (o_as rfl) ?_
        refine xo_nil ?_
        refine xq_then ?_
        refine xw_ret ?_
        refine xq_blk_ret ?_
        refine xq_then_ret ?_
        refine xq_then_ret ?_
        refine xq_blk_ret ?_
        refine xq_then_ret ?_
        exact con_ret1 (.inl rfl) Try.results14 rfl [] (Kp.st (by repeat (first | exact Kp.nil | apply Kp.keep | refine Kp.new (by omega) ?_ | refine Kp.same (by assumption) ?_))) (⟨congrArg Value.bool (by rw [eq_comm, decide_eq_false_iff_not]; intro e; subst e; exact hc3 rfl), rfl⟩)
      · try simp only [Bool.and_eq_true, Bool.or_eq_true, Bool.not_eq_true', Bool.not_eq_false', Bool.and_eq_false_iff, Bool.or_eq_false_iff, decide_eq_true_eq, decide_eq_false_iff_not, Int.not_le, Int.not_lt] at hc3
        refine xw_cond_f rfl rfl ?_
        refine xw_skip ?_
        refine xq_blk 1 ?_
        refine xq_then ?_
        refine xw_region ?_
        refine xq rfl trivial (o_mv rfl) ?_
        refine xq rfl trivial (o_add rfl rfl rfl ⟨by omega, by omega⟩) ?_
        refine xq rfl trivial (o_as rfl) ?_
        refine xo_nil ?_
        refine xq_round ⟨_, _, _, ?_, (lc rfl (lc rfl (lc rfl ln))), fun _ h => h, k + 1, rfl, rfl, rfl, (by omega), (by rw [List.take_succ_eq_append_getElem (by omega), List.take_succ_eq_append_getElem (by omega), he, hc3])⟩
        omega
    · try simp only [Bool.and_eq_true, Bool.or_eq_true, Bool.not_eq_true', Bool.not_eq_false', Bool.and_eq_false_iff, Bool.or_eq_false_iff, decide_eq_true_eq, decide_eq_false_iff_not, Int.not_le, Int.not_lt] at hc2
      refine xw_cond_f rfl rfl ?_
      refine xw_exit ?_
      refine xq_then_exit ?_
      refine xq_then_exit ?_
      refine xq_blk_eq ?_
      refine xq_then ?_
      refine xw_seq ?_
      refine xw_region ?_
      refine xq rfl trivial (o_as rfl) ?_
      refine xo_nil ?_
      refine xq_then ?_
      refine xw_ret ?_
      exact con_ret1 (.inl rfl) Try.results14 rfl [] (Kp.st (by repeat (first | exact Kp.nil | apply Kp.keep | refine Kp.new (by omega) ?_ | refine Kp.same (by assumption) ?_))) (⟨congrArg Value.bool (by rw [eq_comm, decide_eq_true_eq]; rw [List.take_of_length_le (by omega), List.take_of_length_le (by omega)] at he; exact he), rfl⟩)

theorem name_con (n : Int) (w : World) : Con Try.prog 9 #[.int .i64 n] w (Is (.tuple #[.string (nameS n), .bool (inB n 1 11)]) []) := by
  refine con_enter (n := 16) [(0, _)] Try.func9 rfl Try.ntmps9 rfl (lac rfl lan) ?_
  refine xw_seq ?_
  refine xw_region ?_
  refine xq rfl trivial (o_as rfl) ?_
  refine xq rfl trivial (o_as rfl) ?_
  refine xo_nil ?_
  refine xq_then ?_
  refine xw_seq ?_
  refine xw_region ?_
  refine xo rfl trivial (o_bsl el25 ze9 (cells_one rfl) rfl rfl (.one rfl rfl rfl rfl (.one rfl rfl rfl rfl (.one rfl rfl rfl rfl (.one rfl rfl rfl rfl (.one rfl rfl rfl rfl (.one rfl rfl rfl rfl (.one rfl rfl rfl rfl (.one rfl rfl rfl rfl (.one rfl rfl rfl rfl (.one rfl rfl rfl rfl (.one rfl rfl rfl rfl (.nil _))))))))))))) ?_
  rintro _ _ ⟨b5, hb5, rfl, rfl⟩
  refine xq rfl trivial (o_as rfl) ?_
  refine xo_nil ?_
  refine xq_then ?_
  refine xw_seq ?_
  refine xw_seq ?_
  refine xw_region ?_
  refine xq rfl trivial (o_mv rfl) ?_
  refine xq rfl trivial (o_mv rfl) ?_
  refine xq rfl trivial (o_len rfl Try.underlying25 rfl) ?_
  refine xcallq rfl trivial kf18 rfl (fun w hw => in_con _ _ _ w) ?_
  refine xq rfl trivial (o_not rfl) ?_
  refine xo_nil ?_
  refine xq_then ?_
  refine xw_bool 10 rfl (fun hc1 => ?_) (fun hc1 => ?_)
  · try simp only [Bool.and_eq_true, Bool.or_eq_true, Bool.not_eq_true', Bool.not_eq_false', Bool.and_eq_false_iff, Bool.or_eq_false_iff, decide_eq_true_eq, decide_eq_false_iff_not, Int.not_le, Int.not_lt] at hc1
    replace hc1 : inB n 1 11 = false := hc1
    have hn : ¬ (1 ≤ n ∧ n ≤ 11) := by simp only [inB, Bool.and_eq_false_iff, decide_eq_false_iff_not] at hc1; omega
    refine xw_cond_t rfl rfl ?_
    refine xw_seq ?_
    refine xw_region ?_
    refine xq rfl trivial (o_as rfl) ?_
    refine xq rfl trivial (o_as rfl) ?_
    refine xo_nil ?_
    refine xq_then ?_
    refine xw_ret ?_
    refine xq_then_ret ?_
    exact con_ret2 (.inl rfl) Try.results9 rfl rfl [] (Kp.st (by repeat (first | exact Kp.nil | apply Kp.keep | refine Kp.new (by omega) ?_ | refine Kp.same (by assumption) ?_))) (⟨by rw [hc1]; unfold nameS; rw [if_neg hn], rfl⟩)
  · try simp only [Bool.and_eq_true, Bool.or_eq_true, Bool.not_eq_true', Bool.not_eq_false', Bool.and_eq_false_iff, Bool.or_eq_false_iff, decide_eq_true_eq, decide_eq_false_iff_not, Int.not_le, Int.not_lt] at hc1
    replace hc1 : inB n 1 11 = true := hc1
    have hn : 1 ≤ n ∧ n ≤ 11 := by simp only [inB, Bool.and_eq_true, decide_eq_true_eq] at hc1; omega
    refine xw_cond_f rfl rfl ?_
    refine xw_skip ?_
    refine xq_then ?_
    refine xw_seq ?_
    refine xw_region ?_
    refine xq rfl trivial (o_mv rfl) ?_
    refine xq rfl trivial (o_mv rfl) ?_
    refine xq rfl trivial (o_sub rfl rfl rfl ⟨by omega, by omega⟩) ?_
    refine xq rfl trivial (o_ixs el25 rfl rfl ⟨by omega, by omega⟩ (by first | with_reducible exact Int.toNat_natCast _ | exact Eq.refl (Int.toNat _))) ?_
    refine xq rfl trivial (o_ld (v := .string (nameS n)) rfl ts9 (by repeat (first | exact List.Mem.head _ | apply List.Mem.tail | apply List.mem_append_right)) (by omega) (by unfold nameS; rw [if_pos hn]; rcases (show n = 1 ∨ n = 2 ∨ n = 3 ∨ n = 4 ∨ n = 5 ∨ n = 6 ∨ n = 7 ∨ n = 8 ∨ n = 9 ∨ n = 10 ∨ n = 11 by omega) with rfl | rfl | rfl | rfl | rfl | rfl | rfl | rfl | rfl | rfl | rfl <;> rfl)) ?_
    refine xq rfl trivial (o_as rfl) ?_
    refine xq rfl trivial (o_as rfl) ?_
    refine xo_nil ?_
    refine xq_then ?_
    refine xw_ret ?_
    exact con_ret2 (.inl rfl) Try.results9 rfl rfl [] (Kp.st (by repeat (first | exact Kp.nil | apply Kp.keep | refine Kp.new (by omega) ?_ | refine Kp.same (by assumption) ?_))) (⟨by rw [hc1], rfl⟩)

theorem alive04_con (w : World) : Con Try.prog 8 #[] w (Is (.bool true) []) := by
  refine con_enter (n := 32) [] Try.func8 rfl Try.ntmps8 rfl lan ?_
  refine xw_seq ?_
  refine xw_region ?_
  refine xq rfl trivial (o_as rfl) ?_
  refine xo_nil ?_
  refine xq_then ?_
  refine xw_seq ?_
  refine xw_region ?_
  refine xq rfl trivial (o_build fk34 ze34 (.int fl34_0 rfl rfl (.int fl34_2 rfl rfl (.int fl34_3 rfl rfl (.nil _))))) ?_
  refine xcall rfl trivial kf10 rfl (fun w1 hw1 => encode_ok m4 w1 m4_ok) ?_
  rintro w1 r B hw1 ⟨v, rfl, hB⟩
  refine ⟨B ++ [], by have := Mg.news (w0 := w) (F := []) (H' := []) (fun k hk => hB.fresh k hk) (.nil []); simpa using this, ?_⟩
  replace hB := hB.base (w0 := w) hw1.size
  obtain ⟨b, o, c, N, F, rfl, hb, rfl, hnc, hoN, hcm, hF⟩ := Own.at hB (i := 0) (by decide +kernel)
  have hlen : (encM m4).length = 88 := by decide +kernel
  rw [hlen] at hnc hF
  refine xo_val 6 rfl (v' := .tuple #[.slice (some ⟨b, o, none⟩) 88 c, .nilIface]) (by rw [hlen]) ?_
  refine xq rfl trivial (o_mv rfl) ?_
  refine xq rfl trivial (o_ext rfl rfl) ?_
  refine xq rfl trivial (o_ext rfl rfl) ?_
  refine xq rfl trivial (o_as rfl) ?_
  refine xq rfl trivial (o_as rfl) ?_
  refine xo_nil ?_
  refine xq_then ?_
  refine xw_seq ?_
  refine xw_seq ?_
  refine xw_region ?_
  refine xq rfl trivial (o_mv rfl) ?_
  refine xq rfl trivial (o_nen Try.underlying37 rfl rfl rfl rfl) ?_
  refine xo_val 10 rfl (v' := .bool false) (rfl) ?_
  refine xq rfl trivial (o_mv rfl) ?_
  refine xq rfl ⟨_, rfl, rfl⟩ (o_mv rfl) ?_
  refine xq rfl ⟨_, rfl, rfl⟩ (o_len rfl Try.underlying35 rfl) ?_
  refine xq rfl ⟨_, rfl, rfl⟩ (o_neq rfl rfl) ?_
  refine xo_val 14 rfl (v' := .bool false) (congrArg Value.bool (by simp)) ?_
  refine xq rfl trivial (o_pick_f rfl rfl) ?_
  refine xq rfl trivial (o_mv rfl) ?_
  refine xq rfl ⟨_, rfl, rfl⟩ (o_mv rfl) ?_
  refine xq rfl ⟨_, rfl, rfl⟩ (o_sliceH (h := 7) el35 rfl rfl rfl (by omega)) ?_
  refine xo rfl ⟨_, rfl, rfl⟩ (o_bsl el35 ze5 (cells_one rfl) rfl rfl (.one rfl rfl rfl rfl (.one rfl rfl rfl rfl (.one rfl rfl rfl rfl (.one rfl rfl rfl rfl (.one rfl rfl rfl rfl (.one rfl rfl rfl rfl (.one rfl rfl rfl rfl (.nil _))))))))) ?_
  rintro _ _ ⟨b19, hb19, rfl, rfl⟩
  refine xcallq rfl ⟨_, rfl, rfl⟩ kf14 rfl (fun w2 hw2 => by
    have := same_con [4, 0, 2, 0, 0, 0, 7] [4, 0, 2, 0, 0, 0, 7] _ _ w2 (SL.sub (o := o) (n := 7) (cap := c) (l := [4, 0, 2, 0, 0, 0, 7]) (s := 1) hw2 (b := b) (N := N) (F := F) (T := 5) (by repeat (first | exact List.Mem.head _ | apply List.Mem.tail | apply List.mem_append_right)) rfl (by omega) hcm (by omega) (fun i hi => by rw [hF i (by omega)]; match i, hi with | 0, _ => rfl | 1, _ => rfl | 2, _ => rfl | 3, _ => rfl | 4, _ => rfl | 5, _ => rfl | 6, _ => rfl | q + 7, h => exact absurd h (by omega))) (SL.lit (l := [4, 0, 2, 0, 0, 0, 7]) (b := b19) hw2 (by repeat (first | exact List.Mem.head _ | apply List.Mem.tail | apply List.mem_append_right)) rfl (by simp) (by simp [maxLen]) (by exact (fun i hi => match i, hi with | 0, _ => rfl | 1, _ => rfl | 2, _ => rfl | 3, _ => rfl | 4, _ => rfl | 5, _ => rfl | 6, _ => rfl | q + 7, h => absurd h (by simp)))) (by simp)
    exact this) ?_
  refine xq rfl ⟨_, rfl, rfl⟩ (o_not rfl) ?_
  refine xq rfl trivial (o_pick_f rfl rfl) ?_
  refine xo_val 22 rfl (v' := .bool false) (rfl) ?_
  refine xo_nil ?_
  refine xq_then ?_
  refine xw_cond_f rfl (rfl) ?_
  refine xw_skip ?_
  refine xq_then ?_
  refine xw_seq ?_
  refine xw_seq ?_
  refine xw_region ?_
  refine xq rfl trivial (o_as rfl) ?_
  refine xo_nil ?_
  refine xq_then ?_
  refine xw_block ?_
  refine xw_loop (fun mm ee HH => ∃ (k : Nat), mm = 88 - k ∧ ee = [(3, .int .i64 k), (1, .slice (some ⟨b, o, none⟩) 88 c)] ∧ HH = [(b, BK N F 5)] ∧ (k ≤ 88) ∧ (7 ≤ k)) _ ⟨_, _, (lc rfl (lc rfl ln)), Kp.st (by repeat (first | exact Kp.nil | apply Kp.keep | refine Kp.new (by omega) ?_)), 7, rfl, rfl, rfl, (by omega), (by omega)⟩ ?_
  rintro _ _ _ ⟨k, rfl, rfl, rfl, hk, h7⟩
  refine xw_seq ?_
  refine xw_seq ?_
  refine xw_region ?_
  refine xq rfl trivial (o_mv rfl) ?_
  refine xq rfl trivial (o_lss rfl rfl) ?_
  refine xo_nil ?_
  refine xq_then ?_
  refine xw_bool 24 rfl (fun hc2 => ?_) (fun hc2 => ?_)
  · try simp only [Bool.and_eq_true, Bool.or_eq_true, Bool.not_eq_true', Bool.not_eq_false', Bool.and_eq_false_iff, Bool.or_eq_false_iff, decide_eq_true_eq, decide_eq_false_iff_not, Int.not_le, Int.not_lt] at hc2
    refine xw_cond_t rfl rfl ?_
    refine xw_skip ?_
    refine xq_then ?_
    refine xw_seq ?_
    refine xw_block ?_
    refine xw_seq ?_
    refine xw_region ?_
    refine xq rfl trivial (o_mv rfl) ?_
    refine xq rfl trivial (o_mv rfl) ?_
    refine xq rfl trivial (o_ixs el35 rfl rfl ⟨by omega, by omega⟩ (by first | with_reducible exact Int.toNat_natCast _ | exact Eq.refl (Int.toNat _))) ?_
    refine xq rfl trivial (o_ld (v := .int .u8 0) rfl ts5 (by repeat (first | exact List.Mem.head _ | apply List.Mem.tail | apply List.mem_append_right)) (by omega) (by rw [Nat.mul_one, hF k (by omega), eG_one (by omega)]; have := m4_zero k h7 (by omega); rw [List.getD_eq_getElem?_getD, List.getElem?_eq_getElem (by omega)] at this; simp only [Option.getD_some] at this; simp only [u8c, this])) ?_
    refine xq rfl trivial (o_neq rfl rfl) ?_
    refine xo_val 31 rfl (v' := .bool false) (congrArg Value.bool (by simp)) ?_
    refine xo_nil ?_
    refine xq_then ?_
    refine xw_cond_f rfl (rfl) ?_
    refine xw_skip ?_
    refine xq_blk 1 ?_
    refine xq_then ?_
    refine xw_region ?_
    refine xq rfl trivial (o_mv rfl) ?_
    refine xq rfl trivial (o_add rfl rfl rfl ⟨by omega, by omega⟩) ?_
    refine xq rfl trivial (o_as rfl) ?_
    refine xo_nil ?_
    refine xq_round ⟨_, _, _, ?_, (lc rfl (lc rfl ln)), fun _ h => h, k + 1, rfl, rfl, rfl, (by omega), (by omega)⟩
    omega
  · try simp only [Bool.and_eq_true, Bool.or_eq_true, Bool.not_eq_true', Bool.not_eq_false', Bool.and_eq_false_iff, Bool.or_eq_false_iff, decide_eq_true_eq, decide_eq_false_iff_not, Int.not_le, Int.not_lt] at hc2
    refine xw_cond_f rfl rfl ?_
    refine xw_exit ?_
    refine xq_then_exit ?_
    refine xq_then_exit ?_
    refine xq_blk_eq ?_
    refine xq_then ?_
    refine xw_seq ?_
    refine xw_region ?_
    refine xq rfl trivial (o_as rfl) ?_
    refine xo_nil ?_
    refine xq_then ?_
    refine xw_ret ?_
    exact con_ret1 (.inl rfl) Try.results8 rfl [] (Kp.st (by repeat (first | exact Kp.nil | apply Kp.keep | refine Kp.new (by omega) ?_ | refine Kp.same (by assumption) ?_))) (⟨rfl, rfl⟩)

theorem msgNames_con (a b : Int) (w : World) : Con Try.prog 3 #[.int .i64 a, .int .i64 b] w (Is (.bool true) []) := by
  refine con_enter (n := 63) [(0, _), (1, _)] Try.func3 rfl Try.ntmps3 rfl (lac rfl (lac rfl lan)) ?_
  refine xw_seq ?_
  refine xw_region ?_
  refine xq rfl trivial (o_as rfl) ?_
  refine xo_nil ?_
  refine xq_then ?_
  refine xw_seq ?_
  refine xw_seq ?_
  refine xw_region ?_
  refine xcallq rfl trivial kf8 rfl (fun w hw => alive04_con w) ?_
  refine xq rfl trivial (o_not rfl) ?_
  refine xo_nil ?_
  refine xq_then ?_
  refine xw_cond_f rfl (rfl) ?_
  refine xw_skip ?_
  refine xq_then ?_
  refine xw_seq ?_
  refine xw_region ?_
  refine xq rfl trivial (o_mv rfl) ?_
  refine xcallq rfl trivial kf9 rfl (fun w hw => name_con _ w) ?_
  refine xq rfl trivial (o_mv rfl) ?_
  refine xq rfl trivial (o_ext rfl rfl) ?_
  refine xq rfl trivial (o_ext rfl rfl) ?_
  refine xq rfl trivial (o_as rfl) ?_
  refine xq rfl trivial (o_as rfl) ?_
  refine xo_nil ?_
  refine xq_then ?_
  refine xw_seq ?_
  refine xw_region ?_
  refine xq rfl trivial (o_mv rfl) ?_
  refine xcallq rfl trivial kf9 rfl (fun w hw => name_con _ w) ?_
  refine xq rfl trivial (o_mv rfl) ?_
  refine xq rfl trivial (o_ext rfl rfl) ?_
  refine xq rfl trivial (o_ext rfl rfl) ?_
  refine xq rfl trivial (o_as rfl) ?_
  refine xq rfl trivial (o_as rfl) ?_
  refine xo_nil ?_
  refine xq_then ?_
  refine xw_seq ?_
  refine xw_seq ?_
  refine xw_region ?_
  refine xq rfl trivial (o_mv rfl) ?_
  refine xq rfl trivial (o_mv rfl) ?_
  refine xq rfl trivial (o_geq rfl rfl) ?_
  refine xq rfl trivial (o_mv rfl) ?_
  refine xo_bool 25 rfl (fun h25 => ?_) (fun h25 => ?_)
  · try simp only [Bool.and_eq_true, Bool.or_eq_true, Bool.not_eq_true', Bool.not_eq_false', Bool.and_eq_false_iff, Bool.or_eq_false_iff, decide_eq_true_eq, decide_eq_false_iff_not, Int.not_le, Int.not_lt] at h25
    refine xq rfl ⟨_, rfl, rfl⟩ (o_mv rfl) ?_
    refine xq rfl ⟨_, rfl, rfl⟩ (o_leq rfl rfl) ?_
    refine xq rfl trivial (o_pick_t rfl rfl) ?_
    refine xq rfl trivial (o_neqB Try.underlying4 rfl rfl) ?_
    refine xo_val 29 rfl (v' := .bool false) (congrArg Value.bool (by rw [Bool.not_eq_false', beq_iff_eq, Bool.eq_iff_iff]; simp only [inB, Bool.and_eq_true, decide_eq_true_eq, Bool.false_eq_true, iff_false]; omega)) ?_
    refine xq rfl trivial (o_mv rfl) ?_
    refine xq rfl ⟨_, rfl, rfl⟩ (o_mv rfl) ?_
    refine xq rfl ⟨_, rfl, rfl⟩ (o_mv rfl) ?_
    refine xq rfl ⟨_, rfl, rfl⟩ (o_nes rfl rfl) ?_
    refine xq rfl ⟨_, rfl, rfl⟩ (o_neqB Try.underlying4 rfl rfl) ?_
    refine xo_val 34 rfl (v' := .bool false) (congrArg Value.bool (by rw [Bool.not_eq_false', beq_iff_eq]; by_cases hh : 1 ≤ a ∧ a ≤ 11; (rw [nameS_ne hh, inB_iff.2 hh]; rfl); (rw [nameS_no hh, inB_not.2 hh]; rfl))) ?_
    refine xq rfl trivial (o_pick_f rfl rfl) ?_
    refine xq rfl trivial (o_mv rfl) ?_
    refine xq rfl ⟨_, rfl, rfl⟩ (o_mv rfl) ?_
    refine xo_bool 37 rfl (fun h37 => ?_) (fun h37 => ?_)
    · try simp only [Bool.and_eq_true, Bool.or_eq_true, Bool.not_eq_true', Bool.not_eq_false', Bool.and_eq_false_iff, Bool.or_eq_false_iff, decide_eq_true_eq, decide_eq_false_iff_not, Int.not_le, Int.not_lt] at h37
      refine xq rfl ⟨_, rfl, rfl⟩ (o_mv rfl) ?_
      refine xq rfl ⟨_, rfl, rfl⟩ (o_mv rfl) ?_
      refine xq rfl ⟨_, rfl, rfl⟩ (o_pick_t rfl rfl) ?_
      refine xo_bool 40 rfl (fun h40 => ?_) (fun h40 => ?_)
      · try simp only [Bool.and_eq_true, Bool.or_eq_true, Bool.not_eq_true', Bool.not_eq_false', Bool.and_eq_false_iff, Bool.or_eq_false_iff, decide_eq_true_eq, decide_eq_false_iff_not, Int.not_le, Int.not_lt] at h40
        refine xq rfl ⟨_, rfl, rfl⟩ (o_mv rfl) ?_
        refine xq rfl ⟨_, rfl, rfl⟩ (o_mv rfl) ?_
        refine xq rfl ⟨_, rfl, rfl⟩ (o_mv rfl) ?_
        refine xq rfl ⟨_, rfl, rfl⟩ (o_eqs rfl rfl) ?_
        refine xq rfl ⟨_, rfl, rfl⟩ (o_mv rfl) ?_
        refine xq rfl ⟨_, rfl, rfl⟩ (o_mv rfl) ?_
        refine xq rfl ⟨_, rfl, rfl⟩ (o_eql rfl rfl) ?_
        refine xq rfl ⟨_, rfl, rfl⟩ (o_neqB Try.underlying4 rfl rfl) ?_
        refine xo_val 48 rfl (v' := .bool false) (congrArg Value.bool (by rw [Bool.not_eq_false', beq_iff_eq]; exact nameS_eq (inB_iff.1 h37) (inB_iff.1 h40))) ?_
        refine xq rfl ⟨_, rfl, rfl⟩ (o_pick_t rfl rfl) ?_
        refine xq rfl trivial (o_pick_f rfl rfl) ?_
        refine xo_nil ?_
        refine xq_then ?_
        refine xw_cond_f rfl (rfl) ?_
        refine xw_skip ?_
        refine xq_then ?_
        refine xw_seq ?_
        refine xw_region ?_
        refine xo rfl trivial (o_bsl el25 ze9 (cells_one rfl) rfl rfl (.one rfl rfl rfl rfl (.one rfl rfl rfl rfl (.one rfl rfl rfl rfl (.one rfl rfl rfl rfl (.one rfl rfl rfl rfl (.one rfl rfl rfl rfl (.one rfl rfl rfl rfl (.one rfl rfl rfl rfl (.one rfl rfl rfl rfl (.one rfl rfl rfl rfl (.one rfl rfl rfl rfl (.nil _))))))))))))) ?_
        rintro _ _ ⟨b51, hb51, rfl, rfl⟩
        refine xq rfl trivial (o_as rfl) ?_
        refine xo_nil ?_
        refine xq_then ?_
        refine xw_seq ?_
        refine xw_region ?_
        refine xq rfl trivial (o_mv rfl) ?_
        refine xq rfl trivial (o_not rfl) ?_
        refine xq rfl trivial (o_mv rfl) ?_
        refine xo_bool 54 rfl (fun h54 => ?_) (fun h54 => ?_)
        · try simp only [Bool.and_eq_true, Bool.or_eq_true, Bool.not_eq_true', Bool.not_eq_false', Bool.and_eq_false_iff, Bool.or_eq_false_iff, decide_eq_true_eq, decide_eq_false_iff_not, Int.not_le, Int.not_lt] at h54
          refine xs rfl ⟨_, rfl, rfl⟩ ?_
          refine xs rfl ⟨_, rfl, rfl⟩ ?_
          refine xs rfl ⟨_, rfl, rfl⟩ ?_
          refine xs rfl ⟨_, rfl, rfl⟩ ?_
          refine xs rfl ⟨_, rfl, rfl⟩ ?_
          refine xs rfl ⟨_, rfl, rfl⟩ ?_
          refine xs rfl ⟨_, rfl, rfl⟩ ?_
          refine xq rfl trivial (o_pick_t rfl rfl) ?_
          refine xq rfl trivial (o_as rfl) ?_
          refine xo_nil ?_
          refine xq_then ?_
          refine xw_ret ?_
          exact con_ret1 (.inl rfl) Try.results3 rfl [] (Kp.st (by repeat (first | exact Kp.nil | apply Kp.keep | refine Kp.new (by omega) ?_ | refine Kp.same (by assumption) ?_))) (⟨rfl, rfl⟩)
        · try simp only [Bool.and_eq_true, Bool.or_eq_true, Bool.not_eq_true', Bool.not_eq_false', Bool.and_eq_false_iff, Bool.or_eq_false_iff, decide_eq_true_eq, decide_eq_false_iff_not, Int.not_le, Int.not_lt] at h54
          refine xq rfl ⟨_, rfl, rfl⟩ (o_mv rfl) ?_
          refine xq rfl ⟨_, rfl, rfl⟩ (o_mv rfl) ?_
          refine xq rfl ⟨_, rfl, rfl⟩ (o_mv rfl) ?_
          refine xq rfl ⟨_, rfl, rfl⟩ (o_sub rfl rfl rfl ⟨by have := inB_iff.1 h54; omega, by have := inB_iff.1 h54; omega⟩) ?_
          refine xq rfl ⟨_, rfl, rfl⟩ (o_ixs el25 rfl rfl ⟨by have := inB_iff.1 h54; omega, by have := inB_iff.1 h54; omega⟩ (by first | with_reducible exact Int.toNat_natCast _ | exact Eq.refl (Int.toNat _))) ?_
          refine xq rfl ⟨_, rfl, rfl⟩ (o_ld (v := .string (nameS a)) rfl ts9 (by repeat (first | exact List.Mem.head _ | apply List.Mem.tail | apply List.mem_append_right)) (by have := inB_iff.1 h54; omega) (by have hn := inB_iff.1 h54; unfold nameS; rw [if_pos hn]; rcases (show a = 1 ∨ a = 2 ∨ a = 3 ∨ a = 4 ∨ a = 5 ∨ a = 6 ∨ a = 7 ∨ a = 8 ∨ a = 9 ∨ a = 10 ∨ a = 11 by omega) with rfl | rfl | rfl | rfl | rfl | rfl | rfl | rfl | rfl | rfl | rfl <;> rfl)) ?_
          refine xq rfl ⟨_, rfl, rfl⟩ (o_eqs rfl rfl) ?_
          refine xo_val 61 rfl (v' := .bool true) (congrArg Value.bool ((nameS_eq (inB_iff.1 h54) (inB_iff.1 h54)).trans (decide_eq_true rfl))) ?_
          refine xq rfl trivial (o_pick_f rfl rfl) ?_
          refine xq rfl trivial (o_as rfl) ?_
          refine xo_nil ?_
          refine xq_then ?_
          refine xw_ret ?_
          exact con_ret1 (.inl rfl) Try.results3 rfl [] (Kp.st (by repeat (first | exact Kp.nil | apply Kp.keep | refine Kp.new (by omega) ?_ | refine Kp.same (by assumption) ?_))) (⟨rfl, rfl⟩)
      · try simp only [Bool.and_eq_true, Bool.or_eq_true, Bool.not_eq_true', Bool.not_eq_false', Bool.and_eq_false_iff, Bool.or_eq_false_iff, decide_eq_true_eq, decide_eq_false_iff_not, Int.not_le, Int.not_lt] at h40
        refine xq rfl ⟨_, rfl, rfl⟩ (o_mv rfl) ?_
        refine xs rfl ⟨_, rfl, rfl⟩ ?_
        refine xs rfl ⟨_, rfl, rfl⟩ ?_
        refine xs rfl ⟨_, rfl, rfl⟩ ?_
        refine xs rfl ⟨_, rfl, rfl⟩ ?_
        refine xs rfl ⟨_, rfl, rfl⟩ ?_
        refine xs rfl ⟨_, rfl, rfl⟩ ?_
        refine xs rfl ⟨_, rfl, rfl⟩ ?_
        refine xq rfl ⟨_, rfl, rfl⟩ (o_pick_f rfl rfl) ?_
        refine xq rfl trivial (o_pick_f rfl rfl) ?_
        refine xo_nil ?_
        refine xq_then ?_
        refine xw_cond_f rfl (rfl) ?_
        refine xw_skip ?_
        refine xq_then ?_
        refine xw_seq ?_
        refine xw_region ?_
        refine xo rfl trivial (o_bsl el25 ze9 (cells_one rfl) rfl rfl (.one rfl rfl rfl rfl (.one rfl rfl rfl rfl (.one rfl rfl rfl rfl (.one rfl rfl rfl rfl (.one rfl rfl rfl rfl (.one rfl rfl rfl rfl (.one rfl rfl rfl rfl (.one rfl rfl rfl rfl (.one rfl rfl rfl rfl (.one rfl rfl rfl rfl (.one rfl rfl rfl rfl (.nil _))))))))))))) ?_
        rintro _ _ ⟨b51, hb51, rfl, rfl⟩
        refine xq rfl trivial (o_as rfl) ?_
        refine xo_nil ?_
        refine xq_then ?_
        refine xw_seq ?_
        refine xw_region ?_
        refine xq rfl trivial (o_mv rfl) ?_
        refine xq rfl trivial (o_not rfl) ?_
        refine xq rfl trivial (o_mv rfl) ?_
        refine xo_bool 54 rfl (fun h54 => ?_) (fun h54 => ?_)
        · try simp only [Bool.and_eq_true, Bool.or_eq_true, Bool.not_eq_true', Bool.not_eq_false', Bool.and_eq_false_iff, Bool.or_eq_false_iff, decide_eq_true_eq, decide_eq_false_iff_not, Int.not_le, Int.not_lt] at h54
          refine xs rfl ⟨_, rfl, rfl⟩ ?_
          refine xs rfl ⟨_, rfl, rfl⟩ ?_
          refine xs rfl ⟨_, rfl, rfl⟩ ?_
          refine xs rfl ⟨_, rfl, rfl⟩ ?_
          refine xs rfl ⟨_, rfl, rfl⟩ ?_
          refine xs rfl ⟨_, rfl, rfl⟩ ?_
          refine xs rfl ⟨_, rfl, rfl⟩ ?_
          refine xq rfl trivial (o_pick_t rfl rfl) ?_
          refine xq rfl trivial (o_as rfl) ?_
          refine xo_nil ?_
          refine xq_then ?_
          refine xw_ret ?_
          exact con_ret1 (.inl rfl) Try.results3 rfl [] (Kp.st (by repeat (first | exact Kp.nil | apply Kp.keep | refine Kp.new (by omega) ?_ | refine Kp.same (by assumption) ?_))) (⟨rfl, rfl⟩)
        · try simp only [Bool.and_eq_true, Bool.or_eq_true, Bool.not_eq_true', Bool.not_eq_false', Bool.and_eq_false_iff, Bool.or_eq_false_iff, decide_eq_true_eq, decide_eq_false_iff_not, Int.not_le, Int.not_lt] at h54
          refine xq rfl ⟨_, rfl, rfl⟩ (o_mv rfl) ?_
          refine xq rfl ⟨_, rfl, rfl⟩ (o_mv rfl) ?_
          refine xq rfl ⟨_, rfl, rfl⟩ (o_mv rfl) ?_
          refine xq rfl ⟨_, rfl, rfl⟩ (o_sub rfl rfl rfl ⟨by have := inB_iff.1 h54; omega, by have := inB_iff.1 h54; omega⟩) ?_
          refine xq rfl ⟨_, rfl, rfl⟩ (o_ixs el25 rfl rfl ⟨by have := inB_iff.1 h54; omega, by have := inB_iff.1 h54; omega⟩ (by first | with_reducible exact Int.toNat_natCast _ | exact Eq.refl (Int.toNat _))) ?_
          refine xq rfl ⟨_, rfl, rfl⟩ (o_ld (v := .string (nameS a)) rfl ts9 (by repeat (first | exact List.Mem.head _ | apply List.Mem.tail | apply List.mem_append_right)) (by have := inB_iff.1 h54; omega) (by have hn := inB_iff.1 h54; unfold nameS; rw [if_pos hn]; rcases (show a = 1 ∨ a = 2 ∨ a = 3 ∨ a = 4 ∨ a = 5 ∨ a = 6 ∨ a = 7 ∨ a = 8 ∨ a = 9 ∨ a = 10 ∨ a = 11 by omega) with rfl | rfl | rfl | rfl | rfl | rfl | rfl | rfl | rfl | rfl | rfl <;> rfl)) ?_
          refine xq rfl ⟨_, rfl, rfl⟩ (o_eqs rfl rfl) ?_
          refine xo_val 61 rfl (v' := .bool true) (congrArg Value.bool ((nameS_eq (inB_iff.1 h54) (inB_iff.1 h54)).trans (decide_eq_true rfl))) ?_
          refine xq rfl trivial (o_pick_f rfl rfl) ?_
          refine xq rfl trivial (o_as rfl) ?_
          refine xo_nil ?_
          refine xq_then ?_
          refine xw_ret ?_
          exact con_ret1 (.inl rfl) Try.results3 rfl [] (Kp.st (by repeat (first | exact Kp.nil | apply Kp.keep | refine Kp.new (by omega) ?_ | refine Kp.same (by assumption) ?_))) (⟨rfl, rfl⟩)
    · try simp only [Bool.and_eq_true, Bool.or_eq_true, Bool.not_eq_true', Bool.not_eq_false', Bool.and_eq_false_iff, Bool.or_eq_false_iff, decide_eq_true_eq, decide_eq_false_iff_not, Int.not_le, Int.not_lt] at h37
      refine xq rfl ⟨_, rfl, rfl⟩ (o_mv rfl) ?_
      refine xs rfl ⟨_, rfl, rfl⟩ ?_
      refine xq rfl ⟨_, rfl, rfl⟩ (o_pick_f rfl rfl) ?_
      refine xq rfl ⟨_, rfl, rfl⟩ (o_mv rfl) ?_
      refine xs rfl ⟨_, rfl, rfl⟩ ?_
      refine xs rfl ⟨_, rfl, rfl⟩ ?_
      refine xs rfl ⟨_, rfl, rfl⟩ ?_
      refine xs rfl ⟨_, rfl, rfl⟩ ?_
      refine xs rfl ⟨_, rfl, rfl⟩ ?_
      refine xs rfl ⟨_, rfl, rfl⟩ ?_
      refine xs rfl ⟨_, rfl, rfl⟩ ?_
      refine xq rfl ⟨_, rfl, rfl⟩ (o_pick_f rfl rfl) ?_
      refine xq rfl trivial (o_pick_f rfl rfl) ?_
      refine xo_nil ?_
      refine xq_then ?_
      refine xw_cond_f rfl (rfl) ?_
      refine xw_skip ?_
      refine xq_then ?_
      refine xw_seq ?_
      refine xw_region ?_
      refine xo rfl trivial (o_bsl el25 ze9 (cells_one rfl) rfl rfl (.one rfl rfl rfl rfl (.one rfl rfl rfl rfl (.one rfl rfl rfl rfl (.one rfl rfl rfl rfl (.one rfl rfl rfl rfl (.one rfl rfl rfl rfl (.one rfl rfl rfl rfl (.one rfl rfl rfl rfl (.one rfl rfl rfl rfl (.one rfl rfl rfl rfl (.one rfl rfl rfl rfl (.nil _))))))))))))) ?_
      rintro _ _ ⟨b51, hb51, rfl, rfl⟩
      refine xq rfl trivial (o_as rfl) ?_
      refine xo_nil ?_
      refine xq_then ?_
      refine xw_seq ?_
      refine xw_region ?_
      refine xq rfl trivial (o_mv rfl) ?_
      refine xq rfl trivial (o_not rfl) ?_
      refine xq rfl trivial (o_mv rfl) ?_
      refine xo_bool 54 rfl (fun h54 => ?_) (fun h54 => ?_)
      · try simp only [Bool.and_eq_true, Bool.or_eq_true, Bool.not_eq_true', Bool.not_eq_false', Bool.and_eq_false_iff, Bool.or_eq_false_iff, decide_eq_true_eq, decide_eq_false_iff_not, Int.not_le, Int.not_lt] at h54
        refine xs rfl ⟨_, rfl, rfl⟩ ?_
        refine xs rfl ⟨_, rfl, rfl⟩ ?_
        refine xs rfl ⟨_, rfl, rfl⟩ ?_
        refine xs rfl ⟨_, rfl, rfl⟩ ?_
        refine xs rfl ⟨_, rfl, rfl⟩ ?_
        refine xs rfl ⟨_, rfl, rfl⟩ ?_
        refine xs rfl ⟨_, rfl, rfl⟩ ?_
        refine xq rfl trivial (o_pick_t rfl rfl) ?_
        refine xq rfl trivial (o_as rfl) ?_
        refine xo_nil ?_
        refine xq_then ?_
        refine xw_ret ?_
        exact con_ret1 (.inl rfl) Try.results3 rfl [] (Kp.st (by repeat (first | exact Kp.nil | apply Kp.keep | refine Kp.new (by omega) ?_ | refine Kp.same (by assumption) ?_))) (⟨rfl, rfl⟩)
      · try simp only [Bool.and_eq_true, Bool.or_eq_true, Bool.not_eq_true', Bool.not_eq_false', Bool.and_eq_false_iff, Bool.or_eq_false_iff, decide_eq_true_eq, decide_eq_false_iff_not, Int.not_le, Int.not_lt] at h54
        refine xq rfl ⟨_, rfl, rfl⟩ (o_mv rfl) ?_
        refine xq rfl ⟨_, rfl, rfl⟩ (o_mv rfl) ?_
        refine xq rfl ⟨_, rfl, rfl⟩ (o_mv rfl) ?_
        refine xq rfl ⟨_, rfl, rfl⟩ (o_sub rfl rfl rfl ⟨by have := inB_iff.1 h54; omega, by have := inB_iff.1 h54; omega⟩) ?_
        refine xq rfl ⟨_, rfl, rfl⟩ (o_ixs el25 rfl rfl ⟨by have := inB_iff.1 h54; omega, by have := inB_iff.1 h54; omega⟩ (by first | with_reducible exact Int.toNat_natCast _ | exact Eq.refl (Int.toNat _))) ?_
        refine xq rfl ⟨_, rfl, rfl⟩ (o_ld (v := .string (nameS a)) rfl ts9 (by repeat (first | exact List.Mem.head _ | apply List.Mem.tail | apply List.mem_append_right)) (by have := inB_iff.1 h54; omega) (by have hn := inB_iff.1 h54; unfold nameS; rw [if_pos hn]; rcases (show a = 1 ∨ a = 2 ∨ a = 3 ∨ a = 4 ∨ a = 5 ∨ a = 6 ∨ a = 7 ∨ a = 8 ∨ a = 9 ∨ a = 10 ∨ a = 11 by omega) with rfl | rfl | rfl | rfl | rfl | rfl | rfl | rfl | rfl | rfl | rfl <;> rfl)) ?_
        refine xq rfl ⟨_, rfl, rfl⟩ (o_eqs rfl rfl) ?_
        refine xo_val 61 rfl (v' := .bool true) (congrArg Value.bool ((nameS_eq (inB_iff.1 h54) (inB_iff.1 h54)).trans (decide_eq_true rfl))) ?_
        refine xq rfl trivial (o_pick_f rfl rfl) ?_
        refine xq rfl trivial (o_as rfl) ?_
        refine xo_nil ?_
        refine xq_then ?_
        refine xw_ret ?_
        exact con_ret1 (.inl rfl) Try.results3 rfl [] (Kp.st (by repeat (first | exact Kp.nil | apply Kp.keep | refine Kp.new (by omega) ?_ | refine Kp.same (by assumption) ?_))) (⟨rfl, rfl⟩)
  · try simp only [Bool.and_eq_true, Bool.or_eq_true, Bool.not_eq_true', Bool.not_eq_false', Bool.and_eq_false_iff, Bool.or_eq_false_iff, decide_eq_true_eq, decide_eq_false_iff_not, Int.not_le, Int.not_lt] at h25
    refine xs rfl ⟨_, rfl, rfl⟩ ?_
    refine xs rfl ⟨_, rfl, rfl⟩ ?_
    refine xq rfl trivial (o_pick_f rfl rfl) ?_
    refine xq rfl trivial (o_neqB Try.underlying4 rfl rfl) ?_
    refine xo_val 29 rfl (v' := .bool false) (congrArg Value.bool (by rw [Bool.not_eq_false', beq_iff_eq, Bool.eq_iff_iff]; simp only [inB, Bool.and_eq_true, decide_eq_true_eq, Bool.false_eq_true, iff_false]; omega)) ?_
    refine xq rfl trivial (o_mv rfl) ?_
    refine xq rfl ⟨_, rfl, rfl⟩ (o_mv rfl) ?_
    refine xq rfl ⟨_, rfl, rfl⟩ (o_mv rfl) ?_
    refine xq rfl ⟨_, rfl, rfl⟩ (o_nes rfl rfl) ?_
    refine xq rfl ⟨_, rfl, rfl⟩ (o_neqB Try.underlying4 rfl rfl) ?_
    refine xo_val 34 rfl (v' := .bool false) (congrArg Value.bool (by rw [Bool.not_eq_false', beq_iff_eq]; by_cases hh : 1 ≤ a ∧ a ≤ 11; (rw [nameS_ne hh, inB_iff.2 hh]; rfl); (rw [nameS_no hh, inB_not.2 hh]; rfl))) ?_
    refine xq rfl trivial (o_pick_f rfl rfl) ?_
    refine xq rfl trivial (o_mv rfl) ?_
    refine xq rfl ⟨_, rfl, rfl⟩ (o_mv rfl) ?_
    refine xo_bool 37 rfl (fun h37 => ?_) (fun h37 => ?_)
    · try simp only [Bool.and_eq_true, Bool.or_eq_true, Bool.not_eq_true', Bool.not_eq_false', Bool.and_eq_false_iff, Bool.or_eq_false_iff, decide_eq_true_eq, decide_eq_false_iff_not, Int.not_le, Int.not_lt] at h37
      refine xq rfl ⟨_, rfl, rfl⟩ (o_mv rfl) ?_
      refine xq rfl ⟨_, rfl, rfl⟩ (o_mv rfl) ?_
      refine xq rfl ⟨_, rfl, rfl⟩ (o_pick_t rfl rfl) ?_
      refine xo_bool 40 rfl (fun h40 => ?_) (fun h40 => ?_)
      · try simp only [Bool.and_eq_true, Bool.or_eq_true, Bool.not_eq_true', Bool.not_eq_false', Bool.and_eq_false_iff, Bool.or_eq_false_iff, decide_eq_true_eq, decide_eq_false_iff_not, Int.not_le, Int.not_lt] at h40
        refine xq rfl ⟨_, rfl, rfl⟩ (o_mv rfl) ?_
        refine xq rfl ⟨_, rfl, rfl⟩ (o_mv rfl) ?_
        refine xq rfl ⟨_, rfl, rfl⟩ (o_mv rfl) ?_
        refine xq rfl ⟨_, rfl, rfl⟩ (o_eqs rfl rfl) ?_
        refine xq rfl ⟨_, rfl, rfl⟩ (o_mv rfl) ?_
        refine xq rfl ⟨_, rfl, rfl⟩ (o_mv rfl) ?_
        refine xq rfl ⟨_, rfl, rfl⟩ (o_eql rfl rfl) ?_
        refine xq rfl ⟨_, rfl, rfl⟩ (o_neqB Try.underlying4 rfl rfl) ?_
        refine xo_val 48 rfl (v' := .bool false) (congrArg Value.bool (by rw [Bool.not_eq_false', beq_iff_eq]; exact nameS_eq (inB_iff.1 h37) (inB_iff.1 h40))) ?_
        refine xq rfl ⟨_, rfl, rfl⟩ (o_pick_t rfl rfl) ?_
        refine xq rfl trivial (o_pick_f rfl rfl) ?_
        refine xo_nil ?_
        refine xq_then ?_
        refine xw_cond_f rfl (rfl) ?_
        refine xw_skip ?_
        refine xq_then ?_
        refine xw_seq ?_
        refine xw_region ?_
        refine xo rfl trivial (o_bsl el25 ze9 (cells_one rfl) rfl rfl (.one rfl rfl rfl rfl (.one rfl rfl rfl rfl (.one rfl rfl rfl rfl (.one rfl rfl rfl rfl (.one rfl rfl rfl rfl (.one rfl rfl rfl rfl (.one rfl rfl rfl rfl (.one rfl rfl rfl rfl (.one rfl rfl rfl rfl (.one rfl rfl rfl rfl (.one rfl rfl rfl rfl (.nil _))))))))))))) ?_
        rintro _ _ ⟨b51, hb51, rfl, rfl⟩
        refine xq rfl trivial (o_as rfl) ?_
        refine xo_nil ?_
        refine xq_then ?_
        refine xw_seq ?_
        refine xw_region ?_
        refine xq rfl trivial (o_mv rfl) ?_
        refine xq rfl trivial (o_not rfl) ?_
        refine xq rfl trivial (o_mv rfl) ?_
        refine xo_bool 54 rfl (fun h54 => ?_) (fun h54 => ?_)
        · try simp only [Bool.and_eq_true, Bool.or_eq_true, Bool.not_eq_true', Bool.not_eq_false', Bool.and_eq_false_iff, Bool.or_eq_false_iff, decide_eq_true_eq, decide_eq_false_iff_not, Int.not_le, Int.not_lt] at h54
          refine xs rfl ⟨_, rfl, rfl⟩ ?_
          refine xs rfl ⟨_, rfl, rfl⟩ ?_
          refine xs rfl ⟨_, rfl, rfl⟩ ?_
          refine xs rfl ⟨_, rfl, rfl⟩ ?_
          refine xs rfl ⟨_, rfl, rfl⟩ ?_
          refine xs rfl ⟨_, rfl, rfl⟩ ?_
          refine xs rfl ⟨_, rfl, rfl⟩ ?_
          refine xq rfl trivial (o_pick_t rfl rfl) ?_
          refine xq rfl trivial (o_as rfl) ?_
          refine xo_nil ?_
          refine xq_then ?_
          refine xw_ret ?_
          exact con_ret1 (.inl rfl) Try.results3 rfl [] (Kp.st (by repeat (first | exact Kp.nil | apply Kp.keep | refine Kp.new (by omega) ?_ | refine Kp.same (by assumption) ?_))) (⟨rfl, rfl⟩)
        · try simp only [Bool.and_eq_true, Bool.or_eq_true, Bool.not_eq_true', Bool.not_eq_false', Bool.and_eq_false_iff, Bool.or_eq_false_iff, decide_eq_true_eq, decide_eq_false_iff_not, Int.not_le, Int.not_lt] at h54
          refine xq rfl ⟨_, rfl, rfl⟩ (o_mv rfl) ?_
          refine xq rfl ⟨_, rfl, rfl⟩ (o_mv rfl) ?_
          refine xq rfl ⟨_, rfl, rfl⟩ (o_mv rfl) ?_
          refine xq rfl ⟨_, rfl, rfl⟩ (o_sub rfl rfl rfl ⟨by have := inB_iff.1 h54; omega, by have := inB_iff.1 h54; omega⟩) ?_
          refine xq rfl ⟨_, rfl, rfl⟩ (o_ixs el25 rfl rfl ⟨by have := inB_iff.1 h54; omega, by have := inB_iff.1 h54; omega⟩ (by first | with_reducible exact Int.toNat_natCast _ | exact Eq.refl (Int.toNat _))) ?_
          refine xq rfl ⟨_, rfl, rfl⟩ (o_ld (v := .string (nameS a)) rfl ts9 (by repeat (first | exact List.Mem.head _ | apply List.Mem.tail | apply List.mem_append_right)) (by have := inB_iff.1 h54; omega) (by have hn := inB_iff.1 h54; unfold nameS; rw [if_pos hn]; rcases (show a = 1 ∨ a = 2 ∨ a = 3 ∨ a = 4 ∨ a = 5 ∨ a = 6 ∨ a = 7 ∨ a = 8 ∨ a = 9 ∨ a = 10 ∨ a = 11 by omega) with rfl | rfl | rfl | rfl | rfl | rfl | rfl | rfl | rfl | rfl | rfl <;> rfl)) ?_
          refine xq rfl ⟨_, rfl, rfl⟩ (o_eqs rfl rfl) ?_
          refine xo_val 61 rfl (v' := .bool true) (congrArg Value.bool ((nameS_eq (inB_iff.1 h54) (inB_iff.1 h54)).trans (decide_eq_true rfl))) ?_
          refine xq rfl trivial (o_pick_f rfl rfl) ?_
          refine xq rfl trivial (o_as rfl) ?_
          refine xo_nil ?_
          refine xq_then ?_
          refine xw_ret ?_
          exact con_ret1 (.inl rfl) Try.results3 rfl [] (Kp.st (by repeat (first | exact Kp.nil | apply Kp.keep | refine Kp.new (by omega) ?_ | refine Kp.same (by assumption) ?_))) (⟨rfl, rfl⟩)
      · try simp only [Bool.and_eq_true, Bool.or_eq_true, Bool.not_eq_true', Bool.not_eq_false', Bool.and_eq_false_iff, Bool.or_eq_false_iff, decide_eq_true_eq, decide_eq_false_iff_not, Int.not_le, Int.not_lt] at h40
        refine xq rfl ⟨_, rfl, rfl⟩ (o_mv rfl) ?_
        refine xs rfl ⟨_, rfl, rfl⟩ ?_
        refine xs rfl ⟨_, rfl, rfl⟩ ?_
        refine xs rfl ⟨_, rfl, rfl⟩ ?_
        refine xs rfl ⟨_, rfl, rfl⟩ ?_
        refine xs rfl ⟨_, rfl, rfl⟩ ?_
        refine xs rfl ⟨_, rfl, rfl⟩ ?_
        refine xs rfl ⟨_, rfl, rfl⟩ ?_
        refine xq rfl ⟨_, rfl, rfl⟩ (o_pick_f rfl rfl) ?_
        refine xq rfl trivial (o_pick_f rfl rfl) ?_
        refine xo_nil ?_
        refine xq_then ?_
        refine xw_cond_f rfl (rfl) ?_
        refine xw_skip ?_
        refine xq_then ?_
        refine xw_seq ?_
        refine xw_region ?_
        refine xo rfl trivial (o_bsl el25 ze9 (cells_one rfl) rfl rfl (.one rfl rfl rfl rfl (.one rfl rfl rfl rfl (.one rfl rfl rfl rfl (.one rfl rfl rfl rfl (.one rfl rfl rfl rfl (.one rfl rfl rfl rfl (.one rfl rfl rfl rfl (.one rfl rfl rfl rfl (.one rfl rfl rfl rfl (.one rfl rfl rfl rfl (.one rfl rfl rfl rfl (.nil _))))))))))))) ?_
        rintro _ _ ⟨b51, hb51, rfl, rfl⟩
        refine xq rfl trivial (o_as rfl) ?_
        refine xo_nil ?_
        refine xq_then ?_
        refine xw_seq ?_
        refine xw_region ?_
        refine xq rfl trivial (o_mv rfl) ?_
        refine xq rfl trivial (o_not rfl) ?_
        refine xq rfl trivial (o_mv rfl) ?_
        refine xo_bool 54 rfl (fun h54 => ?_) (fun h54 => ?_)
        · try simp only [Bool.and_eq_true, Bool.or_eq_true, Bool.not_eq_true', Bool.not_eq_false', Bool.and_eq_false_iff, Bool.or_eq_false_iff, decide_eq_true_eq, decide_eq_false_iff_not, Int.not_le, Int.not_lt] at h54
          refine xs rfl ⟨_, rfl, rfl⟩ ?_
          refine xs rfl ⟨_, rfl, rfl⟩ ?_
          refine xs rfl ⟨_, rfl, rfl⟩ ?_
          refine xs rfl ⟨_, rfl, rfl⟩ ?_
          refine xs rfl ⟨_, rfl, rfl⟩ ?_
          refine xs rfl ⟨_, rfl, rfl⟩ ?_
          refine xs rfl ⟨_, rfl, rfl⟩ ?_
          refine xq rfl trivial (o_pick_t rfl rfl) ?_
          refine xq rfl trivial (o_as rfl) ?_
          refine xo_nil ?_
          refine xq_then ?_
          refine xw_ret ?_
          exact con_ret1 (.inl rfl) Try.results3 rfl [] (Kp.st (by repeat (first | exact Kp.nil | apply Kp.keep | refine Kp.new (by omega) ?_ | refine Kp.same (by assumption) ?_))) (⟨rfl, rfl⟩)
        · try simp only [Bool.and_eq_true, Bool.or_eq_true, Bool.not_eq_true', Bool.not_eq_false', Bool.and_eq_false_iff, Bool.or_eq_false_iff, decide_eq_true_eq, decide_eq_false_iff_not, Int.not_le, Int.not_lt] at h54
          refine xq rfl ⟨_, rfl, rfl⟩ (o_mv rfl) ?_
          refine xq rfl ⟨_, rfl, rfl⟩ (o_mv rfl) ?_
          refine xq rfl ⟨_, rfl, rfl⟩ (o_mv rfl) ?_
          refine xq rfl ⟨_, rfl, rfl⟩ (o_sub rfl rfl rfl ⟨by have := inB_iff.1 h54; omega, by have := inB_iff.1 h54; omega⟩) ?_
          refine xq rfl ⟨_, rfl, rfl⟩ (o_ixs el25 rfl rfl ⟨by have := inB_iff.1 h54; omega, by have := inB_iff.1 h54; omega⟩ (by first | with_reducible exact Int.toNat_natCast _ | exact Eq.refl (Int.toNat _))) ?_
          refine xq rfl ⟨_, rfl, rfl⟩ (o_ld (v := .string (nameS a)) rfl ts9 (by repeat (first | exact List.Mem.head _ | apply List.Mem.tail | apply List.mem_append_right)) (by have := inB_iff.1 h54; omega) (by have hn := inB_iff.1 h54; unfold nameS; rw [if_pos hn]; rcases (show a = 1 ∨ a = 2 ∨ a = 3 ∨ a = 4 ∨ a = 5 ∨ a = 6 ∨ a = 7 ∨ a = 8 ∨ a = 9 ∨ a = 10 ∨ a = 11 by omega) with rfl | rfl | rfl | rfl | rfl | rfl | rfl | rfl | rfl | rfl | rfl <;> rfl)) ?_
          refine xq rfl ⟨_, rfl, rfl⟩ (o_eqs rfl rfl) ?_
          refine xo_val 61 rfl (v' := .bool true) (congrArg Value.bool ((nameS_eq (inB_iff.1 h54) (inB_iff.1 h54)).trans (decide_eq_true rfl))) ?_
          refine xq rfl trivial (o_pick_f rfl rfl) ?_
          refine xq rfl trivial (o_as rfl) ?_
          refine xo_nil ?_
          refine xq_then ?_
          refine xw_ret ?_
          exact con_ret1 (.inl rfl) Try.results3 rfl [] (Kp.st (by repeat (first | exact Kp.nil | apply Kp.keep | refine Kp.new (by omega) ?_ | refine Kp.same (by assumption) ?_))) (⟨rfl, rfl⟩)
    · try simp only [Bool.and_eq_true, Bool.or_eq_true, Bool.not_eq_true', Bool.not_eq_false', Bool.and_eq_false_iff, Bool.or_eq_false_iff, decide_eq_true_eq, decide_eq_false_iff_not, Int.not_le, Int.not_lt] at h37
      refine xq rfl ⟨_, rfl, rfl⟩ (o_mv rfl) ?_
      refine xs rfl ⟨_, rfl, rfl⟩ ?_
      refine xq rfl ⟨_, rfl, rfl⟩ (o_pick_f rfl rfl) ?_
      refine xq rfl ⟨_, rfl, rfl⟩ (o_mv rfl) ?_
      refine xs rfl ⟨_, rfl, rfl⟩ ?_
      refine xs rfl ⟨_, rfl, rfl⟩ ?_
      refine xs rfl ⟨_, rfl, rfl⟩ ?_
      refine xs rfl ⟨_, rfl, rfl⟩ ?_
      refine xs rfl ⟨_, rfl, rfl⟩ ?_
      refine xs rfl ⟨_, rfl, rfl⟩ ?_
      refine xs rfl ⟨_, rfl, rfl⟩ ?_
      refine xq rfl ⟨_, rfl, rfl⟩ (o_pick_f rfl rfl) ?_
      refine xq rfl trivial (o_pick_f rfl rfl) ?_
      refine xo_nil ?_
      refine xq_then ?_
      refine xw_cond_f rfl (rfl) ?_
      refine xw_skip ?_
      refine xq_then ?_
      refine xw_seq ?_
      refine xw_region ?_
      refine xo rfl trivial (o_bsl el25 ze9 (cells_one rfl) rfl rfl (.one rfl rfl rfl rfl (.one rfl rfl rfl rfl (.one rfl rfl rfl rfl (.one rfl rfl rfl rfl (.one rfl rfl rfl rfl (.one rfl rfl rfl rfl (.one rfl rfl rfl rfl (.one rfl rfl rfl rfl (.one rfl rfl rfl rfl (.one rfl rfl rfl rfl (.one rfl rfl rfl rfl (.nil _))))))))))))) ?_
      rintro _ _ ⟨b51, hb51, rfl, rfl⟩
      refine xq rfl trivial (o_as rfl) ?_
      refine xo_nil ?_
      refine xq_then ?_
      refine xw_seq ?_
      refine xw_region ?_
      refine xq rfl trivial (o_mv rfl) ?_
      refine xq rfl trivial (o_not rfl) ?_
      refine xq rfl trivial (o_mv rfl) ?_
      refine xo_bool 54 rfl (fun h54 => ?_) (fun h54 => ?_)
      · try simp only [Bool.and_eq_true, Bool.or_eq_true, Bool.not_eq_true', Bool.not_eq_false', Bool.and_eq_false_iff, Bool.or_eq_false_iff, decide_eq_true_eq, decide_eq_false_iff_not, Int.not_le, Int.not_lt] at h54
        refine xs rfl ⟨_, rfl, rfl⟩ ?_
        refine xs rfl ⟨_, rfl, rfl⟩ ?_
        refine xs rfl ⟨_, rfl, rfl⟩ ?_
        refine xs rfl ⟨_, rfl, rfl⟩ ?_
        refine xs rfl ⟨_, rfl, rfl⟩ ?_
        refine xs rfl ⟨_, rfl, rfl⟩ ?_
        refine xs rfl ⟨_, rfl, rfl⟩ ?_
        refine xq rfl trivial (o_pick_t rfl rfl) ?_
        refine xq rfl trivial (o_as rfl) ?_
        refine xo_nil ?_
        refine xq_then ?_
        refine xw_ret ?_
        exact con_ret1 (.inl rfl) Try.results3 rfl [] (Kp.st (by repeat (first | exact Kp.nil | apply Kp.keep | refine Kp.new (by omega) ?_ | refine Kp.same (by assumption) ?_))) (⟨rfl, rfl⟩)
      · try simp only [Bool.and_eq_true, Bool.or_eq_true, Bool.not_eq_true', Bool.not_eq_false', Bool.and_eq_false_iff, Bool.or_eq_false_iff, decide_eq_true_eq, decide_eq_false_iff_not, Int.not_le, Int.not_lt] at h54
        refine xq rfl ⟨_, rfl, rfl⟩ (o_mv rfl) ?_
        refine xq rfl ⟨_, rfl, rfl⟩ (o_mv rfl) ?_
        refine xq rfl ⟨_, rfl, rfl⟩ (o_mv rfl) ?_
        refine xq rfl ⟨_, rfl, rfl⟩ (o_sub rfl rfl rfl ⟨by have := inB_iff.1 h54; omega, by have := inB_iff.1 h54; omega⟩) ?_
        refine xq rfl ⟨_, rfl, rfl⟩ (o_ixs el25 rfl rfl ⟨by have := inB_iff.1 h54; omega, by have := inB_iff.1 h54; omega⟩ (by first | with_reducible exact Int.toNat_natCast _ | exact Eq.refl (Int.toNat _))) ?_
        refine xq rfl ⟨_, rfl, rfl⟩ (o_ld (v := .string (nameS a)) rfl ts9 (by repeat (first | exact List.Mem.head _ | apply List.Mem.tail | apply List.mem_append_right)) (by have := inB_iff.1 h54; omega) (by have hn := inB_iff.1 h54; unfold nameS; rw [if_pos hn]; rcases (show a = 1 ∨ a = 2 ∨ a = 3 ∨ a = 4 ∨ a = 5 ∨ a = 6 ∨ a = 7 ∨ a = 8 ∨ a = 9 ∨ a = 10 ∨ a = 11 by omega) with rfl | rfl | rfl | rfl | rfl | rfl | rfl | rfl | rfl | rfl | rfl <;> rfl)) ?_
        refine xq rfl ⟨_, rfl, rfl⟩ (o_eqs rfl rfl) ?_
        refine xo_val 61 rfl (v' := .bool true) (congrArg Value.bool ((nameS_eq (inB_iff.1 h54) (inB_iff.1 h54)).trans (decide_eq_true rfl))) ?_
        refine xq rfl trivial (o_pick_f rfl rfl) ?_
        refine xq rfl trivial (o_as rfl) ?_
        refine xo_nil ?_
        refine xq_then ?_
        refine xw_ret ?_
        exact con_ret1 (.inl rfl) Try.results3 rfl [] (Kp.st (by repeat (first | exact Kp.nil | apply Kp.keep | refine Kp.new (by omega) ?_ | refine Kp.same (by assumption) ?_))) (⟨rfl, rfl⟩)

end Go.Proofs.Ytmcohikcgdfhcaa
