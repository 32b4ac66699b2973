/- Part of the proof: contracts of functions. -/
import Derived.Test.YtmcohikcgdfhcaaM1
set_option linter.unusedVariables false
set_option linter.unusedSimpArgs false
set_option maxRecDepth 100000
namespace Go.Proofs.Ytmcohikcgdfhcaa
open Go Go.E

theorem may_con (b : Nat) (m : Nat → Int) (w : World) (hb : w.heap[b]? = some (BK 28 (iv m) 34)) : Con Try.prog 25 #[.pointer (some ⟨b, 0, none⟩)] w (fun v F => v = .bool (mayB m) ∧ F = [(b, BK 28 (iv (mayZ m)) 34)]) := by
  refine con_enter (n := 151) [(0, _)] Try.func25 rfl Try.ntmps25 rfl (lac rfl lan) ?_
  refine xw_seq ?_
  refine xw_take hb (by simp) ?_
  refine xw_region ?_
  refine xq rfl trivial (o_as rfl) ?_
  refine xo_nil ?_
  refine xq_then ?_
  refine xw_seq ?_
  refine xw_region ?_
  refine xq rfl trivial (o_as rfl) ?_
  refine xo_nil ?_
  refine xq_then ?_
  refine xw_seq ?_
  refine xw_seq ?_
  refine xw_region ?_
  refine xq rfl trivial (o_mv rfl) ?_
  refine xq rfl trivial (o_nilp rfl) ?_
  first | refine xq rfl trivial (o_fa0 fl34_0 rfl) ?_ | refine xq rfl trivial (o_fa fl34_0 rfl) ?_
  first | refine xq rfl trivial (o_ldV rfl ts3 (by repeat (first | exact List.Mem.head _ | apply List.Mem.tail | apply List.mem_append_right))) ?_ | refine xq rfl trivial (o_ldI rfl ts3 (by repeat (first | exact List.Mem.head _ | apply List.Mem.tail | apply List.mem_append_right)) (by omega) rfl) ?_ | refine xq rfl trivial (o_ld rfl ts3 (by repeat (first | exact List.Mem.head _ | apply List.Mem.tail | apply List.mem_append_right)) (by omega) rfl) ?_
  refine xo_nil ?_
  refine xq_then ?_
  refine xw_block ?_
  refine xw_seq ?_
  refine xw_block ?_
  refine xw_seq ?_
  refine xw_block ?_
  refine xw_seq ?_
  refine xw_block ?_
  refine xw_seq ?_
  refine xw_block ?_
  refine xw_seq ?_
  refine xw_block ?_
  refine xw_seq ?_
  refine xw_block ?_
  refine xw_seq ?_
  refine xw_block ?_
  refine xw_seq ?_
  refine xw_seq ?_
  refine xw_seq ?_
  refine xw_seq ?_
  refine xw_region ?_
  refine xq rfl trivial (o_eql rfl rfl) ?_
  refine xq rfl trivial (o_as rfl) ?_
  refine xo_nil ?_
  refine xq_then ?_
  refine xw_bool 8 rfl (fun hc1 => ?_) (fun hc1 => ?_)
  · try simp only [Bool.and_eq_true, Bool.or_eq_true, Bool.not_eq_true', Bool.not_eq_false', Bool.and_eq_false_iff, Bool.or_eq_false_iff, decide_eq_true_eq, decide_eq_false_iff_not, Int.not_le, Int.not_lt] at hc1
    refine xw_cond_t rfl rfl ?_
    refine xw_skip ?_
    refine xq_then ?_
    refine xw_cond_t rfl (rfl) ?_
    refine xw_exit ?_
    refine xq_then_exit ?_
    refine xq_then_exit ?_
    refine xq_blk_eq ?_
    refine xq_then ?_
    refine xw_seq ?_
    refine xw_seq ?_
    refine xw_cut [(0, _)] (lc rfl ln) [(3, .bool (resB (m 5) (m 6) && inB (m 7) 1 4 && inB (m 4) 1 1048576 && txB (m 3)))] ?_ ?_
    · refine xw_region ?_
      refine xq rfl trivial (o_mv rfl) ?_
      refine xq rfl trivial (o_nilp rfl) ?_
      first | refine xq rfl trivial (o_fa0 fl34_5 rfl) ?_ | refine xq rfl trivial (o_fa fl34_5 rfl) ?_
      first | refine xq rfl trivial (o_ldW rfl ts28 (by repeat (first | exact List.Mem.head _ | apply List.Mem.tail | apply List.mem_append_right))) ?_ | refine xq rfl trivial (o_ldSI rfl ts28 (by repeat (first | exact List.Mem.head _ | apply List.Mem.tail | apply List.mem_append_right)) (by omega) (fun _ _ => rfl)) ?_ | refine xq rfl trivial (o_ldS rfl ts28 (by repeat (first | exact List.Mem.head _ | apply List.Mem.tail | apply List.mem_append_right)) (by omega) (fun _ _ => rfl)) ?_
      refine xcallq rfl trivial kf37 rfl (fun w hw => resOk_con _ w) ?_
      refine xq rfl trivial (o_mv rfl) ?_
      refine xo_bool 30 rfl (fun h30 => ?_) (fun h30 => ?_)
      · try simp only [Bool.and_eq_true, Bool.or_eq_true, Bool.not_eq_true', Bool.not_eq_false', Bool.and_eq_false_iff, Bool.or_eq_false_iff, decide_eq_true_eq, decide_eq_false_iff_not, Int.not_le, Int.not_lt] at h30
        refine xq rfl ⟨_, rfl, rfl⟩ (o_mv rfl) ?_
        refine xq rfl ⟨_, rfl, rfl⟩ (o_nilp rfl) ?_
        first | refine xq rfl ⟨_, rfl, rfl⟩ (o_fa0 fl34_6 rfl) ?_ | refine xq rfl ⟨_, rfl, rfl⟩ (o_fa fl34_6 rfl) ?_
        first | refine xq rfl ⟨_, rfl, rfl⟩ (o_ldV rfl ts29 (by repeat (first | exact List.Mem.head _ | apply List.Mem.tail | apply List.mem_append_right))) ?_ | refine xq rfl ⟨_, rfl, rfl⟩ (o_ldI rfl ts29 (by repeat (first | exact List.Mem.head _ | apply List.Mem.tail | apply List.mem_append_right)) (by omega) rfl) ?_ | refine xq rfl ⟨_, rfl, rfl⟩ (o_ld rfl ts29 (by repeat (first | exact List.Mem.head _ | apply List.Mem.tail | apply List.mem_append_right)) (by omega) rfl) ?_
        refine xcallq rfl ⟨_, rfl, rfl⟩ kf18 rfl (fun w hw => in_con _ _ _ w) ?_
        refine xq rfl trivial (o_pick_t rfl rfl) ?_
        refine xq rfl trivial (o_mv rfl) ?_
        refine xo_bool 37 rfl (fun h37 => ?_) (fun h37 => ?_)
        · try simp only [Bool.and_eq_true, Bool.or_eq_true, Bool.not_eq_true', Bool.not_eq_false', Bool.and_eq_false_iff, Bool.or_eq_false_iff, decide_eq_true_eq, decide_eq_false_iff_not, Int.not_le, Int.not_lt] at h37
          refine xq rfl ⟨_, rfl, rfl⟩ (o_mv rfl) ?_
          refine xq rfl ⟨_, rfl, rfl⟩ (o_nilp rfl) ?_
          first | refine xq rfl ⟨_, rfl, rfl⟩ (o_fa0 fl34_4 rfl) ?_ | refine xq rfl ⟨_, rfl, rfl⟩ (o_fa fl34_4 rfl) ?_
          first | refine xq rfl ⟨_, rfl, rfl⟩ (o_ldV rfl ts3 (by repeat (first | exact List.Mem.head _ | apply List.Mem.tail | apply List.mem_append_right))) ?_ | refine xq rfl ⟨_, rfl, rfl⟩ (o_ldI rfl ts3 (by repeat (first | exact List.Mem.head _ | apply List.Mem.tail | apply List.mem_append_right)) (by omega) rfl) ?_ | refine xq rfl ⟨_, rfl, rfl⟩ (o_ld rfl ts3 (by repeat (first | exact List.Mem.head _ | apply List.Mem.tail | apply List.mem_append_right)) (by omega) rfl) ?_
          refine xcallq rfl ⟨_, rfl, rfl⟩ kf18 rfl (fun w hw => in_con _ _ _ w) ?_
          refine xq rfl trivial (o_pick_t rfl rfl) ?_
          refine xq rfl trivial (o_mv rfl) ?_
          refine xo_bool 44 rfl (fun h44 => ?_) (fun h44 => ?_)
          · try simp only [Bool.and_eq_true, Bool.or_eq_true, Bool.not_eq_true', Bool.not_eq_false', Bool.and_eq_false_iff, Bool.or_eq_false_iff, decide_eq_true_eq, decide_eq_false_iff_not, Int.not_le, Int.not_lt] at h44
            refine xq rfl ⟨_, rfl, rfl⟩ (o_mv rfl) ?_
            refine xq rfl ⟨_, rfl, rfl⟩ (o_nilp rfl) ?_
            first | refine xq rfl ⟨_, rfl, rfl⟩ (o_fa0 fl34_3 rfl) ?_ | refine xq rfl ⟨_, rfl, rfl⟩ (o_fa fl34_3 rfl) ?_
            first | refine xq rfl ⟨_, rfl, rfl⟩ (o_ldV rfl ts3 (by repeat (first | exact List.Mem.head _ | apply List.Mem.tail | apply List.mem_append_right))) ?_ | refine xq rfl ⟨_, rfl, rfl⟩ (o_ldI rfl ts3 (by repeat (first | exact List.Mem.head _ | apply List.Mem.tail | apply List.mem_append_right)) (by omega) rfl) ?_ | refine xq rfl ⟨_, rfl, rfl⟩ (o_ld rfl ts3 (by repeat (first | exact List.Mem.head _ | apply List.Mem.tail | apply List.mem_append_right)) (by omega) rfl) ?_
            refine xcallq rfl ⟨_, rfl, rfl⟩ kf38 rfl (fun w hw => tx_con _ w) ?_
            refine xq rfl trivial (o_pick_t rfl rfl) ?_
            refine xq rfl trivial (o_as rfl) ?_
            refine xo_nil ?_
            exact xq_cut (lce rfl (congrArg Value.bool (by have h01 : inB 0 0 1 = true := rfl; simp_all [updI, updRI] <;> grind)) (lc rfl ln)) (fun _ h => h)
          · try simp only [Bool.and_eq_true, Bool.or_eq_true, Bool.not_eq_true', Bool.not_eq_false', Bool.and_eq_false_iff, Bool.or_eq_false_iff, decide_eq_true_eq, decide_eq_false_iff_not, Int.not_le, Int.not_lt] at h44
            refine xs rfl ⟨_, rfl, rfl⟩ ?_
            refine xs rfl ⟨_, rfl, rfl⟩ ?_
            refine xs rfl ⟨_, rfl, rfl⟩ ?_
            refine xs rfl ⟨_, rfl, rfl⟩ ?_
            refine xs rfl ⟨_, rfl, rfl⟩ ?_
            refine xq rfl trivial (o_pick_f rfl rfl) ?_
            refine xq rfl trivial (o_as rfl) ?_
            refine xo_nil ?_
            exact xq_cut (lce rfl (congrArg Value.bool (by have h01 : inB 0 0 1 = true := rfl; simp_all [updI, updRI] <;> grind)) (lc rfl ln)) (fun _ h => h)
        · try simp only [Bool.and_eq_true, Bool.or_eq_true, Bool.not_eq_true', Bool.not_eq_false', Bool.and_eq_false_iff, Bool.or_eq_false_iff, decide_eq_true_eq, decide_eq_false_iff_not, Int.not_le, Int.not_lt] at h37
          refine xs rfl ⟨_, rfl, rfl⟩ ?_
          refine xs rfl ⟨_, rfl, rfl⟩ ?_
          refine xs rfl ⟨_, rfl, rfl⟩ ?_
          refine xs rfl ⟨_, rfl, rfl⟩ ?_
          refine xs rfl ⟨_, rfl, rfl⟩ ?_
          refine xq rfl trivial (o_pick_f rfl rfl) ?_
          refine xq rfl trivial (o_mv rfl) ?_
          refine xs rfl ⟨_, rfl, rfl⟩ ?_
          refine xs rfl ⟨_, rfl, rfl⟩ ?_
          refine xs rfl ⟨_, rfl, rfl⟩ ?_
          refine xs rfl ⟨_, rfl, rfl⟩ ?_
          refine xs rfl ⟨_, rfl, rfl⟩ ?_
          refine xq rfl trivial (o_pick_f rfl rfl) ?_
          refine xq rfl trivial (o_as rfl) ?_
          refine xo_nil ?_
          exact xq_cut (lce rfl (congrArg Value.bool (by have h01 : inB 0 0 1 = true := rfl; simp_all [updI, updRI] <;> grind)) (lc rfl ln)) (fun _ h => h)
      · try simp only [Bool.and_eq_true, Bool.or_eq_true, Bool.not_eq_true', Bool.not_eq_false', Bool.and_eq_false_iff, Bool.or_eq_false_iff, decide_eq_true_eq, decide_eq_false_iff_not, Int.not_le, Int.not_lt] at h30
        refine xs rfl ⟨_, rfl, rfl⟩ ?_
        refine xs rfl ⟨_, rfl, rfl⟩ ?_
        refine xs rfl ⟨_, rfl, rfl⟩ ?_
        refine xs rfl ⟨_, rfl, rfl⟩ ?_
        refine xs rfl ⟨_, rfl, rfl⟩ ?_
        refine xq rfl trivial (o_pick_f rfl rfl) ?_
        refine xq rfl trivial (o_mv rfl) ?_
        refine xs rfl ⟨_, rfl, rfl⟩ ?_
        refine xs rfl ⟨_, rfl, rfl⟩ ?_
        refine xs rfl ⟨_, rfl, rfl⟩ ?_
        refine xs rfl ⟨_, rfl, rfl⟩ ?_
        refine xs rfl ⟨_, rfl, rfl⟩ ?_
        refine xq rfl trivial (o_pick_f rfl rfl) ?_
        refine xq rfl trivial (o_mv rfl) ?_
        refine xs rfl ⟨_, rfl, rfl⟩ ?_
        refine xs rfl ⟨_, rfl, rfl⟩ ?_
        refine xs rfl ⟨_, rfl, rfl⟩ ?_
        refine xs rfl ⟨_, rfl, rfl⟩ ?_
        refine xs rfl ⟨_, rfl, rfl⟩ ?_
        refine xq rfl trivial (o_pick_f rfl rfl) ?_
        refine xq rfl trivial (o_as rfl) ?_
        refine xo_nil ?_
        exact xq_cut (lce rfl (congrArg Value.bool (by have h01 : inB 0 0 1 = true := rfl; simp_all [updI, updRI] <;> grind)) (lc rfl ln)) (fun _ h => h)
    · refine xq_then ?_
      refine xw_region ?_
      refine xq rfl trivial (o_mv rfl) ?_
      refine xq rfl trivial (o_mv rfl) ?_
      refine xq rfl trivial (o_mv rfl) ?_
      refine xq rfl trivial (o_mv rfl) ?_
      refine xq rfl trivial (o_build fk28 ze28 (.nil _)) ?_
      refine xq rfl trivial (o_nilp rfl) ?_
      first | refine xq rfl trivial (o_fa0 fl34_5 rfl) ?_ | refine xq rfl trivial (o_fa fl34_5 rfl) ?_
      first | refine xq0 trivial (o_stWI rfl rfl ts28 (by repeat (first | exact List.Mem.head _ | apply List.Mem.tail | apply List.mem_append_right)) (by repeat (first | exact Upd.here _ _ _ _ | apply Upd.there | apply Upd.seg))) ?_ | refine xq0 trivial (o_stSI rfl rfl ts28 (by repeat (first | exact List.Mem.head _ | apply List.Mem.tail | apply List.mem_append_right)) (by omega) (by repeat (first | exact Upd.here _ _ _ _ | apply Upd.there | apply Upd.seg))) ?_
      refine xq rfl trivial (o_nilp rfl) ?_
      first | refine xq rfl trivial (o_fa0 fl34_6 rfl) ?_ | refine xq rfl trivial (o_fa fl34_6 rfl) ?_
      first | refine xq0 trivial (o_stV rfl rfl ts29 rfl (by repeat (first | exact List.Mem.head _ | apply List.Mem.tail | apply List.mem_append_right)) (by repeat (first | exact Upd.here _ _ _ _ | apply Upd.there | apply Upd.seg))) ?_ | refine xq0 trivial (o_stI rfl rfl ts29 (by repeat (first | exact List.Mem.head _ | apply List.Mem.tail | apply List.mem_append_right)) (by omega) (by repeat (first | exact Upd.here _ _ _ _ | apply Upd.there | apply Upd.seg))) ?_ | refine xq0 trivial (o_st rfl rfl ts29 rfl (by repeat (first | exact List.Mem.head _ | apply List.Mem.tail | apply List.mem_append_right)) (by omega) (by repeat (first | exact Upd.here _ _ _ _ | apply Upd.there | apply Upd.seg))) ?_
      refine xq rfl trivial (o_nilp rfl) ?_
      first | refine xq rfl trivial (o_fa0 fl34_4 rfl) ?_ | refine xq rfl trivial (o_fa fl34_4 rfl) ?_
      first | refine xq0 trivial (o_stV rfl rfl ts3 rfl (by repeat (first | exact List.Mem.head _ | apply List.Mem.tail | apply List.mem_append_right)) (by repeat (first | exact Upd.here _ _ _ _ | apply Upd.there | apply Upd.seg))) ?_ | refine xq0 trivial (o_stI rfl rfl ts3 (by repeat (first | exact List.Mem.head _ | apply List.Mem.tail | apply List.mem_append_right)) (by omega) (by repeat (first | exact Upd.here _ _ _ _ | apply Upd.there | apply Upd.seg))) ?_ | refine xq0 trivial (o_st rfl rfl ts3 rfl (by repeat (first | exact List.Mem.head _ | apply List.Mem.tail | apply List.mem_append_right)) (by omega) (by repeat (first | exact Upd.here _ _ _ _ | apply Upd.there | apply Upd.seg))) ?_
      refine xq rfl trivial (o_nilp rfl) ?_
      first | refine xq rfl trivial (o_fa0 fl34_3 rfl) ?_ | refine xq rfl trivial (o_fa fl34_3 rfl) ?_
      first | refine xq0 trivial (o_stV rfl rfl ts3 rfl (by repeat (first | exact List.Mem.head _ | apply List.Mem.tail | apply List.mem_append_right)) (by repeat (first | exact Upd.here _ _ _ _ | apply Upd.there | apply Upd.seg))) ?_ | refine xq0 trivial (o_stI rfl rfl ts3 (by repeat (first | exact List.Mem.head _ | apply List.Mem.tail | apply List.mem_append_right)) (by omega) (by repeat (first | exact Upd.here _ _ _ _ | apply Upd.there | apply Upd.seg))) ?_ | refine xq0 trivial (o_st rfl rfl ts3 rfl (by repeat (first | exact List.Mem.head _ | apply List.Mem.tail | apply List.mem_append_right)) (by omega) (by repeat (first | exact Upd.here _ _ _ _ | apply Upd.there | apply Upd.seg))) ?_
      refine xo_nil ?_
      refine xq_then ?_
      refine xw_exit ?_
      refine xq_blk_ne rfl ?_
      refine xq_then_exit ?_
      refine xq_blk_ne rfl ?_
      refine xq_then_exit ?_
      refine xq_blk_ne rfl ?_
      refine xq_then_exit ?_
      refine xq_blk_ne rfl ?_
      refine xq_then_exit ?_
      refine xq_blk_ne rfl ?_
      refine xq_then_exit ?_
      refine xq_blk_ne rfl ?_
      refine xq_then_exit ?_
      refine xq_blk_eq ?_
      refine xq_then ?_
      refine xw_seq ?_
      refine xw_region ?_
      refine xq rfl trivial (o_mv rfl) ?_
      refine xq rfl trivial (o_as rfl) ?_
      refine xo_nil ?_
      refine xq_then ?_
      refine xw_ret ?_
      exact con_ret1 (.inl rfl) Try.results25 rfl [(b, BK 28 (iv _) 34)] (Kp.st (by repeat (first | exact Kp.nil | apply Kp.keep | refine Kp.new (by omega) ?_ | refine Kp.same (by assumption) ?_))) (⟨congrArg Value.bool (by simp_all [mayB]), by simp_all [mayZ]⟩)
  · try simp only [Bool.and_eq_true, Bool.or_eq_true, Bool.not_eq_true', Bool.not_eq_false', Bool.and_eq_false_iff, Bool.or_eq_false_iff, decide_eq_true_eq, decide_eq_false_iff_not, Int.not_le, Int.not_lt] at hc1
    refine xw_cond_f rfl rfl ?_
    refine xw_region ?_
    refine xq rfl trivial (o_eql rfl rfl) ?_
    refine xq rfl trivial (o_as rfl) ?_
    refine xo_nil ?_
    refine xq_then ?_
    refine xw_bool 8 rfl (fun hc2 => ?_) (fun hc2 => ?_)
    · try simp only [Bool.and_eq_true, Bool.or_eq_true, Bool.not_eq_true', Bool.not_eq_false', Bool.and_eq_false_iff, Bool.or_eq_false_iff, decide_eq_true_eq, decide_eq_false_iff_not, Int.not_le, Int.not_lt] at hc2
      refine xw_cond_t rfl rfl ?_
      refine xw_exit ?_
      refine xq_then_exit ?_
      refine xq_then_exit ?_
      refine xq_blk_eq ?_
      refine xq_then ?_
      refine xw_seq ?_
      refine xw_seq ?_
      refine xw_cut [(0, _)] (lc rfl ln) [(3, .bool (resB (m 5) (m 6) && inB (m 7) 1 4 && inB (m 4) 1 1048576 && txB (m 3)))] ?_ ?_
      · refine xw_region ?_
        refine xq rfl trivial (o_mv rfl) ?_
        refine xq rfl trivial (o_nilp rfl) ?_
        first | refine xq rfl trivial (o_fa0 fl34_5 rfl) ?_ | refine xq rfl trivial (o_fa fl34_5 rfl) ?_
        first | refine xq rfl trivial (o_ldW rfl ts28 (by repeat (first | exact List.Mem.head _ | apply List.Mem.tail | apply List.mem_append_right))) ?_ | refine xq rfl trivial (o_ldSI rfl ts28 (by repeat (first | exact List.Mem.head _ | apply List.Mem.tail | apply List.mem_append_right)) (by omega) (fun _ _ => rfl)) ?_ | refine xq rfl trivial (o_ldS rfl ts28 (by repeat (first | exact List.Mem.head _ | apply List.Mem.tail | apply List.mem_append_right)) (by omega) (fun _ _ => rfl)) ?_
        refine xcallq rfl trivial kf37 rfl (fun w hw => resOk_con _ w) ?_
        refine xq rfl trivial (o_mv rfl) ?_
        refine xo_bool 30 rfl (fun h30 => ?_) (fun h30 => ?_)
        · try simp only [Bool.and_eq_true, Bool.or_eq_true, Bool.not_eq_true', Bool.not_eq_false', Bool.and_eq_false_iff, Bool.or_eq_false_iff, decide_eq_true_eq, decide_eq_false_iff_not, Int.not_le, Int.not_lt] at h30
          refine xq rfl ⟨_, rfl, rfl⟩ (o_mv rfl) ?_
          refine xq rfl ⟨_, rfl, rfl⟩ (o_nilp rfl) ?_
          first | refine xq rfl ⟨_, rfl, rfl⟩ (o_fa0 fl34_6 rfl) ?_ | refine xq rfl ⟨_, rfl, rfl⟩ (o_fa fl34_6 rfl) ?_
          first | refine xq rfl ⟨_, rfl, rfl⟩ (o_ldV rfl ts29 (by repeat (first | exact List.Mem.head _ | apply List.Mem.tail | apply List.mem_append_right))) ?_ | refine xq rfl ⟨_, rfl, rfl⟩ (o_ldI rfl ts29 (by repeat (first | exact List.Mem.head _ | apply List.Mem.tail | apply List.mem_append_right)) (by omega) rfl) ?_ | refine xq rfl ⟨_, rfl, rfl⟩ (o_ld rfl ts29 (by repeat (first | exact List.Mem.head _ | apply List.Mem.tail | apply List.mem_append_right)) (by omega) rfl) ?_
          refine xcallq rfl ⟨_, rfl, rfl⟩ kf18 rfl (fun w hw => in_con _ _ _ w) ?_
          refine xq rfl trivial (o_pick_t rfl rfl) ?_
          refine xq rfl trivial (o_mv rfl) ?_
          refine xo_bool 37 rfl (fun h37 => ?_) (fun h37 => ?_)
          · try simp only [Bool.and_eq_true, Bool.or_eq_true, Bool.not_eq_true', Bool.not_eq_false', Bool.and_eq_false_iff, Bool.or_eq_false_iff, decide_eq_true_eq, decide_eq_false_iff_not, Int.not_le, Int.not_lt] at h37
            refine xq rfl ⟨_, rfl, rfl⟩ (o_mv rfl) ?_
            refine xq rfl ⟨_, rfl, rfl⟩ (o_nilp rfl) ?_
            first | refine xq rfl ⟨_, rfl, rfl⟩ (o_fa0 fl34_4 rfl) ?_ | refine xq rfl ⟨_, rfl, rfl⟩ (o_fa fl34_4 rfl) ?_
            first | refine xq rfl ⟨_, rfl, rfl⟩ (o_ldV rfl ts3 (by repeat (first | exact List.Mem.head _ | apply List.Mem.tail | apply List.mem_append_right))) ?_ | refine xq rfl ⟨_, rfl, rfl⟩ (o_ldI rfl ts3 (by repeat (first | exact List.Mem.head _ | apply List.Mem.tail | apply List.mem_append_right)) (by omega) rfl) ?_ | refine xq rfl ⟨_, rfl, rfl⟩ (o_ld rfl ts3 (by repeat (first | exact List.Mem.head _ | apply List.Mem.tail | apply List.mem_append_right)) (by omega) rfl) ?_
            refine xcallq rfl ⟨_, rfl, rfl⟩ kf18 rfl (fun w hw => in_con _ _ _ w) ?_
            refine xq rfl trivial (o_pick_t rfl rfl) ?_
            refine xq rfl trivial (o_mv rfl) ?_
            refine xo_bool 44 rfl (fun h44 => ?_) (fun h44 => ?_)
            · try simp only [Bool.and_eq_true, Bool.or_eq_true, Bool.not_eq_true', Bool.not_eq_false', Bool.and_eq_false_iff, Bool.or_eq_false_iff, decide_eq_true_eq, decide_eq_false_iff_not, Int.not_le, Int.not_lt] at h44
              refine xq rfl ⟨_, rfl, rfl⟩ (o_mv rfl) ?_
              refine xq rfl ⟨_, rfl, rfl⟩ (o_nilp rfl) ?_
              first | refine xq rfl ⟨_, rfl, rfl⟩ (o_fa0 fl34_3 rfl) ?_ | refine xq rfl ⟨_, rfl, rfl⟩ (o_fa fl34_3 rfl) ?_
              first | refine xq rfl ⟨_, rfl, rfl⟩ (o_ldV rfl ts3 (by repeat (first | exact List.Mem.head _ | apply List.Mem.tail | apply List.mem_append_right))) ?_ | refine xq rfl ⟨_, rfl, rfl⟩ (o_ldI rfl ts3 (by repeat (first | exact List.Mem.head _ | apply List.Mem.tail | apply List.mem_append_right)) (by omega) rfl) ?_ | refine xq rfl ⟨_, rfl, rfl⟩ (o_ld rfl ts3 (by repeat (first | exact List.Mem.head _ | apply List.Mem.tail | apply List.mem_append_right)) (by omega) rfl) ?_
              refine xcallq rfl ⟨_, rfl, rfl⟩ kf38 rfl (fun w hw => tx_con _ w) ?_
              refine xq rfl trivial (o_pick_t rfl rfl) ?_
              refine xq rfl trivial (o_as rfl) ?_
              refine xo_nil ?_
              exact xq_cut (lce rfl (congrArg Value.bool (by have h01 : inB 0 0 1 = true := rfl; simp_all [updI, updRI] <;> grind)) (lc rfl ln)) (fun _ h => h)
            · try simp only [Bool.and_eq_true, Bool.or_eq_true, Bool.not_eq_true', Bool.not_eq_false', Bool.and_eq_false_iff, Bool.or_eq_false_iff, decide_eq_true_eq, decide_eq_false_iff_not, Int.not_le, Int.not_lt] at h44
              refine xs rfl ⟨_, rfl, rfl⟩ ?_
              refine xs rfl ⟨_, rfl, rfl⟩ ?_
              refine xs rfl ⟨_, rfl, rfl⟩ ?_
              refine xs rfl ⟨_, rfl, rfl⟩ ?_
              refine xs rfl ⟨_, rfl, rfl⟩ ?_
              refine xq rfl trivial (o_pick_f rfl rfl) ?_
              refine xq rfl trivial (o_as rfl) ?_
              refine xo_nil ?_
              exact xq_cut (lce rfl (congrArg Value.bool (by have h01 : inB 0 0 1 = true := rfl; simp_all [updI, updRI] <;> grind)) (lc rfl ln)) (fun _ h => h)
          · try simp only [Bool.and_eq_true, Bool.or_eq_true, Bool.not_eq_true', Bool.not_eq_false', Bool.and_eq_false_iff, Bool.or_eq_false_iff, decide_eq_true_eq, decide_eq_false_iff_not, Int.not_le, Int.not_lt] at h37
            refine xs rfl ⟨_, rfl, rfl⟩ ?_
            refine xs rfl ⟨_, rfl, rfl⟩ ?_
            refine xs rfl ⟨_, rfl, rfl⟩ ?_
            refine xs rfl ⟨_, rfl, rfl⟩ ?_
            refine xs rfl ⟨_, rfl, rfl⟩ ?_
            refine xq rfl trivial (o_pick_f rfl rfl) ?_
            refine xq rfl trivial (o_mv rfl) ?_
            refine xs rfl ⟨_, rfl, rfl⟩ ?_
            refine xs rfl ⟨_, rfl, rfl⟩ ?_
            refine xs rfl ⟨_, rfl, rfl⟩ ?_
            refine xs rfl ⟨_, rfl, rfl⟩ ?_
            refine xs rfl ⟨_, rfl, rfl⟩ ?_
            refine xq rfl trivial (o_pick_f rfl rfl) ?_
            refine xq rfl trivial (o_as rfl) ?_
            refine xo_nil ?_
            exact xq_cut (lce rfl (congrArg Value.bool (by have h01 : inB 0 0 1 = true := rfl; simp_all [updI, updRI] <;> grind)) (lc rfl ln)) (fun _ h => h)
        · try simp only [Bool.and_eq_true, Bool.or_eq_true, Bool.not_eq_true', Bool.not_eq_false', Bool.and_eq_false_iff, Bool.or_eq_false_iff, decide_eq_true_eq, decide_eq_false_iff_not, Int.not_le, Int.not_lt] at h30
          refine xs rfl ⟨_, rfl, rfl⟩ ?_
          refine xs rfl ⟨_, rfl, rfl⟩ ?_
          refine xs rfl ⟨_, rfl, rfl⟩ ?_
          refine xs rfl ⟨_, rfl, rfl⟩ ?_
          refine xs rfl ⟨_, rfl, rfl⟩ ?_
          refine xq rfl trivial (o_pick_f rfl rfl) ?_
          refine xq rfl trivial (o_mv rfl) ?_
          refine xs rfl ⟨_, rfl, rfl⟩ ?_
          refine xs rfl ⟨_, rfl, rfl⟩ ?_
          refine xs rfl ⟨_, rfl, rfl⟩ ?_
          refine xs rfl ⟨_, rfl, rfl⟩ ?_
          refine xs rfl ⟨_, rfl, rfl⟩ ?_
          refine xq rfl trivial (o_pick_f rfl rfl) ?_
          refine xq rfl trivial (o_mv rfl) ?_
          refine xs rfl ⟨_, rfl, rfl⟩ ?_
          refine xs rfl ⟨_, rfl, rfl⟩ ?_
          refine xs rfl ⟨_, rfl, rfl⟩ ?_
          refine xs rfl ⟨_, rfl, rfl⟩ ?_
          refine xs rfl ⟨_, rfl, rfl⟩ ?_
          refine xq rfl trivial (o_pick_f rfl rfl) ?_
          refine xq rfl trivial (o_as rfl) ?_
          refine xo_nil ?_
          exact xq_cut (lce rfl (congrArg Value.bool (by have h01 : inB 0 0 1 = true := rfl; simp_all [updI, updRI] <;> grind)) (lc rfl ln)) (fun _ h => h)
      · refine xq_then ?_
        refine xw_region ?_
        refine xq rfl trivial (o_mv rfl) ?_
        refine xq rfl trivial (o_mv rfl) ?_
        refine xq rfl trivial (o_mv rfl) ?_
        refine xq rfl trivial (o_mv rfl) ?_
        refine xq rfl trivial (o_build fk28 ze28 (.nil _)) ?_
        refine xq rfl trivial (o_nilp rfl) ?_
        first | refine xq rfl trivial (o_fa0 fl34_5 rfl) ?_ | refine xq rfl trivial (o_fa fl34_5 rfl) ?_
        first | refine xq0 trivial (o_stWI rfl rfl ts28 (by repeat (first | exact List.Mem.head _ | apply List.Mem.tail | apply List.mem_append_right)) (by repeat (first | exact Upd.here _ _ _ _ | apply Upd.there | apply Upd.seg))) ?_ | refine xq0 trivial (o_stSI rfl rfl ts28 (by repeat (first | exact List.Mem.head _ | apply List.Mem.tail | apply List.mem_append_right)) (by omega) (by repeat (first | exact Upd.here _ _ _ _ | apply Upd.there | apply Upd.seg))) ?_
        refine xq rfl trivial (o_nilp rfl) ?_
        first | refine xq rfl trivial (o_fa0 fl34_6 rfl) ?_ | refine xq rfl trivial (o_fa fl34_6 rfl) ?_
        first | refine xq0 trivial (o_stV rfl rfl ts29 rfl (by repeat (first | exact List.Mem.head _ | apply List.Mem.tail | apply List.mem_append_right)) (by repeat (first | exact Upd.here _ _ _ _ | apply Upd.there | apply Upd.seg))) ?_ | refine xq0 trivial (o_stI rfl rfl ts29 (by repeat (first | exact List.Mem.head _ | apply List.Mem.tail | apply List.mem_append_right)) (by omega) (by repeat (first | exact Upd.here _ _ _ _ | apply Upd.there | apply Upd.seg))) ?_ | refine xq0 trivial (o_st rfl rfl ts29 rfl (by repeat (first | exact List.Mem.head _ | apply List.Mem.tail | apply List.mem_append_right)) (by omega) (by repeat (first | exact Upd.here _ _ _ _ | apply Upd.there | apply Upd.seg))) ?_
        refine xq rfl trivial (o_nilp rfl) ?_
        first | refine xq rfl trivial (o_fa0 fl34_4 rfl) ?_ | refine xq rfl trivial (o_fa fl34_4 rfl) ?_
        first | refine xq0 trivial (o_stV rfl rfl ts3 rfl (by repeat (first | exact List.Mem.head _ | apply List.Mem.tail | apply List.mem_append_right)) (by repeat (first | exact Upd.here _ _ _ _ | apply Upd.there | apply Upd.seg))) ?_ | refine xq0 trivial (o_stI rfl rfl ts3 (by repeat (first | exact List.Mem.head _ | apply List.Mem.tail | apply List.mem_append_right)) (by omega) (by repeat (first | exact Upd.here _ _ _ _ | apply Upd.there | apply Upd.seg))) ?_ | refine xq0 trivial (o_st rfl rfl ts3 rfl (by repeat (first | exact List.Mem.head _ | apply List.Mem.tail | apply List.mem_append_right)) (by omega) (by repeat (first | exact Upd.here _ _ _ _ | apply Upd.there | apply Upd.seg))) ?_
        refine xq rfl trivial (o_nilp rfl) ?_
        first | refine xq rfl trivial (o_fa0 fl34_3 rfl) ?_ | refine xq rfl trivial (o_fa fl34_3 rfl) ?_
        first | refine xq0 trivial (o_stV rfl rfl ts3 rfl (by repeat (first | exact List.Mem.head _ | apply List.Mem.tail | apply List.mem_append_right)) (by repeat (first | exact Upd.here _ _ _ _ | apply Upd.there | apply Upd.seg))) ?_ | refine xq0 trivial (o_stI rfl rfl ts3 (by repeat (first | exact List.Mem.head _ | apply List.Mem.tail | apply List.mem_append_right)) (by omega) (by repeat (first | exact Upd.here _ _ _ _ | apply Upd.there | apply Upd.seg))) ?_ | refine xq0 trivial (o_st rfl rfl ts3 rfl (by repeat (first | exact List.Mem.head _ | apply List.Mem.tail | apply List.mem_append_right)) (by omega) (by repeat (first | exact Upd.here _ _ _ _ | apply Upd.there | apply Upd.seg))) ?_
        refine xo_nil ?_
        refine xq_then ?_
        refine xw_exit ?_
        refine xq_blk_ne rfl ?_
        refine xq_then_exit ?_
        refine xq_blk_ne rfl ?_
        refine xq_then_exit ?_
        refine xq_blk_ne rfl ?_
        refine xq_then_exit ?_
        refine xq_blk_ne rfl ?_
        refine xq_then_exit ?_
        refine xq_blk_ne rfl ?_
        refine xq_then_exit ?_
        refine xq_blk_ne rfl ?_
        refine xq_then_exit ?_
        refine xq_blk_eq ?_
        refine xq_then ?_
        refine xw_seq ?_
        refine xw_region ?_
        refine xq rfl trivial (o_mv rfl) ?_
        refine xq rfl trivial (o_as rfl) ?_
        refine xo_nil ?_
        refine xq_then ?_
        refine xw_ret ?_
        exact con_ret1 (.inl rfl) Try.results25 rfl [(b, BK 28 (iv _) 34)] (Kp.st (by repeat (first | exact Kp.nil | apply Kp.keep | refine Kp.new (by omega) ?_ | refine Kp.same (by assumption) ?_))) (⟨congrArg Value.bool (by simp_all [mayB]), by simp_all [mayZ]⟩)
    · try simp only [Bool.and_eq_true, Bool.or_eq_true, Bool.not_eq_true', Bool.not_eq_false', Bool.and_eq_false_iff, Bool.or_eq_false_iff, decide_eq_true_eq, decide_eq_false_iff_not, Int.not_le, Int.not_lt] at hc2
      refine xw_cond_f rfl rfl ?_
      refine xw_skip ?_
      refine xq_then ?_
      refine xw_seq ?_
      refine xw_seq ?_
      refine xw_region ?_
      refine xq rfl trivial (o_eql rfl rfl) ?_
      refine xq rfl trivial (o_as rfl) ?_
      refine xo_nil ?_
      refine xq_then ?_
      refine xw_bool 11 rfl (fun hc3 => ?_) (fun hc3 => ?_)
      · try simp only [Bool.and_eq_true, Bool.or_eq_true, Bool.not_eq_true', Bool.not_eq_false', Bool.and_eq_false_iff, Bool.or_eq_false_iff, decide_eq_true_eq, decide_eq_false_iff_not, Int.not_le, Int.not_lt] at hc3
        refine xw_cond_t rfl rfl ?_
        refine xw_exit ?_
        refine xq_then_exit ?_
        refine xq_then_exit ?_
        refine xq_blk_ne rfl ?_
        refine xq_then_exit ?_
        refine xq_blk_eq ?_
        refine xq_then ?_
        refine xw_seq ?_
        refine xw_cut [(0, _)] (lc rfl ln) [(3, .bool (inB (m 4) 1 1048576 && inB (m 8) 1 15))] ?_ ?_
        · refine xw_region ?_
          refine xq rfl trivial (o_mv rfl) ?_
          refine xq rfl trivial (o_nilp rfl) ?_
          first | refine xq rfl trivial (o_fa0 fl34_4 rfl) ?_ | refine xq rfl trivial (o_fa fl34_4 rfl) ?_
          first | refine xq rfl trivial (o_ldV rfl ts3 (by repeat (first | exact List.Mem.head _ | apply List.Mem.tail | apply List.mem_append_right))) ?_ | refine xq rfl trivial (o_ldI rfl ts3 (by repeat (first | exact List.Mem.head _ | apply List.Mem.tail | apply List.mem_append_right)) (by omega) rfl) ?_ | refine xq rfl trivial (o_ld rfl ts3 (by repeat (first | exact List.Mem.head _ | apply List.Mem.tail | apply List.mem_append_right)) (by omega) rfl) ?_
          refine xcallq rfl trivial kf18 rfl (fun w hw => in_con _ _ _ w) ?_
          refine xq rfl trivial (o_mv rfl) ?_
          refine xo_bool 69 rfl (fun h69 => ?_) (fun h69 => ?_)
          · try simp only [Bool.and_eq_true, Bool.or_eq_true, Bool.not_eq_true', Bool.not_eq_false', Bool.and_eq_false_iff, Bool.or_eq_false_iff, decide_eq_true_eq, decide_eq_false_iff_not, Int.not_le, Int.not_lt] at h69
            refine xq rfl ⟨_, rfl, rfl⟩ (o_mv rfl) ?_
            refine xq rfl ⟨_, rfl, rfl⟩ (o_nilp rfl) ?_
            first | refine xq rfl ⟨_, rfl, rfl⟩ (o_fa0 fl34_7 rfl) ?_ | refine xq rfl ⟨_, rfl, rfl⟩ (o_fa fl34_7 rfl) ?_
            first | refine xq rfl ⟨_, rfl, rfl⟩ (o_ldV rfl ts3 (by repeat (first | exact List.Mem.head _ | apply List.Mem.tail | apply List.mem_append_right))) ?_ | refine xq rfl ⟨_, rfl, rfl⟩ (o_ldI rfl ts3 (by repeat (first | exact List.Mem.head _ | apply List.Mem.tail | apply List.mem_append_right)) (by omega) rfl) ?_ | refine xq rfl ⟨_, rfl, rfl⟩ (o_ld rfl ts3 (by repeat (first | exact List.Mem.head _ | apply List.Mem.tail | apply List.mem_append_right)) (by omega) rfl) ?_
            refine xcallq rfl ⟨_, rfl, rfl⟩ kf18 rfl (fun w hw => in_con _ _ _ w) ?_
            refine xq rfl trivial (o_pick_t rfl rfl) ?_
            refine xq rfl trivial (o_as rfl) ?_
            refine xo_nil ?_
            exact xq_cut (lce rfl (congrArg Value.bool (by have h01 : inB 0 0 1 = true := rfl; simp_all [updI, updRI] <;> grind)) (lc rfl ln)) (fun _ h => h)
          · try simp only [Bool.and_eq_true, Bool.or_eq_true, Bool.not_eq_true', Bool.not_eq_false', Bool.and_eq_false_iff, Bool.or_eq_false_iff, decide_eq_true_eq, decide_eq_false_iff_not, Int.not_le, Int.not_lt] at h69
            refine xs rfl ⟨_, rfl, rfl⟩ ?_
            refine xs rfl ⟨_, rfl, rfl⟩ ?_
            refine xs rfl ⟨_, rfl, rfl⟩ ?_
            refine xs rfl ⟨_, rfl, rfl⟩ ?_
            refine xs rfl ⟨_, rfl, rfl⟩ ?_
            refine xq rfl trivial (o_pick_f rfl rfl) ?_
            refine xq rfl trivial (o_as rfl) ?_
            refine xo_nil ?_
            exact xq_cut (lce rfl (congrArg Value.bool (by have h01 : inB 0 0 1 = true := rfl; simp_all [updI, updRI] <;> grind)) (lc rfl ln)) (fun _ h => h)
        · refine xq_then ?_
          refine xw_region ?_
          refine xq rfl trivial (o_mv rfl) ?_
          refine xq rfl trivial (o_mv rfl) ?_
          refine xq rfl trivial (o_nilp rfl) ?_
          first | refine xq rfl trivial (o_fa0 fl34_4 rfl) ?_ | refine xq rfl trivial (o_fa fl34_4 rfl) ?_
          first | refine xq0 trivial (o_stV rfl rfl ts3 rfl (by repeat (first | exact List.Mem.head _ | apply List.Mem.tail | apply List.mem_append_right)) (by repeat (first | exact Upd.here _ _ _ _ | apply Upd.there | apply Upd.seg))) ?_ | refine xq0 trivial (o_stI rfl rfl ts3 (by repeat (first | exact List.Mem.head _ | apply List.Mem.tail | apply List.mem_append_right)) (by omega) (by repeat (first | exact Upd.here _ _ _ _ | apply Upd.there | apply Upd.seg))) ?_ | refine xq0 trivial (o_st rfl rfl ts3 rfl (by repeat (first | exact List.Mem.head _ | apply List.Mem.tail | apply List.mem_append_right)) (by omega) (by repeat (first | exact Upd.here _ _ _ _ | apply Upd.there | apply Upd.seg))) ?_
          refine xq rfl trivial (o_nilp rfl) ?_
          first | refine xq rfl trivial (o_fa0 fl34_7 rfl) ?_ | refine xq rfl trivial (o_fa fl34_7 rfl) ?_
          first | refine xq0 trivial (o_stV rfl rfl ts3 rfl (by repeat (first | exact List.Mem.head _ | apply List.Mem.tail | apply List.mem_append_right)) (by repeat (first | exact Upd.here _ _ _ _ | apply Upd.there | apply Upd.seg))) ?_ | refine xq0 trivial (o_stI rfl rfl ts3 (by repeat (first | exact List.Mem.head _ | apply List.Mem.tail | apply List.mem_append_right)) (by omega) (by repeat (first | exact Upd.here _ _ _ _ | apply Upd.there | apply Upd.seg))) ?_ | refine xq0 trivial (o_st rfl rfl ts3 rfl (by repeat (first | exact List.Mem.head _ | apply List.Mem.tail | apply List.mem_append_right)) (by omega) (by repeat (first | exact Upd.here _ _ _ _ | apply Upd.there | apply Upd.seg))) ?_
          refine xo_nil ?_
          refine xq_blk 3 ?_
          refine xq_then ?_
          refine xw_seq ?_
          refine xw_cut [(0, _)] (lc rfl ln) [(3, .bool (inB (m 4) 1 1048576 && inB (m 8) 1 15))] ?_ ?_
          · refine xw_region ?_
            refine xq rfl trivial (o_mv rfl) ?_
            refine xq rfl trivial (o_mv rfl) ?_
            refine xo_bool 83 rfl (fun h83 => ?_) (fun h83 => ?_)
            · try simp only [Bool.and_eq_true, Bool.or_eq_true, Bool.not_eq_true', Bool.not_eq_false', Bool.and_eq_false_iff, Bool.or_eq_false_iff, decide_eq_true_eq, decide_eq_false_iff_not, Int.not_le, Int.not_lt] at h83
              refine xq rfl ⟨_, rfl, rfl⟩ (o_mv rfl) ?_
              refine xq rfl ⟨_, rfl, rfl⟩ (o_nilp rfl) ?_
              first | refine xq rfl ⟨_, rfl, rfl⟩ (o_fa0 fl34_7 rfl) ?_ | refine xq rfl ⟨_, rfl, rfl⟩ (o_fa fl34_7 rfl) ?_
              first | refine xq rfl ⟨_, rfl, rfl⟩ (o_ldV rfl ts3 (by repeat (first | exact List.Mem.head _ | apply List.Mem.tail | apply List.mem_append_right))) ?_ | refine xq rfl ⟨_, rfl, rfl⟩ (o_ldI rfl ts3 (by repeat (first | exact List.Mem.head _ | apply List.Mem.tail | apply List.mem_append_right)) (by omega) rfl) ?_ | refine xq rfl ⟨_, rfl, rfl⟩ (o_ld rfl ts3 (by repeat (first | exact List.Mem.head _ | apply List.Mem.tail | apply List.mem_append_right)) (by omega) rfl) ?_
              refine xcallq rfl ⟨_, rfl, rfl⟩ kf18 rfl (fun w hw => in_con _ _ _ w) ?_
              refine xq rfl trivial (o_pick_t rfl rfl) ?_
              refine xq rfl trivial (o_as rfl) ?_
              refine xo_nil ?_
              exact xq_cut (lce rfl (congrArg Value.bool (by have h01 : inB 0 0 1 = true := rfl; simp_all [updI, updRI] <;> grind)) (lc rfl ln)) (fun _ h => h)
            · try simp only [Bool.and_eq_true, Bool.or_eq_true, Bool.not_eq_true', Bool.not_eq_false', Bool.and_eq_false_iff, Bool.or_eq_false_iff, decide_eq_true_eq, decide_eq_false_iff_not, Int.not_le, Int.not_lt] at h83
              refine xs rfl ⟨_, rfl, rfl⟩ ?_
              refine xs rfl ⟨_, rfl, rfl⟩ ?_
              refine xs rfl ⟨_, rfl, rfl⟩ ?_
              refine xs rfl ⟨_, rfl, rfl⟩ ?_
              refine xs rfl ⟨_, rfl, rfl⟩ ?_
              refine xq rfl trivial (o_pick_f rfl rfl) ?_
              refine xq rfl trivial (o_as rfl) ?_
              refine xo_nil ?_
              exact xq_cut (lce rfl (congrArg Value.bool (by have h01 : inB 0 0 1 = true := rfl; simp_all [updI, updRI] <;> grind)) (lc rfl ln)) (fun _ h => h)
          · refine xq_then ?_
            refine xw_region ?_
            refine xq rfl trivial (o_mv rfl) ?_
            refine xq rfl trivial (o_nilp rfl) ?_
            first | refine xq rfl trivial (o_fa0 fl34_7 rfl) ?_ | refine xq rfl trivial (o_fa fl34_7 rfl) ?_
            first | refine xq0 trivial (o_stV rfl rfl ts3 rfl (by repeat (first | exact List.Mem.head _ | apply List.Mem.tail | apply List.mem_append_right)) (by repeat (first | exact Upd.here _ _ _ _ | apply Upd.there | apply Upd.seg))) ?_ | refine xq0 trivial (o_stI rfl rfl ts3 (by repeat (first | exact List.Mem.head _ | apply List.Mem.tail | apply List.mem_append_right)) (by omega) (by repeat (first | exact Upd.here _ _ _ _ | apply Upd.there | apply Upd.seg))) ?_ | refine xq0 trivial (o_st rfl rfl ts3 rfl (by repeat (first | exact List.Mem.head _ | apply List.Mem.tail | apply List.mem_append_right)) (by omega) (by repeat (first | exact Upd.here _ _ _ _ | apply Upd.there | apply Upd.seg))) ?_
            refine xo_nil ?_
            refine xq_blk 4 ?_
            refine xq_then ?_
            refine xw_seq ?_
            refine xw_seq ?_
            refine xw_cut [(0, _)] (lc rfl ln) [(3, .bool (inB (m 4) 1 1048576 && inB (m 8) 1 15 && txB (m 3)))] ?_ ?_
            · refine xw_region ?_
              refine xq rfl trivial (o_mv rfl) ?_
              refine xq rfl trivial (o_mv rfl) ?_
              refine xo_bool 94 rfl (fun h94 => ?_) (fun h94 => ?_)
              · try simp only [Bool.and_eq_true, Bool.or_eq_true, Bool.not_eq_true', Bool.not_eq_false', Bool.and_eq_false_iff, Bool.or_eq_false_iff, decide_eq_true_eq, decide_eq_false_iff_not, Int.not_le, Int.not_lt] at h94
                refine xq rfl ⟨_, rfl, rfl⟩ (o_mv rfl) ?_
                refine xq rfl ⟨_, rfl, rfl⟩ (o_nilp rfl) ?_
                first | refine xq rfl ⟨_, rfl, rfl⟩ (o_fa0 fl34_3 rfl) ?_ | refine xq rfl ⟨_, rfl, rfl⟩ (o_fa fl34_3 rfl) ?_
                first | refine xq rfl ⟨_, rfl, rfl⟩ (o_ldV rfl ts3 (by repeat (first | exact List.Mem.head _ | apply List.Mem.tail | apply List.mem_append_right))) ?_ | refine xq rfl ⟨_, rfl, rfl⟩ (o_ldI rfl ts3 (by repeat (first | exact List.Mem.head _ | apply List.Mem.tail | apply List.mem_append_right)) (by omega) rfl) ?_ | refine xq rfl ⟨_, rfl, rfl⟩ (o_ld rfl ts3 (by repeat (first | exact List.Mem.head _ | apply List.Mem.tail | apply List.mem_append_right)) (by omega) rfl) ?_
                refine xcallq rfl ⟨_, rfl, rfl⟩ kf38 rfl (fun w hw => tx_con _ w) ?_
                refine xq rfl trivial (o_pick_t rfl rfl) ?_
                refine xq rfl trivial (o_as rfl) ?_
                refine xo_nil ?_
                exact xq_cut (lce rfl (congrArg Value.bool (by have h01 : inB 0 0 1 = true := rfl; simp_all [updI, updRI] <;> grind)) (lc rfl ln)) (fun _ h => h)
              · try simp only [Bool.and_eq_true, Bool.or_eq_true, Bool.not_eq_true', Bool.not_eq_false', Bool.and_eq_false_iff, Bool.or_eq_false_iff, decide_eq_true_eq, decide_eq_false_iff_not, Int.not_le, Int.not_lt] at h94
                refine xs rfl ⟨_, rfl, rfl⟩ ?_
                refine xs rfl ⟨_, rfl, rfl⟩ ?_
                refine xs rfl ⟨_, rfl, rfl⟩ ?_
                refine xs rfl ⟨_, rfl, rfl⟩ ?_
                refine xs rfl ⟨_, rfl, rfl⟩ ?_
                refine xq rfl trivial (o_pick_f rfl rfl) ?_
                refine xq rfl trivial (o_as rfl) ?_
                refine xo_nil ?_
                exact xq_cut (lce rfl (congrArg Value.bool (by have h01 : inB 0 0 1 = true := rfl; simp_all [updI, updRI] <;> grind)) (lc rfl ln)) (fun _ h => h)
            · refine xq_then ?_
              refine xw_region ?_
              refine xq rfl trivial (o_mv rfl) ?_
              refine xq rfl trivial (o_nilp rfl) ?_
              first | refine xq rfl trivial (o_fa0 fl34_3 rfl) ?_ | refine xq rfl trivial (o_fa fl34_3 rfl) ?_
              first | refine xq0 trivial (o_stV rfl rfl ts3 rfl (by repeat (first | exact List.Mem.head _ | apply List.Mem.tail | apply List.mem_append_right)) (by repeat (first | exact Upd.here _ _ _ _ | apply Upd.there | apply Upd.seg))) ?_ | refine xq0 trivial (o_stI rfl rfl ts3 (by repeat (first | exact List.Mem.head _ | apply List.Mem.tail | apply List.mem_append_right)) (by omega) (by repeat (first | exact Upd.here _ _ _ _ | apply Upd.there | apply Upd.seg))) ?_ | refine xq0 trivial (o_st rfl rfl ts3 rfl (by repeat (first | exact List.Mem.head _ | apply List.Mem.tail | apply List.mem_append_right)) (by omega) (by repeat (first | exact Upd.here _ _ _ _ | apply Upd.there | apply Upd.seg))) ?_
              refine xo_nil ?_
              refine xq_then ?_
              refine xw_exit ?_
              refine xq_blk_ne rfl ?_
              refine xq_then_exit ?_
              refine xq_blk_ne rfl ?_
              refine xq_then_exit ?_
              refine xq_blk_ne rfl ?_
              refine xq_then_exit ?_
              refine xq_blk_eq ?_
              refine xq_then ?_
              refine xw_seq ?_
              refine xw_region ?_
              refine xq rfl trivial (o_mv rfl) ?_
              refine xq rfl trivial (o_as rfl) ?_
              refine xo_nil ?_
              refine xq_then ?_
              refine xw_ret ?_
              exact con_ret1 (.inl rfl) Try.results25 rfl [(b, BK 28 (iv _) 34)] (Kp.st (by repeat (first | exact Kp.nil | apply Kp.keep | refine Kp.new (by omega) ?_ | refine Kp.same (by assumption) ?_))) (⟨congrArg Value.bool (by simp_all [mayB]), by simp_all [mayZ]⟩)
      · try simp only [Bool.and_eq_true, Bool.or_eq_true, Bool.not_eq_true', Bool.not_eq_false', Bool.and_eq_false_iff, Bool.or_eq_false_iff, decide_eq_true_eq, decide_eq_false_iff_not, Int.not_le, Int.not_lt] at hc3
        refine xw_cond_f rfl rfl ?_
        refine xw_skip ?_
        refine xq_then ?_
        refine xw_seq ?_
        refine xw_seq ?_
        refine xw_seq ?_
        refine xw_region ?_
        refine xq rfl trivial (o_eql rfl rfl) ?_
        refine xq rfl trivial (o_as rfl) ?_
        refine xo_nil ?_
        refine xq_then ?_
        refine xw_bool 13 rfl (fun hc4 => ?_) (fun hc4 => ?_)
        · try simp only [Bool.and_eq_true, Bool.or_eq_true, Bool.not_eq_true', Bool.not_eq_false', Bool.and_eq_false_iff, Bool.or_eq_false_iff, decide_eq_true_eq, decide_eq_false_iff_not, Int.not_le, Int.not_lt] at hc4
          refine xw_cond_t rfl rfl ?_
          refine xw_skip ?_
          refine xq_then ?_
          refine xw_cond_t rfl (rfl) ?_
          refine xw_exit ?_
          refine xq_then_exit ?_
          refine xq_then_exit ?_
          refine xq_blk_ne rfl ?_
          refine xq_then_exit ?_
          refine xq_blk_ne rfl ?_
          refine xq_then_exit ?_
          refine xq_blk_eq ?_
          refine xq_then ?_
          refine xw_seq ?_
          refine xw_cut [(0, _)] (lc rfl ln) [(3, .bool (inB (m 8) 0 1))] ?_ ?_
          · refine xw_region ?_
            refine xq rfl trivial (o_mv rfl) ?_
            refine xq rfl trivial (o_mv rfl) ?_
            refine xq rfl ⟨_, rfl, rfl⟩ (o_mv rfl) ?_
            refine xq rfl ⟨_, rfl, rfl⟩ (o_nilp rfl) ?_
            first | refine xq rfl ⟨_, rfl, rfl⟩ (o_fa0 fl34_7 rfl) ?_ | refine xq rfl ⟨_, rfl, rfl⟩ (o_fa fl34_7 rfl) ?_
            first | refine xq rfl ⟨_, rfl, rfl⟩ (o_ldV rfl ts3 (by repeat (first | exact List.Mem.head _ | apply List.Mem.tail | apply List.mem_append_right))) ?_ | refine xq rfl ⟨_, rfl, rfl⟩ (o_ldI rfl ts3 (by repeat (first | exact List.Mem.head _ | apply List.Mem.tail | apply List.mem_append_right)) (by omega) rfl) ?_ | refine xq rfl ⟨_, rfl, rfl⟩ (o_ld rfl ts3 (by repeat (first | exact List.Mem.head _ | apply List.Mem.tail | apply List.mem_append_right)) (by omega) rfl) ?_
            refine xcallq rfl ⟨_, rfl, rfl⟩ kf18 rfl (fun w hw => in_con _ _ _ w) ?_
            refine xq rfl trivial (o_pick_t rfl rfl) ?_
            refine xq rfl trivial (o_as rfl) ?_
            refine xo_nil ?_
            exact xq_cut (lce rfl (congrArg Value.bool (by have h01 : inB 0 0 1 = true := rfl; simp_all [updI, updRI] <;> grind)) (lc rfl ln)) (fun _ h => h)
          · refine xq_then ?_
            refine xw_region ?_
            refine xq rfl trivial (o_mv rfl) ?_
            refine xq rfl trivial (o_nilp rfl) ?_
            first | refine xq rfl trivial (o_fa0 fl34_7 rfl) ?_ | refine xq rfl trivial (o_fa fl34_7 rfl) ?_
            first | refine xq0 trivial (o_stV rfl rfl ts3 rfl (by repeat (first | exact List.Mem.head _ | apply List.Mem.tail | apply List.mem_append_right)) (by repeat (first | exact Upd.here _ _ _ _ | apply Upd.there | apply Upd.seg))) ?_ | refine xq0 trivial (o_stI rfl rfl ts3 (by repeat (first | exact List.Mem.head _ | apply List.Mem.tail | apply List.mem_append_right)) (by omega) (by repeat (first | exact Upd.here _ _ _ _ | apply Upd.there | apply Upd.seg))) ?_ | refine xq0 trivial (o_st rfl rfl ts3 rfl (by repeat (first | exact List.Mem.head _ | apply List.Mem.tail | apply List.mem_append_right)) (by omega) (by repeat (first | exact Upd.here _ _ _ _ | apply Upd.there | apply Upd.seg))) ?_
            refine xo_nil ?_
            refine xq_blk 4 ?_
            refine xq_then ?_
            refine xw_seq ?_
            refine xw_seq ?_
            refine xw_cut [(0, _)] (lc rfl ln) [(3, .bool (inB (m 8) 0 1 && txB (m 3)))] ?_ ?_
            · refine xw_region ?_
              refine xq rfl trivial (o_mv rfl) ?_
              refine xq rfl trivial (o_mv rfl) ?_
              refine xo_bool 94 rfl (fun h94 => ?_) (fun h94 => ?_)
              · try simp only [Bool.and_eq_true, Bool.or_eq_true, Bool.not_eq_true', Bool.not_eq_false', Bool.and_eq_false_iff, Bool.or_eq_false_iff, decide_eq_true_eq, decide_eq_false_iff_not, Int.not_le, Int.not_lt] at h94
                refine xq rfl ⟨_, rfl, rfl⟩ (o_mv rfl) ?_
                refine xq rfl ⟨_, rfl, rfl⟩ (o_nilp rfl) ?_
                first | refine xq rfl ⟨_, rfl, rfl⟩ (o_fa0 fl34_3 rfl) ?_ | refine xq rfl ⟨_, rfl, rfl⟩ (o_fa fl34_3 rfl) ?_
                first | refine xq rfl ⟨_, rfl, rfl⟩ (o_ldV rfl ts3 (by repeat (first | exact List.Mem.head _ | apply List.Mem.tail | apply List.mem_append_right))) ?_ | refine xq rfl ⟨_, rfl, rfl⟩ (o_ldI rfl ts3 (by repeat (first | exact List.Mem.head _ | apply List.Mem.tail | apply List.mem_append_right)) (by omega) rfl) ?_ | refine xq rfl ⟨_, rfl, rfl⟩ (o_ld rfl ts3 (by repeat (first | exact List.Mem.head _ | apply List.Mem.tail | apply List.mem_append_right)) (by omega) rfl) ?_
                refine xcallq rfl ⟨_, rfl, rfl⟩ kf38 rfl (fun w hw => tx_con _ w) ?_
                refine xq rfl trivial (o_pick_t rfl rfl) ?_
                refine xq rfl trivial (o_as rfl) ?_
                refine xo_nil ?_
                exact xq_cut (lce rfl (congrArg Value.bool (by have h01 : inB 0 0 1 = true := rfl; simp_all [updI, updRI] <;> grind)) (lc rfl ln)) (fun _ h => h)
              · try simp only [Bool.and_eq_true, Bool.or_eq_true, Bool.not_eq_true', Bool.not_eq_false', Bool.and_eq_false_iff, Bool.or_eq_false_iff, decide_eq_true_eq, decide_eq_false_iff_not, Int.not_le, Int.not_lt] at h94
                refine xs rfl ⟨_, rfl, rfl⟩ ?_
                refine xs rfl ⟨_, rfl, rfl⟩ ?_
                refine xs rfl ⟨_, rfl, rfl⟩ ?_
                refine xs rfl ⟨_, rfl, rfl⟩ ?_
                refine xs rfl ⟨_, rfl, rfl⟩ ?_
                refine xq rfl trivial (o_pick_f rfl rfl) ?_
                refine xq rfl trivial (o_as rfl) ?_
                refine xo_nil ?_
                exact xq_cut (lce rfl (congrArg Value.bool (by have h01 : inB 0 0 1 = true := rfl; simp_all [updI, updRI] <;> grind)) (lc rfl ln)) (fun _ h => h)
            · refine xq_then ?_
              refine xw_region ?_
              refine xq rfl trivial (o_mv rfl) ?_
              refine xq rfl trivial (o_nilp rfl) ?_
              first | refine xq rfl trivial (o_fa0 fl34_3 rfl) ?_ | refine xq rfl trivial (o_fa fl34_3 rfl) ?_
              first | refine xq0 trivial (o_stV rfl rfl ts3 rfl (by repeat (first | exact List.Mem.head _ | apply List.Mem.tail | apply List.mem_append_right)) (by repeat (first | exact Upd.here _ _ _ _ | apply Upd.there | apply Upd.seg))) ?_ | refine xq0 trivial (o_stI rfl rfl ts3 (by repeat (first | exact List.Mem.head _ | apply List.Mem.tail | apply List.mem_append_right)) (by omega) (by repeat (first | exact Upd.here _ _ _ _ | apply Upd.there | apply Upd.seg))) ?_ | refine xq0 trivial (o_st rfl rfl ts3 rfl (by repeat (first | exact List.Mem.head _ | apply List.Mem.tail | apply List.mem_append_right)) (by omega) (by repeat (first | exact Upd.here _ _ _ _ | apply Upd.there | apply Upd.seg))) ?_
              refine xo_nil ?_
              refine xq_then ?_
              refine xw_exit ?_
              refine xq_blk_ne rfl ?_
              refine xq_then_exit ?_
              refine xq_blk_ne rfl ?_
              refine xq_then_exit ?_
              refine xq_blk_ne rfl ?_
              refine xq_then_exit ?_
              refine xq_blk_eq ?_
              refine xq_then ?_
              refine xw_seq ?_
              refine xw_region ?_
              refine xq rfl trivial (o_mv rfl) ?_
              refine xq rfl trivial (o_as rfl) ?_
              refine xo_nil ?_
              refine xq_then ?_
              refine xw_ret ?_
              exact con_ret1 (.inl rfl) Try.results25 rfl [(b, BK 28 (iv _) 34)] (Kp.st (by repeat (first | exact Kp.nil | apply Kp.keep | refine Kp.new (by omega) ?_ | refine Kp.same (by assumption) ?_))) (⟨congrArg Value.bool (by simp_all [mayB]), by simp_all [mayZ]⟩)
        · try simp only [Bool.and_eq_true, Bool.or_eq_true, Bool.not_eq_true', Bool.not_eq_false', Bool.and_eq_false_iff, Bool.or_eq_false_iff, decide_eq_true_eq, decide_eq_false_iff_not, Int.not_le, Int.not_lt] at hc4
          refine xw_cond_f rfl rfl ?_
          refine xw_region ?_
          refine xq rfl trivial (o_eql rfl rfl) ?_
          refine xq rfl trivial (o_as rfl) ?_
          refine xo_nil ?_
          refine xq_then ?_
          refine xw_bool 13 rfl (fun hc5 => ?_) (fun hc5 => ?_)
          · try simp only [Bool.and_eq_true, Bool.or_eq_true, Bool.not_eq_true', Bool.not_eq_false', Bool.and_eq_false_iff, Bool.or_eq_false_iff, decide_eq_true_eq, decide_eq_false_iff_not, Int.not_le, Int.not_lt] at hc5
            refine xw_cond_t rfl rfl ?_
            refine xw_exit ?_
            refine xq_then_exit ?_
            refine xq_then_exit ?_
            refine xq_blk_ne rfl ?_
            refine xq_then_exit ?_
            refine xq_blk_ne rfl ?_
            refine xq_then_exit ?_
            refine xq_blk_eq ?_
            refine xq_then ?_
            refine xw_seq ?_
            refine xw_cut [(0, _)] (lc rfl ln) [(3, .bool (inB (m 8) 0 1))] ?_ ?_
            · refine xw_region ?_
              refine xq rfl trivial (o_mv rfl) ?_
              refine xq rfl trivial (o_mv rfl) ?_
              refine xq rfl ⟨_, rfl, rfl⟩ (o_mv rfl) ?_
              refine xq rfl ⟨_, rfl, rfl⟩ (o_nilp rfl) ?_
              first | refine xq rfl ⟨_, rfl, rfl⟩ (o_fa0 fl34_7 rfl) ?_ | refine xq rfl ⟨_, rfl, rfl⟩ (o_fa fl34_7 rfl) ?_
              first | refine xq rfl ⟨_, rfl, rfl⟩ (o_ldV rfl ts3 (by repeat (first | exact List.Mem.head _ | apply List.Mem.tail | apply List.mem_append_right))) ?_ | refine xq rfl ⟨_, rfl, rfl⟩ (o_ldI rfl ts3 (by repeat (first | exact List.Mem.head _ | apply List.Mem.tail | apply List.mem_append_right)) (by omega) rfl) ?_ | refine xq rfl ⟨_, rfl, rfl⟩ (o_ld rfl ts3 (by repeat (first | exact List.Mem.head _ | apply List.Mem.tail | apply List.mem_append_right)) (by omega) rfl) ?_
              refine xcallq rfl ⟨_, rfl, rfl⟩ kf18 rfl (fun w hw => in_con _ _ _ w) ?_
              refine xq rfl trivial (o_pick_t rfl rfl) ?_
              refine xq rfl trivial (o_as rfl) ?_
              refine xo_nil ?_
              exact xq_cut (lce rfl (congrArg Value.bool (by have h01 : inB 0 0 1 = true := rfl; simp_all [updI, updRI] <;> grind)) (lc rfl ln)) (fun _ h => h)
            · refine xq_then ?_
              refine xw_region ?_
              refine xq rfl trivial (o_mv rfl) ?_
              refine xq rfl trivial (o_nilp rfl) ?_
              first | refine xq rfl trivial (o_fa0 fl34_7 rfl) ?_ | refine xq rfl trivial (o_fa fl34_7 rfl) ?_
              first | refine xq0 trivial (o_stV rfl rfl ts3 rfl (by repeat (first | exact List.Mem.head _ | apply List.Mem.tail | apply List.mem_append_right)) (by repeat (first | exact Upd.here _ _ _ _ | apply Upd.there | apply Upd.seg))) ?_ | refine xq0 trivial (o_stI rfl rfl ts3 (by repeat (first | exact List.Mem.head _ | apply List.Mem.tail | apply List.mem_append_right)) (by omega) (by repeat (first | exact Upd.here _ _ _ _ | apply Upd.there | apply Upd.seg))) ?_ | refine xq0 trivial (o_st rfl rfl ts3 rfl (by repeat (first | exact List.Mem.head _ | apply List.Mem.tail | apply List.mem_append_right)) (by omega) (by repeat (first | exact Upd.here _ _ _ _ | apply Upd.there | apply Upd.seg))) ?_
              refine xo_nil ?_
              refine xq_blk 4 ?_
              refine xq_then ?_
              refine xw_seq ?_
              refine xw_seq ?_
              refine xw_cut [(0, _)] (lc rfl ln) [(3, .bool (inB (m 8) 0 1 && txB (m 3)))] ?_ ?_
              · refine xw_region ?_
                refine xq rfl trivial (o_mv rfl) ?_
                refine xq rfl trivial (o_mv rfl) ?_
                refine xo_bool 94 rfl (fun h94 => ?_) (fun h94 => ?_)
                · try simp only [Bool.and_eq_true, Bool.or_eq_true, Bool.not_eq_true', Bool.not_eq_false', Bool.and_eq_false_iff, Bool.or_eq_false_iff, decide_eq_true_eq, decide_eq_false_iff_not, Int.not_le, Int.not_lt] at h94
                  refine xq rfl ⟨_, rfl, rfl⟩ (o_mv rfl) ?_
                  refine xq rfl ⟨_, rfl, rfl⟩ (o_nilp rfl) ?_
                  first | refine xq rfl ⟨_, rfl, rfl⟩ (o_fa0 fl34_3 rfl) ?_ | refine xq rfl ⟨_, rfl, rfl⟩ (o_fa fl34_3 rfl) ?_
                  first | refine xq rfl ⟨_, rfl, rfl⟩ (o_ldV rfl ts3 (by repeat (first | exact List.Mem.head _ | apply List.Mem.tail | apply List.mem_append_right))) ?_ | refine xq rfl ⟨_, rfl, rfl⟩ (o_ldI rfl ts3 (by repeat (first | exact List.Mem.head _ | apply List.Mem.tail | apply List.mem_append_right)) (by omega) rfl) ?_ | refine xq rfl ⟨_, rfl, rfl⟩ (o_ld rfl ts3 (by repeat (first | exact List.Mem.head _ | apply List.Mem.tail | apply List.mem_append_right)) (by omega) rfl) ?_
                  refine xcallq rfl ⟨_, rfl, rfl⟩ kf38 rfl (fun w hw => tx_con _ w) ?_
                  refine xq rfl trivial (o_pick_t rfl rfl) ?_
                  refine xq rfl trivial (o_as rfl) ?_
                  refine xo_nil ?_
                  exact xq_cut (lce rfl (congrArg Value.bool (by have h01 : inB 0 0 1 = true := rfl; simp_all [updI, updRI] <;> grind)) (lc rfl ln)) (fun _ h => h)
                · try simp only [Bool.and_eq_true, Bool.or_eq_true, Bool.not_eq_true', Bool.not_eq_false', Bool.and_eq_false_iff, Bool.or_eq_false_iff, decide_eq_true_eq, decide_eq_false_iff_not, Int.not_le, Int.not_lt] at h94
                  refine xs rfl ⟨_, rfl, rfl⟩ ?_
                  refine xs rfl ⟨_, rfl, rfl⟩ ?_
                  refine xs rfl ⟨_, rfl, rfl⟩ ?_
                  refine xs rfl ⟨_, rfl, rfl⟩ ?_
                  refine xs rfl ⟨_, rfl, rfl⟩ ?_
                  refine xq rfl trivial (o_pick_f rfl rfl) ?_
                  refine xq rfl trivial (o_as rfl) ?_
                  refine xo_nil ?_
                  exact xq_cut (lce rfl (congrArg Value.bool (by have h01 : inB 0 0 1 = true := rfl; simp_all [updI, updRI] <;> grind)) (lc rfl ln)) (fun _ h => h)
              · refine xq_then ?_
                refine xw_region ?_
                refine xq rfl trivial (o_mv rfl) ?_
                refine xq rfl trivial (o_nilp rfl) ?_
                first | refine xq rfl trivial (o_fa0 fl34_3 rfl) ?_ | refine xq rfl trivial (o_fa fl34_3 rfl) ?_
                first | refine xq0 trivial (o_stV rfl rfl ts3 rfl (by repeat (first | exact List.Mem.head _ | apply List.Mem.tail | apply List.mem_append_right)) (by repeat (first | exact Upd.here _ _ _ _ | apply Upd.there | apply Upd.seg))) ?_ | refine xq0 trivial (o_stI rfl rfl ts3 (by repeat (first | exact List.Mem.head _ | apply List.Mem.tail | apply List.mem_append_right)) (by omega) (by repeat (first | exact Upd.here _ _ _ _ | apply Upd.there | apply Upd.seg))) ?_ | refine xq0 trivial (o_st rfl rfl ts3 rfl (by repeat (first | exact List.Mem.head _ | apply List.Mem.tail | apply List.mem_append_right)) (by omega) (by repeat (first | exact Upd.here _ _ _ _ | apply Upd.there | apply Upd.seg))) ?_
                refine xo_nil ?_
                refine xq_then ?_
                refine xw_exit ?_
                refine xq_blk_ne rfl ?_
                refine xq_then_exit ?_
                refine xq_blk_ne rfl ?_
                refine xq_then_exit ?_
                refine xq_blk_ne rfl ?_
                refine xq_then_exit ?_
                refine xq_blk_eq ?_
                refine xq_then ?_
                refine xw_seq ?_
                refine xw_region ?_
                refine xq rfl trivial (o_mv rfl) ?_
                refine xq rfl trivial (o_as rfl) ?_
                refine xo_nil ?_
                refine xq_then ?_
                refine xw_ret ?_
                exact con_ret1 (.inl rfl) Try.results25 rfl [(b, BK 28 (iv _) 34)] (Kp.st (by repeat (first | exact Kp.nil | apply Kp.keep | refine Kp.new (by omega) ?_ | refine Kp.same (by assumption) ?_))) (⟨congrArg Value.bool (by simp_all [mayB]), by simp_all [mayZ]⟩)
          · try simp only [Bool.and_eq_true, Bool.or_eq_true, Bool.not_eq_true', Bool.not_eq_false', Bool.and_eq_false_iff, Bool.or_eq_false_iff, decide_eq_true_eq, decide_eq_false_iff_not, Int.not_le, Int.not_lt] at hc5
            refine xw_cond_f rfl rfl ?_
            refine xw_skip ?_
            refine xq_then ?_
            refine xw_seq ?_
            refine xw_seq ?_
            refine xw_seq ?_
            refine xw_region ?_
            refine xq rfl trivial (o_eql rfl rfl) ?_
            refine xq rfl trivial (o_as rfl) ?_
            refine xo_nil ?_
            refine xq_then ?_
            refine xw_bool 16 rfl (fun hc6 => ?_) (fun hc6 => ?_)
            · try simp only [Bool.and_eq_true, Bool.or_eq_true, Bool.not_eq_true', Bool.not_eq_false', Bool.and_eq_false_iff, Bool.or_eq_false_iff, decide_eq_true_eq, decide_eq_false_iff_not, Int.not_le, Int.not_lt] at hc6
              refine xw_cond_t rfl rfl ?_
              refine xw_skip ?_
              refine xq_then ?_
              refine xw_cond_t rfl (rfl) ?_
              refine xw_exit ?_
              refine xq_then_exit ?_
              refine xq_then_exit ?_
              refine xq_blk_ne rfl ?_
              refine xq_then_exit ?_
              refine xq_blk_ne rfl ?_
              refine xq_then_exit ?_
              refine xq_blk_ne rfl ?_
              refine xq_then_exit ?_
              refine xq_blk_eq ?_
              refine xq_then ?_
              refine xw_seq ?_
              refine xw_seq ?_
              refine xw_cut [(0, _)] (lc rfl ln) [(3, .bool (txB (m 3)))] ?_ ?_
              · refine xw_region ?_
                refine xq rfl trivial (o_mv rfl) ?_
                refine xq rfl trivial (o_mv rfl) ?_
                refine xq rfl ⟨_, rfl, rfl⟩ (o_mv rfl) ?_
                refine xq rfl ⟨_, rfl, rfl⟩ (o_nilp rfl) ?_
                first | refine xq rfl ⟨_, rfl, rfl⟩ (o_fa0 fl34_3 rfl) ?_ | refine xq rfl ⟨_, rfl, rfl⟩ (o_fa fl34_3 rfl) ?_
                first | refine xq rfl ⟨_, rfl, rfl⟩ (o_ldV rfl ts3 (by repeat (first | exact List.Mem.head _ | apply List.Mem.tail | apply List.mem_append_right))) ?_ | refine xq rfl ⟨_, rfl, rfl⟩ (o_ldI rfl ts3 (by repeat (first | exact List.Mem.head _ | apply List.Mem.tail | apply List.mem_append_right)) (by omega) rfl) ?_ | refine xq rfl ⟨_, rfl, rfl⟩ (o_ld rfl ts3 (by repeat (first | exact List.Mem.head _ | apply List.Mem.tail | apply List.mem_append_right)) (by omega) rfl) ?_
                refine xcallq rfl ⟨_, rfl, rfl⟩ kf38 rfl (fun w hw => tx_con _ w) ?_
                refine xq rfl trivial (o_pick_t rfl rfl) ?_
                refine xq rfl trivial (o_as rfl) ?_
                refine xo_nil ?_
                exact xq_cut (lce rfl (congrArg Value.bool (by have h01 : inB 0 0 1 = true := rfl; simp_all [updI, updRI] <;> grind)) (lc rfl ln)) (fun _ h => h)
              · refine xq_then ?_
                refine xw_region ?_
                refine xq rfl trivial (o_mv rfl) ?_
                refine xq rfl trivial (o_nilp rfl) ?_
                first | refine xq rfl trivial (o_fa0 fl34_3 rfl) ?_ | refine xq rfl trivial (o_fa fl34_3 rfl) ?_
                first | refine xq0 trivial (o_stV rfl rfl ts3 rfl (by repeat (first | exact List.Mem.head _ | apply List.Mem.tail | apply List.mem_append_right)) (by repeat (first | exact Upd.here _ _ _ _ | apply Upd.there | apply Upd.seg))) ?_ | refine xq0 trivial (o_stI rfl rfl ts3 (by repeat (first | exact List.Mem.head _ | apply List.Mem.tail | apply List.mem_append_right)) (by omega) (by repeat (first | exact Upd.here _ _ _ _ | apply Upd.there | apply Upd.seg))) ?_ | refine xq0 trivial (o_st rfl rfl ts3 rfl (by repeat (first | exact List.Mem.head _ | apply List.Mem.tail | apply List.mem_append_right)) (by omega) (by repeat (first | exact Upd.here _ _ _ _ | apply Upd.there | apply Upd.seg))) ?_
                refine xo_nil ?_
                refine xq_then ?_
                refine xw_exit ?_
                refine xq_blk_ne rfl ?_
                refine xq_then_exit ?_
                refine xq_blk_ne rfl ?_
                refine xq_then_exit ?_
                refine xq_blk_ne rfl ?_
                refine xq_then_exit ?_
                refine xq_blk_eq ?_
                refine xq_then ?_
                refine xw_seq ?_
                refine xw_region ?_
                refine xq rfl trivial (o_mv rfl) ?_
                refine xq rfl trivial (o_as rfl) ?_
                refine xo_nil ?_
                refine xq_then ?_
                refine xw_ret ?_
                exact con_ret1 (.inl rfl) Try.results25 rfl [(b, BK 28 (iv _) 34)] (Kp.st (by repeat (first | exact Kp.nil | apply Kp.keep | refine Kp.new (by omega) ?_ | refine Kp.same (by assumption) ?_))) (⟨congrArg Value.bool (by simp_all [mayB]), by simp_all [mayZ]⟩)
            · try simp only [Bool.and_eq_true, Bool.or_eq_true, Bool.not_eq_true', Bool.not_eq_false', Bool.and_eq_false_iff, Bool.or_eq_false_iff, decide_eq_true_eq, decide_eq_false_iff_not, Int.not_le, Int.not_lt] at hc6
              refine xw_cond_f rfl rfl ?_
              refine xw_seq ?_
              refine xw_region ?_
              refine xq rfl trivial (o_eql rfl rfl) ?_
              refine xq rfl trivial (o_as rfl) ?_
              refine xo_nil ?_
              refine xq_then ?_
              refine xw_bool 16 rfl (fun hc7 => ?_) (fun hc7 => ?_)
              · try simp only [Bool.and_eq_true, Bool.or_eq_true, Bool.not_eq_true', Bool.not_eq_false', Bool.and_eq_false_iff, Bool.or_eq_false_iff, decide_eq_true_eq, decide_eq_false_iff_not, Int.not_le, Int.not_lt] at hc7
                refine xw_cond_t rfl rfl ?_
                refine xw_skip ?_
                refine xq_then ?_
                refine xw_cond_t rfl (rfl) ?_
                refine xw_exit ?_
                refine xq_then_exit ?_
                refine xq_then_exit ?_
                refine xq_blk_ne rfl ?_
                refine xq_then_exit ?_
                refine xq_blk_ne rfl ?_
                refine xq_then_exit ?_
                refine xq_blk_ne rfl ?_
                refine xq_then_exit ?_
                refine xq_blk_eq ?_
                refine xq_then ?_
                refine xw_seq ?_
                refine xw_seq ?_
                refine xw_cut [(0, _)] (lc rfl ln) [(3, .bool (txB (m 3)))] ?_ ?_
                · refine xw_region ?_
                  refine xq rfl trivial (o_mv rfl) ?_
                  refine xq rfl trivial (o_mv rfl) ?_
                  refine xq rfl ⟨_, rfl, rfl⟩ (o_mv rfl) ?_
                  refine xq rfl ⟨_, rfl, rfl⟩ (o_nilp rfl) ?_
                  first | refine xq rfl ⟨_, rfl, rfl⟩ (o_fa0 fl34_3 rfl) ?_ | refine xq rfl ⟨_, rfl, rfl⟩ (o_fa fl34_3 rfl) ?_
                  first | refine xq rfl ⟨_, rfl, rfl⟩ (o_ldV rfl ts3 (by repeat (first | exact List.Mem.head _ | apply List.Mem.tail | apply List.mem_append_right))) ?_ | refine xq rfl ⟨_, rfl, rfl⟩ (o_ldI rfl ts3 (by repeat (first | exact List.Mem.head _ | apply List.Mem.tail | apply List.mem_append_right)) (by omega) rfl) ?_ | refine xq rfl ⟨_, rfl, rfl⟩ (o_ld rfl ts3 (by repeat (first | exact List.Mem.head _ | apply List.Mem.tail | apply List.mem_append_right)) (by omega) rfl) ?_
                  refine xcallq rfl ⟨_, rfl, rfl⟩ kf38 rfl (fun w hw => tx_con _ w) ?_
                  refine xq rfl trivial (o_pick_t rfl rfl) ?_
                  refine xq rfl trivial (o_as rfl) ?_
                  refine xo_nil ?_
                  exact xq_cut (lce rfl (congrArg Value.bool (by have h01 : inB 0 0 1 = true := rfl; simp_all [updI, updRI] <;> grind)) (lc rfl ln)) (fun _ h => h)
                · refine xq_then ?_
                  refine xw_region ?_
                  refine xq rfl trivial (o_mv rfl) ?_
                  refine xq rfl trivial (o_nilp rfl) ?_
                  first | refine xq rfl trivial (o_fa0 fl34_3 rfl) ?_ | refine xq rfl trivial (o_fa fl34_3 rfl) ?_
                  first | refine xq0 trivial (o_stV rfl rfl ts3 rfl (by repeat (first | exact List.Mem.head _ | apply List.Mem.tail | apply List.mem_append_right)) (by repeat (first | exact Upd.here _ _ _ _ | apply Upd.there | apply Upd.seg))) ?_ | refine xq0 trivial (o_stI rfl rfl ts3 (by repeat (first | exact List.Mem.head _ | apply List.Mem.tail | apply List.mem_append_right)) (by omega) (by repeat (first | exact Upd.here _ _ _ _ | apply Upd.there | apply Upd.seg))) ?_ | refine xq0 trivial (o_st rfl rfl ts3 rfl (by repeat (first | exact List.Mem.head _ | apply List.Mem.tail | apply List.mem_append_right)) (by omega) (by repeat (first | exact Upd.here _ _ _ _ | apply Upd.there | apply Upd.seg))) ?_
                  refine xo_nil ?_
                  refine xq_then ?_
                  refine xw_exit ?_
                  refine xq_blk_ne rfl ?_
                  refine xq_then_exit ?_
                  refine xq_blk_ne rfl ?_
                  refine xq_then_exit ?_
                  refine xq_blk_ne rfl ?_
                  refine xq_then_exit ?_
                  refine xq_blk_eq ?_
                  refine xq_then ?_
                  refine xw_seq ?_
                  refine xw_region ?_
                  refine xq rfl trivial (o_mv rfl) ?_
                  refine xq rfl trivial (o_as rfl) ?_
                  refine xo_nil ?_
                  refine xq_then ?_
                  refine xw_ret ?_
                  exact con_ret1 (.inl rfl) Try.results25 rfl [(b, BK 28 (iv _) 34)] (Kp.st (by repeat (first | exact Kp.nil | apply Kp.keep | refine Kp.new (by omega) ?_ | refine Kp.same (by assumption) ?_))) (⟨congrArg Value.bool (by simp_all [mayB]), by simp_all [mayZ]⟩)
              · try simp only [Bool.and_eq_true, Bool.or_eq_true, Bool.not_eq_true', Bool.not_eq_false', Bool.and_eq_false_iff, Bool.or_eq_false_iff, decide_eq_true_eq, decide_eq_false_iff_not, Int.not_le, Int.not_lt] at hc7
                refine xw_cond_f rfl rfl ?_
                refine xw_seq ?_
                refine xw_region ?_
                refine xq rfl trivial (o_eql rfl rfl) ?_
                refine xq rfl trivial (o_as rfl) ?_
                refine xo_nil ?_
                refine xq_then ?_
                refine xw_bool 16 rfl (fun hc8 => ?_) (fun hc8 => ?_)
                · try simp only [Bool.and_eq_true, Bool.or_eq_true, Bool.not_eq_true', Bool.not_eq_false', Bool.and_eq_false_iff, Bool.or_eq_false_iff, decide_eq_true_eq, decide_eq_false_iff_not, Int.not_le, Int.not_lt] at hc8
                  refine xw_cond_t rfl rfl ?_
                  refine xw_skip ?_
                  refine xq_then ?_
                  refine xw_cond_t rfl (rfl) ?_
                  refine xw_exit ?_
                  refine xq_then_exit ?_
                  refine xq_then_exit ?_
                  refine xq_blk_ne rfl ?_
                  refine xq_then_exit ?_
                  refine xq_blk_ne rfl ?_
                  refine xq_then_exit ?_
                  refine xq_blk_ne rfl ?_
                  refine xq_then_exit ?_
                  refine xq_blk_eq ?_
                  refine xq_then ?_
                  refine xw_seq ?_
                  refine xw_seq ?_
                  refine xw_cut [(0, _)] (lc rfl ln) [(3, .bool (txB (m 3)))] ?_ ?_
                  · refine xw_region ?_
                    refine xq rfl trivial (o_mv rfl) ?_
                    refine xq rfl trivial (o_mv rfl) ?_
                    refine xq rfl ⟨_, rfl, rfl⟩ (o_mv rfl) ?_
                    refine xq rfl ⟨_, rfl, rfl⟩ (o_nilp rfl) ?_
                    first | refine xq rfl ⟨_, rfl, rfl⟩ (o_fa0 fl34_3 rfl) ?_ | refine xq rfl ⟨_, rfl, rfl⟩ (o_fa fl34_3 rfl) ?_
                    first | refine xq rfl ⟨_, rfl, rfl⟩ (o_ldV rfl ts3 (by repeat (first | exact List.Mem.head _ | apply List.Mem.tail | apply List.mem_append_right))) ?_ | refine xq rfl ⟨_, rfl, rfl⟩ (o_ldI rfl ts3 (by repeat (first | exact List.Mem.head _ | apply List.Mem.tail | apply List.mem_append_right)) (by omega) rfl) ?_ | refine xq rfl ⟨_, rfl, rfl⟩ (o_ld rfl ts3 (by repeat (first | exact List.Mem.head _ | apply List.Mem.tail | apply List.mem_append_right)) (by omega) rfl) ?_
                    refine xcallq rfl ⟨_, rfl, rfl⟩ kf38 rfl (fun w hw => tx_con _ w) ?_
                    refine xq rfl trivial (o_pick_t rfl rfl) ?_
                    refine xq rfl trivial (o_as rfl) ?_
                    refine xo_nil ?_
                    exact xq_cut (lce rfl (congrArg Value.bool (by have h01 : inB 0 0 1 = true := rfl; simp_all [updI, updRI] <;> grind)) (lc rfl ln)) (fun _ h => h)
                  · refine xq_then ?_
                    refine xw_region ?_
                    refine xq rfl trivial (o_mv rfl) ?_
                    refine xq rfl trivial (o_nilp rfl) ?_
                    first | refine xq rfl trivial (o_fa0 fl34_3 rfl) ?_ | refine xq rfl trivial (o_fa fl34_3 rfl) ?_
                    first | refine xq0 trivial (o_stV rfl rfl ts3 rfl (by repeat (first | exact List.Mem.head _ | apply List.Mem.tail | apply List.mem_append_right)) (by repeat (first | exact Upd.here _ _ _ _ | apply Upd.there | apply Upd.seg))) ?_ | refine xq0 trivial (o_stI rfl rfl ts3 (by repeat (first | exact List.Mem.head _ | apply List.Mem.tail | apply List.mem_append_right)) (by omega) (by repeat (first | exact Upd.here _ _ _ _ | apply Upd.there | apply Upd.seg))) ?_ | refine xq0 trivial (o_st rfl rfl ts3 rfl (by repeat (first | exact List.Mem.head _ | apply List.Mem.tail | apply List.mem_append_right)) (by omega) (by repeat (first | exact Upd.here _ _ _ _ | apply Upd.there | apply Upd.seg))) ?_
                    refine xo_nil ?_
                    refine xq_then ?_
                    refine xw_exit ?_
                    refine xq_blk_ne rfl ?_
                    refine xq_then_exit ?_
                    refine xq_blk_ne rfl ?_
                    refine xq_then_exit ?_
                    refine xq_blk_ne rfl ?_
                    refine xq_then_exit ?_
                    refine xq_blk_eq ?_
                    refine xq_then ?_
                    refine xw_seq ?_
                    refine xw_region ?_
                    refine xq rfl trivial (o_mv rfl) ?_
                    refine xq rfl trivial (o_as rfl) ?_
                    refine xo_nil ?_
                    refine xq_then ?_
                    refine xw_ret ?_
                    exact con_ret1 (.inl rfl) Try.results25 rfl [(b, BK 28 (iv _) 34)] (Kp.st (by repeat (first | exact Kp.nil | apply Kp.keep | refine Kp.new (by omega) ?_ | refine Kp.same (by assumption) ?_))) (⟨congrArg Value.bool (by simp_all [mayB]), by simp_all [mayZ]⟩)
                · try simp only [Bool.and_eq_true, Bool.or_eq_true, Bool.not_eq_true', Bool.not_eq_false', Bool.and_eq_false_iff, Bool.or_eq_false_iff, decide_eq_true_eq, decide_eq_false_iff_not, Int.not_le, Int.not_lt] at hc8
                  refine xw_cond_f rfl rfl ?_
                  refine xw_region ?_
                  refine xq rfl trivial (o_eql rfl rfl) ?_
                  refine xq rfl trivial (o_as rfl) ?_
                  refine xo_nil ?_
                  refine xq_then ?_
                  refine xw_bool 16 rfl (fun hc9 => ?_) (fun hc9 => ?_)
                  · try simp only [Bool.and_eq_true, Bool.or_eq_true, Bool.not_eq_true', Bool.not_eq_false', Bool.and_eq_false_iff, Bool.or_eq_false_iff, decide_eq_true_eq, decide_eq_false_iff_not, Int.not_le, Int.not_lt] at hc9
                    refine xw_cond_t rfl rfl ?_
                    refine xw_exit ?_
                    refine xq_then_exit ?_
                    refine xq_then_exit ?_
                    refine xq_blk_ne rfl ?_
                    refine xq_then_exit ?_
                    refine xq_blk_ne rfl ?_
                    refine xq_then_exit ?_
                    refine xq_blk_ne rfl ?_
                    refine xq_then_exit ?_
                    refine xq_blk_eq ?_
                    refine xq_then ?_
                    refine xw_seq ?_
                    refine xw_seq ?_
                    refine xw_cut [(0, _)] (lc rfl ln) [(3, .bool (txB (m 3)))] ?_ ?_
                    · refine xw_region ?_
                      refine xq rfl trivial (o_mv rfl) ?_
                      refine xq rfl trivial (o_mv rfl) ?_
                      refine xq rfl ⟨_, rfl, rfl⟩ (o_mv rfl) ?_
                      refine xq rfl ⟨_, rfl, rfl⟩ (o_nilp rfl) ?_
                      first | refine xq rfl ⟨_, rfl, rfl⟩ (o_fa0 fl34_3 rfl) ?_ | refine xq rfl ⟨_, rfl, rfl⟩ (o_fa fl34_3 rfl) ?_
                      first | refine xq rfl ⟨_, rfl, rfl⟩ (o_ldV rfl ts3 (by repeat (first | exact List.Mem.head _ | apply List.Mem.tail | apply List.mem_append_right))) ?_ | refine xq rfl ⟨_, rfl, rfl⟩ (o_ldI rfl ts3 (by repeat (first | exact List.Mem.head _ | apply List.Mem.tail | apply List.mem_append_right)) (by omega) rfl) ?_ | refine xq rfl ⟨_, rfl, rfl⟩ (o_ld rfl ts3 (by repeat (first | exact List.Mem.head _ | apply List.Mem.tail | apply List.mem_append_right)) (by omega) rfl) ?_
                      refine xcallq rfl ⟨_, rfl, rfl⟩ kf38 rfl (fun w hw => tx_con _ w) ?_
                      refine xq rfl trivial (o_pick_t rfl rfl) ?_
                      refine xq rfl trivial (o_as rfl) ?_
                      refine xo_nil ?_
                      exact xq_cut (lce rfl (congrArg Value.bool (by have h01 : inB 0 0 1 = true := rfl; simp_all [updI, updRI] <;> grind)) (lc rfl ln)) (fun _ h => h)
                    · refine xq_then ?_
                      refine xw_region ?_
                      refine xq rfl trivial (o_mv rfl) ?_
                      refine xq rfl trivial (o_nilp rfl) ?_
                      first | refine xq rfl trivial (o_fa0 fl34_3 rfl) ?_ | refine xq rfl trivial (o_fa fl34_3 rfl) ?_
                      first | refine xq0 trivial (o_stV rfl rfl ts3 rfl (by repeat (first | exact List.Mem.head _ | apply List.Mem.tail | apply List.mem_append_right)) (by repeat (first | exact Upd.here _ _ _ _ | apply Upd.there | apply Upd.seg))) ?_ | refine xq0 trivial (o_stI rfl rfl ts3 (by repeat (first | exact List.Mem.head _ | apply List.Mem.tail | apply List.mem_append_right)) (by omega) (by repeat (first | exact Upd.here _ _ _ _ | apply Upd.there | apply Upd.seg))) ?_ | refine xq0 trivial (o_st rfl rfl ts3 rfl (by repeat (first | exact List.Mem.head _ | apply List.Mem.tail | apply List.mem_append_right)) (by omega) (by repeat (first | exact Upd.here _ _ _ _ | apply Upd.there | apply Upd.seg))) ?_
                      refine xo_nil ?_
                      refine xq_then ?_
                      refine xw_exit ?_
                      refine xq_blk_ne rfl ?_
                      refine xq_then_exit ?_
                      refine xq_blk_ne rfl ?_
                      refine xq_then_exit ?_
                      refine xq_blk_ne rfl ?_
                      refine xq_then_exit ?_
                      refine xq_blk_eq ?_
                      refine xq_then ?_
                      refine xw_seq ?_
                      refine xw_region ?_
                      refine xq rfl trivial (o_mv rfl) ?_
                      refine xq rfl trivial (o_as rfl) ?_
                      refine xo_nil ?_
                      refine xq_then ?_
                      refine xw_ret ?_
                      exact con_ret1 (.inl rfl) Try.results25 rfl [(b, BK 28 (iv _) 34)] (Kp.st (by repeat (first | exact Kp.nil | apply Kp.keep | refine Kp.new (by omega) ?_ | refine Kp.same (by assumption) ?_))) (⟨congrArg Value.bool (by simp_all [mayB]), by simp_all [mayZ]⟩)
                  · try simp only [Bool.and_eq_true, Bool.or_eq_true, Bool.not_eq_true', Bool.not_eq_false', Bool.and_eq_false_iff, Bool.or_eq_false_iff, decide_eq_true_eq, decide_eq_false_iff_not, Int.not_le, Int.not_lt] at hc9
                    refine xw_cond_f rfl rfl ?_
                    refine xw_skip ?_
                    refine xq_then ?_
                    refine xw_seq ?_
                    refine xw_seq ?_
                    refine xw_region ?_
                    refine xq rfl trivial (o_eql rfl rfl) ?_
                    refine xq rfl trivial (o_as rfl) ?_
                    refine xo_nil ?_
                    refine xq_then ?_
                    refine xw_bool 21 rfl (fun hc10 => ?_) (fun hc10 => ?_)
                    · try simp only [Bool.and_eq_true, Bool.or_eq_true, Bool.not_eq_true', Bool.not_eq_false', Bool.and_eq_false_iff, Bool.or_eq_false_iff, decide_eq_true_eq, decide_eq_false_iff_not, Int.not_le, Int.not_lt] at hc10
                      refine xw_cond_t rfl rfl ?_
                      refine xw_exit ?_
                      refine xq_then_exit ?_
                      refine xq_then_exit ?_
                      refine xq_blk_ne rfl ?_
                      refine xq_then_exit ?_
                      refine xq_blk_ne rfl ?_
                      refine xq_then_exit ?_
                      refine xq_blk_ne rfl ?_
                      refine xq_then_exit ?_
                      refine xq_blk_ne rfl ?_
                      refine xq_then_exit ?_
                      refine xq_blk_eq ?_
                      refine xq_then ?_
                      refine xw_seq ?_
                      refine xw_seq ?_
                      refine xw_cut [(0, _)] (lc rfl ln) [(3, .bool (txB (m 3) && txB (m 9) && decide (m 9 < m 3)))] ?_ ?_
                      · refine xd_start (by kernel_rfl) (by kernel_rfl) (fun hok => ?_)
                        refine xd_pure hok 0 [(0, _)] rfl rfl rfl (lc rfl ln) (by kernel_rfl) trivial (fun H' hK => o_mv rfl) ?_
                        refine xd_pure hok 1 [(104, _)] rfl rfl rfl (lc rfl ln) (by kernel_rfl) trivial (fun H' hK => o_nilp rfl) ?_
                        first | refine xd_pure hok 2 [(105, _)] rfl rfl rfl (lc rfl ln) (by kernel_rfl) trivial (fun H' hK => o_fa0 fl34_3 rfl) ?_ | refine xd_pure hok 2 [(105, _)] rfl rfl rfl (lc rfl ln) (by kernel_rfl) trivial (fun H' hK => o_fa fl34_3 rfl) ?_
                        first | refine xd_rd hok 3 [(106, _)] rfl rfl rfl (lc rfl ln) (by kernel_rfl) trivial (by repeat (first | exact List.Mem.head _ | apply List.Mem.tail | apply List.mem_append_right)) (fun H' hy => o_ldV rfl ts3 hy) ?_ | refine xd_rd hok 3 [(106, _)] rfl rfl rfl (lc rfl ln) (by kernel_rfl) trivial (by repeat (first | exact List.Mem.head _ | apply List.Mem.tail | apply List.mem_append_right)) (fun H' hy => o_ldI rfl ts3 hy (by omega) rfl) ?_ | refine xd_rd hok 3 [(106, _)] rfl rfl rfl (lc rfl ln) (by kernel_rfl) trivial (by repeat (first | exact List.Mem.head _ | apply List.Mem.tail | apply List.mem_append_right)) (fun H' hy => o_ld rfl ts3 hy (by omega) rfl) ?_
                        refine xd_pure hok 4 [(107, _)] rfl rfl rfl (lc rfl ln) (by kernel_rfl) trivial (fun H' hK => o_callq kf38 rfl (fun w hw => tx_con _ w)) ?_
                        refine xd_pure hok 5 [(108, _)] rfl rfl rfl (lc rfl ln) (by kernel_rfl) trivial (fun H' hK => o_mv rfl) ?_
                        refine xd_bool 109 rfl (fun h109 => ?_) (fun h109 => ?_)
                        · try simp only [Bool.and_eq_true, Bool.or_eq_true, Bool.not_eq_true', Bool.not_eq_false', Bool.and_eq_false_iff, Bool.or_eq_false_iff, decide_eq_true_eq, decide_eq_false_iff_not, Int.not_le, Int.not_lt] at h109
                          refine xd_pure hok 6 [(0, _), (109, _)] rfl rfl rfl (lc rfl (lc rfl ln)) (by kernel_rfl) ⟨_, rfl, rfl⟩ (fun H' hK => o_mv rfl) ?_
                          refine xd_pure hok 7 [(110, _), (109, _)] rfl rfl rfl (lc rfl (lc rfl ln)) (by kernel_rfl) ⟨_, rfl, rfl⟩ (fun H' hK => o_nilp rfl) ?_
                          first | refine xd_pure hok 8 [(111, _), (109, _)] rfl rfl rfl (lc rfl (lc rfl ln)) (by kernel_rfl) ⟨_, rfl, rfl⟩ (fun H' hK => o_fa0 fl34_8 rfl) ?_ | refine xd_pure hok 8 [(111, _), (109, _)] rfl rfl rfl (lc rfl (lc rfl ln)) (by kernel_rfl) ⟨_, rfl, rfl⟩ (fun H' hK => o_fa fl34_8 rfl) ?_
                          first | refine xd_rd hok 9 [(112, _), (109, _)] rfl rfl rfl (lc rfl (lc rfl ln)) (by kernel_rfl) ⟨_, rfl, rfl⟩ (by repeat (first | exact List.Mem.head _ | apply List.Mem.tail | apply List.mem_append_right)) (fun H' hy => o_ldV rfl ts3 hy) ?_ | refine xd_rd hok 9 [(112, _), (109, _)] rfl rfl rfl (lc rfl (lc rfl ln)) (by kernel_rfl) ⟨_, rfl, rfl⟩ (by repeat (first | exact List.Mem.head _ | apply List.Mem.tail | apply List.mem_append_right)) (fun H' hy => o_ldI rfl ts3 hy (by omega) rfl) ?_ | refine xd_rd hok 9 [(112, _), (109, _)] rfl rfl rfl (lc rfl (lc rfl ln)) (by kernel_rfl) ⟨_, rfl, rfl⟩ (by repeat (first | exact List.Mem.head _ | apply List.Mem.tail | apply List.mem_append_right)) (fun H' hy => o_ld rfl ts3 hy (by omega) rfl) ?_
                          refine xd_pure hok 10 [(113, _), (109, _)] rfl rfl rfl (lc rfl (lc rfl ln)) (by kernel_rfl) ⟨_, rfl, rfl⟩ (fun H' hK => o_callq kf38 rfl (fun w hw => tx_con _ w)) ?_
                          refine xd_pure hok 11 [(109, _), (114, _)] rfl rfl rfl (lc rfl (lc rfl ln)) (by kernel_rfl) trivial (fun H' hK => o_pick_t rfl rfl) ?_
                          refine xd_pure hok 12 [(115, _)] rfl rfl rfl (lc rfl ln) (by kernel_rfl) trivial (fun H' hK => o_mv rfl) ?_
                          refine xd_bool 116 rfl (fun h116 => ?_) (fun h116 => ?_)
                          · try simp only [Bool.and_eq_true, Bool.or_eq_true, Bool.not_eq_true', Bool.not_eq_false', Bool.and_eq_false_iff, Bool.or_eq_false_iff, decide_eq_true_eq, decide_eq_false_iff_not, Int.not_le, Int.not_lt] at h116
                            refine xd_pure hok 13 [(0, _), (116, _)] rfl rfl rfl (lc rfl (lc rfl ln)) (by kernel_rfl) ⟨_, rfl, rfl⟩ (fun H' hK => o_mv rfl) ?_
                            refine xd_pure hok 14 [(117, _), (116, _)] rfl rfl rfl (lc rfl (lc rfl ln)) (by kernel_rfl) ⟨_, rfl, rfl⟩ (fun H' hK => o_nilp rfl) ?_
                            first | refine xd_pure hok 15 [(118, _), (116, _)] rfl rfl rfl (lc rfl (lc rfl ln)) (by kernel_rfl) ⟨_, rfl, rfl⟩ (fun H' hK => o_fa0 fl34_8 rfl) ?_ | refine xd_pure hok 15 [(118, _), (116, _)] rfl rfl rfl (lc rfl (lc rfl ln)) (by kernel_rfl) ⟨_, rfl, rfl⟩ (fun H' hK => o_fa fl34_8 rfl) ?_
                            first | refine xd_rd hok 16 [(119, _), (116, _)] rfl rfl rfl (lc rfl (lc rfl ln)) (by kernel_rfl) ⟨_, rfl, rfl⟩ (by repeat (first | exact List.Mem.head _ | apply List.Mem.tail | apply List.mem_append_right)) (fun H' hy => o_ldV rfl ts3 hy) ?_ | refine xd_rd hok 16 [(119, _), (116, _)] rfl rfl rfl (lc rfl (lc rfl ln)) (by kernel_rfl) ⟨_, rfl, rfl⟩ (by repeat (first | exact List.Mem.head _ | apply List.Mem.tail | apply List.mem_append_right)) (fun H' hy => o_ldI rfl ts3 hy (by omega) rfl) ?_ | refine xd_rd hok 16 [(119, _), (116, _)] rfl rfl rfl (lc rfl (lc rfl ln)) (by kernel_rfl) ⟨_, rfl, rfl⟩ (by repeat (first | exact List.Mem.head _ | apply List.Mem.tail | apply List.mem_append_right)) (fun H' hy => o_ld rfl ts3 hy (by omega) rfl) ?_
                            refine xd_pure hok 17 [(0, _), (116, _)] rfl rfl rfl (lc rfl (lc rfl ln)) (by kernel_rfl) ⟨_, rfl, rfl⟩ (fun H' hK => o_mv rfl) ?_
                            refine xd_pure hok 18 [(121, _), (116, _)] rfl rfl rfl (lc rfl (lc rfl ln)) (by kernel_rfl) ⟨_, rfl, rfl⟩ (fun H' hK => o_nilp rfl) ?_
                            first | refine xd_pure hok 19 [(122, _), (116, _)] rfl rfl rfl (lc rfl (lc rfl ln)) (by kernel_rfl) ⟨_, rfl, rfl⟩ (fun H' hK => o_fa0 fl34_3 rfl) ?_ | refine xd_pure hok 19 [(122, _), (116, _)] rfl rfl rfl (lc rfl (lc rfl ln)) (by kernel_rfl) ⟨_, rfl, rfl⟩ (fun H' hK => o_fa fl34_3 rfl) ?_
                            first | refine xd_rd hok 20 [(123, _), (116, _)] rfl rfl rfl (lc rfl (lc rfl ln)) (by kernel_rfl) ⟨_, rfl, rfl⟩ (by repeat (first | exact List.Mem.head _ | apply List.Mem.tail | apply List.mem_append_right)) (fun H' hy => o_ldV rfl ts3 hy) ?_ | refine xd_rd hok 20 [(123, _), (116, _)] rfl rfl rfl (lc rfl (lc rfl ln)) (by kernel_rfl) ⟨_, rfl, rfl⟩ (by repeat (first | exact List.Mem.head _ | apply List.Mem.tail | apply List.mem_append_right)) (fun H' hy => o_ldI rfl ts3 hy (by omega) rfl) ?_ | refine xd_rd hok 20 [(123, _), (116, _)] rfl rfl rfl (lc rfl (lc rfl ln)) (by kernel_rfl) ⟨_, rfl, rfl⟩ (by repeat (first | exact List.Mem.head _ | apply List.Mem.tail | apply List.mem_append_right)) (fun H' hy => o_ld rfl ts3 hy (by omega) rfl) ?_
                            refine xd_pure hok 21 [(120, _), (124, _), (116, _)] rfl rfl rfl (lc rfl (lc rfl (lc rfl ln))) (by kernel_rfl) ⟨_, rfl, rfl⟩ (fun H' hK => o_lss rfl rfl) ?_
                            refine xd_pure hok 22 [(116, _), (125, _)] rfl rfl rfl (lc rfl (lc rfl ln)) (by kernel_rfl) trivial (fun H' hK => o_pick_t rfl rfl) ?_
                            refine xd_pure hok 23 [(126, _)] rfl rfl rfl (lc rfl ln) (by kernel_rfl) trivial (fun H' hK => o_as rfl) ?_
                            refine xd_end hok (by kernel_rfl) ?_
                            exact xq_cut (lce rfl (congrArg Value.bool (by have h01 : inB 0 0 1 = true := rfl; simp_all [updI, updRI] <;> grind)) (lc rfl ln)) (fun _ h => h)
                          · try simp only [Bool.and_eq_true, Bool.or_eq_true, Bool.not_eq_true', Bool.not_eq_false', Bool.and_eq_false_iff, Bool.or_eq_false_iff, decide_eq_true_eq, decide_eq_false_iff_not, Int.not_le, Int.not_lt] at h116
                            refine xd_skip hok 13 [(0, _), (116, _)] rfl rfl rfl (lc rfl (lc rfl ln)) (by kernel_rfl) ⟨_, rfl, rfl⟩ ?_
                            refine xd_skip hok 14 [(117, _), (116, _)] rfl rfl rfl (lc rfl (lc rfl ln)) (by kernel_rfl) ⟨_, rfl, rfl⟩ ?_
                            refine xd_skip hok 15 [(118, _), (116, _)] rfl rfl rfl (lc rfl (lc rfl ln)) (by kernel_rfl) ⟨_, rfl, rfl⟩ ?_
                            refine xd_skip hok 16 [(119, _), (116, _)] rfl rfl rfl (lc rfl (lc rfl ln)) (by kernel_rfl) ⟨_, rfl, rfl⟩ ?_
                            refine xd_skip hok 17 [(0, _), (116, _)] rfl rfl rfl (lc rfl (lc rfl ln)) (by kernel_rfl) ⟨_, rfl, rfl⟩ ?_
                            refine xd_skip hok 18 [(121, _), (116, _)] rfl rfl rfl (lc rfl (lc rfl ln)) (by kernel_rfl) ⟨_, rfl, rfl⟩ ?_
                            refine xd_skip hok 19 [(122, _), (116, _)] rfl rfl rfl (lc rfl (lc rfl ln)) (by kernel_rfl) ⟨_, rfl, rfl⟩ ?_
                            refine xd_skip hok 20 [(123, _), (116, _)] rfl rfl rfl (lc rfl (lc rfl ln)) (by kernel_rfl) ⟨_, rfl, rfl⟩ ?_
                            refine xd_skip hok 21 [(120, _), (124, _), (116, _)] rfl rfl rfl (lc rfl (lc rfl (lc rfl ln))) (by kernel_rfl) ⟨_, rfl, rfl⟩ ?_
                            refine xd_pure hok 22 [(116, _), (125, _)] rfl rfl rfl (lc rfl (lc rfl ln)) (by kernel_rfl) trivial (fun H' hK => o_pick_f rfl rfl) ?_
                            refine xd_pure hok 23 [(126, _)] rfl rfl rfl (lc rfl ln) (by kernel_rfl) trivial (fun H' hK => o_as rfl) ?_
                            refine xd_end hok (by kernel_rfl) ?_
                            exact xq_cut (lce rfl (congrArg Value.bool (by have h01 : inB 0 0 1 = true := rfl; simp_all [updI, updRI] <;> grind)) (lc rfl ln)) (fun _ h => h)
                        · try simp only [Bool.and_eq_true, Bool.or_eq_true, Bool.not_eq_true', Bool.not_eq_false', Bool.and_eq_false_iff, Bool.or_eq_false_iff, decide_eq_true_eq, decide_eq_false_iff_not, Int.not_le, Int.not_lt] at h109
                          refine xd_skip hok 6 [(0, _), (109, _)] rfl rfl rfl (lc rfl (lc rfl ln)) (by kernel_rfl) ⟨_, rfl, rfl⟩ ?_
                          refine xd_skip hok 7 [(110, _), (109, _)] rfl rfl rfl (lc rfl (lc rfl ln)) (by kernel_rfl) ⟨_, rfl, rfl⟩ ?_
                          refine xd_skip hok 8 [(111, _), (109, _)] rfl rfl rfl (lc rfl (lc rfl ln)) (by kernel_rfl) ⟨_, rfl, rfl⟩ ?_
                          refine xd_skip hok 9 [(112, _), (109, _)] rfl rfl rfl (lc rfl (lc rfl ln)) (by kernel_rfl) ⟨_, rfl, rfl⟩ ?_
                          refine xd_skip hok 10 [(113, _), (109, _)] rfl rfl rfl (lc rfl (lc rfl ln)) (by kernel_rfl) ⟨_, rfl, rfl⟩ ?_
                          refine xd_pure hok 11 [(109, _), (114, _)] rfl rfl rfl (lc rfl (lc rfl ln)) (by kernel_rfl) trivial (fun H' hK => o_pick_f rfl rfl) ?_
                          refine xd_pure hok 12 [(115, _)] rfl rfl rfl (lc rfl ln) (by kernel_rfl) trivial (fun H' hK => o_mv rfl) ?_
                          refine xd_skip hok 13 [(0, _), (116, _)] rfl rfl rfl (lc rfl (lc rfl ln)) (by kernel_rfl) ⟨_, rfl, rfl⟩ ?_
                          refine xd_skip hok 14 [(117, _), (116, _)] rfl rfl rfl (lc rfl (lc rfl ln)) (by kernel_rfl) ⟨_, rfl, rfl⟩ ?_
                          refine xd_skip hok 15 [(118, _), (116, _)] rfl rfl rfl (lc rfl (lc rfl ln)) (by kernel_rfl) ⟨_, rfl, rfl⟩ ?_
                          refine xd_skip hok 16 [(119, _), (116, _)] rfl rfl rfl (lc rfl (lc rfl ln)) (by kernel_rfl) ⟨_, rfl, rfl⟩ ?_
                          refine xd_skip hok 17 [(0, _), (116, _)] rfl rfl rfl (lc rfl (lc rfl ln)) (by kernel_rfl) ⟨_, rfl, rfl⟩ ?_
                          refine xd_skip hok 18 [(121, _), (116, _)] rfl rfl rfl (lc rfl (lc rfl ln)) (by kernel_rfl) ⟨_, rfl, rfl⟩ ?_
                          refine xd_skip hok 19 [(122, _), (116, _)] rfl rfl rfl (lc rfl (lc rfl ln)) (by kernel_rfl) ⟨_, rfl, rfl⟩ ?_
                          refine xd_skip hok 20 [(123, _), (116, _)] rfl rfl rfl (lc rfl (lc rfl ln)) (by kernel_rfl) ⟨_, rfl, rfl⟩ ?_
                          refine xd_skip hok 21 [(120, _), (124, _), (116, _)] rfl rfl rfl (lc rfl (lc rfl (lc rfl ln))) (by kernel_rfl) ⟨_, rfl, rfl⟩ ?_
                          refine xd_pure hok 22 [(116, _), (125, _)] rfl rfl rfl (lc rfl (lc rfl ln)) (by kernel_rfl) trivial (fun H' hK => o_pick_f rfl rfl) ?_
                          refine xd_pure hok 23 [(126, _)] rfl rfl rfl (lc rfl ln) (by kernel_rfl) trivial (fun H' hK => o_as rfl) ?_
                          refine xd_end hok (by kernel_rfl) ?_
                          exact xq_cut (lce rfl (congrArg Value.bool (by have h01 : inB 0 0 1 = true := rfl; simp_all [updI, updRI] <;> grind)) (lc rfl ln)) (fun _ h => h)
                      · refine xq_then ?_
                        refine xw_region ?_
                        refine xq rfl trivial (o_mv rfl) ?_
                        refine xq rfl trivial (o_mv rfl) ?_
                        refine xq rfl trivial (o_nilp rfl) ?_
                        first | refine xq rfl trivial (o_fa0 fl34_3 rfl) ?_ | refine xq rfl trivial (o_fa fl34_3 rfl) ?_
                        first | refine xq0 trivial (o_stV rfl rfl ts3 rfl (by repeat (first | exact List.Mem.head _ | apply List.Mem.tail | apply List.mem_append_right)) (by repeat (first | exact Upd.here _ _ _ _ | apply Upd.there | apply Upd.seg))) ?_ | refine xq0 trivial (o_stI rfl rfl ts3 (by repeat (first | exact List.Mem.head _ | apply List.Mem.tail | apply List.mem_append_right)) (by omega) (by repeat (first | exact Upd.here _ _ _ _ | apply Upd.there | apply Upd.seg))) ?_ | refine xq0 trivial (o_st rfl rfl ts3 rfl (by repeat (first | exact List.Mem.head _ | apply List.Mem.tail | apply List.mem_append_right)) (by omega) (by repeat (first | exact Upd.here _ _ _ _ | apply Upd.there | apply Upd.seg))) ?_
                        refine xq rfl trivial (o_nilp rfl) ?_
                        first | refine xq rfl trivial (o_fa0 fl34_8 rfl) ?_ | refine xq rfl trivial (o_fa fl34_8 rfl) ?_
                        first | refine xq0 trivial (o_stV rfl rfl ts3 rfl (by repeat (first | exact List.Mem.head _ | apply List.Mem.tail | apply List.mem_append_right)) (by repeat (first | exact Upd.here _ _ _ _ | apply Upd.there | apply Upd.seg))) ?_ | refine xq0 trivial (o_stI rfl rfl ts3 (by repeat (first | exact List.Mem.head _ | apply List.Mem.tail | apply List.mem_append_right)) (by omega) (by repeat (first | exact Upd.here _ _ _ _ | apply Upd.there | apply Upd.seg))) ?_ | refine xq0 trivial (o_st rfl rfl ts3 rfl (by repeat (first | exact List.Mem.head _ | apply List.Mem.tail | apply List.mem_append_right)) (by omega) (by repeat (first | exact Upd.here _ _ _ _ | apply Upd.there | apply Upd.seg))) ?_
                        refine xo_nil ?_
                        refine xq_then ?_
                        refine xw_exit ?_
                        refine xq_blk_ne rfl ?_
                        refine xq_then_exit ?_
                        refine xq_blk_ne rfl ?_
                        refine xq_then_exit ?_
                        refine xq_blk_eq ?_
                        refine xq_then ?_
                        refine xw_seq ?_
                        refine xw_region ?_
                        refine xq rfl trivial (o_mv rfl) ?_
                        refine xq rfl trivial (o_as rfl) ?_
                        refine xo_nil ?_
                        refine xq_then ?_
                        refine xw_ret ?_
                        exact con_ret1 (.inl rfl) Try.results25 rfl [(b, BK 28 (iv _) 34)] (Kp.st (by repeat (first | exact Kp.nil | apply Kp.keep | refine Kp.new (by omega) ?_ | refine Kp.same (by assumption) ?_))) (⟨congrArg Value.bool (by simp_all [mayB]), by simp_all [mayZ]⟩)
                    · try simp only [Bool.and_eq_true, Bool.or_eq_true, Bool.not_eq_true', Bool.not_eq_false', Bool.and_eq_false_iff, Bool.or_eq_false_iff, decide_eq_true_eq, decide_eq_false_iff_not, Int.not_le, Int.not_lt] at hc10
                      refine xw_cond_f rfl rfl ?_
                      refine xw_skip ?_
                      refine xq_then ?_
                      refine xw_seq ?_
                      refine xw_region ?_
                      refine xq rfl trivial (o_eql rfl rfl) ?_
                      refine xq rfl trivial (o_as rfl) ?_
                      refine xo_nil ?_
                      refine xq_then ?_
                      refine xw_bool 23 rfl (fun hc11 => ?_) (fun hc11 => ?_)
                      · try simp only [Bool.and_eq_true, Bool.or_eq_true, Bool.not_eq_true', Bool.not_eq_false', Bool.and_eq_false_iff, Bool.or_eq_false_iff, decide_eq_true_eq, decide_eq_false_iff_not, Int.not_le, Int.not_lt] at hc11
                        refine xw_cond_t rfl rfl ?_
                        refine xw_exit ?_
                        refine xq_then_exit ?_
                        refine xq_blk_ne rfl ?_
                        refine xq_then_exit ?_
                        refine xq_blk_ne rfl ?_
                        refine xq_then_exit ?_
                        refine xq_blk_ne rfl ?_
                        refine xq_then_exit ?_
                        refine xq_blk_ne rfl ?_
                        refine xq_then_exit ?_
                        refine xq_blk_ne rfl ?_
                        refine xq_then_exit ?_
                        refine xq_blk_eq ?_
                        refine xq_then ?_
                        refine xw_seq ?_
                        refine xw_seq ?_
                        refine xw_region ?_
                        refine xq rfl trivial (o_mv rfl) ?_
                        refine xq rfl trivial (o_nilp rfl) ?_
                        first | refine xq rfl trivial (o_ldW rfl ts34 (by repeat (first | exact List.Mem.head _ | apply List.Mem.tail | apply List.mem_append_right))) ?_ | refine xq rfl trivial (o_ldSI rfl ts34 (by repeat (first | exact List.Mem.head _ | apply List.Mem.tail | apply List.mem_append_right)) (by omega) (fun _ _ => rfl)) ?_ | refine xq rfl trivial (o_ldS rfl ts34 (by repeat (first | exact List.Mem.head _ | apply List.Mem.tail | apply List.mem_append_right)) (by omega) (fun _ _ => rfl)) ?_
                        refine xcallq rfl trivial kf39 rfl (fun w hw => path_con _ w) ?_
                        refine xq rfl trivial (o_as rfl) ?_
                        refine xo_nil ?_
                        refine xq_then ?_
                        refine xw_region ?_
                        refine xq rfl trivial (o_mv rfl) ?_
                        refine xq rfl trivial (o_mv rfl) ?_
                        refine xq rfl trivial (o_mv rfl) ?_
                        refine xq rfl trivial (o_mv rfl) ?_
                        refine xq rfl trivial (o_bldA ea32 ze32) ?_
                        refine xq rfl trivial (o_nilp rfl) ?_
                        first | refine xq rfl trivial (o_fa0 fl34_10 rfl) ?_ | refine xq rfl trivial (o_fa fl34_10 rfl) ?_
                        first | refine xq0 trivial (o_stV rfl rfl ts3 rfl (by repeat (first | exact List.Mem.head _ | apply List.Mem.tail | apply List.mem_append_right)) (by repeat (first | exact Upd.here _ _ _ _ | apply Upd.there | apply Upd.seg))) ?_ | refine xq0 trivial (o_stI rfl rfl ts3 (by repeat (first | exact List.Mem.head _ | apply List.Mem.tail | apply List.mem_append_right)) (by omega) (by repeat (first | exact Upd.here _ _ _ _ | apply Upd.there | apply Upd.seg))) ?_ | refine xq0 trivial (o_st rfl rfl ts3 rfl (by repeat (first | exact List.Mem.head _ | apply List.Mem.tail | apply List.mem_append_right)) (by omega) (by repeat (first | exact Upd.here _ _ _ _ | apply Upd.there | apply Upd.seg))) ?_
                        refine xq rfl trivial (o_nilp rfl) ?_
                        first | refine xq rfl trivial (o_fa0 fl34_8 rfl) ?_ | refine xq rfl trivial (o_fa fl34_8 rfl) ?_
                        first | refine xq0 trivial (o_stV rfl rfl ts3 rfl (by repeat (first | exact List.Mem.head _ | apply List.Mem.tail | apply List.mem_append_right)) (by repeat (first | exact Upd.here _ _ _ _ | apply Upd.there | apply Upd.seg))) ?_ | refine xq0 trivial (o_stI rfl rfl ts3 (by repeat (first | exact List.Mem.head _ | apply List.Mem.tail | apply List.mem_append_right)) (by omega) (by repeat (first | exact Upd.here _ _ _ _ | apply Upd.there | apply Upd.seg))) ?_ | refine xq0 trivial (o_st rfl rfl ts3 rfl (by repeat (first | exact List.Mem.head _ | apply List.Mem.tail | apply List.mem_append_right)) (by omega) (by repeat (first | exact Upd.here _ _ _ _ | apply Upd.there | apply Upd.seg))) ?_
                        refine xq rfl trivial (o_nilp rfl) ?_
                        first | refine xq rfl trivial (o_fa0 fl34_9 rfl) ?_ | refine xq rfl trivial (o_fa fl34_9 rfl) ?_
                        first | refine xq0 trivial (o_stV rfl rfl ts3 rfl (by repeat (first | exact List.Mem.head _ | apply List.Mem.tail | apply List.mem_append_right)) (by repeat (first | exact Upd.here _ _ _ _ | apply Upd.there | apply Upd.seg))) ?_ | refine xq0 trivial (o_stI rfl rfl ts3 (by repeat (first | exact List.Mem.head _ | apply List.Mem.tail | apply List.mem_append_right)) (by omega) (by repeat (first | exact Upd.here _ _ _ _ | apply Upd.there | apply Upd.seg))) ?_ | refine xq0 trivial (o_st rfl rfl ts3 rfl (by repeat (first | exact List.Mem.head _ | apply List.Mem.tail | apply List.mem_append_right)) (by omega) (by repeat (first | exact Upd.here _ _ _ _ | apply Upd.there | apply Upd.seg))) ?_
                        refine xq rfl trivial (o_nilp rfl) ?_
                        first | refine xq rfl trivial (o_fa0 fl34_11 rfl) ?_ | refine xq rfl trivial (o_fa fl34_11 rfl) ?_
                        first | refine xq0 trivial (o_stWI rfl rfl ts32 (by repeat (first | exact List.Mem.head _ | apply List.Mem.tail | apply List.mem_append_right)) (by repeat (first | exact Upd.here _ _ _ _ | apply Upd.there | apply Upd.seg))) ?_ | refine xq0 trivial (o_stSI rfl rfl ts32 (by repeat (first | exact List.Mem.head _ | apply List.Mem.tail | apply List.mem_append_right)) (by omega) (by repeat (first | exact Upd.here _ _ _ _ | apply Upd.there | apply Upd.seg))) ?_
                        refine xo_nil ?_
                        refine xq_then ?_
                        refine xw_exit ?_
                        refine xq_blk_ne rfl ?_
                        refine xq_then_exit ?_
                        refine xq_blk_eq ?_
                        refine xq_then ?_
                        refine xw_seq ?_
                        refine xw_region ?_
                        refine xq rfl trivial (o_mv rfl) ?_
                        refine xq rfl trivial (o_as rfl) ?_
                        refine xo_nil ?_
                        refine xq_then ?_
                        refine xw_ret ?_
                        exact con_ret1 (.inl rfl) Try.results25 rfl [(b, BK 28 (iv _) 34)] (Kp.st (by repeat (first | exact Kp.nil | apply Kp.keep | refine Kp.new (by omega) ?_ | refine Kp.same (by assumption) ?_))) (⟨congrArg Value.bool (by simp_all [mayB]), by simp_all [mayZ]⟩)
                      · try simp only [Bool.and_eq_true, Bool.or_eq_true, Bool.not_eq_true', Bool.not_eq_false', Bool.and_eq_false_iff, Bool.or_eq_false_iff, decide_eq_true_eq, decide_eq_false_iff_not, Int.not_le, Int.not_lt] at hc11
                        refine xw_cond_f rfl rfl ?_
                        refine xw_skip ?_
                        refine xq_then ?_
                        refine xw_exit ?_
                        refine xq_blk_ne rfl ?_
                        refine xq_then_exit ?_
                        refine xq_blk_ne rfl ?_
                        refine xq_then_exit ?_
                        refine xq_blk_ne rfl ?_
                        refine xq_then_exit ?_
                        refine xq_blk_ne rfl ?_
                        refine xq_then_exit ?_
                        refine xq_blk_ne rfl ?_
                        refine xq_then_exit ?_
                        refine xq_blk_ne rfl ?_
                        refine xq_then_exit ?_
                        refine xq_blk_eq ?_
                        refine xq_then ?_
                        refine xw_seq ?_
                        refine xw_seq ?_
                        refine xw_region ?_
                        refine xq rfl trivial (o_as rfl) ?_
                        refine xo_nil ?_
                        refine xq_then ?_
                        refine xw_ret ?_
                        refine xq_then_ret ?_
                        refine xq_blk_ret ?_
                        refine xq_then_ret ?_
                        exact con_ret1 (.inl rfl) Try.results25 rfl [(b, BK 28 (iv _) 34)] (Kp.st (by repeat (first | exact Kp.nil | apply Kp.keep | refine Kp.new (by omega) ?_ | refine Kp.same (by assumption) ?_))) (⟨congrArg Value.bool (by simp_all [mayB]), by simp_all [mayZ]⟩)

theorem ok_con (m : Nat → Int) (w : World) : Con Try.prog 13 #[AI 28 m] w (Is (if okB m then .nilIface else (.iface 59 (.int .i64 5))) []) := by
  refine con_enter (n := 24) [(0, _)] Try.func13 rfl Try.ntmps13 rfl (lac rfl lan) ?_
  refine xw_seq ?_
  refine xw_region ?_
  refine xo rfl trivial (o_boxA rfl) ?_
  rintro _ _ ⟨b1, hb1, rfl, rfl⟩
  refine xq rfl trivial (o_as rfl) ?_
  refine xo_nil ?_
  refine xq_then ?_
  refine xw_seq ?_
  refine xw_region ?_
  first | refine xq rfl trivial (o_ldW rfl ts34 (by repeat (first | exact List.Mem.head _ | apply List.Mem.tail | apply List.mem_append_right))) ?_ | refine xq rfl trivial (o_ldSI rfl ts34 (by repeat (first | exact List.Mem.head _ | apply List.Mem.tail | apply List.mem_append_right)) (by omega) (fun _ _ => rfl)) ?_ | refine xq rfl trivial (o_ldS rfl ts34 (by repeat (first | exact List.Mem.head _ | apply List.Mem.tail | apply List.mem_append_right)) (by omega) (fun _ _ => rfl)) ?_
  refine xo rfl trivial (o_alloc ze34 rfl) ?_
  rintro _ _ ⟨b3, hb3, rfl, rfl⟩
  first | refine xq0 trivial (o_stWI rfl rfl ts34 (by repeat (first | exact List.Mem.head _ | apply List.Mem.tail | apply List.mem_append_right)) (by repeat (first | exact Upd.here _ _ _ _ | apply Upd.there | apply Upd.seg))) ?_ | refine xq0 trivial (o_stSI rfl rfl ts34 (by repeat (first | exact List.Mem.head _ | apply List.Mem.tail | apply List.mem_append_right)) (by omega) (by repeat (first | exact Upd.here _ _ _ _ | apply Upd.there | apply Upd.seg))) ?_
  refine xo_nil ?_
  refine xq_then ?_
  refine xw_seq ?_
  refine xw_seq ?_
  refine xw_region ?_
  first | refine xq rfl trivial (o_ldW rfl ts34 (by repeat (first | exact List.Mem.head _ | apply List.Mem.tail | apply List.mem_append_right))) ?_ | refine xq rfl trivial (o_ldSI rfl ts34 (by repeat (first | exact List.Mem.head _ | apply List.Mem.tail | apply List.mem_append_right)) (by omega) (fun _ _ => rfl)) ?_ | refine xq rfl trivial (o_ldS rfl ts34 (by repeat (first | exact List.Mem.head _ | apply List.Mem.tail | apply List.mem_append_right)) (by omega) (fun _ _ => rfl)) ?_
  refine xcallq rfl trivial kf24 rfl (fun w hw => ends_con _ w) ?_
  refine xq rfl trivial (o_not rfl) ?_
  refine xq rfl trivial (o_mv rfl) ?_
  refine xo_bool 8 rfl (fun h8 => ?_) (fun h8 => ?_)
  · try simp only [Bool.and_eq_true, Bool.or_eq_true, Bool.not_eq_true', Bool.not_eq_false', Bool.and_eq_false_iff, Bool.or_eq_false_iff, decide_eq_true_eq, decide_eq_false_iff_not, Int.not_le, Int.not_lt] at h8
    refine xs rfl ⟨_, rfl, rfl⟩ ?_
    refine xs rfl ⟨_, rfl, rfl⟩ ?_
    refine xq rfl trivial (o_pick_t rfl rfl) ?_
    refine xq rfl trivial (o_mv rfl) ?_
    refine xs rfl ⟨_, rfl, rfl⟩ ?_
    refine xs rfl ⟨_, rfl, rfl⟩ ?_
    refine xs rfl ⟨_, rfl, rfl⟩ ?_
    refine xs rfl ⟨_, rfl, rfl⟩ ?_
    refine xs rfl ⟨_, rfl, rfl⟩ ?_
    refine xs rfl ⟨_, rfl, rfl⟩ ?_
    refine xs rfl ⟨_, rfl, rfl⟩ ?_
    refine xs rfl ⟨_, rfl, rfl⟩ ?_
    refine xs rfl ⟨_, rfl, rfl⟩ ?_
    refine xq rfl trivial (o_pick_t rfl rfl) ?_
    refine xo_nil ?_
    refine xq_then ?_
    refine xw_cond_t rfl (rfl) ?_
    refine xw_seq ?_
    refine xw_region ?_
    refine xq rfl trivial (o_mki rfl Try.underlying59 rfl) ?_
    refine xq rfl trivial (o_as rfl) ?_
    refine xo_nil ?_
    refine xq_then ?_
    refine xw_ret ?_
    refine xq_then_ret ?_
    exact con_ret1 (.inl rfl) Try.results13 rfl [] (Kp.st (by repeat (first | exact Kp.nil | apply Kp.keep | refine Kp.new (by omega) ?_ | refine Kp.same (by assumption) ?_))) (⟨by simp_all [okB, headM], rfl⟩)
  · try simp only [Bool.and_eq_true, Bool.or_eq_true, Bool.not_eq_true', Bool.not_eq_false', Bool.and_eq_false_iff, Bool.or_eq_false_iff, decide_eq_true_eq, decide_eq_false_iff_not, Int.not_le, Int.not_lt] at h8
    refine xcall rfl ⟨_, rfl, rfl⟩ kf25 rfl (fun w hw => may_con _ _ w (hw.own _ _ (by repeat (first | exact List.Mem.head _ | apply List.Mem.tail | apply List.mem_append_right)))) ?_
    rintro w9 v F hw9 ⟨rfl, rfl⟩
    refine ⟨_, .upd (by repeat (first | exact Swp.here _ _ _ _ | apply Swp.there | apply Swp.seg)) (by simp) (.nil _), ?_⟩
    refine xq rfl ⟨_, rfl, rfl⟩ (o_not rfl) ?_
    refine xq rfl trivial (o_pick_f rfl rfl) ?_
    refine xq rfl trivial (o_mv rfl) ?_
    refine xo_bool 12 rfl (fun h12 => ?_) (fun h12 => ?_)
    · try simp only [Bool.and_eq_true, Bool.or_eq_true, Bool.not_eq_true', Bool.not_eq_false', Bool.and_eq_false_iff, Bool.or_eq_false_iff, decide_eq_true_eq, decide_eq_false_iff_not, Int.not_le, Int.not_lt] at h12
      refine xs rfl ⟨_, rfl, rfl⟩ ?_
      refine xs rfl ⟨_, rfl, rfl⟩ ?_
      refine xs rfl ⟨_, rfl, rfl⟩ ?_
      refine xs rfl ⟨_, rfl, rfl⟩ ?_
      refine xs rfl ⟨_, rfl, rfl⟩ ?_
      refine xs rfl ⟨_, rfl, rfl⟩ ?_
      refine xs rfl ⟨_, rfl, rfl⟩ ?_
      refine xs rfl ⟨_, rfl, rfl⟩ ?_
      refine xs rfl ⟨_, rfl, rfl⟩ ?_
      refine xq rfl trivial (o_pick_t rfl rfl) ?_
      refine xo_nil ?_
      refine xq_then ?_
      refine xw_cond_t rfl (rfl) ?_
      refine xw_seq ?_
      refine xw_region ?_
      refine xq rfl trivial (o_mki rfl Try.underlying59 rfl) ?_
      refine xq rfl trivial (o_as rfl) ?_
      refine xo_nil ?_
      refine xq_then ?_
      refine xw_ret ?_
      refine xq_then_ret ?_
      exact con_ret1 (.inl rfl) Try.results13 rfl [] (Kp.st (by repeat (first | exact Kp.nil | apply Kp.keep | refine Kp.new (by omega) ?_ | refine Kp.same (by assumption) ?_))) (⟨by simp_all [okB, headM], rfl⟩)
    · try simp only [Bool.and_eq_true, Bool.or_eq_true, Bool.not_eq_true', Bool.not_eq_false', Bool.and_eq_false_iff, Bool.or_eq_false_iff, decide_eq_true_eq, decide_eq_false_iff_not, Int.not_le, Int.not_lt] at h12
      first | refine xq rfl ⟨_, rfl, rfl⟩ (o_ldW rfl ts34 (by repeat (first | exact List.Mem.head _ | apply List.Mem.tail | apply List.mem_append_right))) ?_ | refine xq rfl ⟨_, rfl, rfl⟩ (o_ldSI rfl ts34 (by repeat (first | exact List.Mem.head _ | apply List.Mem.tail | apply List.mem_append_right)) (by omega) (fun _ _ => rfl)) ?_ | refine xq rfl ⟨_, rfl, rfl⟩ (o_ldS rfl ts34 (by repeat (first | exact List.Mem.head _ | apply List.Mem.tail | apply List.mem_append_right)) (by omega) (fun _ _ => rfl)) ?_
      first | refine xq rfl ⟨_, rfl, rfl⟩ (o_fa0 fl34_0 rfl) ?_ | refine xq rfl ⟨_, rfl, rfl⟩ (o_fa fl34_0 rfl) ?_
      first | refine xq rfl ⟨_, rfl, rfl⟩ (o_ldV rfl ts3 (by repeat (first | exact List.Mem.head _ | apply List.Mem.tail | apply List.mem_append_right))) ?_ | refine xq rfl ⟨_, rfl, rfl⟩ (o_ldI rfl ts3 (by repeat (first | exact List.Mem.head _ | apply List.Mem.tail | apply List.mem_append_right)) (by omega) rfl) ?_ | refine xq rfl ⟨_, rfl, rfl⟩ (o_ld rfl ts3 (by repeat (first | exact List.Mem.head _ | apply List.Mem.tail | apply List.mem_append_right)) (by omega) rfl) ?_
      first | refine xq rfl ⟨_, rfl, rfl⟩ (o_fa0 fl34_1 rfl) ?_ | refine xq rfl ⟨_, rfl, rfl⟩ (o_fa fl34_1 rfl) ?_
      first | refine xq rfl ⟨_, rfl, rfl⟩ (o_ldV rfl ts3 (by repeat (first | exact List.Mem.head _ | apply List.Mem.tail | apply List.mem_append_right))) ?_ | refine xq rfl ⟨_, rfl, rfl⟩ (o_ldI rfl ts3 (by repeat (first | exact List.Mem.head _ | apply List.Mem.tail | apply List.mem_append_right)) (by omega) rfl) ?_ | refine xq rfl ⟨_, rfl, rfl⟩ (o_ld rfl ts3 (by repeat (first | exact List.Mem.head _ | apply List.Mem.tail | apply List.mem_append_right)) (by omega) rfl) ?_
      first | refine xq rfl ⟨_, rfl, rfl⟩ (o_fa0 fl34_2 rfl) ?_ | refine xq rfl ⟨_, rfl, rfl⟩ (o_fa fl34_2 rfl) ?_
      first | refine xq rfl ⟨_, rfl, rfl⟩ (o_ldV rfl ts3 (by repeat (first | exact List.Mem.head _ | apply List.Mem.tail | apply List.mem_append_right))) ?_ | refine xq rfl ⟨_, rfl, rfl⟩ (o_ldI rfl ts3 (by repeat (first | exact List.Mem.head _ | apply List.Mem.tail | apply List.mem_append_right)) (by omega) rfl) ?_ | refine xq rfl ⟨_, rfl, rfl⟩ (o_ld rfl ts3 (by repeat (first | exact List.Mem.head _ | apply List.Mem.tail | apply List.mem_append_right)) (by omega) rfl) ?_
      refine xq rfl ⟨_, rfl, rfl⟩ (o_build fk34 ze34 (.int fl34_0 rfl rfl (.int fl34_1 rfl rfl (.int fl34_2 rfl rfl (.nil _))))) ?_
      refine xq rfl ⟨_, rfl, rfl⟩ (o_neqA eq34 rfl rfl) ?_
      refine xq rfl trivial (o_pick_f rfl rfl) ?_
      refine xo_nil ?_
      refine xq_then ?_
      refine xw_bool 22 rfl (fun hc1 => ?_) (fun hc1 => ?_)
      · try simp only [Bool.and_eq_true, Bool.or_eq_true, Bool.not_eq_true', Bool.not_eq_false', Bool.and_eq_false_iff, Bool.or_eq_false_iff, decide_eq_true_eq, decide_eq_false_iff_not, Int.not_le, Int.not_lt] at hc1
        refine xw_cond_t rfl rfl ?_
        refine xw_seq ?_
        refine xw_region ?_
        refine xq rfl trivial (o_mki rfl Try.underlying59 rfl) ?_
        refine xq rfl trivial (o_as rfl) ?_
        refine xo_nil ?_
        refine xq_then ?_
        refine xw_ret ?_
        refine xq_then_ret ?_
        exact con_ret1 (.inl rfl) Try.results13 rfl [] (Kp.st (by repeat (first | exact Kp.nil | apply Kp.keep | refine Kp.new (by omega) ?_ | refine Kp.same (by assumption) ?_))) (⟨by simp_all [okB, headM], rfl⟩)
      · try simp only [Bool.and_eq_true, Bool.or_eq_true, Bool.not_eq_true', Bool.not_eq_false', Bool.and_eq_false_iff, Bool.or_eq_false_iff, decide_eq_true_eq, decide_eq_false_iff_not, Int.not_le, Int.not_lt] at hc1
        refine xw_cond_f rfl rfl ?_
        refine xw_skip ?_
        refine xq_then ?_
        refine xw_seq ?_
        refine xw_region ?_
        refine xq rfl trivial (o_as rfl) ?_
        refine xo_nil ?_
        refine xq_then ?_
        refine xw_ret ?_
        exact con_ret1 (.inl rfl) Try.results13 rfl [] (Kp.st (by repeat (first | exact Kp.nil | apply Kp.keep | refine Kp.new (by omega) ?_ | refine Kp.same (by assumption) ?_))) (⟨by simp_all [okB, headM], rfl⟩)

theorem right_con (n : Int) (w : World) : Con Try.prog 31 #[.int .i64 n] w (Is (.bool (inB n 1 4)) []) := by
  refine con_enter (n := 9) [(0, _)] Try.func31 rfl Try.ntmps31 rfl (lac rfl lan) ?_
  refine xw_seq ?_
  refine xw_region ?_
  refine xq rfl trivial (o_as rfl) ?_
  refine xo_nil ?_
  refine xq_then ?_
  refine xw_seq ?_
  refine xw_region ?_
  refine xq rfl trivial (o_mv rfl) ?_
  refine xq rfl trivial (o_geq rfl rfl) ?_
  refine xq rfl trivial (o_mv rfl) ?_
  refine xo_bool 5 rfl (fun h5 => ?_) (fun h5 => ?_)
  · try simp only [Bool.and_eq_true, Bool.or_eq_true, Bool.not_eq_true', Bool.not_eq_false', Bool.and_eq_false_iff, Bool.or_eq_false_iff, decide_eq_true_eq, decide_eq_false_iff_not, Int.not_le, Int.not_lt] at h5
    refine xq rfl ⟨_, rfl, rfl⟩ (o_mv rfl) ?_
    refine xq rfl ⟨_, rfl, rfl⟩ (o_leq rfl rfl) ?_
    refine xq rfl trivial (o_pick_t rfl rfl) ?_
    refine xq rfl trivial (o_as rfl) ?_
    refine xo_nil ?_
    refine xq_then ?_
    refine xw_ret ?_
    exact con_ret1 (.inl rfl) Try.results31 rfl [] (Kp.st (by repeat (first | exact Kp.nil | apply Kp.keep | refine Kp.new (by omega) ?_ | refine Kp.same (by assumption) ?_))) (⟨congrArg Value.bool (by rw [Bool.eq_iff_iff]; simp only [inB, Bool.and_eq_true, Bool.or_eq_true, Bool.not_eq_true', Bool.not_eq_false', Bool.and_eq_false_iff, Bool.or_eq_false_iff, decide_eq_true_eq, decide_eq_false_iff_not, Bool.false_eq_true, false_iff, true_iff, iff_false, iff_true] at *; omega), rfl⟩)
  · try simp only [Bool.and_eq_true, Bool.or_eq_true, Bool.not_eq_true', Bool.not_eq_false', Bool.and_eq_false_iff, Bool.or_eq_false_iff, decide_eq_true_eq, decide_eq_false_iff_not, Int.not_le, Int.not_lt] at h5
    refine xs rfl ⟨_, rfl, rfl⟩ ?_
    refine xs rfl ⟨_, rfl, rfl⟩ ?_
    refine xq rfl trivial (o_pick_f rfl rfl) ?_
    refine xq rfl trivial (o_as rfl) ?_
    refine xo_nil ?_
    refine xq_then ?_
    refine xw_ret ?_
    exact con_ret1 (.inl rfl) Try.results31 rfl [] (Kp.st (by repeat (first | exact Kp.nil | apply Kp.keep | refine Kp.new (by omega) ?_ | refine Kp.same (by assumption) ?_))) (⟨congrArg Value.bool (by rw [Bool.eq_iff_iff]; simp only [inB, Bool.and_eq_true, Bool.or_eq_true, Bool.not_eq_true', Bool.not_eq_false', Bool.and_eq_false_iff, Bool.or_eq_false_iff, decide_eq_true_eq, decide_eq_false_iff_not, Bool.false_eq_true, false_iff, true_iff, iff_false, iff_true] at *; omega), rfl⟩)

end Go.Proofs.Ytmcohikcgdfhcaa
