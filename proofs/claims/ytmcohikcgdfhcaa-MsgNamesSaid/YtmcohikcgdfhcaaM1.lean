/- Part of the proof: contracts of functions. -/
import Derived.Test.YtmcohikcgdfhcaaTab
import Derived.Test.YtmcohikcgdfhcaaSpec4
set_option linter.unusedVariables false
set_option linter.unusedSimpArgs false
set_option maxRecDepth 100000
namespace Go.Proofs.Ytmcohikcgdfhcaa
open Go Go.E

theorem in_con (n a b : Int) (w : World) : Con Try.prog 18 #[.int .i64 n, .int .i64 a, .int .i64 b] w (Is (.bool (inB n a b)) []) := by
  refine con_enter (n := 15) [(0, _), (1, _), (2, _)] Try.func18 rfl Try.ntmps18 rfl (lac rfl (lac rfl (lac rfl lan))) ?_
  refine xw_seq ?_
  refine xw_region ?_
  refine xq rfl trivial (o_as rfl) ?_
  refine xo_nil ?_
  refine xq_then ?_
  refine xw_seq ?_
  refine xw_region ?_
  refine xq rfl trivial (o_mv rfl) ?_
  refine xq rfl trivial (o_mv rfl) ?_
  refine xq rfl trivial (o_geq rfl rfl) ?_
  refine xq rfl trivial (o_mv rfl) ?_
  refine xo_bool 10 rfl (fun h10 => ?_) (fun h10 => ?_)
  · try simp only [Bool.and_eq_true, Bool.or_eq_true, Bool.not_eq_true', Bool.not_eq_false', Bool.and_eq_false_iff, Bool.or_eq_false_iff, decide_eq_true_eq, decide_eq_false_iff_not, Int.not_le, Int.not_lt] at h10
    refine xq rfl ⟨_, rfl, rfl⟩ (o_mv rfl) ?_
    refine xq rfl ⟨_, rfl, rfl⟩ (o_mv rfl) ?_
    refine xq rfl ⟨_, rfl, rfl⟩ (o_leq rfl rfl) ?_
    refine xq rfl trivial (o_pick_t rfl rfl) ?_
    refine xq rfl trivial (o_as rfl) ?_
    refine xo_nil ?_
    refine xq_then ?_
    refine xw_ret ?_
    exact con_ret1 (.inl rfl) Try.results18 rfl [] (Kp.st (by repeat (first | exact Kp.nil | apply Kp.keep | refine Kp.new (by omega) ?_ | refine Kp.same (by assumption) ?_))) (⟨congrArg Value.bool (by rw [Bool.eq_iff_iff]; simp only [inB, Bool.and_eq_true, Bool.or_eq_true, Bool.not_eq_true', Bool.not_eq_false', Bool.and_eq_false_iff, Bool.or_eq_false_iff, decide_eq_true_eq, decide_eq_false_iff_not, Bool.false_eq_true, false_iff, true_iff, iff_false, iff_true] at *; omega), rfl⟩)
  · try simp only [Bool.and_eq_true, Bool.or_eq_true, Bool.not_eq_true', Bool.not_eq_false', Bool.and_eq_false_iff, Bool.or_eq_false_iff, decide_eq_true_eq, decide_eq_false_iff_not, Int.not_le, Int.not_lt] at h10
    refine xs rfl ⟨_, rfl, rfl⟩ ?_
    refine xs rfl ⟨_, rfl, rfl⟩ ?_
    refine xs rfl ⟨_, rfl, rfl⟩ ?_
    refine xq rfl trivial (o_pick_f rfl rfl) ?_
    refine xq rfl trivial (o_as rfl) ?_
    refine xo_nil ?_
    refine xq_then ?_
    refine xw_ret ?_
    exact con_ret1 (.inl rfl) Try.results18 rfl [] (Kp.st (by repeat (first | exact Kp.nil | apply Kp.keep | refine Kp.new (by omega) ?_ | refine Kp.same (by assumption) ?_))) (⟨congrArg Value.bool (by rw [Bool.eq_iff_iff]; simp only [inB, Bool.and_eq_true, Bool.or_eq_true, Bool.not_eq_true', Bool.not_eq_false', Bool.and_eq_false_iff, Bool.or_eq_false_iff, decide_eq_true_eq, decide_eq_false_iff_not, Bool.false_eq_true, false_iff, true_iff, iff_false, iff_true] at *; omega), rfl⟩)

theorem number_con (n : Int) (w : World) : Con Try.prog 21 #[.int .i64 n] w (Is (.bool (txB n)) []) := by
  refine con_enter (n := 9) [(0, _)] Try.func21 rfl Try.ntmps21 rfl (lac rfl lan) ?_
  refine xw_seq ?_
  refine xw_region ?_
  refine xq rfl trivial (o_as rfl) ?_
  refine xo_nil ?_
  refine xq_then ?_
  refine xw_seq ?_
  refine xw_region ?_
  refine xq rfl trivial (o_mv rfl) ?_
  refine xq rfl trivial (o_gtr rfl rfl) ?_
  refine xq rfl trivial (o_mv rfl) ?_
  refine xo_bool 5 rfl (fun h5 => ?_) (fun h5 => ?_)
  · try simp only [Bool.and_eq_true, Bool.or_eq_true, Bool.not_eq_true', Bool.not_eq_false', Bool.and_eq_false_iff, Bool.or_eq_false_iff, decide_eq_true_eq, decide_eq_false_iff_not, Int.not_le, Int.not_lt] at h5
    refine xq rfl ⟨_, rfl, rfl⟩ (o_mv rfl) ?_
    refine xq rfl ⟨_, rfl, rfl⟩ (o_leq rfl rfl) ?_
    refine xq rfl trivial (o_pick_t rfl rfl) ?_
    refine xq rfl trivial (o_as rfl) ?_
    refine xo_nil ?_
    refine xq_then ?_
    refine xw_ret ?_
    exact con_ret1 (.inl rfl) Try.results21 rfl [] (Kp.st (by repeat (first | exact Kp.nil | apply Kp.keep | refine Kp.new (by omega) ?_ | refine Kp.same (by assumption) ?_))) (⟨congrArg Value.bool (by rw [Bool.eq_iff_iff]; simp only [txB, inB, Bool.and_eq_true, Bool.or_eq_true, Bool.not_eq_true', Bool.not_eq_false', Bool.and_eq_false_iff, Bool.or_eq_false_iff, decide_eq_true_eq, decide_eq_false_iff_not, Bool.false_eq_true, false_iff, true_iff, iff_false, iff_true] at *; omega), rfl⟩)
  · try simp only [Bool.and_eq_true, Bool.or_eq_true, Bool.not_eq_true', Bool.not_eq_false', Bool.and_eq_false_iff, Bool.or_eq_false_iff, decide_eq_true_eq, decide_eq_false_iff_not, Int.not_le, Int.not_lt] at h5
    refine xs rfl ⟨_, rfl, rfl⟩ ?_
    refine xs rfl ⟨_, rfl, rfl⟩ ?_
    refine xq rfl trivial (o_pick_f rfl rfl) ?_
    refine xq rfl trivial (o_as rfl) ?_
    refine xo_nil ?_
    refine xq_then ?_
    refine xw_ret ?_
    exact con_ret1 (.inl rfl) Try.results21 rfl [] (Kp.st (by repeat (first | exact Kp.nil | apply Kp.keep | refine Kp.new (by omega) ?_ | refine Kp.same (by assumption) ?_))) (⟨congrArg Value.bool (by rw [Bool.eq_iff_iff]; simp only [txB, inB, Bool.and_eq_true, Bool.or_eq_true, Bool.not_eq_true', Bool.not_eq_false', Bool.and_eq_false_iff, Bool.or_eq_false_iff, decide_eq_true_eq, decide_eq_false_iff_not, Bool.false_eq_true, false_iff, true_iff, iff_false, iff_true] at *; omega), rfl⟩)

theorem shard_con (n : Int) (w : World) : Con Try.prog 36 #[.int .i64 n] w (Is (.bool (shB n)) []) := by
  refine con_enter (n := 5) [(0, _)] Try.func36 rfl Try.ntmps36 rfl (lac rfl lan) ?_
  refine xw_seq ?_
  refine xw_region ?_
  refine xq rfl trivial (o_as rfl) ?_
  refine xo_nil ?_
  refine xq_then ?_
  refine xw_seq ?_
  refine xw_region ?_
  refine xq rfl trivial (o_mv rfl) ?_
  refine xcallq rfl trivial kf18 rfl (fun w hw => in_con _ _ _ w) ?_
  refine xq rfl trivial (o_as rfl) ?_
  refine xo_nil ?_
  refine xq_then ?_
  refine xw_ret ?_
  exact con_ret1 (.inl rfl) Try.results36 rfl [] (Kp.st (by repeat (first | exact Kp.nil | apply Kp.keep | refine Kp.new (by omega) ?_ | refine Kp.same (by assumption) ?_))) (⟨rfl, rfl⟩)

theorem tx_con (n : Int) (w : World) : Con Try.prog 38 #[.int .i64 n] w (Is (.bool (txB n)) []) := by
  refine con_enter (n := 5) [(0, _)] Try.func38 rfl Try.ntmps38 rfl (lac rfl lan) ?_
  refine xw_seq ?_
  refine xw_region ?_
  refine xq rfl trivial (o_as rfl) ?_
  refine xo_nil ?_
  refine xq_then ?_
  refine xw_seq ?_
  refine xw_region ?_
  refine xq rfl trivial (o_mv rfl) ?_
  refine xcallq rfl trivial kf18 rfl (fun w hw => in_con _ _ _ w) ?_
  refine xq rfl trivial (o_as rfl) ?_
  refine xo_nil ?_
  refine xq_then ?_
  refine xw_ret ?_
  exact con_ret1 (.inl rfl) Try.results38 rfl [] (Kp.st (by repeat (first | exact Kp.nil | apply Kp.keep | refine Kp.new (by omega) ?_ | refine Kp.same (by assumption) ?_))) (⟨rfl, rfl⟩)

theorem resOk_con (m : Nat → Int) (w : World) : Con Try.prog 37 #[AI 2 m] w (Is (.bool (resB (m 0) (m 1))) []) := by
  refine con_enter (n := 21) [(0, _)] Try.func37 rfl Try.ntmps37 rfl (lac rfl lan) ?_
  refine xw_seq ?_
  refine xw_region ?_
  refine xo rfl trivial (o_boxA rfl) ?_
  rintro _ _ ⟨b1, hb1, rfl, rfl⟩
  refine xq rfl trivial (o_as rfl) ?_
  refine xo_nil ?_
  refine xq_then ?_
  refine xw_seq ?_
  refine xw_region ?_
  first | refine xq rfl trivial (o_fa0 fl28_0 rfl) ?_ | refine xq rfl trivial (o_fa fl28_0 rfl) ?_
  first | refine xq rfl trivial (o_ldV rfl ts3 (by repeat (first | exact List.Mem.head _ | apply List.Mem.tail | apply List.mem_append_right))) ?_ | refine xq rfl trivial (o_ldI rfl ts3 (by repeat (first | exact List.Mem.head _ | apply List.Mem.tail | apply List.mem_append_right)) (by omega) rfl) ?_ | refine xq rfl trivial (o_ld rfl ts3 (by repeat (first | exact List.Mem.head _ | apply List.Mem.tail | apply List.mem_append_right)) (by omega) rfl) ?_
  refine xq rfl trivial (o_geq rfl rfl) ?_
  refine xq rfl trivial (o_mv rfl) ?_
  refine xo_bool 6 rfl (fun h6 => ?_) (fun h6 => ?_)
  · try simp only [Bool.and_eq_true, Bool.or_eq_true, Bool.not_eq_true', Bool.not_eq_false', Bool.and_eq_false_iff, Bool.or_eq_false_iff, decide_eq_true_eq, decide_eq_false_iff_not, Int.not_le, Int.not_lt] at h6
    first | refine xq rfl ⟨_, rfl, rfl⟩ (o_fa0 fl28_0 rfl) ?_ | refine xq rfl ⟨_, rfl, rfl⟩ (o_fa fl28_0 rfl) ?_
    first | refine xq rfl ⟨_, rfl, rfl⟩ (o_ldV rfl ts3 (by repeat (first | exact List.Mem.head _ | apply List.Mem.tail | apply List.mem_append_right))) ?_ | refine xq rfl ⟨_, rfl, rfl⟩ (o_ldI rfl ts3 (by repeat (first | exact List.Mem.head _ | apply List.Mem.tail | apply List.mem_append_right)) (by omega) rfl) ?_ | refine xq rfl ⟨_, rfl, rfl⟩ (o_ld rfl ts3 (by repeat (first | exact List.Mem.head _ | apply List.Mem.tail | apply List.mem_append_right)) (by omega) rfl) ?_
    refine xq rfl ⟨_, rfl, rfl⟩ (o_leq rfl rfl) ?_
    refine xq rfl trivial (o_pick_t rfl rfl) ?_
    refine xq rfl trivial (o_mv rfl) ?_
    refine xo_bool 11 rfl (fun h11 => ?_) (fun h11 => ?_)
    · try simp only [Bool.and_eq_true, Bool.or_eq_true, Bool.not_eq_true', Bool.not_eq_false', Bool.and_eq_false_iff, Bool.or_eq_false_iff, decide_eq_true_eq, decide_eq_false_iff_not, Int.not_le, Int.not_lt] at h11
      first | refine xq rfl ⟨_, rfl, rfl⟩ (o_fa0 fl28_1 rfl) ?_ | refine xq rfl ⟨_, rfl, rfl⟩ (o_fa fl28_1 rfl) ?_
      first | refine xq rfl ⟨_, rfl, rfl⟩ (o_ldV rfl ts3 (by repeat (first | exact List.Mem.head _ | apply List.Mem.tail | apply List.mem_append_right))) ?_ | refine xq rfl ⟨_, rfl, rfl⟩ (o_ldI rfl ts3 (by repeat (first | exact List.Mem.head _ | apply List.Mem.tail | apply List.mem_append_right)) (by omega) rfl) ?_ | refine xq rfl ⟨_, rfl, rfl⟩ (o_ld rfl ts3 (by repeat (first | exact List.Mem.head _ | apply List.Mem.tail | apply List.mem_append_right)) (by omega) rfl) ?_
      refine xq rfl ⟨_, rfl, rfl⟩ (o_geq rfl rfl) ?_
      refine xq rfl trivial (o_pick_t rfl rfl) ?_
      refine xq rfl trivial (o_mv rfl) ?_
      refine xo_bool 16 rfl (fun h16 => ?_) (fun h16 => ?_)
      · try simp only [Bool.and_eq_true, Bool.or_eq_true, Bool.not_eq_true', Bool.not_eq_false', Bool.and_eq_false_iff, Bool.or_eq_false_iff, decide_eq_true_eq, decide_eq_false_iff_not, Int.not_le, Int.not_lt] at h16
        first | refine xq rfl ⟨_, rfl, rfl⟩ (o_fa0 fl28_1 rfl) ?_ | refine xq rfl ⟨_, rfl, rfl⟩ (o_fa fl28_1 rfl) ?_
        first | refine xq rfl ⟨_, rfl, rfl⟩ (o_ldV rfl ts3 (by repeat (first | exact List.Mem.head _ | apply List.Mem.tail | apply List.mem_append_right))) ?_ | refine xq rfl ⟨_, rfl, rfl⟩ (o_ldI rfl ts3 (by repeat (first | exact List.Mem.head _ | apply List.Mem.tail | apply List.mem_append_right)) (by omega) rfl) ?_ | refine xq rfl ⟨_, rfl, rfl⟩ (o_ld rfl ts3 (by repeat (first | exact List.Mem.head _ | apply List.Mem.tail | apply List.mem_append_right)) (by omega) rfl) ?_
        refine xq rfl ⟨_, rfl, rfl⟩ (o_leq rfl rfl) ?_
        refine xq rfl trivial (o_pick_t rfl rfl) ?_
        refine xq rfl trivial (o_as rfl) ?_
        refine xo_nil ?_
        refine xq_then ?_
        refine xw_ret ?_
        exact con_ret1 (.inl rfl) Try.results37 rfl [] (Kp.st (by repeat (first | exact Kp.nil | apply Kp.keep | refine Kp.new (by omega) ?_ | refine Kp.same (by assumption) ?_))) (⟨congrArg Value.bool (by rw [Bool.eq_iff_iff]; simp only [resB, inB, Bool.and_eq_true, Bool.or_eq_true, Bool.not_eq_true', Bool.not_eq_false', Bool.and_eq_false_iff, Bool.or_eq_false_iff, decide_eq_true_eq, decide_eq_false_iff_not, Bool.false_eq_true, false_iff, true_iff, iff_false, iff_true] at *; omega), rfl⟩)
      · try simp only [Bool.and_eq_true, Bool.or_eq_true, Bool.not_eq_true', Bool.not_eq_false', Bool.and_eq_false_iff, Bool.or_eq_false_iff, decide_eq_true_eq, decide_eq_false_iff_not, Int.not_le, Int.not_lt] at h16
        refine xs rfl ⟨_, rfl, rfl⟩ ?_
        refine xs rfl ⟨_, rfl, rfl⟩ ?_
        refine xs rfl ⟨_, rfl, rfl⟩ ?_
        refine xq rfl trivial (o_pick_f rfl rfl) ?_
        refine xq rfl trivial (o_as rfl) ?_
        refine xo_nil ?_
        refine xq_then ?_
        refine xw_ret ?_
        exact con_ret1 (.inl rfl) Try.results37 rfl [] (Kp.st (by repeat (first | exact Kp.nil | apply Kp.keep | refine Kp.new (by omega) ?_ | refine Kp.same (by assumption) ?_))) (⟨congrArg Value.bool (by rw [Bool.eq_iff_iff]; simp only [resB, inB, Bool.and_eq_true, Bool.or_eq_true, Bool.not_eq_true', Bool.not_eq_false', Bool.and_eq_false_iff, Bool.or_eq_false_iff, decide_eq_true_eq, decide_eq_false_iff_not, Bool.false_eq_true, false_iff, true_iff, iff_false, iff_true] at *; omega), rfl⟩)
    · try simp only [Bool.and_eq_true, Bool.or_eq_true, Bool.not_eq_true', Bool.not_eq_false', Bool.and_eq_false_iff, Bool.or_eq_false_iff, decide_eq_true_eq, decide_eq_false_iff_not, Int.not_le, Int.not_lt] at h11
      refine xs rfl ⟨_, rfl, rfl⟩ ?_
      refine xs rfl ⟨_, rfl, rfl⟩ ?_
      refine xs rfl ⟨_, rfl, rfl⟩ ?_
      refine xq rfl trivial (o_pick_f rfl rfl) ?_
      refine xq rfl trivial (o_mv rfl) ?_
      refine xs rfl ⟨_, rfl, rfl⟩ ?_
      refine xs rfl ⟨_, rfl, rfl⟩ ?_
      refine xs rfl ⟨_, rfl, rfl⟩ ?_
      refine xq rfl trivial (o_pick_f rfl rfl) ?_
      refine xq rfl trivial (o_as rfl) ?_
      refine xo_nil ?_
      refine xq_then ?_
      refine xw_ret ?_
      exact con_ret1 (.inl rfl) Try.results37 rfl [] (Kp.st (by repeat (first | exact Kp.nil | apply Kp.keep | refine Kp.new (by omega) ?_ | refine Kp.same (by assumption) ?_))) (⟨congrArg Value.bool (by rw [Bool.eq_iff_iff]; simp only [resB, inB, Bool.and_eq_true, Bool.or_eq_true, Bool.not_eq_true', Bool.not_eq_false', Bool.and_eq_false_iff, Bool.or_eq_false_iff, decide_eq_true_eq, decide_eq_false_iff_not, Bool.false_eq_true, false_iff, true_iff, iff_false, iff_true] at *; omega), rfl⟩)
  · try simp only [Bool.and_eq_true, Bool.or_eq_true, Bool.not_eq_true', Bool.not_eq_false', Bool.and_eq_false_iff, Bool.or_eq_false_iff, decide_eq_true_eq, decide_eq_false_iff_not, Int.not_le, Int.not_lt] at h6
    refine xs rfl ⟨_, rfl, rfl⟩ ?_
    refine xs rfl ⟨_, rfl, rfl⟩ ?_
    refine xs rfl ⟨_, rfl, rfl⟩ ?_
    refine xq rfl trivial (o_pick_f rfl rfl) ?_
    refine xq rfl trivial (o_mv rfl) ?_
    refine xs rfl ⟨_, rfl, rfl⟩ ?_
    refine xs rfl ⟨_, rfl, rfl⟩ ?_
    refine xs rfl ⟨_, rfl, rfl⟩ ?_
    refine xq rfl trivial (o_pick_f rfl rfl) ?_
    refine xq rfl trivial (o_mv rfl) ?_
    refine xs rfl ⟨_, rfl, rfl⟩ ?_
    refine xs rfl ⟨_, rfl, rfl⟩ ?_
    refine xs rfl ⟨_, rfl, rfl⟩ ?_
    refine xq rfl trivial (o_pick_f rfl rfl) ?_
    refine xq rfl trivial (o_as rfl) ?_
    refine xo_nil ?_
    refine xq_then ?_
    refine xw_ret ?_
    exact con_ret1 (.inl rfl) Try.results37 rfl [] (Kp.st (by repeat (first | exact Kp.nil | apply Kp.keep | refine Kp.new (by omega) ?_ | refine Kp.same (by assumption) ?_))) (⟨congrArg Value.bool (by rw [Bool.eq_iff_iff]; simp only [resB, inB, Bool.and_eq_true, Bool.or_eq_true, Bool.not_eq_true', Bool.not_eq_false', Bool.and_eq_false_iff, Bool.or_eq_false_iff, decide_eq_true_eq, decide_eq_false_iff_not, Bool.false_eq_true, false_iff, true_iff, iff_false, iff_true] at *; omega), rfl⟩)

theorem ref02ok_con (m : Nat → Int) (w : World) : Con Try.prog 22 #[AI 2 m] w (Is (.bool (resB (m 0) (m 1))) []) := by
  refine con_enter (n := 21) [(0, _)] Try.func22 rfl Try.ntmps22 rfl (lac rfl lan) ?_
  refine xw_seq ?_
  refine xw_region ?_
  refine xo rfl trivial (o_boxA rfl) ?_
  rintro _ _ ⟨b1, hb1, rfl, rfl⟩
  refine xq rfl trivial (o_as rfl) ?_
  refine xo_nil ?_
  refine xq_then ?_
  refine xw_seq ?_
  refine xw_region ?_
  first | refine xq rfl trivial (o_fa0 fl28_0 rfl) ?_ | refine xq rfl trivial (o_fa fl28_0 rfl) ?_
  first | refine xq rfl trivial (o_ldV rfl ts3 (by repeat (first | exact List.Mem.head _ | apply List.Mem.tail | apply List.mem_append_right))) ?_ | refine xq rfl trivial (o_ldI rfl ts3 (by repeat (first | exact List.Mem.head _ | apply List.Mem.tail | apply List.mem_append_right)) (by omega) rfl) ?_ | refine xq rfl trivial (o_ld rfl ts3 (by repeat (first | exact List.Mem.head _ | apply List.Mem.tail | apply List.mem_append_right)) (by omega) rfl) ?_
  refine xq rfl trivial (o_gtr rfl rfl) ?_
  refine xq rfl trivial (o_mv rfl) ?_
  refine xo_bool 6 rfl (fun h6 => ?_) (fun h6 => ?_)
  · try simp only [Bool.and_eq_true, Bool.or_eq_true, Bool.not_eq_true', Bool.not_eq_false', Bool.and_eq_false_iff, Bool.or_eq_false_iff, decide_eq_true_eq, decide_eq_false_iff_not, Int.not_le, Int.not_lt] at h6
    first | refine xq rfl ⟨_, rfl, rfl⟩ (o_fa0 fl28_0 rfl) ?_ | refine xq rfl ⟨_, rfl, rfl⟩ (o_fa fl28_0 rfl) ?_
    first | refine xq rfl ⟨_, rfl, rfl⟩ (o_ldV rfl ts3 (by repeat (first | exact List.Mem.head _ | apply List.Mem.tail | apply List.mem_append_right))) ?_ | refine xq rfl ⟨_, rfl, rfl⟩ (o_ldI rfl ts3 (by repeat (first | exact List.Mem.head _ | apply List.Mem.tail | apply List.mem_append_right)) (by omega) rfl) ?_ | refine xq rfl ⟨_, rfl, rfl⟩ (o_ld rfl ts3 (by repeat (first | exact List.Mem.head _ | apply List.Mem.tail | apply List.mem_append_right)) (by omega) rfl) ?_
    refine xq rfl ⟨_, rfl, rfl⟩ (o_lss rfl rfl) ?_
    refine xq rfl trivial (o_pick_t rfl rfl) ?_
    refine xq rfl trivial (o_mv rfl) ?_
    refine xo_bool 11 rfl (fun h11 => ?_) (fun h11 => ?_)
    · try simp only [Bool.and_eq_true, Bool.or_eq_true, Bool.not_eq_true', Bool.not_eq_false', Bool.and_eq_false_iff, Bool.or_eq_false_iff, decide_eq_true_eq, decide_eq_false_iff_not, Int.not_le, Int.not_lt] at h11
      first | refine xq rfl ⟨_, rfl, rfl⟩ (o_fa0 fl28_1 rfl) ?_ | refine xq rfl ⟨_, rfl, rfl⟩ (o_fa fl28_1 rfl) ?_
      first | refine xq rfl ⟨_, rfl, rfl⟩ (o_ldV rfl ts3 (by repeat (first | exact List.Mem.head _ | apply List.Mem.tail | apply List.mem_append_right))) ?_ | refine xq rfl ⟨_, rfl, rfl⟩ (o_ldI rfl ts3 (by repeat (first | exact List.Mem.head _ | apply List.Mem.tail | apply List.mem_append_right)) (by omega) rfl) ?_ | refine xq rfl ⟨_, rfl, rfl⟩ (o_ld rfl ts3 (by repeat (first | exact List.Mem.head _ | apply List.Mem.tail | apply List.mem_append_right)) (by omega) rfl) ?_
      refine xq rfl ⟨_, rfl, rfl⟩ (o_gtr rfl rfl) ?_
      refine xq rfl trivial (o_pick_t rfl rfl) ?_
      refine xq rfl trivial (o_mv rfl) ?_
      refine xo_bool 16 rfl (fun h16 => ?_) (fun h16 => ?_)
      · try simp only [Bool.and_eq_true, Bool.or_eq_true, Bool.not_eq_true', Bool.not_eq_false', Bool.and_eq_false_iff, Bool.or_eq_false_iff, decide_eq_true_eq, decide_eq_false_iff_not, Int.not_le, Int.not_lt] at h16
        first | refine xq rfl ⟨_, rfl, rfl⟩ (o_fa0 fl28_1 rfl) ?_ | refine xq rfl ⟨_, rfl, rfl⟩ (o_fa fl28_1 rfl) ?_
        first | refine xq rfl ⟨_, rfl, rfl⟩ (o_ldV rfl ts3 (by repeat (first | exact List.Mem.head _ | apply List.Mem.tail | apply List.mem_append_right))) ?_ | refine xq rfl ⟨_, rfl, rfl⟩ (o_ldI rfl ts3 (by repeat (first | exact List.Mem.head _ | apply List.Mem.tail | apply List.mem_append_right)) (by omega) rfl) ?_ | refine xq rfl ⟨_, rfl, rfl⟩ (o_ld rfl ts3 (by repeat (first | exact List.Mem.head _ | apply List.Mem.tail | apply List.mem_append_right)) (by omega) rfl) ?_
        refine xq rfl ⟨_, rfl, rfl⟩ (o_lss rfl rfl) ?_
        refine xq rfl trivial (o_pick_t rfl rfl) ?_
        refine xq rfl trivial (o_as rfl) ?_
        refine xo_nil ?_
        refine xq_then ?_
        refine xw_ret ?_
        exact con_ret1 (.inl rfl) Try.results22 rfl [] (Kp.st (by repeat (first | exact Kp.nil | apply Kp.keep | refine Kp.new (by omega) ?_ | refine Kp.same (by assumption) ?_))) (⟨congrArg Value.bool (by rw [Bool.eq_iff_iff]; simp only [resB, inB, Bool.and_eq_true, Bool.or_eq_true, Bool.not_eq_true', Bool.not_eq_false', Bool.and_eq_false_iff, Bool.or_eq_false_iff, decide_eq_true_eq, decide_eq_false_iff_not, Bool.false_eq_true, false_iff, true_iff, iff_false, iff_true] at *; omega), rfl⟩)
      · try simp only [Bool.and_eq_true, Bool.or_eq_true, Bool.not_eq_true', Bool.not_eq_false', Bool.and_eq_false_iff, Bool.or_eq_false_iff, decide_eq_true_eq, decide_eq_false_iff_not, Int.not_le, Int.not_lt] at h16
        refine xs rfl ⟨_, rfl, rfl⟩ ?_
        refine xs rfl ⟨_, rfl, rfl⟩ ?_
        refine xs rfl ⟨_, rfl, rfl⟩ ?_
        refine xq rfl trivial (o_pick_f rfl rfl) ?_
        refine xq rfl trivial (o_as rfl) ?_
        refine xo_nil ?_
        refine xq_then ?_
        refine xw_ret ?_
        exact con_ret1 (.inl rfl) Try.results22 rfl [] (Kp.st (by repeat (first | exact Kp.nil | apply Kp.keep | refine Kp.new (by omega) ?_ | refine Kp.same (by assumption) ?_))) (⟨congrArg Value.bool (by rw [Bool.eq_iff_iff]; simp only [resB, inB, Bool.and_eq_true, Bool.or_eq_true, Bool.not_eq_true', Bool.not_eq_false', Bool.and_eq_false_iff, Bool.or_eq_false_iff, decide_eq_true_eq, decide_eq_false_iff_not, Bool.false_eq_true, false_iff, true_iff, iff_false, iff_true] at *; omega), rfl⟩)
    · try simp only [Bool.and_eq_true, Bool.or_eq_true, Bool.not_eq_true', Bool.not_eq_false', Bool.and_eq_false_iff, Bool.or_eq_false_iff, decide_eq_true_eq, decide_eq_false_iff_not, Int.not_le, Int.not_lt] at h11
      refine xs rfl ⟨_, rfl, rfl⟩ ?_
      refine xs rfl ⟨_, rfl, rfl⟩ ?_
      refine xs rfl ⟨_, rfl, rfl⟩ ?_
      refine xq rfl trivial (o_pick_f rfl rfl) ?_
      refine xq rfl trivial (o_mv rfl) ?_
      refine xs rfl ⟨_, rfl, rfl⟩ ?_
      refine xs rfl ⟨_, rfl, rfl⟩ ?_
      refine xs rfl ⟨_, rfl, rfl⟩ ?_
      refine xq rfl trivial (o_pick_f rfl rfl) ?_
      refine xq rfl trivial (o_as rfl) ?_
      refine xo_nil ?_
      refine xq_then ?_
      refine xw_ret ?_
      exact con_ret1 (.inl rfl) Try.results22 rfl [] (Kp.st (by repeat (first | exact Kp.nil | apply Kp.keep | refine Kp.new (by omega) ?_ | refine Kp.same (by assumption) ?_))) (⟨congrArg Value.bool (by rw [Bool.eq_iff_iff]; simp only [resB, inB, Bool.and_eq_true, Bool.or_eq_true, Bool.not_eq_true', Bool.not_eq_false', Bool.and_eq_false_iff, Bool.or_eq_false_iff, decide_eq_true_eq, decide_eq_false_iff_not, Bool.false_eq_true, false_iff, true_iff, iff_false, iff_true] at *; omega), rfl⟩)
  · try simp only [Bool.and_eq_true, Bool.or_eq_true, Bool.not_eq_true', Bool.not_eq_false', Bool.and_eq_false_iff, Bool.or_eq_false_iff, decide_eq_true_eq, decide_eq_false_iff_not, Int.not_le, Int.not_lt] at h6
    refine xs rfl ⟨_, rfl, rfl⟩ ?_
    refine xs rfl ⟨_, rfl, rfl⟩ ?_
    refine xs rfl ⟨_, rfl, rfl⟩ ?_
    refine xq rfl trivial (o_pick_f rfl rfl) ?_
    refine xq rfl trivial (o_mv rfl) ?_
    refine xs rfl ⟨_, rfl, rfl⟩ ?_
    refine xs rfl ⟨_, rfl, rfl⟩ ?_
    refine xs rfl ⟨_, rfl, rfl⟩ ?_
    refine xq rfl trivial (o_pick_f rfl rfl) ?_
    refine xq rfl trivial (o_mv rfl) ?_
    refine xs rfl ⟨_, rfl, rfl⟩ ?_
    refine xs rfl ⟨_, rfl, rfl⟩ ?_
    refine xs rfl ⟨_, rfl, rfl⟩ ?_
    refine xq rfl trivial (o_pick_f rfl rfl) ?_
    refine xq rfl trivial (o_as rfl) ?_
    refine xo_nil ?_
    refine xq_then ?_
    refine xw_ret ?_
    exact con_ret1 (.inl rfl) Try.results22 rfl [] (Kp.st (by repeat (first | exact Kp.nil | apply Kp.keep | refine Kp.new (by omega) ?_ | refine Kp.same (by assumption) ?_))) (⟨congrArg Value.bool (by rw [Bool.eq_iff_iff]; simp only [resB, inB, Bool.and_eq_true, Bool.or_eq_true, Bool.not_eq_true', Bool.not_eq_false', Bool.and_eq_false_iff, Bool.or_eq_false_iff, decide_eq_true_eq, decide_eq_false_iff_not, Bool.false_eq_true, false_iff, true_iff, iff_false, iff_true] at *; omega), rfl⟩)

theorem ends_con (m : Nat → Int) (w : World) : Con Try.prog 24 #[AI 28 m] w (Is (.bool (endsB m)) []) := by
  refine con_enter (n := 39) [(0, _)] Try.func24 rfl Try.ntmps24 rfl (lac rfl lan) ?_
  refine xw_seq ?_
  refine xw_region ?_
  refine xo rfl trivial (o_boxA rfl) ?_
  rintro _ _ ⟨b1, hb1, rfl, rfl⟩
  refine xq rfl trivial (o_as rfl) ?_
  refine xo_nil ?_
  refine xq_then ?_
  refine xw_seq ?_
  refine xw_seq ?_
  refine xw_region ?_
  first | refine xq rfl trivial (o_fa0 fl34_0 rfl) ?_ | refine xq rfl trivial (o_fa fl34_0 rfl) ?_
  first | refine xq rfl trivial (o_ldV rfl ts3 (by repeat (first | exact List.Mem.head _ | apply List.Mem.tail | apply List.mem_append_right))) ?_ | refine xq rfl trivial (o_ldI rfl ts3 (by repeat (first | exact List.Mem.head _ | apply List.Mem.tail | apply List.mem_append_right)) (by omega) rfl) ?_ | refine xq rfl trivial (o_ld rfl ts3 (by repeat (first | exact List.Mem.head _ | apply List.Mem.tail | apply List.mem_append_right)) (by omega) rfl) ?_
  refine xo_nil ?_
  refine xq_then ?_
  refine xw_block ?_
  refine xw_seq ?_
  refine xw_block ?_
  refine xw_seq ?_
  refine xw_block ?_
  refine xw_seq ?_
  refine xw_seq ?_
  refine xw_seq ?_
  refine xw_region ?_
  refine xq rfl trivial (o_eql rfl rfl) ?_
  refine xq rfl trivial (o_as rfl) ?_
  refine xo_nil ?_
  refine xq_then ?_
  refine xw_bool 5 rfl (fun hc1 => ?_) (fun hc1 => ?_)
  · try simp only [Bool.and_eq_true, Bool.or_eq_true, Bool.not_eq_true', Bool.not_eq_false', Bool.and_eq_false_iff, Bool.or_eq_false_iff, decide_eq_true_eq, decide_eq_false_iff_not, Int.not_le, Int.not_lt] at hc1
    refine xw_cond_t rfl rfl ?_
    refine xw_exit ?_
    refine xq_then_exit ?_
    refine xq_then_exit ?_
    refine xq_blk_eq ?_
    refine xq_then ?_
    refine xw_seq ?_
    refine xw_region ?_
    first | refine xq rfl trivial (o_fa0 fl34_1 rfl) ?_ | refine xq rfl trivial (o_fa fl34_1 rfl) ?_
    first | refine xq rfl trivial (o_ldV rfl ts3 (by repeat (first | exact List.Mem.head _ | apply List.Mem.tail | apply List.mem_append_right))) ?_ | refine xq rfl trivial (o_ldI rfl ts3 (by repeat (first | exact List.Mem.head _ | apply List.Mem.tail | apply List.mem_append_right)) (by omega) rfl) ?_ | refine xq rfl trivial (o_ld rfl ts3 (by repeat (first | exact List.Mem.head _ | apply List.Mem.tail | apply List.mem_append_right)) (by omega) rfl) ?_
    refine xq rfl trivial (o_neq rfl rfl) ?_
    refine xo_nil ?_
    refine xq_then ?_
    refine xw_bool 14 rfl (fun hc6 => ?_) (fun hc6 => ?_)
    · try simp only [Bool.and_eq_true, Bool.or_eq_true, Bool.not_eq_true', Bool.not_eq_false', Bool.and_eq_false_iff, Bool.or_eq_false_iff, decide_eq_true_eq, decide_eq_false_iff_not, Int.not_le, Int.not_lt] at hc6
      refine xw_cond_t rfl rfl ?_
      refine xw_seq ?_
      refine xw_region ?_
      first | refine xq rfl trivial (o_fa0 fl34_1 rfl) ?_ | refine xq rfl trivial (o_fa fl34_1 rfl) ?_
      first | refine xq rfl trivial (o_ldV rfl ts3 (by repeat (first | exact List.Mem.head _ | apply List.Mem.tail | apply List.mem_append_right))) ?_ | refine xq rfl trivial (o_ldI rfl ts3 (by repeat (first | exact List.Mem.head _ | apply List.Mem.tail | apply List.mem_append_right)) (by omega) rfl) ?_ | refine xq rfl trivial (o_ld rfl ts3 (by repeat (first | exact List.Mem.head _ | apply List.Mem.tail | apply List.mem_append_right)) (by omega) rfl) ?_
      refine xcallq rfl trivial kf36 rfl (fun w hw => shard_con _ w) ?_
      refine xq rfl trivial (o_mv rfl) ?_
      refine xo_bool 18 rfl (fun h18 => ?_) (fun h18 => ?_)
      · try simp only [Bool.and_eq_true, Bool.or_eq_true, Bool.not_eq_true', Bool.not_eq_false', Bool.and_eq_false_iff, Bool.or_eq_false_iff, decide_eq_true_eq, decide_eq_false_iff_not, Int.not_le, Int.not_lt] at h18
        first | refine xq rfl ⟨_, rfl, rfl⟩ (o_fa0 fl34_2 rfl) ?_ | refine xq rfl ⟨_, rfl, rfl⟩ (o_fa fl34_2 rfl) ?_
        first | refine xq rfl ⟨_, rfl, rfl⟩ (o_ldV rfl ts3 (by repeat (first | exact List.Mem.head _ | apply List.Mem.tail | apply List.mem_append_right))) ?_ | refine xq rfl ⟨_, rfl, rfl⟩ (o_ldI rfl ts3 (by repeat (first | exact List.Mem.head _ | apply List.Mem.tail | apply List.mem_append_right)) (by omega) rfl) ?_ | refine xq rfl ⟨_, rfl, rfl⟩ (o_ld rfl ts3 (by repeat (first | exact List.Mem.head _ | apply List.Mem.tail | apply List.mem_append_right)) (by omega) rfl) ?_
        refine xq rfl ⟨_, rfl, rfl⟩ (o_eql rfl rfl) ?_
        refine xq rfl trivial (o_pick_t rfl rfl) ?_
        refine xq rfl trivial (o_as rfl) ?_
        refine xo_nil ?_
        refine xq_then ?_
        refine xw_ret ?_
        refine xq_blk_ret ?_
        refine xq_then_ret ?_
        refine xq_blk_ret ?_
        refine xq_then_ret ?_
        exact con_ret1 (.inl rfl) Try.results24 rfl [] (Kp.st (by repeat (first | exact Kp.nil | apply Kp.keep | refine Kp.new (by omega) ?_ | refine Kp.same (by assumption) ?_))) (⟨congrArg Value.bool (by simp_all [endsB]), rfl⟩)
      · try simp only [Bool.and_eq_true, Bool.or_eq_true, Bool.not_eq_true', Bool.not_eq_false', Bool.and_eq_false_iff, Bool.or_eq_false_iff, decide_eq_true_eq, decide_eq_false_iff_not, Int.not_le, Int.not_lt] at h18
        refine xs rfl ⟨_, rfl, rfl⟩ ?_
        refine xs rfl ⟨_, rfl, rfl⟩ ?_
        refine xs rfl ⟨_, rfl, rfl⟩ ?_
        refine xq rfl trivial (o_pick_f rfl rfl) ?_
        refine xq rfl trivial (o_as rfl) ?_
        refine xo_nil ?_
        refine xq_then ?_
        refine xw_ret ?_
        refine xq_blk_ret ?_
        refine xq_then_ret ?_
        refine xq_blk_ret ?_
        refine xq_then_ret ?_
        exact con_ret1 (.inl rfl) Try.results24 rfl [] (Kp.st (by repeat (first | exact Kp.nil | apply Kp.keep | refine Kp.new (by omega) ?_ | refine Kp.same (by assumption) ?_))) (⟨congrArg Value.bool (by simp_all [endsB]), rfl⟩)
    · try simp only [Bool.and_eq_true, Bool.or_eq_true, Bool.not_eq_true', Bool.not_eq_false', Bool.and_eq_false_iff, Bool.or_eq_false_iff, decide_eq_true_eq, decide_eq_false_iff_not, Int.not_le, Int.not_lt] at hc6
      refine xw_cond_f rfl rfl ?_
      refine xw_skip ?_
      refine xq_blk 2 ?_
      refine xq_then ?_
      refine xw_seq ?_
      refine xw_seq ?_
      refine xw_region ?_
      first | refine xq rfl trivial (o_fa0 fl34_1 rfl) ?_ | refine xq rfl trivial (o_fa fl34_1 rfl) ?_
      first | refine xq rfl trivial (o_ldV rfl ts3 (by repeat (first | exact List.Mem.head _ | apply List.Mem.tail | apply List.mem_append_right))) ?_ | refine xq rfl trivial (o_ldI rfl ts3 (by repeat (first | exact List.Mem.head _ | apply List.Mem.tail | apply List.mem_append_right)) (by omega) rfl) ?_ | refine xq rfl trivial (o_ld rfl ts3 (by repeat (first | exact List.Mem.head _ | apply List.Mem.tail | apply List.mem_append_right)) (by omega) rfl) ?_
      refine xq rfl trivial (o_eql rfl rfl) ?_
      refine xq rfl trivial (o_mv rfl) ?_
      refine xo_bool 26 rfl (fun h26 => ?_) (fun h26 => ?_)
      · try simp only [Bool.and_eq_true, Bool.or_eq_true, Bool.not_eq_true', Bool.not_eq_false', Bool.and_eq_false_iff, Bool.or_eq_false_iff, decide_eq_true_eq, decide_eq_false_iff_not, Int.not_le, Int.not_lt] at h26
        first | refine xq rfl ⟨_, rfl, rfl⟩ (o_fa0 fl34_2 rfl) ?_ | refine xq rfl ⟨_, rfl, rfl⟩ (o_fa fl34_2 rfl) ?_
        first | refine xq rfl ⟨_, rfl, rfl⟩ (o_ldV rfl ts3 (by repeat (first | exact List.Mem.head _ | apply List.Mem.tail | apply List.mem_append_right))) ?_ | refine xq rfl ⟨_, rfl, rfl⟩ (o_ldI rfl ts3 (by repeat (first | exact List.Mem.head _ | apply List.Mem.tail | apply List.mem_append_right)) (by omega) rfl) ?_ | refine xq rfl ⟨_, rfl, rfl⟩ (o_ld rfl ts3 (by repeat (first | exact List.Mem.head _ | apply List.Mem.tail | apply List.mem_append_right)) (by omega) rfl) ?_
        refine xcallq rfl ⟨_, rfl, rfl⟩ kf36 rfl (fun w hw => shard_con _ w) ?_
        refine xq rfl trivial (o_pick_t rfl rfl) ?_
        refine xq rfl trivial (o_as rfl) ?_
        refine xo_nil ?_
        refine xq_then ?_
        refine xw_ret ?_
        refine xq_then_ret ?_
        refine xq_blk_ret ?_
        refine xq_then_ret ?_
        exact con_ret1 (.inl rfl) Try.results24 rfl [] (Kp.st (by repeat (first | exact Kp.nil | apply Kp.keep | refine Kp.new (by omega) ?_ | refine Kp.same (by assumption) ?_))) (⟨congrArg Value.bool (by simp_all [endsB]), rfl⟩)
      · try simp only [Bool.and_eq_true, Bool.or_eq_true, Bool.not_eq_true', Bool.not_eq_false', Bool.and_eq_false_iff, Bool.or_eq_false_iff, decide_eq_true_eq, decide_eq_false_iff_not, Int.not_le, Int.not_lt] at h26
        refine xs rfl ⟨_, rfl, rfl⟩ ?_
        refine xs rfl ⟨_, rfl, rfl⟩ ?_
        refine xs rfl ⟨_, rfl, rfl⟩ ?_
        refine xq rfl trivial (o_pick_f rfl rfl) ?_
        refine xq rfl trivial (o_as rfl) ?_
        refine xo_nil ?_
        refine xq_then ?_
        refine xw_ret ?_
        refine xq_then_ret ?_
        refine xq_blk_ret ?_
        refine xq_then_ret ?_
        exact con_ret1 (.inl rfl) Try.results24 rfl [] (Kp.st (by repeat (first | exact Kp.nil | apply Kp.keep | refine Kp.new (by omega) ?_ | refine Kp.same (by assumption) ?_))) (⟨congrArg Value.bool (by simp_all [endsB]), rfl⟩)
  · try simp only [Bool.and_eq_true, Bool.or_eq_true, Bool.not_eq_true', Bool.not_eq_false', Bool.and_eq_false_iff, Bool.or_eq_false_iff, decide_eq_true_eq, decide_eq_false_iff_not, Int.not_le, Int.not_lt] at hc1
    refine xw_cond_f rfl rfl ?_
    refine xw_skip ?_
    refine xq_then ?_
    refine xw_seq ?_
    refine xw_seq ?_
    refine xw_region ?_
    refine xq rfl trivial (o_eql rfl rfl) ?_
    refine xq rfl trivial (o_as rfl) ?_
    refine xo_nil ?_
    refine xq_then ?_
    refine xw_bool 7 rfl (fun hc2 => ?_) (fun hc2 => ?_)
    · try simp only [Bool.and_eq_true, Bool.or_eq_true, Bool.not_eq_true', Bool.not_eq_false', Bool.and_eq_false_iff, Bool.or_eq_false_iff, decide_eq_true_eq, decide_eq_false_iff_not, Int.not_le, Int.not_lt] at hc2
      refine xw_cond_t rfl rfl ?_
      refine xw_skip ?_
      refine xq_then ?_
      refine xw_cond_t rfl (rfl) ?_
      refine xw_exit ?_
      refine xq_then_exit ?_
      refine xq_blk_ne rfl ?_
      refine xq_then_exit ?_
      refine xq_blk_eq ?_
      refine xq_then ?_
      refine xw_seq ?_
      refine xw_seq ?_
      refine xw_region ?_
      first | refine xq rfl trivial (o_fa0 fl34_1 rfl) ?_ | refine xq rfl trivial (o_fa fl34_1 rfl) ?_
      first | refine xq rfl trivial (o_ldV rfl ts3 (by repeat (first | exact List.Mem.head _ | apply List.Mem.tail | apply List.mem_append_right))) ?_ | refine xq rfl trivial (o_ldI rfl ts3 (by repeat (first | exact List.Mem.head _ | apply List.Mem.tail | apply List.mem_append_right)) (by omega) rfl) ?_ | refine xq rfl trivial (o_ld rfl ts3 (by repeat (first | exact List.Mem.head _ | apply List.Mem.tail | apply List.mem_append_right)) (by omega) rfl) ?_
      refine xq rfl trivial (o_eql rfl rfl) ?_
      refine xq rfl trivial (o_mv rfl) ?_
      refine xo_bool 26 rfl (fun h26 => ?_) (fun h26 => ?_)
      · try simp only [Bool.and_eq_true, Bool.or_eq_true, Bool.not_eq_true', Bool.not_eq_false', Bool.and_eq_false_iff, Bool.or_eq_false_iff, decide_eq_true_eq, decide_eq_false_iff_not, Int.not_le, Int.not_lt] at h26
        first | refine xq rfl ⟨_, rfl, rfl⟩ (o_fa0 fl34_2 rfl) ?_ | refine xq rfl ⟨_, rfl, rfl⟩ (o_fa fl34_2 rfl) ?_
        first | refine xq rfl ⟨_, rfl, rfl⟩ (o_ldV rfl ts3 (by repeat (first | exact List.Mem.head _ | apply List.Mem.tail | apply List.mem_append_right))) ?_ | refine xq rfl ⟨_, rfl, rfl⟩ (o_ldI rfl ts3 (by repeat (first | exact List.Mem.head _ | apply List.Mem.tail | apply List.mem_append_right)) (by omega) rfl) ?_ | refine xq rfl ⟨_, rfl, rfl⟩ (o_ld rfl ts3 (by repeat (first | exact List.Mem.head _ | apply List.Mem.tail | apply List.mem_append_right)) (by omega) rfl) ?_
        refine xcallq rfl ⟨_, rfl, rfl⟩ kf36 rfl (fun w hw => shard_con _ w) ?_
        refine xq rfl trivial (o_pick_t rfl rfl) ?_
        refine xq rfl trivial (o_as rfl) ?_
        refine xo_nil ?_
        refine xq_then ?_
        refine xw_ret ?_
        refine xq_then_ret ?_
        refine xq_blk_ret ?_
        refine xq_then_ret ?_
        exact con_ret1 (.inl rfl) Try.results24 rfl [] (Kp.st (by repeat (first | exact Kp.nil | apply Kp.keep | refine Kp.new (by omega) ?_ | refine Kp.same (by assumption) ?_))) (⟨congrArg Value.bool (by simp_all [endsB]), rfl⟩)
      · try simp only [Bool.and_eq_true, Bool.or_eq_true, Bool.not_eq_true', Bool.not_eq_false', Bool.and_eq_false_iff, Bool.or_eq_false_iff, decide_eq_true_eq, decide_eq_false_iff_not, Int.not_le, Int.not_lt] at h26
        refine xs rfl ⟨_, rfl, rfl⟩ ?_
        refine xs rfl ⟨_, rfl, rfl⟩ ?_
        refine xs rfl ⟨_, rfl, rfl⟩ ?_
        refine xq rfl trivial (o_pick_f rfl rfl) ?_
        refine xq rfl trivial (o_as rfl) ?_
        refine xo_nil ?_
        refine xq_then ?_
        refine xw_ret ?_
        refine xq_then_ret ?_
        refine xq_blk_ret ?_
        refine xq_then_ret ?_
        exact con_ret1 (.inl rfl) Try.results24 rfl [] (Kp.st (by repeat (first | exact Kp.nil | apply Kp.keep | refine Kp.new (by omega) ?_ | refine Kp.same (by assumption) ?_))) (⟨congrArg Value.bool (by simp_all [endsB]), rfl⟩)
    · try simp only [Bool.and_eq_true, Bool.or_eq_true, Bool.not_eq_true', Bool.not_eq_false', Bool.and_eq_false_iff, Bool.or_eq_false_iff, decide_eq_true_eq, decide_eq_false_iff_not, Int.not_le, Int.not_lt] at hc2
      refine xw_cond_f rfl rfl ?_
      refine xw_seq ?_
      refine xw_region ?_
      refine xq rfl trivial (o_eql rfl rfl) ?_
      refine xq rfl trivial (o_as rfl) ?_
      refine xo_nil ?_
      refine xq_then ?_
      refine xw_bool 7 rfl (fun hc3 => ?_) (fun hc3 => ?_)
      · try simp only [Bool.and_eq_true, Bool.or_eq_true, Bool.not_eq_true', Bool.not_eq_false', Bool.and_eq_false_iff, Bool.or_eq_false_iff, decide_eq_true_eq, decide_eq_false_iff_not, Int.not_le, Int.not_lt] at hc3
        refine xw_cond_t rfl rfl ?_
        refine xw_skip ?_
        refine xq_then ?_
        refine xw_cond_t rfl (rfl) ?_
        refine xw_exit ?_
        refine xq_then_exit ?_
        refine xq_blk_ne rfl ?_
        refine xq_then_exit ?_
        refine xq_blk_eq ?_
        refine xq_then ?_
        refine xw_seq ?_
        refine xw_seq ?_
        refine xw_region ?_
        first | refine xq rfl trivial (o_fa0 fl34_1 rfl) ?_ | refine xq rfl trivial (o_fa fl34_1 rfl) ?_
        first | refine xq rfl trivial (o_ldV rfl ts3 (by repeat (first | exact List.Mem.head _ | apply List.Mem.tail | apply List.mem_append_right))) ?_ | refine xq rfl trivial (o_ldI rfl ts3 (by repeat (first | exact List.Mem.head _ | apply List.Mem.tail | apply List.mem_append_right)) (by omega) rfl) ?_ | refine xq rfl trivial (o_ld rfl ts3 (by repeat (first | exact List.Mem.head _ | apply List.Mem.tail | apply List.mem_append_right)) (by omega) rfl) ?_
        refine xq rfl trivial (o_eql rfl rfl) ?_
        refine xq rfl trivial (o_mv rfl) ?_
        refine xo_bool 26 rfl (fun h26 => ?_) (fun h26 => ?_)
        · try simp only [Bool.and_eq_true, Bool.or_eq_true, Bool.not_eq_true', Bool.not_eq_false', Bool.and_eq_false_iff, Bool.or_eq_false_iff, decide_eq_true_eq, decide_eq_false_iff_not, Int.not_le, Int.not_lt] at h26
          first | refine xq rfl ⟨_, rfl, rfl⟩ (o_fa0 fl34_2 rfl) ?_ | refine xq rfl ⟨_, rfl, rfl⟩ (o_fa fl34_2 rfl) ?_
          first | refine xq rfl ⟨_, rfl, rfl⟩ (o_ldV rfl ts3 (by repeat (first | exact List.Mem.head _ | apply List.Mem.tail | apply List.mem_append_right))) ?_ | refine xq rfl ⟨_, rfl, rfl⟩ (o_ldI rfl ts3 (by repeat (first | exact List.Mem.head _ | apply List.Mem.tail | apply List.mem_append_right)) (by omega) rfl) ?_ | refine xq rfl ⟨_, rfl, rfl⟩ (o_ld rfl ts3 (by repeat (first | exact List.Mem.head _ | apply List.Mem.tail | apply List.mem_append_right)) (by omega) rfl) ?_
          refine xcallq rfl ⟨_, rfl, rfl⟩ kf36 rfl (fun w hw => shard_con _ w) ?_
          refine xq rfl trivial (o_pick_t rfl rfl) ?_
          refine xq rfl trivial (o_as rfl) ?_
          refine xo_nil ?_
          refine xq_then ?_
          refine xw_ret ?_
          refine xq_then_ret ?_
          refine xq_blk_ret ?_
          refine xq_then_ret ?_
          exact con_ret1 (.inl rfl) Try.results24 rfl [] (Kp.st (by repeat (first | exact Kp.nil | apply Kp.keep | refine Kp.new (by omega) ?_ | refine Kp.same (by assumption) ?_))) (⟨congrArg Value.bool (by simp_all [endsB]), rfl⟩)
        · try simp only [Bool.and_eq_true, Bool.or_eq_true, Bool.not_eq_true', Bool.not_eq_false', Bool.and_eq_false_iff, Bool.or_eq_false_iff, decide_eq_true_eq, decide_eq_false_iff_not, Int.not_le, Int.not_lt] at h26
          refine xs rfl ⟨_, rfl, rfl⟩ ?_
          refine xs rfl ⟨_, rfl, rfl⟩ ?_
          refine xs rfl ⟨_, rfl, rfl⟩ ?_
          refine xq rfl trivial (o_pick_f rfl rfl) ?_
          refine xq rfl trivial (o_as rfl) ?_
          refine xo_nil ?_
          refine xq_then ?_
          refine xw_ret ?_
          refine xq_then_ret ?_
          refine xq_blk_ret ?_
          refine xq_then_ret ?_
          exact con_ret1 (.inl rfl) Try.results24 rfl [] (Kp.st (by repeat (first | exact Kp.nil | apply Kp.keep | refine Kp.new (by omega) ?_ | refine Kp.same (by assumption) ?_))) (⟨congrArg Value.bool (by simp_all [endsB]), rfl⟩)
      · try simp only [Bool.and_eq_true, Bool.or_eq_true, Bool.not_eq_true', Bool.not_eq_false', Bool.and_eq_false_iff, Bool.or_eq_false_iff, decide_eq_true_eq, decide_eq_false_iff_not, Int.not_le, Int.not_lt] at hc3
        refine xw_cond_f rfl rfl ?_
        refine xw_seq ?_
        refine xw_region ?_
        refine xq rfl trivial (o_eql rfl rfl) ?_
        refine xq rfl trivial (o_as rfl) ?_
        refine xo_nil ?_
        refine xq_then ?_
        refine xw_bool 7 rfl (fun hc4 => ?_) (fun hc4 => ?_)
        · try simp only [Bool.and_eq_true, Bool.or_eq_true, Bool.not_eq_true', Bool.not_eq_false', Bool.and_eq_false_iff, Bool.or_eq_false_iff, decide_eq_true_eq, decide_eq_false_iff_not, Int.not_le, Int.not_lt] at hc4
          refine xw_cond_t rfl rfl ?_
          refine xw_skip ?_
          refine xq_then ?_
          refine xw_cond_t rfl (rfl) ?_
          refine xw_exit ?_
          refine xq_then_exit ?_
          refine xq_blk_ne rfl ?_
          refine xq_then_exit ?_
          refine xq_blk_eq ?_
          refine xq_then ?_
          refine xw_seq ?_
          refine xw_seq ?_
          refine xw_region ?_
          first | refine xq rfl trivial (o_fa0 fl34_1 rfl) ?_ | refine xq rfl trivial (o_fa fl34_1 rfl) ?_
          first | refine xq rfl trivial (o_ldV rfl ts3 (by repeat (first | exact List.Mem.head _ | apply List.Mem.tail | apply List.mem_append_right))) ?_ | refine xq rfl trivial (o_ldI rfl ts3 (by repeat (first | exact List.Mem.head _ | apply List.Mem.tail | apply List.mem_append_right)) (by omega) rfl) ?_ | refine xq rfl trivial (o_ld rfl ts3 (by repeat (first | exact List.Mem.head _ | apply List.Mem.tail | apply List.mem_append_right)) (by omega) rfl) ?_
          refine xq rfl trivial (o_eql rfl rfl) ?_
          refine xq rfl trivial (o_mv rfl) ?_
          refine xo_bool 26 rfl (fun h26 => ?_) (fun h26 => ?_)
          · try simp only [Bool.and_eq_true, Bool.or_eq_true, Bool.not_eq_true', Bool.not_eq_false', Bool.and_eq_false_iff, Bool.or_eq_false_iff, decide_eq_true_eq, decide_eq_false_iff_not, Int.not_le, Int.not_lt] at h26
            first | refine xq rfl ⟨_, rfl, rfl⟩ (o_fa0 fl34_2 rfl) ?_ | refine xq rfl ⟨_, rfl, rfl⟩ (o_fa fl34_2 rfl) ?_
            first | refine xq rfl ⟨_, rfl, rfl⟩ (o_ldV rfl ts3 (by repeat (first | exact List.Mem.head _ | apply List.Mem.tail | apply List.mem_append_right))) ?_ | refine xq rfl ⟨_, rfl, rfl⟩ (o_ldI rfl ts3 (by repeat (first | exact List.Mem.head _ | apply List.Mem.tail | apply List.mem_append_right)) (by omega) rfl) ?_ | refine xq rfl ⟨_, rfl, rfl⟩ (o_ld rfl ts3 (by repeat (first | exact List.Mem.head _ | apply List.Mem.tail | apply List.mem_append_right)) (by omega) rfl) ?_
            refine xcallq rfl ⟨_, rfl, rfl⟩ kf36 rfl (fun w hw => shard_con _ w) ?_
            refine xq rfl trivial (o_pick_t rfl rfl) ?_
            refine xq rfl trivial (o_as rfl) ?_
            refine xo_nil ?_
            refine xq_then ?_
            refine xw_ret ?_
            refine xq_then_ret ?_
            refine xq_blk_ret ?_
            refine xq_then_ret ?_
            exact con_ret1 (.inl rfl) Try.results24 rfl [] (Kp.st (by repeat (first | exact Kp.nil | apply Kp.keep | refine Kp.new (by omega) ?_ | refine Kp.same (by assumption) ?_))) (⟨congrArg Value.bool (by simp_all [endsB]), rfl⟩)
          · try simp only [Bool.and_eq_true, Bool.or_eq_true, Bool.not_eq_true', Bool.not_eq_false', Bool.and_eq_false_iff, Bool.or_eq_false_iff, decide_eq_true_eq, decide_eq_false_iff_not, Int.not_le, Int.not_lt] at h26
            refine xs rfl ⟨_, rfl, rfl⟩ ?_
            refine xs rfl ⟨_, rfl, rfl⟩ ?_
            refine xs rfl ⟨_, rfl, rfl⟩ ?_
            refine xq rfl trivial (o_pick_f rfl rfl) ?_
            refine xq rfl trivial (o_as rfl) ?_
            refine xo_nil ?_
            refine xq_then ?_
            refine xw_ret ?_
            refine xq_then_ret ?_
            refine xq_blk_ret ?_
            refine xq_then_ret ?_
            exact con_ret1 (.inl rfl) Try.results24 rfl [] (Kp.st (by repeat (first | exact Kp.nil | apply Kp.keep | refine Kp.new (by omega) ?_ | refine Kp.same (by assumption) ?_))) (⟨congrArg Value.bool (by simp_all [endsB]), rfl⟩)
        · try simp only [Bool.and_eq_true, Bool.or_eq_true, Bool.not_eq_true', Bool.not_eq_false', Bool.and_eq_false_iff, Bool.or_eq_false_iff, decide_eq_true_eq, decide_eq_false_iff_not, Int.not_le, Int.not_lt] at hc4
          refine xw_cond_f rfl rfl ?_
          refine xw_region ?_
          refine xq rfl trivial (o_eql rfl rfl) ?_
          refine xq rfl trivial (o_as rfl) ?_
          refine xo_nil ?_
          refine xq_then ?_
          refine xw_bool 7 rfl (fun hc5 => ?_) (fun hc5 => ?_)
          · try simp only [Bool.and_eq_true, Bool.or_eq_true, Bool.not_eq_true', Bool.not_eq_false', Bool.and_eq_false_iff, Bool.or_eq_false_iff, decide_eq_true_eq, decide_eq_false_iff_not, Int.not_le, Int.not_lt] at hc5
            refine xw_cond_t rfl rfl ?_
            refine xw_exit ?_
            refine xq_then_exit ?_
            refine xq_blk_ne rfl ?_
            refine xq_then_exit ?_
            refine xq_blk_eq ?_
            refine xq_then ?_
            refine xw_seq ?_
            refine xw_seq ?_
            refine xw_region ?_
            first | refine xq rfl trivial (o_fa0 fl34_1 rfl) ?_ | refine xq rfl trivial (o_fa fl34_1 rfl) ?_
            first | refine xq rfl trivial (o_ldV rfl ts3 (by repeat (first | exact List.Mem.head _ | apply List.Mem.tail | apply List.mem_append_right))) ?_ | refine xq rfl trivial (o_ldI rfl ts3 (by repeat (first | exact List.Mem.head _ | apply List.Mem.tail | apply List.mem_append_right)) (by omega) rfl) ?_ | refine xq rfl trivial (o_ld rfl ts3 (by repeat (first | exact List.Mem.head _ | apply List.Mem.tail | apply List.mem_append_right)) (by omega) rfl) ?_
            refine xq rfl trivial (o_eql rfl rfl) ?_
            refine xq rfl trivial (o_mv rfl) ?_
            refine xo_bool 26 rfl (fun h26 => ?_) (fun h26 => ?_)
            · try simp only [Bool.and_eq_true, Bool.or_eq_true, Bool.not_eq_true', Bool.not_eq_false', Bool.and_eq_false_iff, Bool.or_eq_false_iff, decide_eq_true_eq, decide_eq_false_iff_not, Int.not_le, Int.not_lt] at h26
              first | refine xq rfl ⟨_, rfl, rfl⟩ (o_fa0 fl34_2 rfl) ?_ | refine xq rfl ⟨_, rfl, rfl⟩ (o_fa fl34_2 rfl) ?_
              first | refine xq rfl ⟨_, rfl, rfl⟩ (o_ldV rfl ts3 (by repeat (first | exact List.Mem.head _ | apply List.Mem.tail | apply List.mem_append_right))) ?_ | refine xq rfl ⟨_, rfl, rfl⟩ (o_ldI rfl ts3 (by repeat (first | exact List.Mem.head _ | apply List.Mem.tail | apply List.mem_append_right)) (by omega) rfl) ?_ | refine xq rfl ⟨_, rfl, rfl⟩ (o_ld rfl ts3 (by repeat (first | exact List.Mem.head _ | apply List.Mem.tail | apply List.mem_append_right)) (by omega) rfl) ?_
              refine xcallq rfl ⟨_, rfl, rfl⟩ kf36 rfl (fun w hw => shard_con _ w) ?_
              refine xq rfl trivial (o_pick_t rfl rfl) ?_
              refine xq rfl trivial (o_as rfl) ?_
              refine xo_nil ?_
              refine xq_then ?_
              refine xw_ret ?_
              refine xq_then_ret ?_
              refine xq_blk_ret ?_
              refine xq_then_ret ?_
              exact con_ret1 (.inl rfl) Try.results24 rfl [] (Kp.st (by repeat (first | exact Kp.nil | apply Kp.keep | refine Kp.new (by omega) ?_ | refine Kp.same (by assumption) ?_))) (⟨congrArg Value.bool (by simp_all [endsB]), rfl⟩)
            · try simp only [Bool.and_eq_true, Bool.or_eq_true, Bool.not_eq_true', Bool.not_eq_false', Bool.and_eq_false_iff, Bool.or_eq_false_iff, decide_eq_true_eq, decide_eq_false_iff_not, Int.not_le, Int.not_lt] at h26
              refine xs rfl ⟨_, rfl, rfl⟩ ?_
              refine xs rfl ⟨_, rfl, rfl⟩ ?_
              refine xs rfl ⟨_, rfl, rfl⟩ ?_
              refine xq rfl trivial (o_pick_f rfl rfl) ?_
              refine xq rfl trivial (o_as rfl) ?_
              refine xo_nil ?_
              refine xq_then ?_
              refine xw_ret ?_
              refine xq_then_ret ?_
              refine xq_blk_ret ?_
              refine xq_then_ret ?_
              exact con_ret1 (.inl rfl) Try.results24 rfl [] (Kp.st (by repeat (first | exact Kp.nil | apply Kp.keep | refine Kp.new (by omega) ?_ | refine Kp.same (by assumption) ?_))) (⟨congrArg Value.bool (by simp_all [endsB]), rfl⟩)
          · try simp only [Bool.and_eq_true, Bool.or_eq_true, Bool.not_eq_true', Bool.not_eq_false', Bool.and_eq_false_iff, Bool.or_eq_false_iff, decide_eq_true_eq, decide_eq_false_iff_not, Int.not_le, Int.not_lt] at hc5
            refine xw_cond_f rfl rfl ?_
            refine xw_skip ?_
            refine xq_then ?_
            refine xw_exit ?_
            refine xq_blk_ne rfl ?_
            refine xq_then_exit ?_
            refine xq_blk_ne rfl ?_
            refine xq_then_exit ?_
            refine xq_blk_eq ?_
            refine xq_then ?_
            refine xw_seq ?_
            refine xw_region ?_
            first | refine xq rfl trivial (o_fa0 fl34_1 rfl) ?_ | refine xq rfl trivial (o_fa fl34_1 rfl) ?_
            first | refine xq rfl trivial (o_ldV rfl ts3 (by repeat (first | exact List.Mem.head _ | apply List.Mem.tail | apply List.mem_append_right))) ?_ | refine xq rfl trivial (o_ldI rfl ts3 (by repeat (first | exact List.Mem.head _ | apply List.Mem.tail | apply List.mem_append_right)) (by omega) rfl) ?_ | refine xq rfl trivial (o_ld rfl ts3 (by repeat (first | exact List.Mem.head _ | apply List.Mem.tail | apply List.mem_append_right)) (by omega) rfl) ?_
            refine xcallq rfl trivial kf36 rfl (fun w hw => shard_con _ w) ?_
            refine xq rfl trivial (o_mv rfl) ?_
            refine xo_bool 34 rfl (fun h34 => ?_) (fun h34 => ?_)
            · try simp only [Bool.and_eq_true, Bool.or_eq_true, Bool.not_eq_true', Bool.not_eq_false', Bool.and_eq_false_iff, Bool.or_eq_false_iff, decide_eq_true_eq, decide_eq_false_iff_not, Int.not_le, Int.not_lt] at h34
              first | refine xq rfl ⟨_, rfl, rfl⟩ (o_fa0 fl34_2 rfl) ?_ | refine xq rfl ⟨_, rfl, rfl⟩ (o_fa fl34_2 rfl) ?_
              first | refine xq rfl ⟨_, rfl, rfl⟩ (o_ldV rfl ts3 (by repeat (first | exact List.Mem.head _ | apply List.Mem.tail | apply List.mem_append_right))) ?_ | refine xq rfl ⟨_, rfl, rfl⟩ (o_ldI rfl ts3 (by repeat (first | exact List.Mem.head _ | apply List.Mem.tail | apply List.mem_append_right)) (by omega) rfl) ?_ | refine xq rfl ⟨_, rfl, rfl⟩ (o_ld rfl ts3 (by repeat (first | exact List.Mem.head _ | apply List.Mem.tail | apply List.mem_append_right)) (by omega) rfl) ?_
              refine xq rfl ⟨_, rfl, rfl⟩ (o_eql rfl rfl) ?_
              refine xq rfl trivial (o_pick_t rfl rfl) ?_
              refine xq rfl trivial (o_as rfl) ?_
              refine xo_nil ?_
              refine xq_then ?_
              refine xw_ret ?_
              exact con_ret1 (.inl rfl) Try.results24 rfl [] (Kp.st (by repeat (first | exact Kp.nil | apply Kp.keep | refine Kp.new (by omega) ?_ | refine Kp.same (by assumption) ?_))) (⟨congrArg Value.bool (by simp_all [endsB]), rfl⟩)
            · try simp only [Bool.and_eq_true, Bool.or_eq_true, Bool.not_eq_true', Bool.not_eq_false', Bool.and_eq_false_iff, Bool.or_eq_false_iff, decide_eq_true_eq, decide_eq_false_iff_not, Int.not_le, Int.not_lt] at h34
              refine xs rfl ⟨_, rfl, rfl⟩ ?_
              refine xs rfl ⟨_, rfl, rfl⟩ ?_
              refine xs rfl ⟨_, rfl, rfl⟩ ?_
              refine xq rfl trivial (o_pick_f rfl rfl) ?_
              refine xq rfl trivial (o_as rfl) ?_
              refine xo_nil ?_
              refine xq_then ?_
              refine xw_ret ?_
              exact con_ret1 (.inl rfl) Try.results24 rfl [] (Kp.st (by repeat (first | exact Kp.nil | apply Kp.keep | refine Kp.new (by omega) ?_ | refine Kp.same (by assumption) ?_))) (⟨congrArg Value.bool (by simp_all [endsB]), rfl⟩)

theorem path_con (m : Nat → Int) (w : World) : Con Try.prog 39 #[AI 28 m] w (Is (.bool (pathB m)) []) := by
  refine con_enter (n := 61) [(0, _)] Try.func39 rfl Try.ntmps39 rfl (lac rfl lan) ?_
  refine xw_seq ?_
  refine xw_region ?_
  refine xo rfl trivial (o_boxA rfl) ?_
  rintro _ _ ⟨b1, hb1, rfl, rfl⟩
  refine xq rfl trivial (o_as rfl) ?_
  refine xo_nil ?_
  refine xq_then ?_
  refine xw_seq ?_
  refine xw_seq ?_
  refine xw_region ?_
  first | refine xq rfl trivial (o_fa0 fl34_10 rfl) ?_ | refine xq rfl trivial (o_fa fl34_10 rfl) ?_
  first | refine xq rfl trivial (o_ldV rfl ts3 (by repeat (first | exact List.Mem.head _ | apply List.Mem.tail | apply List.mem_append_right))) ?_ | refine xq rfl trivial (o_ldI rfl ts3 (by repeat (first | exact List.Mem.head _ | apply List.Mem.tail | apply List.mem_append_right)) (by omega) rfl) ?_ | refine xq rfl trivial (o_ld rfl ts3 (by repeat (first | exact List.Mem.head _ | apply List.Mem.tail | apply List.mem_append_right)) (by omega) rfl) ?_
  refine xcallq rfl trivial kf18 rfl (fun w hw => in_con _ _ _ w) ?_
  refine xq rfl trivial (o_not rfl) ?_
  refine xq rfl trivial (o_mv rfl) ?_
  refine xo_bool 11 rfl (fun h11 => ?_) (fun h11 => ?_)
  · try simp only [Bool.and_eq_true, Bool.or_eq_true, Bool.not_eq_true', Bool.not_eq_false', Bool.and_eq_false_iff, Bool.or_eq_false_iff, decide_eq_true_eq, decide_eq_false_iff_not, Int.not_le, Int.not_lt] at h11
    refine xs rfl ⟨_, rfl, rfl⟩ ?_
    refine xs rfl ⟨_, rfl, rfl⟩ ?_
    refine xs rfl ⟨_, rfl, rfl⟩ ?_
    refine xs rfl ⟨_, rfl, rfl⟩ ?_
    refine xq rfl trivial (o_pick_t rfl rfl) ?_
    refine xq rfl trivial (o_mv rfl) ?_
    refine xs rfl ⟨_, rfl, rfl⟩ ?_
    refine xs rfl ⟨_, rfl, rfl⟩ ?_
    refine xs rfl ⟨_, rfl, rfl⟩ ?_
    refine xs rfl ⟨_, rfl, rfl⟩ ?_
    refine xq rfl trivial (o_pick_t rfl rfl) ?_
    refine xo_nil ?_
    refine xq_then ?_
    refine xw_cond_t rfl (rfl) ?_
    refine xw_seq ?_
    refine xw_region ?_
    refine xq rfl trivial (o_as rfl) ?_
    refine xo_nil ?_
    refine xq_then ?_
    refine xw_ret ?_
    refine xq_then_ret ?_
    exact con_ret1 (.inl rfl) Try.results39 rfl [] (Kp.st (by repeat (first | exact Kp.nil | apply Kp.keep | refine Kp.new (by omega) ?_ | refine Kp.same (by assumption) ?_))) (⟨congrArg Value.bool (by rw [Bool.eq_iff_iff]; simp only [pathB, inB, txB, Bool.and_eq_true, Bool.or_eq_true, Bool.not_eq_true', Bool.not_eq_false', Bool.and_eq_false_iff, Bool.or_eq_false_iff, decide_eq_true_eq, decide_eq_false_iff_not, Bool.false_eq_true, false_iff, true_iff, iff_false, iff_true] at *; omega), rfl⟩)
  · try simp only [Bool.and_eq_true, Bool.or_eq_true, Bool.not_eq_true', Bool.not_eq_false', Bool.and_eq_false_iff, Bool.or_eq_false_iff, decide_eq_true_eq, decide_eq_false_iff_not, Int.not_le, Int.not_lt] at h11
    first | refine xq rfl ⟨_, rfl, rfl⟩ (o_fa0 fl34_8 rfl) ?_ | refine xq rfl ⟨_, rfl, rfl⟩ (o_fa fl34_8 rfl) ?_
    first | refine xq rfl ⟨_, rfl, rfl⟩ (o_ldV rfl ts3 (by repeat (first | exact List.Mem.head _ | apply List.Mem.tail | apply List.mem_append_right))) ?_ | refine xq rfl ⟨_, rfl, rfl⟩ (o_ldI rfl ts3 (by repeat (first | exact List.Mem.head _ | apply List.Mem.tail | apply List.mem_append_right)) (by omega) rfl) ?_ | refine xq rfl ⟨_, rfl, rfl⟩ (o_ld rfl ts3 (by repeat (first | exact List.Mem.head _ | apply List.Mem.tail | apply List.mem_append_right)) (by omega) rfl) ?_
    refine xcallq rfl ⟨_, rfl, rfl⟩ kf38 rfl (fun w hw => tx_con _ w) ?_
    refine xq rfl ⟨_, rfl, rfl⟩ (o_not rfl) ?_
    refine xq rfl trivial (o_pick_f rfl rfl) ?_
    refine xq rfl trivial (o_mv rfl) ?_
    refine xo_bool 17 rfl (fun h17 => ?_) (fun h17 => ?_)
    · try simp only [Bool.and_eq_true, Bool.or_eq_true, Bool.not_eq_true', Bool.not_eq_false', Bool.and_eq_false_iff, Bool.or_eq_false_iff, decide_eq_true_eq, decide_eq_false_iff_not, Int.not_le, Int.not_lt] at h17
      refine xs rfl ⟨_, rfl, rfl⟩ ?_
      refine xs rfl ⟨_, rfl, rfl⟩ ?_
      refine xs rfl ⟨_, rfl, rfl⟩ ?_
      refine xs rfl ⟨_, rfl, rfl⟩ ?_
      refine xq rfl trivial (o_pick_t rfl rfl) ?_
      refine xo_nil ?_
      refine xq_then ?_
      refine xw_cond_t rfl (rfl) ?_
      refine xw_seq ?_
      refine xw_region ?_
      refine xq rfl trivial (o_as rfl) ?_
      refine xo_nil ?_
      refine xq_then ?_
      refine xw_ret ?_
      refine xq_then_ret ?_
      exact con_ret1 (.inl rfl) Try.results39 rfl [] (Kp.st (by repeat (first | exact Kp.nil | apply Kp.keep | refine Kp.new (by omega) ?_ | refine Kp.same (by assumption) ?_))) (⟨congrArg Value.bool (by rw [Bool.eq_iff_iff]; simp only [pathB, inB, txB, Bool.and_eq_true, Bool.or_eq_true, Bool.not_eq_true', Bool.not_eq_false', Bool.and_eq_false_iff, Bool.or_eq_false_iff, decide_eq_true_eq, decide_eq_false_iff_not, Bool.false_eq_true, false_iff, true_iff, iff_false, iff_true] at *; omega), rfl⟩)
    · try simp only [Bool.and_eq_true, Bool.or_eq_true, Bool.not_eq_true', Bool.not_eq_false', Bool.and_eq_false_iff, Bool.or_eq_false_iff, decide_eq_true_eq, decide_eq_false_iff_not, Int.not_le, Int.not_lt] at h17
      first | refine xq rfl ⟨_, rfl, rfl⟩ (o_fa0 fl34_9 rfl) ?_ | refine xq rfl ⟨_, rfl, rfl⟩ (o_fa fl34_9 rfl) ?_
      first | refine xq rfl ⟨_, rfl, rfl⟩ (o_ldV rfl ts3 (by repeat (first | exact List.Mem.head _ | apply List.Mem.tail | apply List.mem_append_right))) ?_ | refine xq rfl ⟨_, rfl, rfl⟩ (o_ldI rfl ts3 (by repeat (first | exact List.Mem.head _ | apply List.Mem.tail | apply List.mem_append_right)) (by omega) rfl) ?_ | refine xq rfl ⟨_, rfl, rfl⟩ (o_ld rfl ts3 (by repeat (first | exact List.Mem.head _ | apply List.Mem.tail | apply List.mem_append_right)) (by omega) rfl) ?_
      refine xcallq rfl ⟨_, rfl, rfl⟩ kf18 rfl (fun w hw => in_con _ _ _ w) ?_
      refine xq rfl ⟨_, rfl, rfl⟩ (o_not rfl) ?_
      refine xq rfl trivial (o_pick_f rfl rfl) ?_
      refine xo_nil ?_
      refine xq_then ?_
      refine xw_bool 22 rfl (fun hc1 => ?_) (fun hc1 => ?_)
      · try simp only [Bool.and_eq_true, Bool.or_eq_true, Bool.not_eq_true', Bool.not_eq_false', Bool.and_eq_false_iff, Bool.or_eq_false_iff, decide_eq_true_eq, decide_eq_false_iff_not, Int.not_le, Int.not_lt] at hc1
        refine xw_cond_t rfl rfl ?_
        refine xw_seq ?_
        refine xw_region ?_
        refine xq rfl trivial (o_as rfl) ?_
        refine xo_nil ?_
        refine xq_then ?_
        refine xw_ret ?_
        refine xq_then_ret ?_
        exact con_ret1 (.inl rfl) Try.results39 rfl [] (Kp.st (by repeat (first | exact Kp.nil | apply Kp.keep | refine Kp.new (by omega) ?_ | refine Kp.same (by assumption) ?_))) (⟨congrArg Value.bool (by rw [Bool.eq_iff_iff]; simp only [pathB, inB, txB, Bool.and_eq_true, Bool.or_eq_true, Bool.not_eq_true', Bool.not_eq_false', Bool.and_eq_false_iff, Bool.or_eq_false_iff, decide_eq_true_eq, decide_eq_false_iff_not, Bool.false_eq_true, false_iff, true_iff, iff_false, iff_true] at *; omega), rfl⟩)
      · try simp only [Bool.and_eq_true, Bool.or_eq_true, Bool.not_eq_true', Bool.not_eq_false', Bool.and_eq_false_iff, Bool.or_eq_false_iff, decide_eq_true_eq, decide_eq_false_iff_not, Int.not_le, Int.not_lt] at hc1
        refine xw_cond_f rfl rfl ?_
        refine xw_skip ?_
        refine xq_then ?_
        refine xw_seq ?_
        refine xw_seq ?_
        refine xw_region ?_
        first | refine xq rfl trivial (o_fa0 fl34_11 rfl) ?_ | refine xq rfl trivial (o_fa fl34_11 rfl) ?_
        first | refine xq rfl trivial (o_ldW rfl ts32 (by repeat (first | exact List.Mem.head _ | apply List.Mem.tail | apply List.mem_append_right))) ?_ | refine xq rfl trivial (o_ldSI rfl ts32 (by repeat (first | exact List.Mem.head _ | apply List.Mem.tail | apply List.mem_append_right)) (by omega) (fun _ _ => rfl)) ?_ | refine xq rfl trivial (o_ldS rfl ts32 (by repeat (first | exact List.Mem.head _ | apply List.Mem.tail | apply List.mem_append_right)) (by omega) (fun _ _ => rfl)) ?_
        refine xq rfl trivial (o_mv rfl) ?_
        refine xo_nil ?_
        refine xq_then ?_
        refine xw_block ?_
        refine xw_loop (fun mm ee HH => ∃ (k : Nat), mm = 8 - k ∧ ee = [(25, .int .i64 k), (24, AI 16 (fun i => m (12 + i))), (1, .pointer (some ⟨b1, 0, none⟩))] ∧ HH = [(b1, BK 28 (iv m) 34)] ∧ (k ≤ 8) ∧ ((List.range k).all (stepB m) = true)) _ ⟨_, _, (lc rfl (lc rfl (lc rfl ln))), fun _ h => h, 0, rfl, rfl, rfl, (by omega), rfl⟩ ?_
        rintro _ _ _ ⟨k, rfl, rfl, rfl, hk, ha⟩
        refine xw_seq ?_
        refine xw_region ?_
        refine xq rfl trivial (o_lss rfl rfl) ?_
        refine xo_nil ?_
        refine xq_then ?_
        refine xw_seq ?_
        refine xw_bool 26 rfl (fun hc2 => ?_) (fun hc2 => ?_)
        · try simp only [Bool.and_eq_true, Bool.or_eq_true, Bool.not_eq_true', Bool.not_eq_false', Bool.and_eq_false_iff, Bool.or_eq_false_iff, decide_eq_true_eq, decide_eq_false_iff_not, Int.not_le, Int.not_lt] at hc2
          refine xw_cond_t rfl rfl ?_
          refine xw_skip ?_
          refine xq_then ?_
          refine xw_seq ?_
          refine xw_block ?_
          refine xw_seq ?_
          refine xw_region ?_
          refine xq rfl trivial (o_mv rfl) ?_
          first | refine xq rfl trivial (o_ixAI ea32 rfl rfl ⟨by omega, by omega⟩ (by first | with_reducible exact Int.toNat_natCast _ | exact Eq.refl (Int.toNat _)) (by decide) (fun _ _ => rfl)) ?_ | refine xq rfl trivial (o_ixA ea32 rfl rfl ⟨by omega, by omega⟩ (by first | with_reducible exact Int.toNat_natCast _ | exact Eq.refl (Int.toNat _)) (by decide) (fun _ _ => rfl)) ?_
          refine xo rfl trivial (o_alloc ze31 rfl) ?_
          rintro _ _ ⟨b4, hb4, rfl, rfl⟩
          refine xq rfl trivial (o_as rfl) ?_
          first | refine xq0 trivial (o_stWI rfl rfl ts31 (by repeat (first | exact List.Mem.head _ | apply List.Mem.tail | apply List.mem_append_right)) (by repeat (first | exact Upd.here _ _ _ _ | apply Upd.there | apply Upd.seg))) ?_ | refine xq0 trivial (o_stSI rfl rfl ts31 (by repeat (first | exact List.Mem.head _ | apply List.Mem.tail | apply List.mem_append_right)) (by omega) (by repeat (first | exact Upd.here _ _ _ _ | apply Upd.there | apply Upd.seg))) ?_
          refine xo_nil ?_
          refine xq_then ?_
          refine xw_seq ?_
          refine xw_seq ?_
          refine xw_region ?_
          refine xq rfl trivial (o_mv rfl) ?_
          first | refine xq rfl trivial (o_fa0 fl34_10 rfl) ?_ | refine xq rfl trivial (o_fa fl34_10 rfl) ?_
          first | refine xq rfl trivial (o_ldV rfl ts3 (by repeat (first | exact List.Mem.head _ | apply List.Mem.tail | apply List.mem_append_right))) ?_ | refine xq rfl trivial (o_ldI rfl ts3 (by repeat (first | exact List.Mem.head _ | apply List.Mem.tail | apply List.mem_append_right)) (by omega) rfl) ?_ | refine xq rfl trivial (o_ld rfl ts3 (by repeat (first | exact List.Mem.head _ | apply List.Mem.tail | apply List.mem_append_right)) (by omega) rfl) ?_
          refine xq rfl trivial (o_geq rfl rfl) ?_
          refine xo_nil ?_
          refine xq_then ?_
          refine xw_bool 32 rfl (fun hc3 => ?_) (fun hc3 => ?_)
          · try simp only [Bool.and_eq_true, Bool.or_eq_true, Bool.not_eq_true', Bool.not_eq_false', Bool.and_eq_false_iff, Bool.or_eq_false_iff, decide_eq_true_eq, decide_eq_false_iff_not, Int.not_le, Int.not_lt] at hc3
            refine xw_cond_t rfl rfl ?_
            refine xw_seq ?_
            refine xw_seq ?_
            refine xw_region ?_
            first | refine xq rfl trivial (o_ldW rfl ts31 (by repeat (first | exact List.Mem.head _ | apply List.Mem.tail | apply List.mem_append_right))) ?_ | refine xq rfl trivial (o_ldSI rfl ts31 (by repeat (first | exact List.Mem.head _ | apply List.Mem.tail | apply List.mem_append_right)) (by omega) (fun _ _ => rfl)) ?_ | refine xq rfl trivial (o_ldS rfl ts31 (by repeat (first | exact List.Mem.head _ | apply List.Mem.tail | apply List.mem_append_right)) (by omega) (fun _ _ => rfl)) ?_
            refine xq rfl trivial (o_build fk31 ze31 (.nil _)) ?_
            refine xq rfl trivial (o_neqA eq31 rfl rfl) ?_
            refine xo_nil ?_
            refine xq_then ?_
            refine xw_bool 35 rfl (fun hc4 => ?_) (fun hc4 => ?_)
            · try simp only [Bool.and_eq_true, Bool.or_eq_true, Bool.not_eq_true', Bool.not_eq_false', Bool.and_eq_false_iff, Bool.or_eq_false_iff, decide_eq_true_eq, decide_eq_false_iff_not, Int.not_le, Int.not_lt] at hc4
              refine xw_cond_t rfl rfl ?_
              refine xw_seq ?_
              refine xw_region ?_
              refine xq rfl trivial (o_as rfl) ?_
              refine xo_nil ?_
              refine xq_then ?_
              refine xw_ret ?_
              refine xq_then_ret ?_
              refine xq_then_ret ?_
              refine xq_blk_ret ?_
              refine xq_then_ret ?_
              refine xq_then_ret ?_
              refine xq_blk_ret ?_
              refine xq_then_ret ?_
              exact con_ret1 (.inl rfl) Try.results39 rfl [] (Kp.st (by repeat (first | exact Kp.nil | apply Kp.keep | refine Kp.new (by omega) ?_ | refine Kp.same (by assumption) ?_))) (⟨congrArg Value.bool (by unfold pathB; rw [all_false (k := k) (by omega) (by unfold stepB; rw [if_pos hc3]; rw [eqN2] at hc4; exact hc4)]; simp), rfl⟩)
            · try simp only [Bool.and_eq_true, Bool.or_eq_true, Bool.not_eq_true', Bool.not_eq_false', Bool.and_eq_false_iff, Bool.or_eq_false_iff, decide_eq_true_eq, decide_eq_false_iff_not, Int.not_le, Int.not_lt] at hc4
              have hstep : stepB m k = true := by
                unfold stepB; rw [if_pos hc3]; rw [eqN2] at hc4; simp only [Bool.and_eq_true, decide_eq_true_eq] at hc4 ⊢; exact hc4
              refine xw_cond_f rfl rfl ?_
              refine xw_skip ?_
              refine xq_then ?_
              refine xw_exit ?_
              refine xq_then_exit ?_
              refine xq_blk_eq ?_
              refine xq_then ?_
              refine xw_region ?_
              refine xq rfl trivial (o_add rfl rfl rfl ⟨by omega, by omega⟩) ?_
              refine xq rfl trivial (o_mv rfl) ?_
              refine xo_nil ?_
              refine xq_round ⟨_, _, _, ?_, (lc rfl (lc rfl (lc rfl ln))), Kp.st (by repeat (first | exact Kp.nil | apply Kp.keep | refine Kp.new (by omega) ?_ | refine Kp.same (by assumption) ?_)), k + 1, rfl, rfl, rfl, (by omega), (by rw [all_succ, ha]; exact hstep)⟩
              omega
          · try simp only [Bool.and_eq_true, Bool.or_eq_true, Bool.not_eq_true', Bool.not_eq_false', Bool.and_eq_false_iff, Bool.or_eq_false_iff, decide_eq_true_eq, decide_eq_false_iff_not, Int.not_le, Int.not_lt] at hc3
            refine xw_cond_f rfl rfl ?_
            refine xw_skip ?_
            refine xq_then ?_
            refine xw_seq ?_
            refine xw_seq ?_
            refine xw_region ?_
            first | refine xq rfl trivial (o_fa0 fl31_0 rfl) ?_ | refine xq rfl trivial (o_fa fl31_0 rfl) ?_
            first | refine xq rfl trivial (o_ldV rfl ts3 (by repeat (first | exact List.Mem.head _ | apply List.Mem.tail | apply List.mem_append_right))) ?_ | refine xq rfl trivial (o_ldI rfl ts3 (by repeat (first | exact List.Mem.head _ | apply List.Mem.tail | apply List.mem_append_right)) (by omega) rfl) ?_ | refine xq rfl trivial (o_ld rfl ts3 (by repeat (first | exact List.Mem.head _ | apply List.Mem.tail | apply List.mem_append_right)) (by omega) rfl) ?_
            refine xcallq rfl trivial kf38 rfl (fun w hw => tx_con _ w) ?_
            refine xq rfl trivial (o_not rfl) ?_
            refine xq rfl trivial (o_mv rfl) ?_
            refine xo_bool 40 rfl (fun h40 => ?_) (fun h40 => ?_)
            · try simp only [Bool.and_eq_true, Bool.or_eq_true, Bool.not_eq_true', Bool.not_eq_false', Bool.and_eq_false_iff, Bool.or_eq_false_iff, decide_eq_true_eq, decide_eq_false_iff_not, Int.not_le, Int.not_lt] at h40
              refine xs rfl ⟨_, rfl, rfl⟩ ?_
              refine xs rfl ⟨_, rfl, rfl⟩ ?_
              refine xs rfl ⟨_, rfl, rfl⟩ ?_
              refine xs rfl ⟨_, rfl, rfl⟩ ?_
              refine xq rfl trivial (o_pick_t rfl rfl) ?_
              refine xo_nil ?_
              refine xq_then ?_
              refine xw_cond_t rfl (rfl) ?_
              refine xw_seq ?_
              refine xw_region ?_
              refine xq rfl trivial (o_as rfl) ?_
              refine xo_nil ?_
              refine xq_then ?_
              refine xw_ret ?_
              refine xq_then_ret ?_
              refine xq_blk_ret ?_
              refine xq_then_ret ?_
              refine xq_then_ret ?_
              refine xq_blk_ret ?_
              refine xq_then_ret ?_
              exact con_ret1 (.inl rfl) Try.results39 rfl [] (Kp.st (by repeat (first | exact Kp.nil | apply Kp.keep | refine Kp.new (by omega) ?_ | refine Kp.same (by assumption) ?_))) (⟨congrArg Value.bool (by unfold pathB; rw [all_false (k := k) (by omega) (by unfold stepB; rw [if_neg (by omega)]; rw [Bool.and_eq_false_iff]; left; simp only [txB, inB, Bool.and_eq_true, Bool.or_eq_true, Bool.not_eq_true', Bool.not_eq_false', Bool.and_eq_false_iff, Bool.or_eq_false_iff, decide_eq_true_eq, decide_eq_false_iff_not, Bool.false_eq_true, false_iff, true_iff, iff_false, iff_true] at *; omega)]; simp), rfl⟩)
            · try simp only [Bool.and_eq_true, Bool.or_eq_true, Bool.not_eq_true', Bool.not_eq_false', Bool.and_eq_false_iff, Bool.or_eq_false_iff, decide_eq_true_eq, decide_eq_false_iff_not, Int.not_le, Int.not_lt] at h40
              first | refine xq rfl ⟨_, rfl, rfl⟩ (o_fa0 fl31_1 rfl) ?_ | refine xq rfl ⟨_, rfl, rfl⟩ (o_fa fl31_1 rfl) ?_
              first | refine xq rfl ⟨_, rfl, rfl⟩ (o_ldV rfl ts3 (by repeat (first | exact List.Mem.head _ | apply List.Mem.tail | apply List.mem_append_right))) ?_ | refine xq rfl ⟨_, rfl, rfl⟩ (o_ldI rfl ts3 (by repeat (first | exact List.Mem.head _ | apply List.Mem.tail | apply List.mem_append_right)) (by omega) rfl) ?_ | refine xq rfl ⟨_, rfl, rfl⟩ (o_ld rfl ts3 (by repeat (first | exact List.Mem.head _ | apply List.Mem.tail | apply List.mem_append_right)) (by omega) rfl) ?_
              refine xcallq rfl ⟨_, rfl, rfl⟩ kf18 rfl (fun w hw => in_con _ _ _ w) ?_
              refine xq rfl ⟨_, rfl, rfl⟩ (o_not rfl) ?_
              refine xq rfl trivial (o_pick_f rfl rfl) ?_
              refine xo_nil ?_
              refine xq_then ?_
              refine xw_bool 45 rfl (fun hc5 => ?_) (fun hc5 => ?_)
              · try simp only [Bool.and_eq_true, Bool.or_eq_true, Bool.not_eq_true', Bool.not_eq_false', Bool.and_eq_false_iff, Bool.or_eq_false_iff, decide_eq_true_eq, decide_eq_false_iff_not, Int.not_le, Int.not_lt] at hc5
                refine xw_cond_t rfl rfl ?_
                refine xw_seq ?_
                refine xw_region ?_
                refine xq rfl trivial (o_as rfl) ?_
                refine xo_nil ?_
                refine xq_then ?_
                refine xw_ret ?_
                refine xq_then_ret ?_
                refine xq_blk_ret ?_
                refine xq_then_ret ?_
                refine xq_then_ret ?_
                refine xq_blk_ret ?_
                refine xq_then_ret ?_
                exact con_ret1 (.inl rfl) Try.results39 rfl [] (Kp.st (by repeat (first | exact Kp.nil | apply Kp.keep | refine Kp.new (by omega) ?_ | refine Kp.same (by assumption) ?_))) (⟨congrArg Value.bool (by unfold pathB; rw [all_false (k := k) (by omega) (by unfold stepB; rw [if_neg (by omega)]; rw [Bool.and_eq_false_iff]; left; simp only [txB, inB, Bool.and_eq_true, Bool.or_eq_true, Bool.not_eq_true', Bool.not_eq_false', Bool.and_eq_false_iff, Bool.or_eq_false_iff, decide_eq_true_eq, decide_eq_false_iff_not, Bool.false_eq_true, false_iff, true_iff, iff_false, iff_true] at *; omega)]; simp), rfl⟩)
              · try simp only [Bool.and_eq_true, Bool.or_eq_true, Bool.not_eq_true', Bool.not_eq_false', Bool.and_eq_false_iff, Bool.or_eq_false_iff, decide_eq_true_eq, decide_eq_false_iff_not, Int.not_le, Int.not_lt] at hc5
                refine xw_cond_f rfl rfl ?_
                refine xw_skip ?_
                refine xq_then ?_
                refine xw_seq ?_
                refine xw_region ?_
                first | refine xq rfl trivial (o_fa0 fl34_11 rfl) ?_ | refine xq rfl trivial (o_fa fl34_11 rfl) ?_
                refine xq rfl trivial (o_mv rfl) ?_
                refine xq rfl trivial (o_slA ea32 rfl rfl rfl (by omega)) ?_
                refine xq rfl trivial (o_len rfl Try.underlying93 rfl) ?_
                refine xq rfl trivial (o_mv rfl) ?_
                refine xo_nil ?_
                refine xq_then ?_
                refine xw_block ?_
                refine xw_loop (fun mm ee HH => ∃ (j : Nat), mm = k - j ∧ ee = [(50, .int .i64 j), (48, .slice (some ⟨b1, 12, none⟩) k 8), (49, .int .i64 k), (4, .pointer (some ⟨b4, 0, none⟩)), (1, .pointer (some ⟨b1, 0, none⟩)), (25, .int .i64 k), (24, AI 16 (fun i => m (12 + i)))] ∧ HH = [(b4, BK 2 (iv (fun l => m (12 + (k * 2 + l)))) 31), (b1, BK 28 (iv m) 34)] ∧ (j ≤ k) ∧ (newB m k j = true)) _ ⟨_, _, (lc rfl (lc rfl (lc rfl (lc rfl (lc rfl (lc rfl (lc rfl ln))))))), fun _ h => h, 0, rfl, rfl, rfl, (by omega), rfl⟩ ?_
                rintro _ _ _ ⟨j, rfl, rfl, rfl, hj, hn⟩
                refine xw_seq ?_
                refine xw_region ?_
                refine xq rfl trivial (o_lss rfl rfl) ?_
                refine xo_nil ?_
                refine xq_then ?_
                refine xw_seq ?_
                refine xw_bool 51 rfl (fun hc6 => ?_) (fun hc6 => ?_)
                · try simp only [Bool.and_eq_true, Bool.or_eq_true, Bool.not_eq_true', Bool.not_eq_false', Bool.and_eq_false_iff, Bool.or_eq_false_iff, decide_eq_true_eq, decide_eq_false_iff_not, Int.not_le, Int.not_lt] at hc6
                  refine xw_cond_t rfl rfl ?_
                  refine xw_skip ?_
                  refine xq_then ?_
                  refine xw_seq ?_
                  refine xw_block ?_
                  refine xw_seq ?_
                  refine xw_region ?_
                  refine xq rfl trivial (o_ixs el93 rfl rfl ⟨by omega, by omega⟩ (by first | with_reducible exact Int.toNat_natCast _ | exact Eq.refl (Int.toNat _))) ?_
                  first | refine xq rfl trivial (o_ldW rfl ts31 (by repeat (first | exact List.Mem.head _ | apply List.Mem.tail | apply List.mem_append_right))) ?_ | refine xq rfl trivial (o_ldSI rfl ts31 (by repeat (first | exact List.Mem.head _ | apply List.Mem.tail | apply List.mem_append_right)) (by omega) (fun _ _ => rfl)) ?_ | refine xq rfl trivial (o_ldS rfl ts31 (by repeat (first | exact List.Mem.head _ | apply List.Mem.tail | apply List.mem_append_right)) (by omega) (fun _ _ => rfl)) ?_
                  refine xo rfl trivial (o_alloc ze31 rfl) ?_
                  rintro _ _ ⟨b6, hb6, rfl, rfl⟩
                  first | refine xq0 trivial (o_stWI rfl rfl ts31 (by repeat (first | exact List.Mem.head _ | apply List.Mem.tail | apply List.mem_append_right)) (by repeat (first | exact Upd.here _ _ _ _ | apply Upd.there | apply Upd.seg))) ?_ | refine xq0 trivial (o_stSI rfl rfl ts31 (by repeat (first | exact List.Mem.head _ | apply List.Mem.tail | apply List.mem_append_right)) (by omega) (by repeat (first | exact Upd.here _ _ _ _ | apply Upd.there | apply Upd.seg))) ?_
                  refine xo_nil ?_
                  refine xq_then ?_
                  refine xw_seq ?_
                  refine xw_region ?_
                  first | refine xq rfl trivial (o_fa0 fl31_0 rfl) ?_ | refine xq rfl trivial (o_fa fl31_0 rfl) ?_
                  first | refine xq rfl trivial (o_ldV rfl ts3 (by repeat (first | exact List.Mem.head _ | apply List.Mem.tail | apply List.mem_append_right))) ?_ | refine xq rfl trivial (o_ldI rfl ts3 (by repeat (first | exact List.Mem.head _ | apply List.Mem.tail | apply List.mem_append_right)) (by omega) rfl) ?_ | refine xq rfl trivial (o_ld rfl ts3 (by repeat (first | exact List.Mem.head _ | apply List.Mem.tail | apply List.mem_append_right)) (by omega) rfl) ?_
                  first | refine xq rfl trivial (o_fa0 fl31_0 rfl) ?_ | refine xq rfl trivial (o_fa fl31_0 rfl) ?_
                  first | refine xq rfl trivial (o_ldV rfl ts3 (by repeat (first | exact List.Mem.head _ | apply List.Mem.tail | apply List.mem_append_right))) ?_ | refine xq rfl trivial (o_ldI rfl ts3 (by repeat (first | exact List.Mem.head _ | apply List.Mem.tail | apply List.mem_append_right)) (by omega) rfl) ?_ | refine xq rfl trivial (o_ld rfl ts3 (by repeat (first | exact List.Mem.head _ | apply List.Mem.tail | apply List.mem_append_right)) (by omega) rfl) ?_
                  refine xq rfl trivial (o_eql rfl rfl) ?_
                  refine xo_nil ?_
                  refine xq_then ?_
                  refine xw_bool 58 rfl (fun hc7 => ?_) (fun hc7 => ?_)
                  · try simp only [Bool.and_eq_true, Bool.or_eq_true, Bool.not_eq_true', Bool.not_eq_false', Bool.and_eq_false_iff, Bool.or_eq_false_iff, decide_eq_true_eq, decide_eq_false_iff_not, Int.not_le, Int.not_lt] at hc7
                    refine xw_cond_t rfl rfl ?_
                    refine xw_seq ?_
                    refine xw_region ?_
                    refine xq rfl trivial (o_as rfl) ?_
                    refine xo_nil ?_
                    refine xq_then ?_
                    refine xw_ret ?_
                    refine xq_blk_ret ?_
                    refine xq_then_ret ?_
                    refine xq_then_ret ?_
                    refine xq_blk_ret ?_
                    refine xq_blk_ret ?_
                    refine xq_then_ret ?_
                    refine xq_then_ret ?_
                    refine xq_blk_ret ?_
                    refine xq_then_ret ?_
                    exact con_ret1 (.inl rfl) Try.results39 rfl [] (Kp.st (by repeat (first | exact Kp.nil | apply Kp.keep | refine Kp.new (by omega) ?_ | refine Kp.same (by assumption) ?_))) (⟨congrArg Value.bool (by unfold pathB; rw [all_false (k := k) (by omega) (by unfold stepB; rw [if_neg (by omega), newB_false (j := j) (by omega) hc7]; simp)]; simp), rfl⟩)
                  · try simp only [Bool.and_eq_true, Bool.or_eq_true, Bool.not_eq_true', Bool.not_eq_false', Bool.and_eq_false_iff, Bool.or_eq_false_iff, decide_eq_true_eq, decide_eq_false_iff_not, Int.not_le, Int.not_lt] at hc7
                    refine xw_cond_f rfl rfl ?_
                    refine xw_skip ?_
                    refine xq_blk 3 ?_
                    refine xq_then ?_
                    refine xw_region ?_
                    refine xq rfl trivial (o_add rfl rfl rfl ⟨by omega, by omega⟩) ?_
                    refine xq rfl trivial (o_mv rfl) ?_
                    refine xo_nil ?_
                    refine xq_round ⟨_, _, _, ?_, (lc rfl (lc rfl (lc rfl (lc rfl (lc rfl (lc rfl (lc rfl ln))))))), Kp.st (by repeat (first | exact Kp.nil | apply Kp.keep | refine Kp.new (by omega) ?_ | refine Kp.same (by assumption) ?_)), j + 1, rfl, rfl, rfl, (by omega), (by rw [newB_succ, hn]; simp; omega)⟩
                    omega
                · try simp only [Bool.and_eq_true, Bool.or_eq_true, Bool.not_eq_true', Bool.not_eq_false', Bool.and_eq_false_iff, Bool.or_eq_false_iff, decide_eq_true_eq, decide_eq_false_iff_not, Int.not_le, Int.not_lt] at hc6
                  have hstep : stepB m k = true := by
                    obtain rfl : j = k := by omega
                    unfold stepB; rw [if_neg (by omega), h40, hc5, hn]; rfl
                  refine xw_cond_f rfl rfl ?_
                  refine xw_exit ?_
                  refine xq_then_exit ?_
                  refine xq_then_exit ?_
                  refine xq_blk_eq ?_
                  refine xq_blk 1 ?_
                  refine xq_then ?_
                  refine xw_region ?_
                  refine xq rfl trivial (o_add rfl rfl rfl ⟨by omega, by omega⟩) ?_
                  refine xq rfl trivial (o_mv rfl) ?_
                  refine xo_nil ?_
                  refine xq_round ⟨_, _, _, ?_, (lc rfl (lc rfl (lc rfl ln))), Kp.st (by repeat (first | exact Kp.nil | apply Kp.keep | refine Kp.new (by omega) ?_ | refine Kp.same (by assumption) ?_)), k + 1, rfl, rfl, rfl, (by omega), (by rw [all_succ, ha]; exact hstep)⟩
                  omega
        · try simp only [Bool.and_eq_true, Bool.or_eq_true, Bool.not_eq_true', Bool.not_eq_false', Bool.and_eq_false_iff, Bool.or_eq_false_iff, decide_eq_true_eq, decide_eq_false_iff_not, Int.not_le, Int.not_lt] at hc2
          refine xw_cond_f rfl rfl ?_
          refine xw_exit ?_
          refine xq_then_exit ?_
          refine xq_then_exit ?_
          refine xq_blk_eq ?_
          refine xq_then ?_
          refine xw_seq ?_
          refine xw_region ?_
          refine xq rfl trivial (o_as rfl) ?_
          refine xo_nil ?_
          refine xq_then ?_
          refine xw_ret ?_
          exact con_ret1 (.inl rfl) Try.results39 rfl [] (Kp.st (by repeat (first | exact Kp.nil | apply Kp.keep | refine Kp.new (by omega) ?_ | refine Kp.same (by assumption) ?_))) (⟨congrArg Value.bool (by obtain rfl : k = 8 := (by omega); unfold pathB; rw [ha, h11, h17, hc1]; rfl), rfl⟩)

end Go.Proofs.Ytmcohikcgdfhcaa
