/- Part of the proof: contracts of functions. -/
import Derived.Test.YtmcohikcgdfhcaaM2
import Derived.Test.YtmcohikcgdfhcaaSpec3
set_option linter.unusedVariables false
set_option linter.unusedSimpArgs false
set_option maxRecDepth 100000
namespace Go.Proofs.Ytmcohikcgdfhcaa
open Go Go.E

theorem cloneB_con (l : List Int) (v : Value) (w : World) (hs : SL w 1 u8c v l) (hl : l.length * 1 ≤ 140737488355328) : Con Try.prog 32 #[v] w (fun u F => OL w 5 1 u8c F u l) := by
  obtain ⟨p, cap, rfl⟩ := hs.val
  refine con_enter (n := 8) [(0, _)] Try.func32 rfl Try.ntmps32 rfl (lac rfl lan) ?_
  refine xw_seq ?_
  refine xw_region ?_
  refine xq rfl trivial (o_as rfl) ?_
  refine xo_nil ?_
  refine xq_then ?_
  refine xw_seq ?_
  refine xw_seq ?_
  refine xw_region ?_
  refine xq rfl trivial (o_mv rfl) ?_
  refine xq rfl trivial (o_eqn Try.underlying35 rfl rfl rfl rfl) ?_
  refine xo_nil ?_
  refine xq_then ?_
  refine xw_bool 4 rfl (fun hc1 => ?_) (fun hc1 => ?_)
  · try simp only [Bool.and_eq_true, Bool.or_eq_true, Bool.not_eq_true', Bool.not_eq_false', Bool.and_eq_false_iff, Bool.or_eq_false_iff, decide_eq_true_eq, decide_eq_false_iff_not, Int.not_le, Int.not_lt] at hc1
    refine xw_cond_t rfl rfl ?_
    refine xw_seq ?_
    refine xw_region ?_
    refine xq rfl trivial (o_as rfl) ?_
    refine xo_nil ?_
    refine xq_then ?_
    refine xw_ret ?_
    refine xq_then_ret ?_
    exact con_ret1 (.inl rfl) Try.results32 rfl [] (Kp.st (by repeat (first | exact Kp.nil | apply Kp.keep | refine Kp.new (by omega) ?_ | refine Kp.same (by assumption) ?_))) (by
        have h0 : l = [] := by
          obtain ⟨p, c, h1, h2, h3, h4, _⟩ := hs
          cases h1
          have := h4 (by simpa using hc1)
          exact List.eq_nil_of_length_eq_zero (by omega)
        subst h0; exact OL.nil)
  · try simp only [Bool.and_eq_true, Bool.or_eq_true, Bool.not_eq_true', Bool.not_eq_false', Bool.and_eq_false_iff, Bool.or_eq_false_iff, decide_eq_true_eq, decide_eq_false_iff_not, Int.not_le, Int.not_lt] at hc1
    refine xw_cond_f rfl rfl ?_
    refine xw_skip ?_
    refine xq_then ?_
    refine xw_seq ?_
    refine xw_region ?_
    refine xo rfl trivial (o_bsl el35 ze5 (cells_one rfl) rfl rfl (.nil _)) ?_
    rintro _ _ ⟨b5, hb5, rfl, rfl⟩
    refine xq rfl trivial (o_mv rfl) ?_
    refine xo rfl trivial (o_appL (l := []) (H := []) [(b5, _)] ap35 rfl rfl (OL.new hb5 rfl rfl (by intro i hi; omega)) (fun w hw => hs.keep hw (by simp; omega)) (fun _ _ => rfl) (by simp; omega) (by simp [maxLen]; omega)) ?_
    rintro _ _ ⟨B7, rfl, hB7⟩
    refine xq rfl trivial (o_as rfl) ?_
    refine xo_nil ?_
    refine xq_then ?_
    refine xw_ret ?_
    exact con_ret1 (.inl rfl) Try.results32 rfl (B7 ++ []) (Kp.st (Kp.segKeep Kp.nil)) (by simpa using hB7)

theorem clip_con (p : Option Addr) (n cap : Nat) (w : World) (hn : n ≤ cap) (hsp : ∀ a, p = some a → a.spot = none) : Con Try.prog 33 #[.slice p n cap] w (Is (.slice p n n) []) := by
  refine con_enter (n := 9) [(0, _)] Try.func33 rfl Try.ntmps33 rfl (lac rfl lan) ?_
  refine xw_seq ?_
  refine xw_region ?_
  refine xq rfl trivial (o_as rfl) ?_
  refine xo_nil ?_
  refine xq_then ?_
  refine xw_seq ?_
  refine xw_region ?_
  refine xq rfl trivial (o_mv rfl) ?_
  refine xq rfl trivial (o_mv rfl) ?_
  refine xq rfl trivial (o_len rfl Try.underlying35 rfl) ?_
  refine xq rfl trivial (o_mv rfl) ?_
  refine xq rfl trivial (o_len rfl Try.underlying35 rfl) ?_
  refine xq rfl trivial (o_clip el35 rfl rfl rfl hn hsp) ?_
  refine xq rfl trivial (o_as rfl) ?_
  refine xo_nil ?_
  refine xq_then ?_
  refine xw_ret ?_
  exact con_ret1 (.inl rfl) Try.results33 rfl [] (Kp.st (by repeat (first | exact Kp.nil | apply Kp.keep | refine Kp.new (by omega) ?_ | refine Kp.same (by assumption) ?_))) (⟨rfl, rfl⟩)

theorem put1_con (l xs : List Int) (v u : Value) (w : World) (hs : SL w 1 u8c v l) (hx : SL w 1 ic u xs) (hr : ∀ x ∈ xs, 0 ≤ x ∧ x < 256) (hl : l.length + 4 * xs.length ≤ 1099511627776) : Con Try.prog 20 #[v, .int .i64 1, u] w (fun r F => ∃ v', r = .tuple #[v', .nilIface] ∧ OL w 5 1 u8c F v' (l ++ xs.flatMap be1)) := by
  refine con_enter (n := 56) [(0, _), (1, _), (2, _)] Try.func20 rfl Try.ntmps20 rfl (lac rfl (lac rfl (lac rfl lan))) ?_
  refine xw_seq ?_
  refine xw_region ?_
  refine xq rfl trivial (o_as rfl) ?_
  refine xq rfl trivial (o_as rfl) ?_
  refine xo_nil ?_
  refine xq_then ?_
  refine xw_seq ?_
  refine xw_seq ?_
  refine xw_region ?_
  refine xq rfl trivial (o_mv rfl) ?_
  refine xcallq rfl trivial kf31 rfl (fun w hw => right_con _ w) ?_
  refine xq rfl trivial (o_not rfl) ?_
  refine xo_nil ?_
  refine xq_then ?_
  refine xw_cond_f rfl (by rfl) ?_
  refine xw_skip ?_
  refine xq_then ?_
  refine xw_seq ?_
  refine xw_region ?_
  refine xq rfl trivial (o_mv rfl) ?_
  refine xcall rfl trivial kf32 rfl (fun w1 hw1 => cloneB_con l v w1 (hs.keep hw1 (by simp)) (by omega)) ?_
  rintro w1 v8 B8 hw1 hB8
  refine ⟨B8 ++ [], by have := Mg.news (w0 := w) (F := []) (H' := []) (fun k hk => hB8.fresh k hk) (.nil []); simpa using this, ?_⟩
  replace hB8 := hB8.base hw1.size
  refine xq rfl trivial (o_as rfl) ?_
  refine xo_nil ?_
  refine xq_then ?_
  refine xw_seq ?_
  refine xw_seq ?_
  refine xw_region ?_
  refine xq rfl trivial (o_mv rfl) ?_
  refine xq rfl trivial (o_lenS rfl Try.underlying53 rfl hx.val) ?_
  refine xq rfl trivial (o_mv rfl) ?_
  refine xo_nil ?_
  refine xq_then ?_
  refine xw_block ?_
  refine xw_loop (fun mm ee HH => ∃ (k : Nat) (B : GH) (v8 : Value), mm = xs.length - k ∧ ee = [(20, .int .i64 k), (19, .int .i64 xs.length), (18, u), (8, v8), (1, .int .i64 1)] ∧ HH = B ++ [] ∧ (k ≤ xs.length) ∧ (OL w 5 1 u8c B v8 (l ++ (xs.take k).flatMap be1))) _ ⟨_, _, (lc rfl (lc rfl (lc rfl (lc rfl (lc rfl ln))))), fun _ h => h, 0, _, _, rfl, rfl, rfl, (by omega), (by simpa using hB8)⟩ ?_
  rintro _ _ _ ⟨k, B, v8, rfl, rfl, rfl, hk, hB⟩
  refine xw_seq ?_
  refine xw_region ?_
  refine xq rfl trivial (o_lss rfl rfl) ?_
  refine xo_nil ?_
  refine xq_then ?_
  refine xw_seq ?_
  refine xw_bool 21 rfl (fun hc2 => ?_) (fun hc2 => ?_)
  · try simp only [Bool.and_eq_true, Bool.or_eq_true, Bool.not_eq_true', Bool.not_eq_false', Bool.and_eq_false_iff, Bool.or_eq_false_iff, decide_eq_true_eq, decide_eq_false_iff_not, Int.not_le, Int.not_lt] at hc2
    refine xw_cond_t rfl rfl ?_
    refine xw_skip ?_
    refine xq_then ?_
    refine xw_seq ?_
    refine xw_block ?_
    refine xw_seq ?_
    refine xw_region ?_
    refine xq rfl trivial (o_mv rfl) ?_
    obtain ⟨b1, o1, c1, rfl, hnc1, hmc1, hlt1, hcell1⟩ := Sl.at hx (i := k) (by omega) (by omega)
    have hk' : k < xs.length := by omega
    refine xq rfl trivial (o_ixs el53 rfl rfl ⟨by omega, by omega⟩ (Int.toNat_natCast _)) ?_
    refine xq rfl trivial (o_ld0 (v := .int .i64 xs[k]) rfl ts3 (by rw [Nat.mul_one]; rw [hcell1 k (by omega), eG_one hk']; rfl) (fun hh => by have := hB.fresh _ (by simpa using hh); omega)) ?_
    have hxk := hr xs[k] (List.getElem_mem hk')
    refine xq rfl trivial (o_as rfl) ?_
    refine xq rfl trivial (o_as rfl) ?_
    refine xo_nil ?_
    refine xq_then ?_
    refine xw_seq ?_
    refine xw_seq ?_
    refine xw_region ?_
    refine xq rfl trivial (o_mv rfl) ?_
    refine xq rfl trivial (o_lss rfl rfl) ?_
    refine xo_val 26 rfl (v' := .bool false) (by simp; omega) ?_
    refine xq rfl trivial (o_mv rfl) ?_
    refine xq rfl ⟨_, rfl, rfl⟩ (o_mv rfl) ?_
    refine xq rfl ⟨_, rfl, rfl⟩ (o_mv rfl) ?_
    refine xq rfl ⟨_, rfl, rfl⟩ (o_mul rfl rfl rfl ⟨by omega, by omega⟩) ?_
    refine xq rfl ⟨_, rfl, rfl⟩ (o_shl rfl rfl ⟨by omega, by omega⟩ rfl ⟨by decide, by decide⟩) ?_
    refine xq rfl ⟨_, rfl, rfl⟩ (o_geq rfl rfl) ?_
    refine xo_val 32 rfl (v' := .bool false) (by simp; omega) ?_
    refine xq rfl trivial (o_pick_f rfl rfl) ?_
    refine xo_nil ?_
    refine xq_then ?_
    refine xw_cond_f rfl (rfl) ?_
    refine xw_skip ?_
    refine xq_then ?_
    refine xw_seq ?_
    refine xw_region ?_
    refine xq rfl trivial (o_mv rfl) ?_
    refine xq rfl trivial (o_sub rfl rfl rfl ⟨by omega, by omega⟩) ?_
    refine xq rfl trivial (o_as rfl) ?_
    refine xo_nil ?_
    refine xq_then ?_
    refine xw_block ?_
    have hlb := be1_flat (xs.take k)
    rw [List.length_take] at hlb
    refine xw_loop (fun mm ee HH => ∃ (j : Nat) (B : GH) (v8 : Value), mm = 1 - j ∧ ee = [(11, .int .i64 (0 - (j : Int))), (20, .int .i64 k), (19, .int .i64 xs.length), (18, .slice (some ⟨b1, o1, none⟩) xs.length c1), (8, v8), (1, .int .i64 1), (10, .int .i64 xs[k])] ∧ HH = B ++ [] ∧ (j ≤ 1) ∧ (OL w 5 1 u8c B v8 (l ++ (xs.take k).flatMap be1 ++ (be1 xs[k]).take j))) _ ⟨_, _, (lc rfl (lc rfl (lc rfl (lc rfl (lc rfl (lc rfl (lc rfl ln))))))), fun _ h => h, 0, _, _, rfl, rfl, rfl, (by omega), (by simpa using hB)⟩ ?_
    rintro _ _ _ ⟨j, B, v8, rfl, rfl, rfl, hj, hB⟩
    refine xw_seq ?_
    refine xw_seq ?_
    refine xw_region ?_
    refine xq rfl trivial (o_mv rfl) ?_
    refine xq rfl trivial (o_geq rfl rfl) ?_
    refine xo_nil ?_
    refine xq_then ?_
    refine xw_bool 42 rfl (fun hc4 => ?_) (fun hc4 => ?_)
    · try simp only [Bool.and_eq_true, Bool.or_eq_true, Bool.not_eq_true', Bool.not_eq_false', Bool.and_eq_false_iff, Bool.or_eq_false_iff, decide_eq_true_eq, decide_eq_false_iff_not, Int.not_le, Int.not_lt] at hc4
      refine xw_cond_t rfl rfl ?_
      refine xw_skip ?_
      refine xq_then ?_
      refine xw_seq ?_
      refine xw_block ?_
      refine xw_region ?_
      refine xq rfl trivial (o_mv rfl) ?_
      refine xq rfl trivial (o_mv rfl) ?_
      refine xq rfl trivial (o_mv rfl) ?_
      refine xq rfl trivial (o_mul rfl rfl rfl ⟨by omega, by omega⟩) ?_
      refine xq rfl trivial (o_shr rfl rfl ⟨by omega, by omega⟩ rfl) ?_
      refine xq rfl trivial (o_conv rfl Try.underlying3 Try.underlying5) ?_
      refine xo rfl trivial (o_bsl el35 ze5 (cells_one rfl) rfl rfl (.one rfl rfl rfl rfl (.nil _))) ?_
      rintro _ _ ⟨b51, hb51, rfl, rfl⟩
      refine xo_st (B ++ ((b51, _) :: [])) (fun _ h => h.rot1) ?_
      refine xo rfl trivial (o_appL (l' := [IntKind.u8.wrap (xs[k] / 2 ^ (8 * (0 - (j : Int))).toNat)]) B ap35 rfl rfl hB (fun w2 hw2 => SL.lit hw2 (by repeat (first | exact List.Mem.head _ | apply List.Mem.tail | apply List.mem_append_right)) rfl (by omega) (by simp [maxLen]) (by intro i hi; obtain rfl : i = 0 := (by omega); rfl)) (fun _ _ => rfl) (by simp [hlb]; omega) (by simp [hlb, maxLen]; omega)) ?_
      rintro v52 _ ⟨B52, rfl, hB52⟩
      refine xq rfl trivial (o_as rfl) ?_
      refine xo_nil ?_
      refine xq_blk 3 ?_
      refine xq_then ?_
      refine xw_region ?_
      refine xq rfl trivial (o_mv rfl) ?_
      refine xq rfl trivial (o_sub rfl rfl rfl ⟨by omega, by omega⟩) ?_
      refine xq rfl trivial (o_as rfl) ?_
      refine xo_nil ?_
      refine xq_round ⟨_, _, _, ?_, (lce rfl (congrArg (Value.int .i64) (by omega)) (lc rfl (lc rfl (lc rfl (lc rfl (lc rfl (lc rfl ln))))))), fun _ h => St.dropSeg (B := [(b51, _)]) h (by simp; omega), j + 1, B52, v52, rfl, rfl, rfl, (by omega), (by rw [be1_take (q := (8 * (0 - (j : Int))).toNat) (by omega) (by omega), ← List.append_assoc]; exact hB52)⟩
      omega
    · try simp only [Bool.and_eq_true, Bool.or_eq_true, Bool.not_eq_true', Bool.not_eq_false', Bool.and_eq_false_iff, Bool.or_eq_false_iff, decide_eq_true_eq, decide_eq_false_iff_not, Int.not_le, Int.not_lt] at hc4
      have hj' : j = 1 := by omega
      replace hB : OL w 5 1 u8c B v8 (l ++ (xs.take k).flatMap be1 ++ be1 xs[k]) := by
        subst hj'; simpa [be1] using hB
      refine xw_cond_f rfl rfl ?_
      refine xw_exit ?_
      refine xq_then_exit ?_
      refine xq_then_exit ?_
      refine xq_blk_eq ?_
      refine xq_blk 1 ?_
      refine xq_then ?_
      refine xw_region ?_
      refine xq rfl trivial (o_add rfl rfl rfl ⟨by omega, by omega⟩) ?_
      refine xq rfl trivial (o_mv rfl) ?_
      refine xo_nil ?_
      refine xq_round ⟨_, _, _, ?_, (lc rfl (lc rfl (lc rfl (lc rfl (lc rfl ln))))), fun _ h => h, k + 1, B, v8, rfl, rfl, rfl, (by omega), (by rw [flat_take hk', ← List.append_assoc]; exact hB)⟩
      omega
  · try simp only [Bool.and_eq_true, Bool.or_eq_true, Bool.not_eq_true', Bool.not_eq_false', Bool.and_eq_false_iff, Bool.or_eq_false_iff, decide_eq_true_eq, decide_eq_false_iff_not, Int.not_le, Int.not_lt] at hc2
    refine xw_cond_f rfl rfl ?_
    refine xw_exit ?_
    refine xq_then_exit ?_
    refine xq_then_exit ?_
    refine xq_blk_eq ?_
    refine xq_then ?_
    refine xw_seq ?_
    refine xw_region ?_
    refine xq rfl trivial (o_mv rfl) ?_
    obtain ⟨p8, c8, hv8, hn8⟩ := Own.val hB
    subst hv8
    refine xcallq rfl trivial kf33 rfl (fun w1 hw1 => clip_con _ _ _ w1 hn8.1 (by intro a ha; subst ha; rcases hB with ⟨_, h, _⟩ | ⟨_, _, _, _, _, _, _, h, _⟩ <;> cases h; rfl)) ?_
    refine xq rfl trivial (o_as rfl) ?_
    refine xq rfl trivial (o_as rfl) ?_
    refine xo_nil ?_
    refine xq_then ?_
    refine xw_ret ?_
    exact con_ret2 (.inl rfl) Try.results20 rfl rfl (B ++ []) (Kp.st (Kp.segKeep Kp.nil)) (⟨_, rfl, by
        obtain rfl : k = xs.length := by omega
        rw [List.append_nil]; simp only [List.take_length] at hB ⊢; exact hB.clip⟩)

theorem put4_con (l xs : List Int) (v u : Value) (w : World) (hs : SL w 1 u8c v l) (hx : SL w 1 ic u xs) (hr : ∀ x ∈ xs, 0 ≤ x ∧ x < 4294967296) (hl : l.length + 4 * xs.length ≤ 1099511627776) : Con Try.prog 20 #[v, .int .i64 4, u] w (fun r F => ∃ v', r = .tuple #[v', .nilIface] ∧ OL w 5 1 u8c F v' (l ++ xs.flatMap be4)) := by
  refine con_enter (n := 56) [(0, _), (1, _), (2, _)] Try.func20 rfl Try.ntmps20 rfl (lac rfl (lac rfl (lac rfl lan))) ?_
  refine xw_seq ?_
  refine xw_region ?_
  refine xq rfl trivial (o_as rfl) ?_
  refine xq rfl trivial (o_as rfl) ?_
  refine xo_nil ?_
  refine xq_then ?_
  refine xw_seq ?_
  refine xw_seq ?_
  refine xw_region ?_
  refine xq rfl trivial (o_mv rfl) ?_
  refine xcallq rfl trivial kf31 rfl (fun w hw => right_con _ w) ?_
  refine xq rfl trivial (o_not rfl) ?_
  refine xo_nil ?_
  refine xq_then ?_
  refine xw_cond_f rfl (by rfl) ?_
  refine xw_skip ?_
  refine xq_then ?_
  refine xw_seq ?_
  refine xw_region ?_
  refine xq rfl trivial (o_mv rfl) ?_
  refine xcall rfl trivial kf32 rfl (fun w1 hw1 => cloneB_con l v w1 (hs.keep hw1 (by simp)) (by omega)) ?_
  rintro w1 v8 B8 hw1 hB8
  refine ⟨B8 ++ [], by have := Mg.news (w0 := w) (F := []) (H' := []) (fun k hk => hB8.fresh k hk) (.nil []); simpa using this, ?_⟩
  replace hB8 := hB8.base hw1.size
  refine xq rfl trivial (o_as rfl) ?_
  refine xo_nil ?_
  refine xq_then ?_
  refine xw_seq ?_
  refine xw_seq ?_
  refine xw_region ?_
  refine xq rfl trivial (o_mv rfl) ?_
  refine xq rfl trivial (o_lenS rfl Try.underlying53 rfl hx.val) ?_
  refine xq rfl trivial (o_mv rfl) ?_
  refine xo_nil ?_
  refine xq_then ?_
  refine xw_block ?_
  refine xw_loop (fun mm ee HH => ∃ (k : Nat) (B : GH) (v8 : Value), mm = xs.length - k ∧ ee = [(20, .int .i64 k), (19, .int .i64 xs.length), (18, u), (8, v8), (1, .int .i64 4)] ∧ HH = B ++ [] ∧ (k ≤ xs.length) ∧ (OL w 5 1 u8c B v8 (l ++ (xs.take k).flatMap be4))) _ ⟨_, _, (lc rfl (lc rfl (lc rfl (lc rfl (lc rfl ln))))), fun _ h => h, 0, _, _, rfl, rfl, rfl, (by omega), (by simpa using hB8)⟩ ?_
  rintro _ _ _ ⟨k, B, v8, rfl, rfl, rfl, hk, hB⟩
  refine xw_seq ?_
  refine xw_region ?_
  refine xq rfl trivial (o_lss rfl rfl) ?_
  refine xo_nil ?_
  refine xq_then ?_
  refine xw_seq ?_
  refine xw_bool 21 rfl (fun hc2 => ?_) (fun hc2 => ?_)
  · try simp only [Bool.and_eq_true, Bool.or_eq_true, Bool.not_eq_true', Bool.not_eq_false', Bool.and_eq_false_iff, Bool.or_eq_false_iff, decide_eq_true_eq, decide_eq_false_iff_not, Int.not_le, Int.not_lt] at hc2
    refine xw_cond_t rfl rfl ?_
    refine xw_skip ?_
    refine xq_then ?_
    refine xw_seq ?_
    refine xw_block ?_
    refine xw_seq ?_
    refine xw_region ?_
    refine xq rfl trivial (o_mv rfl) ?_
    obtain ⟨b1, o1, c1, rfl, hnc1, hmc1, hlt1, hcell1⟩ := Sl.at hx (i := k) (by omega) (by omega)
    have hk' : k < xs.length := by omega
    refine xq rfl trivial (o_ixs el53 rfl rfl ⟨by omega, by omega⟩ (Int.toNat_natCast _)) ?_
    refine xq rfl trivial (o_ld0 (v := .int .i64 xs[k]) rfl ts3 (by rw [Nat.mul_one]; rw [hcell1 k (by omega), eG_one hk']; rfl) (fun hh => by have := hB.fresh _ (by simpa using hh); omega)) ?_
    have hxk := hr xs[k] (List.getElem_mem hk')
    refine xq rfl trivial (o_as rfl) ?_
    refine xq rfl trivial (o_as rfl) ?_
    refine xo_nil ?_
    refine xq_then ?_
    refine xw_seq ?_
    refine xw_seq ?_
    refine xw_region ?_
    refine xq rfl trivial (o_mv rfl) ?_
    refine xq rfl trivial (o_lss rfl rfl) ?_
    refine xo_val 26 rfl (v' := .bool false) (by simp; omega) ?_
    refine xq rfl trivial (o_mv rfl) ?_
    refine xq rfl ⟨_, rfl, rfl⟩ (o_mv rfl) ?_
    refine xq rfl ⟨_, rfl, rfl⟩ (o_mv rfl) ?_
    refine xq rfl ⟨_, rfl, rfl⟩ (o_mul rfl rfl rfl ⟨by omega, by omega⟩) ?_
    refine xq rfl ⟨_, rfl, rfl⟩ (o_shl rfl rfl ⟨by omega, by omega⟩ rfl ⟨by decide, by decide⟩) ?_
    refine xq rfl ⟨_, rfl, rfl⟩ (o_geq rfl rfl) ?_
    refine xo_val 32 rfl (v' := .bool false) (by simp; omega) ?_
    refine xq rfl trivial (o_pick_f rfl rfl) ?_
    refine xo_nil ?_
    refine xq_then ?_
    refine xw_cond_f rfl (rfl) ?_
    refine xw_skip ?_
    refine xq_then ?_
    refine xw_seq ?_
    refine xw_region ?_
    refine xq rfl trivial (o_mv rfl) ?_
    refine xq rfl trivial (o_sub rfl rfl rfl ⟨by omega, by omega⟩) ?_
    refine xq rfl trivial (o_as rfl) ?_
    refine xo_nil ?_
    refine xq_then ?_
    refine xw_block ?_
    have hlb := be4_flat (xs.take k)
    rw [List.length_take] at hlb
    refine xw_loop (fun mm ee HH => ∃ (j : Nat) (B : GH) (v8 : Value), mm = 4 - j ∧ ee = [(11, .int .i64 (3 - (j : Int))), (20, .int .i64 k), (19, .int .i64 xs.length), (18, .slice (some ⟨b1, o1, none⟩) xs.length c1), (8, v8), (1, .int .i64 4), (10, .int .i64 xs[k])] ∧ HH = B ++ [] ∧ (j ≤ 4) ∧ (OL w 5 1 u8c B v8 (l ++ (xs.take k).flatMap be4 ++ (be4 xs[k]).take j))) _ ⟨_, _, (lc rfl (lc rfl (lc rfl (lc rfl (lc rfl (lc rfl (lc rfl ln))))))), fun _ h => h, 0, _, _, rfl, rfl, rfl, (by omega), (by simpa using hB)⟩ ?_
    rintro _ _ _ ⟨j, B, v8, rfl, rfl, rfl, hj, hB⟩
    refine xw_seq ?_
    refine xw_seq ?_
    refine xw_region ?_
    refine xq rfl trivial (o_mv rfl) ?_
    refine xq rfl trivial (o_geq rfl rfl) ?_
    refine xo_nil ?_
    refine xq_then ?_
    refine xw_bool 42 rfl (fun hc4 => ?_) (fun hc4 => ?_)
    · try simp only [Bool.and_eq_true, Bool.or_eq_true, Bool.not_eq_true', Bool.not_eq_false', Bool.and_eq_false_iff, Bool.or_eq_false_iff, decide_eq_true_eq, decide_eq_false_iff_not, Int.not_le, Int.not_lt] at hc4
      refine xw_cond_t rfl rfl ?_
      refine xw_skip ?_
      refine xq_then ?_
      refine xw_seq ?_
      refine xw_block ?_
      refine xw_region ?_
      refine xq rfl trivial (o_mv rfl) ?_
      refine xq rfl trivial (o_mv rfl) ?_
      refine xq rfl trivial (o_mv rfl) ?_
      refine xq rfl trivial (o_mul rfl rfl rfl ⟨by omega, by omega⟩) ?_
      refine xq rfl trivial (o_shr rfl rfl ⟨by omega, by omega⟩ rfl) ?_
      refine xq rfl trivial (o_conv rfl Try.underlying3 Try.underlying5) ?_
      refine xo rfl trivial (o_bsl el35 ze5 (cells_one rfl) rfl rfl (.one rfl rfl rfl rfl (.nil _))) ?_
      rintro _ _ ⟨b51, hb51, rfl, rfl⟩
      refine xo_st (B ++ ((b51, _) :: [])) (fun _ h => h.rot1) ?_
      refine xo rfl trivial (o_appL (l' := [IntKind.u8.wrap (xs[k] / 2 ^ (8 * (3 - (j : Int))).toNat)]) B ap35 rfl rfl hB (fun w2 hw2 => SL.lit hw2 (by repeat (first | exact List.Mem.head _ | apply List.Mem.tail | apply List.mem_append_right)) rfl (by omega) (by simp [maxLen]) (by intro i hi; obtain rfl : i = 0 := (by omega); rfl)) (fun _ _ => rfl) (by simp [hlb]; omega) (by simp [hlb, maxLen]; omega)) ?_
      rintro v52 _ ⟨B52, rfl, hB52⟩
      refine xq rfl trivial (o_as rfl) ?_
      refine xo_nil ?_
      refine xq_blk 3 ?_
      refine xq_then ?_
      refine xw_region ?_
      refine xq rfl trivial (o_mv rfl) ?_
      refine xq rfl trivial (o_sub rfl rfl rfl ⟨by omega, by omega⟩) ?_
      refine xq rfl trivial (o_as rfl) ?_
      refine xo_nil ?_
      refine xq_round ⟨_, _, _, ?_, (lce rfl (congrArg (Value.int .i64) (by omega)) (lc rfl (lc rfl (lc rfl (lc rfl (lc rfl (lc rfl ln))))))), fun _ h => St.dropSeg (B := [(b51, _)]) h (by simp; omega), j + 1, B52, v52, rfl, rfl, rfl, (by omega), (by rw [be4_take (q := (8 * (3 - (j : Int))).toNat) (by omega) (by omega), ← List.append_assoc]; exact hB52)⟩
      omega
    · try simp only [Bool.and_eq_true, Bool.or_eq_true, Bool.not_eq_true', Bool.not_eq_false', Bool.and_eq_false_iff, Bool.or_eq_false_iff, decide_eq_true_eq, decide_eq_false_iff_not, Int.not_le, Int.not_lt] at hc4
      have hj' : j = 4 := by omega
      replace hB : OL w 5 1 u8c B v8 (l ++ (xs.take k).flatMap be4 ++ be4 xs[k]) := by
        subst hj'; simpa [be4] using hB
      refine xw_cond_f rfl rfl ?_
      refine xw_exit ?_
      refine xq_then_exit ?_
      refine xq_then_exit ?_
      refine xq_blk_eq ?_
      refine xq_blk 1 ?_
      refine xq_then ?_
      refine xw_region ?_
      refine xq rfl trivial (o_add rfl rfl rfl ⟨by omega, by omega⟩) ?_
      refine xq rfl trivial (o_mv rfl) ?_
      refine xo_nil ?_
      refine xq_round ⟨_, _, _, ?_, (lc rfl (lc rfl (lc rfl (lc rfl (lc rfl ln))))), fun _ h => h, k + 1, B, v8, rfl, rfl, rfl, (by omega), (by rw [flat_take hk', ← List.append_assoc]; exact hB)⟩
      omega
  · try simp only [Bool.and_eq_true, Bool.or_eq_true, Bool.not_eq_true', Bool.not_eq_false', Bool.and_eq_false_iff, Bool.or_eq_false_iff, decide_eq_true_eq, decide_eq_false_iff_not, Int.not_le, Int.not_lt] at hc2
    refine xw_cond_f rfl rfl ?_
    refine xw_exit ?_
    refine xq_then_exit ?_
    refine xq_then_exit ?_
    refine xq_blk_eq ?_
    refine xq_then ?_
    refine xw_seq ?_
    refine xw_region ?_
    refine xq rfl trivial (o_mv rfl) ?_
    obtain ⟨p8, c8, hv8, hn8⟩ := Own.val hB
    subst hv8
    refine xcallq rfl trivial kf33 rfl (fun w1 hw1 => clip_con _ _ _ w1 hn8.1 (by intro a ha; subst ha; rcases hB with ⟨_, h, _⟩ | ⟨_, _, _, _, _, _, _, h, _⟩ <;> cases h; rfl)) ?_
    refine xq rfl trivial (o_as rfl) ?_
    refine xq rfl trivial (o_as rfl) ?_
    refine xo_nil ?_
    refine xq_then ?_
    refine xw_ret ?_
    exact con_ret2 (.inl rfl) Try.results20 rfl rfl (B ++ []) (Kp.st (Kp.segKeep Kp.nil)) (⟨_, rfl, by
        obtain rfl : k = xs.length := by omega
        rw [List.append_nil]; simp only [List.take_length] at hB ⊢; exact hB.clip⟩)

end Go.Proofs.Ytmcohikcgdfhcaa
