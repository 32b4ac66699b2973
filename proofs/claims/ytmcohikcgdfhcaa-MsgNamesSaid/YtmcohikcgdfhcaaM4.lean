/- Part of the proof: contracts of functions. -/
import Derived.Test.YtmcohikcgdfhcaaM3
import Derived.Test.YtmcohikcgdfhcaaEnc4
set_option linter.unusedVariables false
set_option linter.unusedSimpArgs false
set_option maxRecDepth 100000
namespace Go.Proofs.Ytmcohikcgdfhcaa
open Go Go.E

theorem enc1_1 (p : Nat) (l xs : List Int) (v u : Value) (w : World) (hp : w.heap[p]? = some (BK 1 (fun _ => v) 35)) (hs : SL w 1 u8c v l) (hx : SL w 1 ic u xs) (hr : ∀ x ∈ xs, 0 ≤ x ∧ x < 256) (hl : l.length + 4 * xs.length ≤ 1099511627776) : Con Try.prog 19 #[.int .i64 1, u, .pointer (some ⟨p, 0, none⟩)] w (fun r F => ∃ B v', r = .tuple #[] ∧ F = B ++ [(p, BK 1 (fun _ => v') 35)] ∧ OL w 5 1 u8c B v' (l ++ xs.flatMap be1)) := by
  refine con_enter (n := 12) [(0, _), (1, _), (2, _)] Try.func19 rfl Try.ntmps19 rfl (lac rfl (lac rfl (lac rfl lan))) ?_
  refine xw_take hp (by simp) ?_
  refine xw_region ?_
  first | refine xq rfl trivial (o_ldV rfl ts35 (by repeat (first | exact List.Mem.head _ | apply List.Mem.tail | apply List.mem_append_right))) ?_ | refine xq rfl trivial (o_ldI rfl ts35 (by repeat (first | exact List.Mem.head _ | apply List.Mem.tail | apply List.mem_append_right)) (by omega) rfl) ?_ | refine xq rfl trivial (o_ld rfl ts35 (by repeat (first | exact List.Mem.head _ | apply List.Mem.tail | apply List.mem_append_right)) (by omega) rfl) ?_
  refine xq rfl trivial (o_mv rfl) ?_
  refine xq rfl trivial (o_mv rfl) ?_
  refine xcall rfl trivial kf20 rfl (fun w1 hw1 => put1_con l xs v u w1 (hs.keep (Kp.st (.same hp .nil) _ hw1) (by simp)) (hx.keep (Kp.st (.same hp .nil) _ hw1) (by simp)) hr hl) ?_
  rintro w1 v9 B9 hw1 ⟨v', rfl, hB9⟩
  refine ⟨_, by have := Mg.news (w0 := w) (F := []) (fun k hk => hB9.fresh k hk) (.nil [(p, BK 1 (fun _ => v) 35)]); simpa using this, ?_⟩
  replace hB9 := hB9.base hw1.size
  refine xq rfl trivial (o_mv rfl) ?_
  refine xq rfl trivial (o_ext rfl rfl) ?_
  refine xq rfl trivial (o_ext rfl rfl) ?_
  have hone : v'.oneCell' = true := by obtain ⟨_, _, rfl⟩ := hB9.val; rfl
  refine xq0 trivial (o_stV rfl rfl ts35 hone (by repeat (first | exact List.Mem.head _ | apply List.Mem.tail | apply List.mem_append_right)) (by repeat (first | exact Upd.here _ _ _ _ | apply Upd.there | apply Upd.seg))) ?_
  refine xo_nil ?_
  exact con_ret0 (.inr rfl) Try.results19  (B9 ++ [(p, BK 1 (fun _ => v') 35)]) (Kp.st (Kp.segKeep (.keep .nil))) (⟨B9, v', rfl, rfl, hB9⟩)

theorem enc1_4 (p : Nat) (l xs : List Int) (v u : Value) (w : World) (hp : w.heap[p]? = some (BK 1 (fun _ => v) 35)) (hs : SL w 1 u8c v l) (hx : SL w 1 ic u xs) (hr : ∀ x ∈ xs, 0 ≤ x ∧ x < 4294967296) (hl : l.length + 4 * xs.length ≤ 1099511627776) : Con Try.prog 19 #[.int .i64 4, u, .pointer (some ⟨p, 0, none⟩)] w (fun r F => ∃ B v', r = .tuple #[] ∧ F = B ++ [(p, BK 1 (fun _ => v') 35)] ∧ OL w 5 1 u8c B v' (l ++ xs.flatMap be4)) := by
  refine con_enter (n := 12) [(0, _), (1, _), (2, _)] Try.func19 rfl Try.ntmps19 rfl (lac rfl (lac rfl (lac rfl lan))) ?_
  refine xw_take hp (by simp) ?_
  refine xw_region ?_
  first | refine xq rfl trivial (o_ldV rfl ts35 (by repeat (first | exact List.Mem.head _ | apply List.Mem.tail | apply List.mem_append_right))) ?_ | refine xq rfl trivial (o_ldI rfl ts35 (by repeat (first | exact List.Mem.head _ | apply List.Mem.tail | apply List.mem_append_right)) (by omega) rfl) ?_ | refine xq rfl trivial (o_ld rfl ts35 (by repeat (first | exact List.Mem.head _ | apply List.Mem.tail | apply List.mem_append_right)) (by omega) rfl) ?_
  refine xq rfl trivial (o_mv rfl) ?_
  refine xq rfl trivial (o_mv rfl) ?_
  refine xcall rfl trivial kf20 rfl (fun w1 hw1 => put4_con l xs v u w1 (hs.keep (Kp.st (.same hp .nil) _ hw1) (by simp)) (hx.keep (Kp.st (.same hp .nil) _ hw1) (by simp)) hr hl) ?_
  rintro w1 v9 B9 hw1 ⟨v', rfl, hB9⟩
  refine ⟨_, by have := Mg.news (w0 := w) (F := []) (fun k hk => hB9.fresh k hk) (.nil [(p, BK 1 (fun _ => v) 35)]); simpa using this, ?_⟩
  replace hB9 := hB9.base hw1.size
  refine xq rfl trivial (o_mv rfl) ?_
  refine xq rfl trivial (o_ext rfl rfl) ?_
  refine xq rfl trivial (o_ext rfl rfl) ?_
  have hone : v'.oneCell' = true := by obtain ⟨_, _, rfl⟩ := hB9.val; rfl
  refine xq0 trivial (o_stV rfl rfl ts35 hone (by repeat (first | exact List.Mem.head _ | apply List.Mem.tail | apply List.mem_append_right)) (by repeat (first | exact Upd.here _ _ _ _ | apply Upd.there | apply Upd.seg))) ?_
  refine xo_nil ?_
  exact con_ret0 (.inr rfl) Try.results19  (B9 ++ [(p, BK 1 (fun _ => v') 35)]) (Kp.st (Kp.segKeep (.keep .nil))) (⟨B9, v', rfl, rfl, hB9⟩)

theorem encode_bad (m : Nat → Int) (w : World) (h : okB m = false) : Con Try.prog 10 #[AI 28 m] w (Is (.tuple #[.slice none 0 0, (.iface 59 (.int .i64 5))]) []) := by
  refine con_enter (n := 70) [(0, _)] Try.func10 rfl Try.ntmps10 rfl (lac rfl lan) ?_
  refine xw_seq ?_
  refine xw_region ?_
  refine xo rfl trivial (o_boxA rfl) ?_
  rintro _ _ ⟨b1, hb1, rfl, rfl⟩
  refine xq rfl trivial (o_as rfl) ?_
  refine xq rfl trivial (o_as rfl) ?_
  refine xo_nil ?_
  refine xq_then ?_
  refine xw_seq ?_
  refine xw_seq ?_
  refine xw_region ?_
  first | refine xq rfl trivial (o_ldW rfl ts34 (by repeat (first | exact List.Mem.head _ | apply List.Mem.tail | apply List.mem_append_right))) ?_ | refine xq rfl trivial (o_ldSI rfl ts34 (by repeat (first | exact List.Mem.head _ | apply List.Mem.tail | apply List.mem_append_right)) (by omega) (fun _ _ => rfl)) ?_ | refine xq rfl trivial (o_ldS rfl ts34 (by repeat (first | exact List.Mem.head _ | apply List.Mem.tail | apply List.mem_append_right)) (by omega) (fun _ _ => rfl)) ?_
  refine xcallq rfl trivial kf13 rfl (fun w hw => (by have := ok_con m w; rwa [if_neg (by simp [h])] at this)) ?_
  refine xq rfl trivial (o_as rfl) ?_
  refine xo_nil ?_
  refine xq_then ?_
  refine xw_seq ?_
  refine xw_region ?_
  refine xq rfl trivial (o_mv rfl) ?_
  refine xq rfl trivial (o_nen Try.underlying37 rfl rfl rfl rfl) ?_
  refine xo_val 12 rfl (v' := .bool true) (rfl) ?_
  refine xo_nil ?_
  refine xq_then ?_
  refine xw_cond_t rfl (rfl) ?_
  refine xw_seq ?_
  refine xw_region ?_
  refine xq rfl trivial (o_mv rfl) ?_
  refine xq rfl trivial (o_as rfl) ?_
  refine xq rfl trivial (o_as rfl) ?_
  refine xo_nil ?_
  refine xq_then ?_
  refine xw_ret ?_
  refine xq_then_ret ?_
  exact con_ret2 (.inl rfl) Try.results10 rfl rfl [] (Kp.st (by repeat (first | exact Kp.nil | apply Kp.keep | refine Kp.new (by omega) ?_ | refine Kp.same (by assumption) ?_))) (⟨rfl, rfl⟩)

theorem encode_ok (m : Nat → Int) (w : World) (h : okB m = true) : Con Try.prog 10 #[AI 28 m] w (fun r F => ∃ v, r = .tuple #[v, .nilIface] ∧ OL w 5 1 u8c F v (encM m)) := by
  obtain ⟨hr1, hr4⟩ := okB_rng h
  refine con_enter (n := 70) [(0, _)] Try.func10 rfl Try.ntmps10 rfl (lac rfl lan) ?_
  refine xw_seq ?_
  refine xw_region ?_
  refine xo rfl trivial (o_boxA rfl) ?_
  rintro _ _ ⟨b1, hb1, rfl, rfl⟩
  refine xq rfl trivial (o_as rfl) ?_
  refine xq rfl trivial (o_as rfl) ?_
  refine xo_nil ?_
  refine xq_then ?_
  refine xw_seq ?_
  refine xw_seq ?_
  refine xw_region ?_
  first | refine xq rfl trivial (o_ldW rfl ts34 (by repeat (first | exact List.Mem.head _ | apply List.Mem.tail | apply List.mem_append_right))) ?_ | refine xq rfl trivial (o_ldSI rfl ts34 (by repeat (first | exact List.Mem.head _ | apply List.Mem.tail | apply List.mem_append_right)) (by omega) (fun _ _ => rfl)) ?_ | refine xq rfl trivial (o_ldS rfl ts34 (by repeat (first | exact List.Mem.head _ | apply List.Mem.tail | apply List.mem_append_right)) (by omega) (fun _ _ => rfl)) ?_
  refine xcallq rfl trivial kf13 rfl (fun w hw => (by have := ok_con m w; rwa [if_pos h] at this)) ?_
  refine xq rfl trivial (o_as rfl) ?_
  refine xo_nil ?_
  refine xq_then ?_
  refine xw_seq ?_
  refine xw_region ?_
  refine xq rfl trivial (o_mv rfl) ?_
  refine xq rfl trivial (o_nen Try.underlying37 rfl rfl rfl rfl) ?_
  refine xo_val 12 rfl (v' := .bool false) (rfl) ?_
  refine xo_nil ?_
  refine xq_then ?_
  refine xw_cond_f rfl (rfl) ?_
  refine xw_skip ?_
  refine xq_then ?_
  refine xw_seq ?_
  refine xw_region ?_
  refine xo rfl trivial (o_alloc ze35 (cells_one rfl)) ?_
  rintro _ _ ⟨b5, hb5, rfl, rfl⟩
  refine xo_nil ?_
  refine xq_then ?_
  refine xw_seq ?_
  refine xw_region ?_
  refine xq rfl trivial (o_mkf rfl rfl) ?_
  refine xq rfl trivial (o_as rfl) ?_
  refine xo_nil ?_
  refine xq_then ?_
  refine xw_seq ?_
  have hB0 : OL w 5 1 u8c [] (.slice none 0 0) ([] : List Int) := OL.nil
  obtain ⟨v0, hv0⟩ : ∃ v : Value, v = .slice none 0 0 := ⟨_, rfl⟩
  obtain ⟨B0, hBe⟩ : ∃ B : GH, B = [] := ⟨_, rfl⟩
  rw [← hv0, ← hBe] at hB0
  refine xw_st (B0 ++ ((b5, BK 1 (fun _ => v0) 35) :: (b1, BK 28 (iv m) 34) :: [])) (fun _ h => by rw [hBe, hv0]; exact h) ?_
  refine xw_region ?_
  refine xq rfl trivial (o_mv rfl) ?_
  first | refine xq rfl trivial (o_fa0 fl34_0 rfl) ?_ | refine xq rfl trivial (o_fa fl34_0 rfl) ?_
  first | refine xq rfl trivial (o_ldV rfl ts3 (by repeat (first | exact List.Mem.head _ | apply List.Mem.tail | apply List.mem_append_right))) ?_ | refine xq rfl trivial (o_ldI rfl ts3 (by repeat (first | exact List.Mem.head _ | apply List.Mem.tail | apply List.mem_append_right)) (by omega) rfl) ?_ | refine xq rfl trivial (o_ld rfl ts3 (by repeat (first | exact List.Mem.head _ | apply List.Mem.tail | apply List.mem_append_right)) (by omega) rfl) ?_
  first | refine xq rfl trivial (o_fa0 fl34_1 rfl) ?_ | refine xq rfl trivial (o_fa fl34_1 rfl) ?_
  first | refine xq rfl trivial (o_ldV rfl ts3 (by repeat (first | exact List.Mem.head _ | apply List.Mem.tail | apply List.mem_append_right))) ?_ | refine xq rfl trivial (o_ldI rfl ts3 (by repeat (first | exact List.Mem.head _ | apply List.Mem.tail | apply List.mem_append_right)) (by omega) rfl) ?_ | refine xq rfl trivial (o_ld rfl ts3 (by repeat (first | exact List.Mem.head _ | apply List.Mem.tail | apply List.mem_append_right)) (by omega) rfl) ?_
  first | refine xq rfl trivial (o_fa0 fl34_2 rfl) ?_ | refine xq rfl trivial (o_fa fl34_2 rfl) ?_
  first | refine xq rfl trivial (o_ldV rfl ts3 (by repeat (first | exact List.Mem.head _ | apply List.Mem.tail | apply List.mem_append_right))) ?_ | refine xq rfl trivial (o_ldI rfl ts3 (by repeat (first | exact List.Mem.head _ | apply List.Mem.tail | apply List.mem_append_right)) (by omega) rfl) ?_ | refine xq rfl trivial (o_ld rfl ts3 (by repeat (first | exact List.Mem.head _ | apply List.Mem.tail | apply List.mem_append_right)) (by omega) rfl) ?_
  refine xo rfl trivial (o_bsl el53 ze3 (cells_one rfl) rfl rfl (.int rfl rfl (.int rfl rfl (.int rfl rfl (.nil _))))) ?_
  rintro _ _ ⟨b22, hb22, rfl, rfl⟩
  refine xcallv rfl trivial rfl kf19 rfl (fun w1 hw1 => enc1_1 b5 (([] : List Int)) [m 0, m 1, m 2] v0 _ w1 (hw1.own _ _ (by repeat (first | exact List.Mem.head _ | apply List.Mem.tail | apply List.mem_append_right))) (hB0.src hw1 (by intro x hx; simp [hx])) (SL.lit hw1 (by repeat (first | exact List.Mem.head _ | apply List.Mem.tail | apply List.mem_append_right)) rfl (by omega) (by simp [maxLen]) (by exact (fun i hi => match i, hi with | 0, _ => rfl | 1, _ => rfl | 2, _ => rfl | q + 3, h => absurd h (by omega)))) (by intro x hx; simp only [List.mem_cons, List.not_mem_nil, or_false] at hx; rcases hx with rfl | rfl | rfl <;> first | exact hr1 _ (by simp) | exact hr4 _ (by omega) (by omega)) (by simp [encH_len, encP_len, be1, be4]; try omega)) ?_
  rintro w1 r F hw1 ⟨B23, v23, rfl, rfl, hB23⟩
  refine ⟨_, Mg.news (fun k hk => hB23.fresh k hk) (.upd (by repeat (first | exact Swp.here _ _ _ _ | apply Swp.there | apply Swp.seg)) (by simp) (.nil _)), ?_⟩
  refine xo_st (B23 ++ ((b5, BK 1 (fun _ => v23) 35) :: (b1, BK 28 (iv m) 34) :: [])) (fun _ h => St.dropSeg (B := (b22, _) :: B0) h (by intro b hb; simp at hb; rcases hb with rfl | hb; omega; exact hB0.fresh _ hb)) ?_
  replace hB23 := hB23.base hw1.size
  refine xo_nil ?_
  refine xq_then ?_
  refine xw_seq ?_
  refine xw_region ?_
  refine xq rfl trivial (o_mv rfl) ?_
  first | refine xq rfl trivial (o_fa0 fl34_3 rfl) ?_ | refine xq rfl trivial (o_fa fl34_3 rfl) ?_
  first | refine xq rfl trivial (o_ldV rfl ts3 (by repeat (first | exact List.Mem.head _ | apply List.Mem.tail | apply List.mem_append_right))) ?_ | refine xq rfl trivial (o_ldI rfl ts3 (by repeat (first | exact List.Mem.head _ | apply List.Mem.tail | apply List.mem_append_right)) (by omega) rfl) ?_ | refine xq rfl trivial (o_ld rfl ts3 (by repeat (first | exact List.Mem.head _ | apply List.Mem.tail | apply List.mem_append_right)) (by omega) rfl) ?_
  first | refine xq rfl trivial (o_fa0 fl34_4 rfl) ?_ | refine xq rfl trivial (o_fa fl34_4 rfl) ?_
  first | refine xq rfl trivial (o_ldV rfl ts3 (by repeat (first | exact List.Mem.head _ | apply List.Mem.tail | apply List.mem_append_right))) ?_ | refine xq rfl trivial (o_ldI rfl ts3 (by repeat (first | exact List.Mem.head _ | apply List.Mem.tail | apply List.mem_append_right)) (by omega) rfl) ?_ | refine xq rfl trivial (o_ld rfl ts3 (by repeat (first | exact List.Mem.head _ | apply List.Mem.tail | apply List.mem_append_right)) (by omega) rfl) ?_
  refine xo rfl trivial (o_bsl el53 ze3 (cells_one rfl) rfl rfl (.int rfl rfl (.int rfl rfl (.nil _)))) ?_
  rintro _ _ ⟨b29, hb29, rfl, rfl⟩
  refine xcallv rfl trivial rfl kf19 rfl (fun w1 hw1 => enc1_4 b5 (([] : List Int) ++ [m 0, m 1, m 2].flatMap be1) [m 3, m 4] v23 _ w1 (hw1.own _ _ (by repeat (first | exact List.Mem.head _ | apply List.Mem.tail | apply List.mem_append_right))) (hB23.src hw1 (by intro x hx; simp [hx])) (SL.lit hw1 (by repeat (first | exact List.Mem.head _ | apply List.Mem.tail | apply List.mem_append_right)) rfl (by omega) (by simp [maxLen]) (by exact (fun i hi => match i, hi with | 0, _ => rfl | 1, _ => rfl | q + 2, h => absurd h (by omega)))) (by intro x hx; simp only [List.mem_cons, List.not_mem_nil, or_false] at hx; rcases hx with rfl | rfl <;> first | exact hr1 _ (by simp) | exact hr4 _ (by omega) (by omega)) (by simp [encH_len, encP_len, be1, be4]; try omega)) ?_
  rintro w1 r F hw1 ⟨B30, v30, rfl, rfl, hB30⟩
  refine ⟨_, Mg.news (fun k hk => hB30.fresh k hk) (.upd (by repeat (first | exact Swp.here _ _ _ _ | apply Swp.there | apply Swp.seg)) (by simp) (.nil _)), ?_⟩
  refine xo_st (B30 ++ ((b5, BK 1 (fun _ => v30) 35) :: (b1, BK 28 (iv m) 34) :: [])) (fun _ h => St.dropSeg (B := (b29, _) :: B23) h (by intro b hb; simp at hb; rcases hb with rfl | hb; omega; exact hB23.fresh _ hb)) ?_
  replace hB30 := hB30.base hw1.size
  refine xo_nil ?_
  refine xq_then ?_
  refine xw_seq ?_
  refine xw_region ?_
  refine xq rfl trivial (o_mv rfl) ?_
  first | refine xq rfl trivial (o_fa0 fl34_5 rfl) ?_ | refine xq rfl trivial (o_fa fl34_5 rfl) ?_
  first | refine xq rfl trivial (o_fa0 fl28_0 rfl) ?_ | refine xq rfl trivial (o_fa fl28_0 rfl) ?_
  first | refine xq rfl trivial (o_ldV rfl ts3 (by repeat (first | exact List.Mem.head _ | apply List.Mem.tail | apply List.mem_append_right))) ?_ | refine xq rfl trivial (o_ldI rfl ts3 (by repeat (first | exact List.Mem.head _ | apply List.Mem.tail | apply List.mem_append_right)) (by omega) rfl) ?_ | refine xq rfl trivial (o_ld rfl ts3 (by repeat (first | exact List.Mem.head _ | apply List.Mem.tail | apply List.mem_append_right)) (by omega) rfl) ?_
  first | refine xq rfl trivial (o_fa0 fl34_5 rfl) ?_ | refine xq rfl trivial (o_fa fl34_5 rfl) ?_
  first | refine xq rfl trivial (o_fa0 fl28_1 rfl) ?_ | refine xq rfl trivial (o_fa fl28_1 rfl) ?_
  first | refine xq rfl trivial (o_ldV rfl ts3 (by repeat (first | exact List.Mem.head _ | apply List.Mem.tail | apply List.mem_append_right))) ?_ | refine xq rfl trivial (o_ldI rfl ts3 (by repeat (first | exact List.Mem.head _ | apply List.Mem.tail | apply List.mem_append_right)) (by omega) rfl) ?_ | refine xq rfl trivial (o_ld rfl ts3 (by repeat (first | exact List.Mem.head _ | apply List.Mem.tail | apply List.mem_append_right)) (by omega) rfl) ?_
  first | refine xq rfl trivial (o_fa0 fl34_6 rfl) ?_ | refine xq rfl trivial (o_fa fl34_6 rfl) ?_
  first | refine xq rfl trivial (o_ldV rfl ts29 (by repeat (first | exact List.Mem.head _ | apply List.Mem.tail | apply List.mem_append_right))) ?_ | refine xq rfl trivial (o_ldI rfl ts29 (by repeat (first | exact List.Mem.head _ | apply List.Mem.tail | apply List.mem_append_right)) (by omega) rfl) ?_ | refine xq rfl trivial (o_ld rfl ts29 (by repeat (first | exact List.Mem.head _ | apply List.Mem.tail | apply List.mem_append_right)) (by omega) rfl) ?_
  first | refine xq rfl trivial (o_fa0 fl34_7 rfl) ?_ | refine xq rfl trivial (o_fa fl34_7 rfl) ?_
  first | refine xq rfl trivial (o_ldV rfl ts3 (by repeat (first | exact List.Mem.head _ | apply List.Mem.tail | apply List.mem_append_right))) ?_ | refine xq rfl trivial (o_ldI rfl ts3 (by repeat (first | exact List.Mem.head _ | apply List.Mem.tail | apply List.mem_append_right)) (by omega) rfl) ?_ | refine xq rfl trivial (o_ld rfl ts3 (by repeat (first | exact List.Mem.head _ | apply List.Mem.tail | apply List.mem_append_right)) (by omega) rfl) ?_
  refine xo rfl trivial (o_bsl el53 ze3 (cells_one rfl) rfl rfl (.int rfl rfl (.int rfl rfl (.int rfl rfl (.int rfl rfl (.nil _)))))) ?_
  rintro _ _ ⟨b42, hb42, rfl, rfl⟩
  refine xcallv rfl trivial rfl kf19 rfl (fun w1 hw1 => enc1_1 b5 (([] : List Int) ++ [m 0, m 1, m 2].flatMap be1 ++ [m 3, m 4].flatMap be4) [m 5, m 6, m 7, m 8] v30 _ w1 (hw1.own _ _ (by repeat (first | exact List.Mem.head _ | apply List.Mem.tail | apply List.mem_append_right))) (hB30.src hw1 (by intro x hx; simp [hx])) (SL.lit hw1 (by repeat (first | exact List.Mem.head _ | apply List.Mem.tail | apply List.mem_append_right)) rfl (by omega) (by simp [maxLen]) (by exact (fun i hi => match i, hi with | 0, _ => rfl | 1, _ => rfl | 2, _ => rfl | 3, _ => rfl | q + 4, h => absurd h (by omega)))) (by intro x hx; simp only [List.mem_cons, List.not_mem_nil, or_false] at hx; rcases hx with rfl | rfl | rfl | rfl <;> first | exact hr1 _ (by simp) | exact hr4 _ (by omega) (by omega)) (by simp [encH_len, encP_len, be1, be4]; try omega)) ?_
  rintro w1 r F hw1 ⟨B43, v43, rfl, rfl, hB43⟩
  refine ⟨_, Mg.news (fun k hk => hB43.fresh k hk) (.upd (by repeat (first | exact Swp.here _ _ _ _ | apply Swp.there | apply Swp.seg)) (by simp) (.nil _)), ?_⟩
  refine xo_st (B43 ++ ((b5, BK 1 (fun _ => v43) 35) :: (b1, BK 28 (iv m) 34) :: [])) (fun _ h => St.dropSeg (B := (b42, _) :: B30) h (by intro b hb; simp at hb; rcases hb with rfl | hb; omega; exact hB30.fresh _ hb)) ?_
  replace hB43 := hB43.base hw1.size
  refine xo_nil ?_
  refine xq_then ?_
  refine xw_seq ?_
  refine xw_region ?_
  refine xq rfl trivial (o_mv rfl) ?_
  first | refine xq rfl trivial (o_fa0 fl34_8 rfl) ?_ | refine xq rfl trivial (o_fa fl34_8 rfl) ?_
  first | refine xq rfl trivial (o_ldV rfl ts3 (by repeat (first | exact List.Mem.head _ | apply List.Mem.tail | apply List.mem_append_right))) ?_ | refine xq rfl trivial (o_ldI rfl ts3 (by repeat (first | exact List.Mem.head _ | apply List.Mem.tail | apply List.mem_append_right)) (by omega) rfl) ?_ | refine xq rfl trivial (o_ld rfl ts3 (by repeat (first | exact List.Mem.head _ | apply List.Mem.tail | apply List.mem_append_right)) (by omega) rfl) ?_
  first | refine xq rfl trivial (o_fa0 fl34_9 rfl) ?_ | refine xq rfl trivial (o_fa fl34_9 rfl) ?_
  first | refine xq rfl trivial (o_ldV rfl ts3 (by repeat (first | exact List.Mem.head _ | apply List.Mem.tail | apply List.mem_append_right))) ?_ | refine xq rfl trivial (o_ldI rfl ts3 (by repeat (first | exact List.Mem.head _ | apply List.Mem.tail | apply List.mem_append_right)) (by omega) rfl) ?_ | refine xq rfl trivial (o_ld rfl ts3 (by repeat (first | exact List.Mem.head _ | apply List.Mem.tail | apply List.mem_append_right)) (by omega) rfl) ?_
  refine xo rfl trivial (o_bsl el53 ze3 (cells_one rfl) rfl rfl (.int rfl rfl (.int rfl rfl (.nil _)))) ?_
  rintro _ _ ⟨b49, hb49, rfl, rfl⟩
  refine xcallv rfl trivial rfl kf19 rfl (fun w1 hw1 => enc1_4 b5 (([] : List Int) ++ [m 0, m 1, m 2].flatMap be1 ++ [m 3, m 4].flatMap be4 ++ [m 5, m 6, m 7, m 8].flatMap be1) [m 9, m 10] v43 _ w1 (hw1.own _ _ (by repeat (first | exact List.Mem.head _ | apply List.Mem.tail | apply List.mem_append_right))) (hB43.src hw1 (by intro x hx; simp [hx])) (SL.lit hw1 (by repeat (first | exact List.Mem.head _ | apply List.Mem.tail | apply List.mem_append_right)) rfl (by omega) (by simp [maxLen]) (by exact (fun i hi => match i, hi with | 0, _ => rfl | 1, _ => rfl | q + 2, h => absurd h (by omega)))) (by intro x hx; simp only [List.mem_cons, List.not_mem_nil, or_false] at hx; rcases hx with rfl | rfl <;> first | exact hr1 _ (by simp) | exact hr4 _ (by omega) (by omega)) (by simp [encH_len, encP_len, be1, be4]; try omega)) ?_
  rintro w1 r F hw1 ⟨B50, v50, rfl, rfl, hB50⟩
  refine ⟨_, Mg.news (fun k hk => hB50.fresh k hk) (.upd (by repeat (first | exact Swp.here _ _ _ _ | apply Swp.there | apply Swp.seg)) (by simp) (.nil _)), ?_⟩
  refine xo_st (B50 ++ ((b5, BK 1 (fun _ => v50) 35) :: (b1, BK 28 (iv m) 34) :: [])) (fun _ h => St.dropSeg (B := (b49, _) :: B43) h (by intro b hb; simp at hb; rcases hb with rfl | hb; omega; exact hB43.fresh _ hb)) ?_
  replace hB50 := hB50.base hw1.size
  refine xo_nil ?_
  refine xq_then ?_
  refine xw_seq ?_
  refine xw_region ?_
  refine xq rfl trivial (o_mv rfl) ?_
  first | refine xq rfl trivial (o_fa0 fl34_10 rfl) ?_ | refine xq rfl trivial (o_fa fl34_10 rfl) ?_
  first | refine xq rfl trivial (o_ldV rfl ts3 (by repeat (first | exact List.Mem.head _ | apply List.Mem.tail | apply List.mem_append_right))) ?_ | refine xq rfl trivial (o_ldI rfl ts3 (by repeat (first | exact List.Mem.head _ | apply List.Mem.tail | apply List.mem_append_right)) (by omega) rfl) ?_ | refine xq rfl trivial (o_ld rfl ts3 (by repeat (first | exact List.Mem.head _ | apply List.Mem.tail | apply List.mem_append_right)) (by omega) rfl) ?_
  refine xo rfl trivial (o_bsl el53 ze3 (cells_one rfl) rfl rfl (.int rfl rfl (.nil _))) ?_
  rintro _ _ ⟨b54, hb54, rfl, rfl⟩
  refine xcallv rfl trivial rfl kf19 rfl (fun w1 hw1 => enc1_1 b5 (([] : List Int) ++ [m 0, m 1, m 2].flatMap be1 ++ [m 3, m 4].flatMap be4 ++ [m 5, m 6, m 7, m 8].flatMap be1 ++ [m 9, m 10].flatMap be4) [m 11] v50 _ w1 (hw1.own _ _ (by repeat (first | exact List.Mem.head _ | apply List.Mem.tail | apply List.mem_append_right))) (hB50.src hw1 (by intro x hx; simp [hx])) (SL.lit hw1 (by repeat (first | exact List.Mem.head _ | apply List.Mem.tail | apply List.mem_append_right)) rfl (by omega) (by simp [maxLen]) (by exact (fun i hi => match i, hi with | 0, _ => rfl | q + 1, h => absurd h (by omega)))) (by intro x hx; simp only [List.mem_cons, List.not_mem_nil, or_false] at hx; rcases hx with rfl <;> first | exact hr1 _ (by simp) | exact hr4 _ (by omega) (by omega)) (by simp [encH_len, encP_len, be1, be4]; try omega)) ?_
  rintro w1 r F hw1 ⟨B55, v55, rfl, rfl, hB55⟩
  refine ⟨_, Mg.news (fun k hk => hB55.fresh k hk) (.upd (by repeat (first | exact Swp.here _ _ _ _ | apply Swp.there | apply Swp.seg)) (by simp) (.nil _)), ?_⟩
  refine xo_st (B55 ++ ((b5, BK 1 (fun _ => v55) 35) :: (b1, BK 28 (iv m) 34) :: [])) (fun _ h => St.dropSeg (B := (b54, _) :: B50) h (by intro b hb; simp at hb; rcases hb with rfl | hb; omega; exact hB50.fresh _ hb)) ?_
  replace hB55 := hB55.base hw1.size
  refine xo_nil ?_
  refine xq_then ?_
  refine xw_seq ?_
  refine xw_seq ?_
  refine xw_region ?_
  first | refine xq rfl trivial (o_fa0 fl34_11 rfl) ?_ | refine xq rfl trivial (o_fa fl34_11 rfl) ?_
  first | refine xq rfl trivial (o_ldW rfl ts32 (by repeat (first | exact List.Mem.head _ | apply List.Mem.tail | apply List.mem_append_right))) ?_ | refine xq rfl trivial (o_ldSI rfl ts32 (by repeat (first | exact List.Mem.head _ | apply List.Mem.tail | apply List.mem_append_right)) (by omega) (fun _ _ => rfl)) ?_ | refine xq rfl trivial (o_ldS rfl ts32 (by repeat (first | exact List.Mem.head _ | apply List.Mem.tail | apply List.mem_append_right)) (by omega) (fun _ _ => rfl)) ?_
  refine xq rfl trivial (o_mv rfl) ?_
  refine xo_nil ?_
  refine xq_then ?_
  refine xw_block ?_
  refine xw_loop (fun mm ee HH => ∃ (k : Nat) (B : GH) (v : Value), mm = 8 - k ∧ ee = [(58, .int .i64 k), (57, AI 16 (fun i => m (12 + i))), (6, .func (.func 19) [].toArray [.pointer (some ⟨b5, 0, none⟩)].toArray), (5, .pointer (some ⟨b5, 0, none⟩)), (1, .pointer (some ⟨b1, 0, none⟩))] ∧ HH = B ++ ((b5, BK 1 (fun _ => v) 35) :: (b1, BK 28 (iv m) 34) :: []) ∧ (k ≤ 8) ∧ (OL w 5 1 u8c B v (encH m ++ encP m k))) _ ⟨_, _, (lc rfl (lc rfl (lc rfl (lc rfl (lc rfl ln))))), fun _ h => h, 0, _, _, rfl, rfl, rfl, (by omega), (by exact hB55)⟩ ?_
  rintro _ _ _ ⟨k, B, v, rfl, rfl, rfl, hk, hB⟩
  refine xw_seq ?_
  refine xw_region ?_
  refine xq rfl trivial (o_lss rfl rfl) ?_
  refine xo_nil ?_
  refine xq_then ?_
  refine xw_seq ?_
  refine xw_bool 59 rfl (fun hc2 => ?_) (fun hc2 => ?_)
  · try simp only [Bool.and_eq_true, Bool.or_eq_true, Bool.not_eq_true', Bool.not_eq_false', Bool.and_eq_false_iff, Bool.or_eq_false_iff, decide_eq_true_eq, decide_eq_false_iff_not, Int.not_le, Int.not_lt] at hc2
    refine xw_cond_t rfl rfl ?_
    refine xw_skip ?_
    refine xq_then ?_
    refine xw_seq ?_
    refine xw_block ?_
    refine xw_seq ?_
    refine xw_region ?_
    first | refine xq rfl trivial (o_ixAI ea32 rfl rfl ⟨by omega, by omega⟩ (by first | with_reducible exact Int.toNat_natCast _ | exact Eq.refl (Int.toNat _)) (by decide) (fun _ _ => rfl)) ?_ | refine xq rfl trivial (o_ixA ea32 rfl rfl ⟨by omega, by omega⟩ (by first | with_reducible exact Int.toNat_natCast _ | exact Eq.refl (Int.toNat _)) (by decide) (fun _ _ => rfl)) ?_
    refine xo rfl trivial (o_alloc ze31 rfl) ?_
    rintro _ _ ⟨b8, hb8, rfl, rfl⟩
    first | refine xq0 trivial (o_stWI rfl rfl ts31 (by repeat (first | exact List.Mem.head _ | apply List.Mem.tail | apply List.mem_append_right)) (by repeat (first | exact Upd.here _ _ _ _ | apply Upd.there | apply Upd.seg))) ?_ | refine xq0 trivial (o_stSI rfl rfl ts31 (by repeat (first | exact List.Mem.head _ | apply List.Mem.tail | apply List.mem_append_right)) (by omega) (by repeat (first | exact Upd.here _ _ _ _ | apply Upd.there | apply Upd.seg))) ?_
    refine xo_nil ?_
    refine xq_then ?_
    refine xw_region ?_
    refine xq rfl trivial (o_mv rfl) ?_
    first | refine xq rfl trivial (o_fa0 fl31_0 rfl) ?_ | refine xq rfl trivial (o_fa fl31_0 rfl) ?_
    first | refine xq rfl trivial (o_ldV rfl ts3 (by repeat (first | exact List.Mem.head _ | apply List.Mem.tail | apply List.mem_append_right))) ?_ | refine xq rfl trivial (o_ldI rfl ts3 (by repeat (first | exact List.Mem.head _ | apply List.Mem.tail | apply List.mem_append_right)) (by omega) rfl) ?_ | refine xq rfl trivial (o_ld rfl ts3 (by repeat (first | exact List.Mem.head _ | apply List.Mem.tail | apply List.mem_append_right)) (by omega) rfl) ?_
    first | refine xq rfl trivial (o_fa0 fl31_1 rfl) ?_ | refine xq rfl trivial (o_fa fl31_1 rfl) ?_
    first | refine xq rfl trivial (o_ldV rfl ts3 (by repeat (first | exact List.Mem.head _ | apply List.Mem.tail | apply List.mem_append_right))) ?_ | refine xq rfl trivial (o_ldI rfl ts3 (by repeat (first | exact List.Mem.head _ | apply List.Mem.tail | apply List.mem_append_right)) (by omega) rfl) ?_ | refine xq rfl trivial (o_ld rfl ts3 (by repeat (first | exact List.Mem.head _ | apply List.Mem.tail | apply List.mem_append_right)) (by omega) rfl) ?_
    refine xo rfl trivial (o_bsl el53 ze3 (cells_one rfl) rfl rfl (.int rfl rfl (.int rfl rfl (.nil _)))) ?_
    rintro _ _ ⟨b66, hb66, rfl, rfl⟩
    refine xcallv rfl trivial rfl kf19 rfl (fun w1 hw1 => enc1_4 b5 (encH m ++ encP m k) [m (12 + (k * 2 + 0)), m (12 + (k * 2 + 1))] v _ w1 (hw1.own _ _ (by repeat (first | exact List.Mem.head _ | apply List.Mem.tail | apply List.mem_append_right))) (hB.src hw1 (by intro x hx; simp [hx])) (SL.lit hw1 (by repeat (first | exact List.Mem.head _ | apply List.Mem.tail | apply List.mem_append_right)) rfl (by omega) (by simp [maxLen]) (by exact (fun i hi => match i, hi with | 0, _ => rfl | 1, _ => rfl | q + 2, h => absurd h (by omega)))) (by intro x hx; simp only [List.mem_cons, List.not_mem_nil, or_false] at hx; rcases hx with rfl | rfl <;> first | exact hr1 _ (by simp) | exact hr4 _ (by omega) (by omega)) (by simp [encH_len, encP_len, be1, be4]; try omega)) ?_
    rintro w1 r F hw1 ⟨B67, v67, rfl, rfl, hB67⟩
    refine ⟨_, Mg.news (fun k hk => hB67.fresh k hk) (.upd (by repeat (first | exact Swp.here _ _ _ _ | apply Swp.there | apply Swp.seg)) (by simp) (.nil _)), ?_⟩
    refine xo_st (B67 ++ ((b5, BK 1 (fun _ => v67) 35) :: (b1, BK 28 (iv m) 34) :: [])) (fun _ h => St.dropSeg (B := (b66, _) :: (b8, _) :: B) h (by intro b hb; simp at hb; rcases hb with rfl | rfl | hb; omega; omega; exact hB.fresh _ hb)) ?_
    replace hB67 := hB67.base hw1.size
    refine xo_nil ?_
    refine xq_blk 1 ?_
    refine xq_then ?_
    refine xw_region ?_
    refine xq rfl trivial (o_add rfl rfl rfl ⟨by omega, by omega⟩) ?_
    refine xq rfl trivial (o_mv rfl) ?_
    refine xo_nil ?_
    refine xq_round ⟨_, _, _, ?_, (lc rfl (lc rfl (lc rfl (lc rfl (lc rfl ln))))), fun _ h => h, k + 1, B67, v67, rfl, rfl, rfl, (by omega), (by rw [encP_succ, ← List.append_assoc]; exact hB67)⟩
    omega
  · try simp only [Bool.and_eq_true, Bool.or_eq_true, Bool.not_eq_true', Bool.not_eq_false', Bool.and_eq_false_iff, Bool.or_eq_false_iff, decide_eq_true_eq, decide_eq_false_iff_not, Int.not_le, Int.not_lt] at hc2
    refine xw_cond_f rfl rfl ?_
    refine xw_exit ?_
    refine xq_then_exit ?_
    refine xq_then_exit ?_
    refine xq_blk_eq ?_
    refine xq_then ?_
    refine xw_seq ?_
    refine xw_region ?_
    first | refine xq rfl trivial (o_ldV rfl ts35 (by repeat (first | exact List.Mem.head _ | apply List.Mem.tail | apply List.mem_append_right))) ?_ | refine xq rfl trivial (o_ldI rfl ts35 (by repeat (first | exact List.Mem.head _ | apply List.Mem.tail | apply List.mem_append_right)) (by omega) rfl) ?_ | refine xq rfl trivial (o_ld rfl ts35 (by repeat (first | exact List.Mem.head _ | apply List.Mem.tail | apply List.mem_append_right)) (by omega) rfl) ?_
    refine xq rfl trivial (o_as rfl) ?_
    refine xq rfl trivial (o_as rfl) ?_
    refine xo_nil ?_
    refine xq_then ?_
    refine xw_ret ?_
    exact con_ret2 (.inl rfl) Try.results10 rfl rfl (B ++ []) (Kp.st (Kp.segKeep (.new (by omega) (.new (by omega) .nil)))) (⟨v, rfl, by (obtain rfl : k = 8 := (by omega)); rw [List.append_nil]; exact hB⟩)

end Go.Proofs.Ytmcohikcgdfhcaa
