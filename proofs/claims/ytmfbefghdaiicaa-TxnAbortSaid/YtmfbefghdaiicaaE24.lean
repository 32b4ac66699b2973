/- The engine, part 24: shifts of other kinds of numbers, clear(x[i:]). -/
import Derived.Test.YtmfbefghdaiicaaEB
namespace Go.E
open Go
set_option linter.unusedSectionVars false
set_option linter.unusedSimpArgs false
set_option linter.unusedVariables false
section
variable {P : Program} {w0 : World} {env : List (Nat × Value)} {H : GH} {d : Option Nat} {t ty : TypeId} {pos : String} {af : Array Edge} {g : Option (Nat × Bool)}
theorem o_shrK {yt : TypeId} {x y : Operand} {i j c : Int} {k k' : IntKind} (hx : ev env x = some (.int k i)) (hy : ev env y = some (.int k' j)) (hj : 0 ≤ j ∧ j.toNat ≤ k.bits) (hc : (2 : Int) ^ j.toNat = c) :
    OT P w0 env H ⟨d, .binOp .shr t x y yt, ty, pos, af, g⟩ (Is (.int k (i / c)) H) :=
  OT.pure fun a w ha => by
    subst hc
    have h1 : ¬ j < 0 := by omega
    have h2 : min j.toNat k.bits = j.toNat := by omega
    have hs : (binOp .shr t (.int k i) (.int k' j)).run P w = .ok (.int k (i / 2 ^ j.toNat)) w := by
      show (Op.shift .shr k i k' j).run P w = _
      unfold Op.shift
      rw [if_neg h1]
      simp only [h2, Sem.run_pure]
      rw [Int.fdiv_eq_ediv_of_nonneg i (Int.pow_nonneg (by omega))]
    simp only [execOp, ha.ev hx, ha.ev hy, eqGuard]
    simp [hs]
/-- clear(x[i:]) of ints -/
theorem o_clearC {ag : Bool} {e : TypeId} {v : Value} {l : List Int} {B : GH} {ts : Array TypeId} {by_ : Nat} {args : Array Operand} {i : Nat} (ht : App P t e 1 by_ (.int .i64 0)) (hz : ZeroT P e (.int .i64 0)) (hts : ts = #[t]) (hargs : evL env args.toList = some [cutV v 1 i l.length]) (hJ : OJ e 1 ic B v l) (hi : i ≤ l.length) :
    OT P w0 env (B ++ H) ⟨d, .call ⟨.builtin .clear, args, ts⟩, ty, pos, af, g⟩ (fun _ H' => ∃ B', H' = B' ++ H ∧ Cov w0 B B' ∧ OJ e 1 ic B' v (l.take i ++ List.replicate (l.length - i) 0)) :=
  OT.val fun a w ha hs => by
    subst hts
    have e1 : args.map a.eval = #[cutV v 1 i l.length] := Array.toList_inj.1 (by simpa using evL_spec ha _ _ hargs)
    have hexec : (execOp a.eval ⟨d, .call ⟨.builtin .clear, args, #[t]⟩, ty, pos, af, g⟩).run P w = ((Builtin.clear_ #[t] ty #[cutV v 1 i l.length]).run P w).andThen fun u w' => .ok (.value u) w' := by
      simp [execOp, resolve, invoke, builtin, e1]
    have h0 : ∀ (u : Option Addr) (cc : Nat), (Builtin.clear_ #[t] ty #[.slice u 0 cc]).run P w = .ok (.tuple #[]) w := by
      intro u cc
      cases u <;> simp [Builtin.clear_, run_underlying ht.u]
    rcases Nat.eq_zero_or_pos (l.length - i) with hm0 | hmpos
    · have hv : ∃ (u : Option Addr) (cc : Nat), cutV v 1 i l.length = .slice u 0 cc := by
        rcases hJ with ⟨rfl, rfl⟩ | ⟨b, o, cap, N, F, hB, rfl, hlc, hoN, hcm, hF⟩
        · exact ⟨(if (0 : Nat) = i then none else Option.map (fun (q : Addr) => q.add (i * 1)) none), 0 - i, by simp only [cutV, hm0]⟩
        · exact ⟨_, _, by simp only [cutV, hm0]; rfl⟩
      obtain ⟨u, cc, hv⟩ := hv
      refine ⟨_, w, B ++ H, by rw [hexec, hv, h0]; rfl, hs, B, rfl, Cov.refl B, ?_⟩
      rw [hm0, List.take_of_length_le (by omega)]
      simpa using hJ
    · rcases hJ with ⟨rfl, rfl⟩ | ⟨b, o, cap, N, F, hB, rfl, hlc, hoN, hcm, hF⟩
      · simp at hmpos
      have hcl : ¬ cap = i := by omega
      have ev2 : cutV (.slice (some ⟨b, o, none⟩) l.length cap) 1 i l.length = .slice (some ⟨b, o + i * 1, none⟩) (l.length - i) (cap - i) := by
        simp only [cutV, if_neg hcl, Option.map_some, Addr.add_lit]
      rw [Nat.mul_one] at ev2
      have hbk : w.heap[b]? = some (BK N F e) := hs.own _ _ (List.mem_append_left _ hB)
      have hzl : (Builtin.zeroCells (Value.int .i64 0).cells (l.length - i)).toList.length = (l.length - i) := by
        rw [Array.length_toList, size_zeroCells, ht.z, Nat.mul_one]
      have hget : ∀ q, q < l.length - i → (Builtin.zeroCells (Value.int .i64 0).cells (l.length - i)).toList[q]? = some (.int .i64 0) := by
        intro q hq
        simp [Builtin.zeroCells, Value.cells, hq, Nat.mod_one]
      have hoc : ∀ u ∈ (Builtin.zeroCells (Value.int .i64 0).cells (l.length - i)).toList, u.oneCell' = true := by
        intro u hu
        obtain ⟨q, hq, he⟩ := List.getElem_of_mem hu
        have := hget q (by omega)
        rw [List.getElem?_eq_getElem hq, he] at this
        have e2 := Option.some.inj this
        rw [e2]
        rfl
      have hst := run_storeCells_at P b (o + i) e (Builtin.zeroCells (Value.int .i64 0).cells (l.length - i)).toList 0 (CV N F) w hbk (by rw [hzl]; simp; omega) hoc
      simp only [Nat.add_zero] at hst
      have hr : (Builtin.clear_ #[t] ty #[.slice (some ⟨b, o + i, none⟩) (l.length - i) (cap - i)]).run P w = .ok (.tuple #[]) (w.setRow b ((CV N F).toList.take (o + i) ++ (Builtin.zeroCells (Value.int .i64 0).cells (l.length - i)).toList ++ (CV N F).toList.drop (o + i + (Builtin.zeroCells (Value.int .i64 0).cells (l.length - i)).toList.length)).toArray) := by
        obtain ⟨n, hn⟩ : ∃ n, l.length - i = n + 1 := ⟨l.length - i - 1, by omega⟩
        rw [hn] at hst ⊢
        simp only [Builtin.clear_, Sem.run_bind, run_underlying ht.u, Result.andThen_ok, hz.run]
        simp [run_underlying ht.u, hz.run, hst]
      have hsp : ((CV N F).toList.take (o + i) ++ (Builtin.zeroCells (Value.int .i64 0).cells (l.length - i)).toList ++ (CV N F).toList.drop (o + i + (Builtin.zeroCells (Value.int .i64 0).cells (l.length - i)).toList.length)).toArray = CV N (updR F (o + i) (l.length - i) fun _ => .int .i64 0) :=
        splice_CV (by rw [hzl]; omega) (fun k hk => by
          rw [hzl] at hk
          simp only [updR]
          rw [if_pos (by omega), hget k hk]) (fun k _ hh => by
          rw [hzl] at hh
          simp only [updR]; rw [if_neg (by omega)])
      obtain ⟨B', hB'⟩ := Upd.ex (BK N (updR F (o + i) (l.length - i) fun _ => .int .i64 0) e) hB
      have hlen : (l.take i ++ List.replicate (l.length - i) (0 : Int)).length = l.length := by simp; omega
      refine ⟨_, _, _, by rw [hexec, ev2, hr]; rfl, hs.setRow (N := N) (F := F) (T := e) (b := b) (f' := updR F (o + i) (l.length - i) fun _ => .int .i64 0) (List.mem_append_left _ hB) hsp hB'.left, B', rfl, Cov.upd hB', ?_⟩
      refine .inr ⟨b, o, cap, N, _, hB'.isin, by rw [hlen], by rw [hlen]; exact hlc, hoN, hcm, fun q hq => ?_⟩
      rw [hlen] at hq
      have hq' : q < l.length := by omega
      rw [eG_one (by rw [hlen]; exact hq')]
      simp only [updR]
      by_cases hqi : q < i
      · rw [if_neg (by omega), hF q (by omega), eG_one hq', List.getElem_append_left (by simp; omega), List.getElem_take]
      · rw [if_pos (by omega), List.getElem_append_right (by simp; omega), List.getElem_replicate]
        rfl
end
section
variable {P : Program} {n : Nat} {w0 : World} {ops : Array Oper} {KS : List Nat} {env0 env : Env} {dn : List Nat} {H RS : GH} {Q : Exit → Act → World → Prop}
/-! Two can come next, and not both have a slot. -/
theorem xd_step2a (hok : RegOK n ops = true) (i j : Nat) {o o' : Oper} {d : Nat} (l l' : Env) (ho : ops[i]? = some o) (ho' : ops[j]? = some o') (hd : o.dst = some d) (hd' : o'.dst = none) (hf : front ops dn = [i, j]) (hl : Live env l) (hl' : Live env l')
    (hs : slotsOK ops dn i (l.map (·.1)) = true) (hs' : slotsOK ops dn j (l'.map (·.1)) = true) (hw : Wt ops l o.guard) (hw' : Wt ops l' o'.guard) {R R' : Value → GH → Prop} (ht : OT P w0 l H o R) (ht' : OT P w0 l' H o' R')
    (k : ∀ v H', R v H' → (∀ x ∈ RS, x ∈ H') ∧ (∀ k ∈ keys H', k ∈ KS ∨ w0.heap.size ≤ k) ∧ XD P n w0 ops KS env0 (i :: dn) ((d, v) :: env) H' RS Q) (k' : ∀ v H', R' v H' → (∀ x ∈ RS, x ∈ H') ∧ (∀ k ∈ keys H', k ∈ KS ∨ w0.heap.size ≤ k) ∧ XD P n w0 ops KS env0 (j :: dn) env H' RS Q) : XD P n w0 ops KS env0 dn env H RS Q := by
  intro a0 dl ha0 hdn hnd he hrs
  refine xd_rounds hok (by rw [hdn]; exact hnd) ?_ ?_
  · intro a w listed hr hinv
    exfalso
    have hi : i ∈ front ops dn := by rw [hf]; simp
    obtain ⟨h1, h2⟩ := List.mem_filter.1 hi
    have := all_listed hok hinv.lsize hr i (List.mem_range.1 h1)
    obtain ⟨p, hp, e⟩ := hinv.inn i this
    simp only [Bool.and_eq_true, Bool.not_eq_true', List.contains_eq_mem, decide_eq_false_iff_not] at h2
    exact h2.1 (by rw [← hdn]; exact List.mem_map.2 ⟨p, hp, e⟩)
  · intro fuel listed a w q hinv hr hni
    have hj := front_spec hinv.lsize hdn hinv.inn hr hni
    rw [hf] at hj
    simp only [List.mem_cons, List.not_mem_nil, or_false] at hj
    rcases hj with rfl | rfl
    · exact xd_one hok l ho hl hs hw ht (fun v H' hR => by rw [hd]; exact k v H' hR) ha0 hdn hnd he hrs hinv hr hni
    · exact xd_one hok l' ho' hl' hs' hw' ht' (fun v H' hR => by rw [hd']; exact k' v H' hR) ha0 hdn hnd he hrs hinv hr hni

end
section
variable {P : Program} {n : Nat} {w0 : World} {env : Env} {H : GH} {Q : Exit → Act → World → Prop}
/-! Several ways meet in a state that is known but for names. -/
def CutI (n : Nat) (w0 : World) (I : Env → GH → Prop) : Exit → Act → World → Prop := fun ex a w => ex = .normal ∧ ∃ e H', I e H' ∧ Ag n e a ∧ St w0 H' w
theorem xw_cutI {c : Code} (I : Env → GH → Prop) (h1 : XW P n w0 env H c (CutI n w0 I)) (h2 : ∀ e H', I e H' → XQ n w0 e H' .normal Q) : XW P n w0 env H c Q :=
  fun a w ha hs => wp_mono (h1 a w ha hs) fun e a' w' ⟨he, e1, H1, hI, ha', hs'⟩ => by subst he; exact h2 e1 H1 hI a' w' ha' hs'
theorem xq_cutI {I : Env → GH → Prop} {e' : Env} (H' : GH) (hl : Live env e') (hH : ∀ w, St w0 H w → St w0 H' w) (hI : I e' H') : XQ n w0 env H .normal (CutI n w0 I) :=
  fun a w ha hs => ⟨rfl, e', H', hI, ha.live hl, hH w hs⟩
/-- A call that hands back several new segments, as one list. -/
theorem Con.catP {f : FuncId} {args : Array Value} {w : World} {post : Value → GH → Prop} (h : Con P f args w post) (hc : ∀ v F, post v F → Cov w [] F) :
    Con P f args w (CatG fun v Ls => Cov w (cat []) (cat Ls) ∧ ∃ F, Ls = [F] ∧ post v F) :=
  h.mono fun v F hp => ⟨[F], by simp [cat], by simpa [cat] using hc v F hp, F, rfl, hp⟩
end
end Go.E
