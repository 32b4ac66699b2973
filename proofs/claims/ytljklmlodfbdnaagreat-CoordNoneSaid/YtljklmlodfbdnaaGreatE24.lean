/- The engine, part 24: shifts of other kinds of numbers, clear(x[i:]). -/
import Derived.Test.YtljklmlodfbdnaaGreatEB
namespace Go.E
open Go
set_option linter.unusedSectionVars false
set_option linter.unusedSimpArgs false
set_option linter.unusedVariables false
section
variable {P : Program} {w0 : World} {env : List (Nat × Value)} {H : GH} {d : Option Nat} {t ty : TypeId} {pos : String} {af : Array Edge} {g : Option (Nat × Bool)}
theorem o_shrK {yt : TypeId} {x y : Operand} {i j c : Int} {k k' : IntKind} (hx : ev env x = some (.int k i)) (hy : ev env y = some (.int k' j)) (hj : 0 ≤ j ∧ j.toNat ≤ k.bits) (hc : (2 : Int) ^ j.toNat = c) :
    OT P w0 env H ⟨d, .binOp .shr t x y yt, ty, pos, af, g⟩ (Is (.int k (i / c)) H) :=
  OT.pure fun a w ha => by
    subst hc
    have h1 : ¬ j < 0 := by omega
    have h2 : min j.toNat k.bits = j.toNat := by omega
    have hs : (binOp .shr t (.int k i) (.int k' j)).run P w = .ok (.int k (i / 2 ^ j.toNat)) w := by
      show (Op.shift .shr k i k' j).run P w = _
      unfold Op.shift
      rw [if_neg h1]
      simp only [h2, Sem.run_pure]
      rw [Int.fdiv_eq_ediv_of_nonneg i (Int.pow_nonneg (by omega))]
    simp only [execOp, ha.ev hx, ha.ev hy, eqGuard]
    simp [hs]
end
section
variable {P : Program} {n : Nat} {w0 : World} {ops : Array Oper} {KS : List Nat} {env0 env : Env} {dn : List Nat} {H RS : GH} {Q : Exit → Act → World → Prop}
/-! Two can come next, and not both have a slot. -/
theorem xd_step2a (hok : RegOK n ops = true) (i j : Nat) {o o' : Oper} {d : Nat} (l l' : Env) (ho : ops[i]? = some o) (ho' : ops[j]? = some o') (hd : o.dst = some d) (hd' : o'.dst = none) (hf : front ops dn = [i, j]) (hl : Live env l) (hl' : Live env l')
    (hs : slotsOK ops dn i (l.map (·.1)) = true) (hs' : slotsOK ops dn j (l'.map (·.1)) = true) (hw : Wt ops l o.guard) (hw' : Wt ops l' o'.guard) {R R' : Value → GH → Prop} (ht : OT P w0 l H o R) (ht' : OT P w0 l' H o' R')
    (k : ∀ v H', R v H' → (∀ x ∈ RS, x ∈ H') ∧ (∀ k ∈ keys H', k ∈ KS ∨ w0.heap.size ≤ k) ∧ XD P n w0 ops KS env0 (i :: dn) ((d, v) :: env) H' RS Q) (k' : ∀ v H', R' v H' → (∀ x ∈ RS, x ∈ H') ∧ (∀ k ∈ keys H', k ∈ KS ∨ w0.heap.size ≤ k) ∧ XD P n w0 ops KS env0 (j :: dn) env H' RS Q) : XD P n w0 ops KS env0 dn env H RS Q := by
  intro a0 dl ha0 hdn hnd he hrs
  refine xd_rounds hok (by rw [hdn]; exact hnd) ?_ ?_
  · intro a w listed hr hinv
    exfalso
    have hi : i ∈ front ops dn := by rw [hf]; simp
    obtain ⟨h1, h2⟩ := List.mem_filter.1 hi
    have := all_listed hok hinv.lsize hr i (List.mem_range.1 h1)
    obtain ⟨p, hp, e⟩ := hinv.inn i this
    simp only [Bool.and_eq_true, Bool.not_eq_true', List.contains_eq_mem, decide_eq_false_iff_not] at h2
    exact h2.1 (by rw [← hdn]; exact List.mem_map.2 ⟨p, hp, e⟩)
  · intro fuel listed a w q hinv hr hni
    have hj := front_spec hinv.lsize hdn hinv.inn hr hni
    rw [hf] at hj
    simp only [List.mem_cons, List.not_mem_nil, or_false] at hj
    rcases hj with rfl | rfl
    · exact xd_one hok l ho hl hs hw ht (fun v H' hR => by rw [hd]; exact k v H' hR) ha0 hdn hnd he hrs hinv hr hni
    · exact xd_one hok l' ho' hl' hs' hw' ht' (fun v H' hR => by rw [hd']; exact k' v H' hR) ha0 hdn hnd he hrs hinv hr hni

end
section
variable {P : Program} {n : Nat} {w0 : World} {env : Env} {H : GH} {Q : Exit → Act → World → Prop}
/-! Several ways meet in a state that is known but for names. -/
end
end Go.E
