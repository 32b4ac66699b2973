/- The engine, part 22: make of a slice. -/
import Derived.Test.YteomcjiiiilhmaaEB
import Derived.Laws.MakeOwn
namespace Go.E
open Go
set_option linter.unusedVariables false

section
variable {α : Type} {P : Program} {w0 : World} {env : Env} {H : GH} {ty : TypeId} {pos : String} {af : Array Edge} {g : Option (Nat × Bool)} {d : Option Nat} {t e : TypeId} {x y : Operand} {s by_ : Nat} {c : α → Nat → Value}
theorem o_mksl {z : Value} {n : Int} (z0 : α) (ht : App P t e s by_ z) (hx : ev env x = some (.int .i64 n)) (hy : ev env y = some (.int .i64 n)) (hs : Nat.blt 0 s = true) (hz : z.cells = CV s (c z0)) (h0 : 0 ≤ n) (hb : (by_ : Int) * n ≤ 140737488355328) (hm : n ≤ 1000000000000) :
    OT P w0 env H ⟨d, .makeSlice t x y, ty, pos, af, g⟩ (fun v' H' => ∃ B', H' = B' ++ H ∧ Cov w0 [] B' ∧ OJ e s c B' v' (List.replicate n.toNat z0)) :=
  OT.val fun a w ha hst => by
    have hs' : 0 < s := by simpa [Nat.blt_eq] using hs
    obtain ⟨h1, h2, _, _⟩ := ht
    obtain ⟨i, hi, hi2⟩ := Option.map_eq_some_iff.1 h2
    simp only [Prod.mk.injEq] at hi2
    obtain ⟨hsz, hby, hzz⟩ := hi2
    have hr := run_make (P := P) w t e i z h1 hi hzz .i64 .i64 n n h0 (Int.le_refl _) (by rw [hby]; omega) (by omega)
    have hc : madeCells z.cells (n.toNat * i.size) = CV (n.toNat * s) (fun k => c z0 (k % s)) := by
      rw [hsz, hz]
      refine CV_eq (size_madeCells _ _) fun k hk => ?_
      have hks : k % s < s := Nat.mod_lt _ hs'
      have : (CV s (c z0))[k % s]! = c z0 (k % s) := by
        rw [getElem!_def, CV_get hks]
      simp [madeCells, hk, this]
    refine ⟨.slice (some ⟨w.heap.size, 0, none⟩) n.toNat n.toNat, _, (w.heap.size, BK (n.toNat * s) (fun k => c z0 (k % s)) e) :: H, ?_, hst.alloc _, [(w.heap.size, BK (n.toNat * s) (fun k => c z0 (k % s)) e)], rfl, Cov.new hst.size, ?_⟩
    · simp only [execOp, ha.ev hx, ha.ev hy]
      unfold BK
      rw [← hc]
      simp [hr]
    · refine .inr ⟨w.heap.size, 0, n.toNat, _, _, List.mem_singleton.2 rfl, by rw [List.length_replicate], by rw [List.length_replicate]; omega, by omega, by simp [maxLen]; omega, fun k hk => ?_⟩
      rw [List.length_replicate] at hk
      have hq : k / s < n.toNat := Nat.div_lt_of_lt_mul (by rw [Nat.mul_comm]; exact hk)
      unfold eG
      rw [List.getElem?_replicate, if_pos hq]
      simp
end
end Go.E
