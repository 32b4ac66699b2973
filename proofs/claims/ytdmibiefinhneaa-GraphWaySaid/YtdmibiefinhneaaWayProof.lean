/- The statement 'GraphWay' is proved here: whatever the arguments, the law returns true and its arguments read as before. No condition. -/
import Derived.Test.YtdmibiefinhneaaRows
import Derived.Test.YtdmibiefinhneaaJ2
import Derived.Test.YtdmibiefinhneaaJ4
namespace Go.Proofs.Ytdmibiefinhneaa.graphWay
open Go Go.E Go.ChangeShapes Go.WideShapes Go.ChangeAt Go.RowKit
set_option linter.unusedVariables false

theorem own : ownKnob Try.prog.godebug = none := by kernel_rfl

set_option maxRecDepth 100000 in
theorem lifted (os : Os) (started : os.Started) (H : Type) (enc : TypeId × Value → H) :
    ReturnsInHanded {} Try.checked os 4 .any (Rows.graphWaySpec.pre6 enc Try.prog Try.f4 Rows.graphWayRow.domain false) (Rows.graphWaySpec.post enc Try.prog Try.f4 false true false false) := by
  refine returnsInHanded_of_change_sized (C := Try.checked) own started (by kernel_rfl) Try.func4
    (ChangeSpec.witness6 (enc := enc) (C := Try.checked) false ⟨#[], #[.slice none 0 0, .int .i64 0, .int .i64 0], []⟩ 8 (by kernel_rfl) (by kernel_rfl) (by kernel_rfl) (by kernel_rfl)) ?_
  intro W base args ds gs before hval0 hW hcnd hsz _
  have hval : ∀ (j : Nat) t v, Try.f4.params[j]? = some t → args[j]? = some v → Value.okWide Try.prog W .any base t v := hval0
  have hW' := hW
  obtain ⟨p, q, hA0, hV, rfl, hfz, hnd⟩ := hW
  have hA : DataW.TrodAll enc Try.prog W 0 (fun _ => true) true Try.f4.params.toList args.toList ds p := hA0
  rw [Try.params4] at hA hval
  obtain ⟨v0, vs0, d0, ds0, p0, q0, hargs, rfl, rfl, h0, r0⟩ := trodAll_cons hA
  obtain ⟨v1, vs1, d1, ds1, p1, q1, rfl, rfl, rfl, h1, r1⟩ := trodAll_cons r0
  obtain ⟨v2, vs2, d2, ds2, p2, q2, rfl, rfl, rfl, h2, r2⟩ := trodAll_cons r1
  obtain ⟨rfl, rfl, rfl⟩ := trodAll_nil r2
  obtain rfl : args = #[v0, v1, v2] := by cases args; simp_all
  obtain ⟨rfl, rfl⟩ := trodVars_none hV
  obtain ⟨a0, s0, w0, n0⟩ := open_list64 4 Try.underlying22 (by kernel_rfl) (by kernel_rfl) rfl (hval 0 22 v0 rfl rfl) h0
  have n0 := len_le hsz (j := 0) (n := a0.length) 32 rfl rfl Try.underlying22 (by kernel_rfl) n0
  obtain ⟨a1, rfl, rfl, rfl, w1⟩ := open_int Try.underlying3 (hval 1 3 v1 rfl rfl) h1
  have w1 := bounds_i64 w1
  obtain ⟨a2, rfl, rfl, rfl, w2⟩ := open_int Try.underlying3 (hval 2 3 v2 rfl rfl) h2
  have w2 := bounds_i64 w2
  clear hA0 hval0
  refine Calls.mono (way10_con a0 a1 a2 v0 W s0 true (way10_all a0 a1 a2 w0)) fun e W' ⟨v, F, he, hs, hv, hF⟩ => ?_
  subst hv hF
  subst he
  exact ⟨_, rfl, law_post (by kernel_rfl) hW' rfl rfl (by kernel_rfl) Try.underlying4 (by kernel_rfl) hs⟩

theorem over : Rows.graphWayRow.holds Try.pinned (OpenSpec.ofChange Rows.graphWaySpec) :=
  OpenClaim.holds_of_wide 4 Try.f4 rfl rfl rfl rfl rfl rfl rfl ⟨rfl, rfl, rfl, rfl, rfl⟩ rfl rfl rfl rfl rfl (by kernel_rfl) Try.func4 (by kernel_rfl)
    (of_decide_eq_true (by kernel_rfl)) (by unfold Func.isWrapper; first | (rw [if_pos (by decide +kernel)]; kernel_rfl) | (rw [if_neg (by decide +kernel)]; exact ⟨rfl, rfl⟩))
    (fun os started H enc _ => lifted os started H enc)

theorem proved : Rows.GraphWaySaid := over
#print axioms proved
end Go.Proofs.Ytdmibiefinhneaa.graphWay
