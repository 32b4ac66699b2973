/- The statement 'CoordNone' is proved here: whatever the arguments, the law returns true and its arguments read as before. No condition. -/
import Derived.Test.YtljklmlodfbdnaaGreatRows
import Derived.Test.YtljklmlodfbdnaaGreatOpen
import Derived.Test.YtljklmlodfbdnaaGreatH18W
import Derived.Test.YtljklmlodfbdnaaGreatP18none
namespace Go.Proofs.YtljklmlodfbdnaaGreat.coordNone
open Go Go.E Go.ChangeShapes Go.WideShapes Go.ChangeAt Go.RowKit
set_option linter.unusedVariables false

theorem own : ownKnob Tryz.prog.godebug = none := by kernel_rfl

set_option maxRecDepth 100000 in
theorem lifted (os : Os) (started : os.Started) (H : Type) (enc : TypeId × Value → H) :
    ReturnsInHanded {} Tryz.checked os 7 .any (Rows.coordNoneSpec.pre6 enc Tryz.prog Tryz.f7 Rows.coordNoneRow.domain false) (Rows.coordNoneSpec.post enc Tryz.prog Tryz.f7 false true false false) := by
  refine returnsInHanded_of_change (C := Tryz.checked) own started (by kernel_rfl) Tryz.func7
    (ChangeSpec.witness6 (enc := enc) (C := Tryz.checked) false ⟨#[], #[.agg (Array.replicate 28 (.int .i64 0)), .int .i64 0], []⟩ 8 (by kernel_rfl) (by kernel_rfl) (by kernel_rfl) (by kernel_rfl)) ?_
  intro W base args ds gs before hval0 hW hcnd _
  have hval : ∀ (j : Nat) t v, Tryz.f7.params[j]? = some t → args[j]? = some v → Value.okWide Tryz.prog W .any base t v := hval0
  have hW' := hW
  obtain ⟨p, q, hA0, hV, rfl, hfz, hnd⟩ := hW
  have hA : DataW.TrodAll enc Tryz.prog W 0 (fun _ => true) true Tryz.f7.params.toList args.toList ds p := hA0
  rw [Tryz.params7] at hA hval
  obtain ⟨v0, vs0, d0, ds0, p0, q0, hargs, rfl, rfl, h0, r0⟩ := trodAll_cons hA
  obtain ⟨v1, vs1, d1, ds1, p1, q1, rfl, rfl, rfl, h1, r1⟩ := trodAll_cons r0
  obtain ⟨rfl, rfl, rfl⟩ := trodAll_nil r1
  obtain rfl : args = #[v0, v1] := by cases args; simp_all
  obtain ⟨rfl, rfl⟩ := trodVars_none hV
  obtain ⟨a0, rfl, w0, rfl⟩ := open_ints64 28 (by kernel_rfl) (by kernel_rfl) (by kernel_rfl) (hval 0 45 v0 rfl rfl) h0
  obtain ⟨a1, rfl, rfl, rfl, w1⟩ := open_int Tryz.underlying3 (hval 1 3 v1 rfl rfl) h1
  have w1 := bounds_i64 w1
  clear hA0 hval0
  refine Calls.mono (none18_con a0 a1 W true (none18_all a0 a1)) fun e W' ⟨v, F, he, hs, hv, hF⟩ => ?_
  subst hv hF
  subst he
  exact ⟨_, rfl, law_post (by kernel_rfl) hW' rfl rfl (by kernel_rfl) Tryz.underlying4 (by kernel_rfl) hs⟩

theorem over : Rows.coordNoneRow.holds Tryz.pinned (OpenSpec.ofChange Rows.coordNoneSpec) :=
  OpenClaim.holds_of_wide 7 Tryz.f7 rfl rfl rfl rfl rfl rfl rfl ⟨rfl, rfl, rfl, rfl, rfl⟩ rfl rfl rfl rfl rfl (by kernel_rfl) Tryz.func7 (by kernel_rfl)
    (of_decide_eq_true (by kernel_rfl)) (by unfold Func.isWrapper; first | (rw [if_pos (by decide +kernel)]; kernel_rfl) | (rw [if_neg (by decide +kernel)]; exact ⟨rfl, rfl⟩))
    (fun os started H enc _ => lifted os started H enc)

theorem proved : Rows.CoordNoneSaid := over
#print axioms proved
end Go.Proofs.YtljklmlodfbdnaaGreat.coordNone
