/- The statement 'LeaseMax' is proved here: whatever the arguments, the law returns true and its arguments read as before. No condition. -/
import Derived.Test.YtfpilngnhkcgjaaRows
import Derived.Test.YtfpilngnhkcgjaaOpen
import Derived.Test.YtfpilngnhkcgjaaC06W
import Derived.Test.YtfpilngnhkcgjaaP06c
namespace Go.Proofs.Ytfpilngnhkcgjaa.leaseMax
open Go Go.E Go.ChangeShapes Go.WideShapes Go.ChangeAt Go.RowKit
set_option linter.unusedVariables false

theorem own : ownKnob Try.prog.godebug = none := by kernel_rfl

set_option maxRecDepth 100000 in
theorem lifted (os : Os) (started : os.Started) (H : Type) (enc : TypeId × Value → H) :
    ReturnsInHanded {} Try.checked os 4 .any (Rows.leaseMaxSpec.pre6 enc Try.prog Try.f4 Rows.leaseMaxRow.domain false) (Rows.leaseMaxSpec.post enc Try.prog Try.f4 false true false false) := by
  refine returnsInHanded_of_change_sized (C := Try.checked) own started (by kernel_rfl) Try.func4
    (ChangeSpec.witness6 (enc := enc) (C := Try.checked) false ⟨#[], #[.int .u16 0, .slice none 0 0, .int .u8 0, .int .u32 0], []⟩ 8 (by kernel_rfl) (by kernel_rfl) (by kernel_rfl) (by kernel_rfl)) ?_
  intro W base args ds gs before hval0 hW hcnd hsz _
  have hval : ∀ (j : Nat) t v, Try.f4.params[j]? = some t → args[j]? = some v → Value.okWide Try.prog W .any base t v := hval0
  have hW' := hW
  obtain ⟨p, q, hA0, hV, rfl, hfz, hnd⟩ := hW
  have hA : DataW.TrodAll enc Try.prog W 0 (fun _ => true) true Try.f4.params.toList args.toList ds p := hA0
  rw [Try.params4] at hA hval
  obtain ⟨v0, vs0, d0, ds0, p0, q0, hargs, rfl, rfl, h0, r0⟩ := trodAll_cons hA
  obtain ⟨v1, vs1, d1, ds1, p1, q1, rfl, rfl, rfl, h1, r1⟩ := trodAll_cons r0
  obtain ⟨v2, vs2, d2, ds2, p2, q2, rfl, rfl, rfl, h2, r2⟩ := trodAll_cons r1
  obtain ⟨v3, vs3, d3, ds3, p3, q3, rfl, rfl, rfl, h3, r3⟩ := trodAll_cons r2
  obtain ⟨rfl, rfl, rfl⟩ := trodAll_nil r3
  obtain rfl : args = #[v0, v1, v2, v3] := by cases args; simp_all
  obtain ⟨rfl, rfl⟩ := trodVars_none hV
  obtain ⟨a0, rfl, rfl, rfl, w0⟩ := open_int Try.underlying22 (hval 0 22 v0 rfl rfl) h0
  have w0 := bounds_u16 w0
  obtain ⟨a1, s1, w1, n1⟩ := open_kind1 .u16 Try.underlying37 Try.underlying22 (by kernel_rfl) (hval 1 37 v1 rfl rfl) h1
  have w1 := fun x hx => bounds_u16 (w1 x hx)
  have n1 := len_le hsz (j := 1) (n := a1.length) 2 rfl rfl Try.underlying37 (by kernel_rfl) n1
  obtain ⟨a2, rfl, rfl, rfl, w2⟩ := open_int Try.underlying5 (hval 2 5 v2 rfl rfl) h2
  have w2 := bounds_u8 w2
  obtain ⟨a3, rfl, rfl, rfl, w3⟩ := open_int Try.underlying23 (hval 3 23 v3 rfl rfl) h3
  have w3 := bounds_u32 w3
  clear hA0 hval0
  refine Calls.mono (max6_con a0 a1 a2 a3 v1 W s1 true (max6_all a0 a1 a2 a3 w0 w1 w2 w3)) fun e W' ⟨v, F, he, hs, hv, hF⟩ => ?_
  subst hv hF
  subst he
  exact ⟨_, rfl, law_post (by kernel_rfl) hW' rfl rfl (by kernel_rfl) Try.underlying4 (by kernel_rfl) hs⟩

theorem over : Rows.leaseMaxRow.holds Try.pinned (OpenSpec.ofChange Rows.leaseMaxSpec) :=
  OpenClaim.holds_of_wide 4 Try.f4 rfl rfl rfl rfl rfl rfl rfl ⟨rfl, rfl, rfl, rfl, rfl⟩ rfl rfl rfl rfl rfl (by kernel_rfl) Try.func4 (by kernel_rfl)
    (of_decide_eq_true (by kernel_rfl)) (by unfold Func.isWrapper; first | (rw [if_pos (by decide +kernel)]; kernel_rfl) | (rw [if_neg (by decide +kernel)]; exact ⟨rfl, rfl⟩))
    (fun os started H enc _ => lifted os started H enc)

theorem proved : Rows.LeaseMaxSaid := over
#print axioms proved
end Go.Proofs.Ytfpilngnhkcgjaa.leaseMax
