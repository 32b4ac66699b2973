/- The statement 'TxnActs' is proved here: whatever the arguments, the law returns true and its arguments read as before. No condition. -/
import Derived.Test.YtmfbefghdaiicaaRows
import Derived.Test.YtmfbefghdaiicaaJ2
import Derived.Test.YtmfbefghdaiicaaJ8
namespace Go.Proofs.Ytmfbefghdaiicaa.txnActs
open Go Go.E Go.ChangeShapes Go.WideShapes Go.ChangeAt Go.RowKit
set_option linter.unusedVariables false

theorem own : ownKnob Try.prog.godebug = none := by kernel_rfl

set_option maxRecDepth 100000 in
theorem lifted (os : Os) (started : os.Started) (H : Type) (enc : TypeId × Value → H) :
    ReturnsInHanded {} Try.checked os 6 .any (Rows.txnActsSpec.pre6 enc Try.prog Try.f6 Rows.txnActsRow.domain false) (Rows.txnActsSpec.post enc Try.prog Try.f6 false true false false) := by
  refine returnsInHanded_of_change_sized (C := Try.checked) own started (by kernel_rfl) Try.func6
    (ChangeSpec.witness6 (enc := enc) (C := Try.checked) false ⟨#[], #[.int .i64 0, .slice none 0 0, .bool false], []⟩ 8 (by kernel_rfl) (by kernel_rfl) (by kernel_rfl) (by kernel_rfl)) ?_
  intro W base args ds gs before hval0 hW hcnd hsz _
  have hval : ∀ (j : Nat) t v, Try.f6.params[j]? = some t → args[j]? = some v → Value.okWide Try.prog W .any base t v := hval0
  have hW' := hW
  obtain ⟨p, q, hA0, hV, rfl, hfz, hnd⟩ := hW
  have hA : DataW.TrodAll enc Try.prog W 0 (fun _ => true) true Try.f6.params.toList args.toList ds p := hA0
  rw [Try.params6] at hA hval
  obtain ⟨v0, vs0, d0, ds0, p0, q0, hargs, rfl, rfl, h0, r0⟩ := trodAll_cons hA
  obtain ⟨v1, vs1, d1, ds1, p1, q1, rfl, rfl, rfl, h1, r1⟩ := trodAll_cons r0
  obtain ⟨v2, vs2, d2, ds2, p2, q2, rfl, rfl, rfl, h2, r2⟩ := trodAll_cons r1
  obtain ⟨rfl, rfl, rfl⟩ := trodAll_nil r2
  obtain rfl : args = #[v0, v1, v2] := by cases args; simp_all
  obtain ⟨rfl, rfl⟩ := trodVars_none hV
  obtain ⟨a0, rfl, rfl, rfl, w0⟩ := open_int Try.underlying3 (hval 0 3 v0 rfl rfl) h0
  have w0 := bounds_i64 w0
  obtain ⟨a1, s1, w1, n1⟩ := open_list64 33 Try.underlying22 (by kernel_rfl) (by kernel_rfl) rfl (hval 1 22 v1 rfl rfl) h1
  have n1 := len_le hsz (j := 1) (n := a1.length) 264 rfl rfl Try.underlying22 (by kernel_rfl) n1
  obtain ⟨a2, rfl, rfl, rfl⟩ := open_bool Try.underlying4 (hval 2 4 v2 rfl rfl) h2
  clear hA0 hval0
  refine Calls.mono (txnacts17_con a0 a1 a2 v1 W s1 true (txnacts17_all a0 a1 a2)) fun e W' ⟨v, F, he, hs, hv, hF⟩ => ?_
  subst hv hF
  subst he
  exact ⟨_, rfl, law_post (by kernel_rfl) hW' rfl rfl (by kernel_rfl) Try.underlying4 (by kernel_rfl) hs⟩

theorem over : Rows.txnActsRow.holds Try.pinned (OpenSpec.ofChange Rows.txnActsSpec) :=
  OpenClaim.holds_of_wide 6 Try.f6 rfl rfl rfl rfl rfl rfl rfl ⟨rfl, rfl, rfl, rfl, rfl⟩ rfl rfl rfl rfl rfl (by kernel_rfl) Try.func6 (by kernel_rfl)
    (of_decide_eq_true (by kernel_rfl)) (by unfold Func.isWrapper; first | (rw [if_pos (by decide +kernel)]; kernel_rfl) | (rw [if_neg (by decide +kernel)]; exact ⟨rfl, rfl⟩))
    (fun os started H enc _ => lifted os started H enc)

theorem proved : Rows.TxnActsSaid := over
#print axioms proved
end Go.Proofs.Ytmfbefghdaiicaa.txnActs
