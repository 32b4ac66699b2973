/- The statement 'TxnAbort' is proved here: whatever the arguments, the law returns true and its arguments read as before. No condition. -/
import Derived.Test.YtmfbefghdaiicaaRows
import Derived.Test.YtmfbefghdaiicaaOpen
import Derived.Test.YtmfbefghdaiicaaH17W
import Derived.Test.YtmfbefghdaiicaaP17j
import Derived.Test.YtmfbefghdaiicaaOpen
namespace Go.Proofs.Ytmfbefghdaiicaa.txnAbort
open Go Go.E Go.ChangeShapes Go.WideShapes Go.ChangeAt Go.RowKit
set_option linter.unusedVariables false

theorem own : ownKnob Try.prog.godebug = none := by kernel_rfl

set_option maxRecDepth 100000 in
theorem lifted (os : Os) (started : os.Started) (H : Type) (enc : TypeId × Value → H) :
    ReturnsInHanded {} Try.checked os 5 .any (Rows.txnAbortSpec.pre6 enc Try.prog Try.f5 Rows.txnAbortRow.domain false) (Rows.txnAbortSpec.post enc Try.prog Try.f5 false true false false) := by
  refine returnsInHanded_of_change_sized (C := Try.checked) own started (by kernel_rfl) Try.func5
    (ChangeSpec.witness6 (enc := enc) (C := Try.checked) false ⟨#[], #[.slice none 0 0, .int .u8 0], []⟩ 8 (by kernel_rfl) (by kernel_rfl) (by kernel_rfl) (by kernel_rfl)) ?_
  intro W base args ds gs before hval0 hW hcnd hsz _
  have hval : ∀ (j : Nat) t v, Try.f5.params[j]? = some t → args[j]? = some v → Value.okWide Try.prog W .any base t v := hval0
  have hW' := hW
  obtain ⟨p, q, hA0, hV, rfl, hfz, hnd⟩ := hW
  have hA : DataW.TrodAll enc Try.prog W 0 (fun _ => true) true Try.f5.params.toList args.toList ds p := hA0
  rw [Try.params5] at hA hval
  obtain ⟨v0, vs0, d0, ds0, p0, q0, hargs, rfl, rfl, h0, r0⟩ := trodAll_cons hA
  obtain ⟨v1, vs1, d1, ds1, p1, q1, rfl, rfl, rfl, h1, r1⟩ := trodAll_cons r0
  obtain ⟨rfl, rfl, rfl⟩ := trodAll_nil r1
  obtain rfl : args = #[v0, v1] := by cases args; simp_all
  obtain ⟨rfl, rfl⟩ := trodVars_none hV
  obtain ⟨a0, s0, w0, n0⟩ := open_list64 33 Try.underlying22 (by kernel_rfl) (by kernel_rfl) rfl (hval 0 22 v0 rfl rfl) h0
  have n0 := len_le hsz (j := 0) (n := a0.length) 264 rfl rfl Try.underlying22 (by kernel_rfl) n0
  obtain ⟨a1, rfl, rfl, rfl, w1⟩ := open_int Try.underlying5 (hval 1 5 v1 rfl rfl) h1
  have w1 := bounds_u8 w1
  clear hA0 hval0
  refine Calls.mono (abort17_con a0 a1 v0 W s0 true (abort17_all a0 a1 (by omega))) fun e W' ⟨v, F, he, hs, hv, hF⟩ => ?_
  subst hv hF
  subst he
  exact ⟨_, rfl, law_post (by kernel_rfl) hW' rfl rfl (by kernel_rfl) Try.underlying4 (by kernel_rfl) hs⟩

theorem over : Rows.txnAbortRow.holds Try.pinned (OpenSpec.ofChange Rows.txnAbortSpec) :=
  OpenClaim.holds_of_wide 5 Try.f5 rfl rfl rfl rfl rfl rfl rfl ⟨rfl, rfl, rfl, rfl, rfl⟩ rfl rfl rfl rfl rfl (by kernel_rfl) Try.func5 (by kernel_rfl)
    (of_decide_eq_true (by kernel_rfl)) (by unfold Func.isWrapper; first | (rw [if_pos (by decide +kernel)]; kernel_rfl) | (rw [if_neg (by decide +kernel)]; exact ⟨rfl, rfl⟩))
    (fun os started H enc _ => lifted os started H enc)

theorem proved : Rows.TxnAbortSaid := over
#print axioms proved
end Go.Proofs.Ytmfbefghdaiicaa.txnAbort
