/-
  No cell of these rows narrows 'for every input' (looked for: loops, veiled, ifaces, maps, wideKeys, modest, calm, conditions, laid).
  DERIVED. THE GIVEN ROWS OF THIS SEAT. 5 by the template 'for every input the law returns true; each argument reads behind the call as it read before'; 0 by the template 'total and deterministic' (their statements: YtmfbefghdaiicaaTotals.lean).
  GIVEN WITH THE SEED: the statements are not yours to turn. If you find one false, say at which input.
  Laid BY PROGRAM, IN A SANDBOX (cutbox-rows.mjs): the forced cells as the released guide's own fill.sh prints them over the translation 9545d3020434ffce… (all of the seat's roots in one cut). By AI agents, Wed Nov 11 2026. No macro, syntax, notation, axiom, sorry.
-/
import Derived.Test.YtmfbefghdaiicaaChecked
import GoSem.Claim
import GoSem.ClaimJoined
import GoSem.ClaimMapViews
import Derived.JoinedTies
import Derived.KernelRfl
namespace Go.Proofs.Ytmfbefghdaiicaa
/- THE CELL 'sum', in the pinned program and in every row, IS THE sha256 OF THE DUMP (.gsa) THAT YtmfbefghdaiicaaProg.lean LOADS. Nothing in Lean hashes anything: it is a label: what it is worth is what the hold of that sum in a sandbox is worth. -/
noncomputable def Try.pinned : Pinned := { name := "ytmfbefghdaiicaa", sum := "9545d3020434ffcecd60e6d1f22a2c303fee0c87efe40f6632d59381dc27d6ca", checked := Try.checked }
namespace Rows
def none {H : Type} : Left H := { results := [], args := [] }

/-- 'catchboltlaw17.TxnOnce': WHATEVER THE INPUT: true; the input reads as it did. -/
def txnOnceSpec : ChangeSpec := { name := "txnOnce", fn := fun _ => fun
  | [d] => { results := [.lit (.bool true)], args := [d] }
  | _ => none }
def txnOnceRow : OpenClaim := { program := "ytmfbefghdaiicaa", sum := "9545d3020434ffcecd60e6d1f22a2c303fee0c87efe40f6632d59381dc27d6ca", func := "catchbolt/catchboltlaw17.TxnOnce", spec := "txnOnce", inPlace := ["slices.overlaps[int]", "internal/reflectlite.TypeOf"], unfollowed := true, recurses := true, apart := false }
def TxnOnceSaid : Prop := txnOnceRow.holds Try.pinned (OpenSpec.ofChange txnOnceSpec)

/-- ITS FALSE NEIGHBOUR: 'it returns false'. Refute it at one input. -/
def txnOnceWrong : ChangeSpec := { name := "txnOnce", fn := fun _ => fun
  | [d] => { results := [.lit (.bool false)], args := [d] }
  | _ => none }
def TxnOnceWrongFalsely : Prop := txnOnceRow.holds Try.pinned (OpenSpec.ofChange txnOnceWrong)

/-- 'catchboltlaw17.TxnLate': WHATEVER THE INPUT: true; the input reads as it did. -/
def txnLateSpec : ChangeSpec := { name := "txnLate", fn := fun _ => fun
  | [d1, d2] => { results := [.lit (.bool true)], args := [d1, d2] }
  | _ => none }
def txnLateRow : OpenClaim := { program := "ytmfbefghdaiicaa", sum := "9545d3020434ffcecd60e6d1f22a2c303fee0c87efe40f6632d59381dc27d6ca", func := "catchbolt/catchboltlaw17.TxnLate", spec := "txnLate", inPlace := ["slices.overlaps[int]", "internal/reflectlite.TypeOf"], unfollowed := true, recurses := true, apart := false }
def TxnLateSaid : Prop := txnLateRow.holds Try.pinned (OpenSpec.ofChange txnLateSpec)

/-- ITS FALSE NEIGHBOUR: 'it returns false'. Refute it at one input. -/
def txnLateWrong : ChangeSpec := { name := "txnLate", fn := fun _ => fun
  | [d1, d2] => { results := [.lit (.bool false)], args := [d1, d2] }
  | _ => none }
def TxnLateWrongFalsely : Prop := txnLateRow.holds Try.pinned (OpenSpec.ofChange txnLateWrong)

/-- 'catchboltlaw17.TxnAbort': WHATEVER THE INPUT: true; the input reads as it did. -/
def txnAbortSpec : ChangeSpec := { name := "txnAbort", fn := fun _ => fun
  | [d1, d2] => { results := [.lit (.bool true)], args := [d1, d2] }
  | _ => none }
def txnAbortRow : OpenClaim := { program := "ytmfbefghdaiicaa", sum := "9545d3020434ffcecd60e6d1f22a2c303fee0c87efe40f6632d59381dc27d6ca", func := "catchbolt/catchboltlaw17.TxnAbort", spec := "txnAbort", inPlace := ["slices.overlaps[int]", "internal/reflectlite.TypeOf"], unfollowed := true, recurses := true, apart := false }
def TxnAbortSaid : Prop := txnAbortRow.holds Try.pinned (OpenSpec.ofChange txnAbortSpec)

/-- ITS FALSE NEIGHBOUR: 'it returns false'. Refute it at one input. -/
def txnAbortWrong : ChangeSpec := { name := "txnAbort", fn := fun _ => fun
  | [d1, d2] => { results := [.lit (.bool false)], args := [d1, d2] }
  | _ => none }
def TxnAbortWrongFalsely : Prop := txnAbortRow.holds Try.pinned (OpenSpec.ofChange txnAbortWrong)

/-- 'catchboltlaw17.TxnActs': WHATEVER THE INPUT: true; the input reads as it did. -/
def txnActsSpec : ChangeSpec := { name := "txnActs", fn := fun _ => fun
  | [d1, d2, d3] => { results := [.lit (.bool true)], args := [d1, d2, d3] }
  | _ => none }
def txnActsRow : OpenClaim := { program := "ytmfbefghdaiicaa", sum := "9545d3020434ffcecd60e6d1f22a2c303fee0c87efe40f6632d59381dc27d6ca", func := "catchbolt/catchboltlaw17.TxnActs", spec := "txnActs", inPlace := ["slices.overlaps[int]", "internal/reflectlite.TypeOf"], unfollowed := true, recurses := true, apart := false }
def TxnActsSaid : Prop := txnActsRow.holds Try.pinned (OpenSpec.ofChange txnActsSpec)

/-- ITS FALSE NEIGHBOUR: 'it returns false'. Refute it at one input. -/
def txnActsWrong : ChangeSpec := { name := "txnActs", fn := fun _ => fun
  | [d1, d2, d3] => { results := [.lit (.bool false)], args := [d1, d2, d3] }
  | _ => none }
def TxnActsWrongFalsely : Prop := txnActsRow.holds Try.pinned (OpenSpec.ofChange txnActsWrong)

/-- 'catchboltlaw17.TxnSends': WHATEVER THE INPUT: true; the input reads as it did. -/
def txnSendsSpec : ChangeSpec := { name := "txnSends", fn := fun _ => fun
  | [d1, d2] => { results := [.lit (.bool true)], args := [d1, d2] }
  | _ => none }
def txnSendsRow : OpenClaim := { program := "ytmfbefghdaiicaa", sum := "9545d3020434ffcecd60e6d1f22a2c303fee0c87efe40f6632d59381dc27d6ca", func := "catchbolt/catchboltlaw17.TxnSends", spec := "txnSends", inPlace := ["slices.overlaps[int]", "internal/reflectlite.TypeOf"], unfollowed := true, recurses := true, apart := false }
def TxnSendsSaid : Prop := txnSendsRow.holds Try.pinned (OpenSpec.ofChange txnSendsSpec)

/-- ITS FALSE NEIGHBOUR: 'it returns false'. Refute it at one input. -/
def txnSendsWrong : ChangeSpec := { name := "txnSends", fn := fun _ => fun
  | [d1, d2] => { results := [.lit (.bool false)], args := [d1, d2] }
  | _ => none }
def TxnSendsWrongFalsely : Prop := txnSendsRow.holds Try.pinned (OpenSpec.ofChange txnSendsWrong)

/- THE SECOND FORM. 'bulk': how many values and letters a reading holds, each counted each time it is reached (what is shared counts as often as it is met; a slice's spare places count too). A statement '..UptoSaid' is the law's where the arguments, and the package variables that the reading takes, are together of bulk at most 1048576: NARROWER than '..Said'. Prove '..Said' where nothing that the law and all that it calls make is longer than what came in: it says more and counts as full. Else prove '..UptoSaid'. A law counts once. -/
mutual
def uptoBulk {H : Type} : DataW H → Nat
  | .lit (.string bytes) => bytes.length + 1
  | .lit _ => 1
  | .nil => 1
  | .ptr d => uptoBulk d + 1
  | .slice elems spare => uptoBulkAll elems + uptoBulkAll spare + 1
  | .agg parts => uptoBulkAll parts + 1
  | .iface _ d => uptoBulk d + 1
  | .map entries => uptoBulkEntries entries + 1
  | .held _ => 1
def uptoBulkAll {H : Type} : List (DataW H) → Nat
  | [] => 0
  | d :: r => uptoBulk d + uptoBulkAll r
def uptoBulkEntries {H : Type} : List (Lit × DataW H) → Nat
  | [] => 0
  | x :: r => uptoBulkEntry x + uptoBulkEntries r
def uptoBulkEntry {H : Type} : Lit × DataW H → Nat
  | (.string bytes, d) => bytes.length + uptoBulk d + 1
  | (_, d) => uptoBulk d + 1
 end
def uptoSmall : (H : Type) → List (DataW H) → Bool := fun _ ds => decide (uptoBulkAll ds ≤ 1048576)
def OpenSpec.upto (s : _root_.Go.ChangeSpec) : _root_.Go.OpenSpec := { _root_.Go.OpenSpec.ofChange s with cond := some uptoSmall }

/-- 'catchboltlaw17.TxnOnce', WHERE WHAT IT READS IS OF BULK AT MOST 1048576: true; the input reads as it did. -/
def txnOnceUptoRow : OpenClaim := { program := "ytmfbefghdaiicaa", sum := "9545d3020434ffcecd60e6d1f22a2c303fee0c87efe40f6632d59381dc27d6ca", func := "catchbolt/catchboltlaw17.TxnOnce", spec := "txnOnce", inPlace := ["slices.overlaps[int]", "internal/reflectlite.TypeOf"], unfollowed := true, recurses := true, apart := false, narrowed := true }
def TxnOnceUptoSaid : Prop := txnOnceUptoRow.holds Try.pinned (OpenSpec.upto txnOnceSpec)

/-- 'catchboltlaw17.TxnLate', WHERE WHAT IT READS IS OF BULK AT MOST 1048576: true; the input reads as it did. -/
def txnLateUptoRow : OpenClaim := { program := "ytmfbefghdaiicaa", sum := "9545d3020434ffcecd60e6d1f22a2c303fee0c87efe40f6632d59381dc27d6ca", func := "catchbolt/catchboltlaw17.TxnLate", spec := "txnLate", inPlace := ["slices.overlaps[int]", "internal/reflectlite.TypeOf"], unfollowed := true, recurses := true, apart := false, narrowed := true }
def TxnLateUptoSaid : Prop := txnLateUptoRow.holds Try.pinned (OpenSpec.upto txnLateSpec)

/-- 'catchboltlaw17.TxnAbort', WHERE WHAT IT READS IS OF BULK AT MOST 1048576: true; the input reads as it did. -/
def txnAbortUptoRow : OpenClaim := { program := "ytmfbefghdaiicaa", sum := "9545d3020434ffcecd60e6d1f22a2c303fee0c87efe40f6632d59381dc27d6ca", func := "catchbolt/catchboltlaw17.TxnAbort", spec := "txnAbort", inPlace := ["slices.overlaps[int]", "internal/reflectlite.TypeOf"], unfollowed := true, recurses := true, apart := false, narrowed := true }
def TxnAbortUptoSaid : Prop := txnAbortUptoRow.holds Try.pinned (OpenSpec.upto txnAbortSpec)

/-- 'catchboltlaw17.TxnActs', WHERE WHAT IT READS IS OF BULK AT MOST 1048576: true; the input reads as it did. -/
def txnActsUptoRow : OpenClaim := { program := "ytmfbefghdaiicaa", sum := "9545d3020434ffcecd60e6d1f22a2c303fee0c87efe40f6632d59381dc27d6ca", func := "catchbolt/catchboltlaw17.TxnActs", spec := "txnActs", inPlace := ["slices.overlaps[int]", "internal/reflectlite.TypeOf"], unfollowed := true, recurses := true, apart := false, narrowed := true }
def TxnActsUptoSaid : Prop := txnActsUptoRow.holds Try.pinned (OpenSpec.upto txnActsSpec)

/-- 'catchboltlaw17.TxnSends', WHERE WHAT IT READS IS OF BULK AT MOST 1048576: true; the input reads as it did. -/
def txnSendsUptoRow : OpenClaim := { program := "ytmfbefghdaiicaa", sum := "9545d3020434ffcecd60e6d1f22a2c303fee0c87efe40f6632d59381dc27d6ca", func := "catchbolt/catchboltlaw17.TxnSends", spec := "txnSends", inPlace := ["slices.overlaps[int]", "internal/reflectlite.TypeOf"], unfollowed := true, recurses := true, apart := false, narrowed := true }
def TxnSendsUptoSaid : Prop := txnSendsUptoRow.holds Try.pinned (OpenSpec.upto txnSendsSpec)

end Rows
end Go.Proofs.Ytmfbefghdaiicaa
