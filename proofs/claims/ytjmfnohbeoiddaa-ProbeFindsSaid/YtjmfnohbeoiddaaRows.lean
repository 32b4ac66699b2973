/-
  No cell of these rows narrows 'for every input' (looked for: loops, veiled, ifaces, maps, wideKeys, modest, calm, conditions, laid).
  DERIVED. THE GIVEN ROWS OF THIS SEAT. 5 by the template 'for every input the law returns true; each argument reads behind the call as it read before'; 0 by the template 'total and deterministic' (their statements: YtjmfnohbeoiddaaTotals.lean).
  GIVEN WITH THE SEED: the statements are not yours to turn. If you find one false, say at which input.
  Laid BY PROGRAM, IN A SANDBOX (cutbox-rows.mjs): the forced cells as the released guide's own fill.sh prints them over the translation f8a375693bb62d6e… (all of the seat's roots in one cut). By AI agents, Wed Nov 11 2026. No macro, syntax, notation, axiom, sorry.
-/
import Derived.Test.YtjmfnohbeoiddaaChecked
import GoSem.Claim
import GoSem.ClaimJoined
import GoSem.ClaimMapViews
import Derived.JoinedTies
import Derived.KernelRfl
namespace Go.Proofs.Ytjmfnohbeoiddaa
/- THE CELL 'sum', in the pinned program and in every row, IS THE sha256 OF THE DUMP (.gsa) THAT YtjmfnohbeoiddaaProg.lean LOADS. Nothing in Lean hashes anything: it is a label: what it is worth is what the hold of that sum in a sandbox is worth. -/
noncomputable def Try.pinned : Pinned := { name := "ytjmfnohbeoiddaa", sum := "f8a375693bb62d6ea54675bbc0b0f502ad24305df9ee232202aaa270dc5ac3ab", checked := Try.checked }
namespace Rows
def none {H : Type} : Left H := { results := [], args := [] }

/-- 'catchboltlaw12.ProbeSame': WHATEVER THE INPUT: true; the input reads as it did. -/
def probeSameSpec : ChangeSpec := { name := "probeSame", fn := fun _ => fun
  | [d1, d2, d3, d4, d5] => { results := [.lit (.bool true)], args := [d1, d2, d3, d4, d5] }
  | _ => none }
def probeSameRow : OpenClaim := { program := "ytjmfnohbeoiddaa", sum := "f8a375693bb62d6ea54675bbc0b0f502ad24305df9ee232202aaa270dc5ac3ab", func := "catchbolt/catchboltlaw12.ProbeSame", spec := "probeSame", unfollowed := true, recurses := true, apart := false }
def ProbeSameSaid : Prop := probeSameRow.holds Try.pinned (OpenSpec.ofChange probeSameSpec)

/-- ITS FALSE NEIGHBOUR: 'it returns false'. Refute it at one input. -/
def probeSameWrong : ChangeSpec := { name := "probeSame", fn := fun _ => fun
  | [d1, d2, d3, d4, d5] => { results := [.lit (.bool false)], args := [d1, d2, d3, d4, d5] }
  | _ => none }
def ProbeSameWrongFalsely : Prop := probeSameRow.holds Try.pinned (OpenSpec.ofChange probeSameWrong)

/-- 'catchboltlaw12.ProbeStarts': WHATEVER THE INPUT: true; the input reads as it did. -/
def probeStartsSpec : ChangeSpec := { name := "probeStarts", fn := fun _ => fun
  | [d1, d2, d3] => { results := [.lit (.bool true)], args := [d1, d2, d3] }
  | _ => none }
def probeStartsRow : OpenClaim := { program := "ytjmfnohbeoiddaa", sum := "f8a375693bb62d6ea54675bbc0b0f502ad24305df9ee232202aaa270dc5ac3ab", func := "catchbolt/catchboltlaw12.ProbeStarts", spec := "probeStarts", inPlace := ["internal/reflectlite.TypeOf"], unfollowed := true, recurses := true, apart := false }
def ProbeStartsSaid : Prop := probeStartsRow.holds Try.pinned (OpenSpec.ofChange probeStartsSpec)

/-- ITS FALSE NEIGHBOUR: 'it returns false'. Refute it at one input. -/
def probeStartsWrong : ChangeSpec := { name := "probeStarts", fn := fun _ => fun
  | [d1, d2, d3] => { results := [.lit (.bool false)], args := [d1, d2, d3] }
  | _ => none }
def ProbeStartsWrongFalsely : Prop := probeStartsRow.holds Try.pinned (OpenSpec.ofChange probeStartsWrong)

/-- 'catchboltlaw12.ProbeFinds': WHATEVER THE INPUT: true; the input reads as it did. -/
def probeFindsSpec : ChangeSpec := { name := "probeFinds", fn := fun _ => fun
  | [d1, d2] => { results := [.lit (.bool true)], args := [d1, d2] }
  | _ => none }
def probeFindsRow : OpenClaim := { program := "ytjmfnohbeoiddaa", sum := "f8a375693bb62d6ea54675bbc0b0f502ad24305df9ee232202aaa270dc5ac3ab", func := "catchbolt/catchboltlaw12.ProbeFinds", spec := "probeFinds", inPlace := ["internal/reflectlite.TypeOf"], unfollowed := true, recurses := true, apart := false }
def ProbeFindsSaid : Prop := probeFindsRow.holds Try.pinned (OpenSpec.ofChange probeFindsSpec)

/-- ITS FALSE NEIGHBOUR: 'it returns false'. Refute it at one input. -/
def probeFindsWrong : ChangeSpec := { name := "probeFinds", fn := fun _ => fun
  | [d1, d2] => { results := [.lit (.bool false)], args := [d1, d2] }
  | _ => none }
def ProbeFindsWrongFalsely : Prop := probeFindsRow.holds Try.pinned (OpenSpec.ofChange probeFindsWrong)

/-- 'catchboltlaw12.ProbeGoes': WHATEVER THE INPUT: true; the input reads as it did. -/
def probeGoesSpec : ChangeSpec := { name := "probeGoes", fn := fun _ => fun
  | [d1, d2, d3, d4] => { results := [.lit (.bool true)], args := [d1, d2, d3, d4] }
  | _ => none }
def probeGoesRow : OpenClaim := { program := "ytjmfnohbeoiddaa", sum := "f8a375693bb62d6ea54675bbc0b0f502ad24305df9ee232202aaa270dc5ac3ab", func := "catchbolt/catchboltlaw12.ProbeGoes", spec := "probeGoes", inPlace := ["internal/reflectlite.TypeOf"], unfollowed := true, recurses := true, apart := false }
def ProbeGoesSaid : Prop := probeGoesRow.holds Try.pinned (OpenSpec.ofChange probeGoesSpec)

/-- ITS FALSE NEIGHBOUR: 'it returns false'. Refute it at one input. -/
def probeGoesWrong : ChangeSpec := { name := "probeGoes", fn := fun _ => fun
  | [d1, d2, d3, d4] => { results := [.lit (.bool false)], args := [d1, d2, d3, d4] }
  | _ => none }
def ProbeGoesWrongFalsely : Prop := probeGoesRow.holds Try.pinned (OpenSpec.ofChange probeGoesWrong)

/-- 'catchboltlaw12.ProbeTells': WHATEVER THE INPUT: true; the input reads as it did. -/
def probeTellsSpec : ChangeSpec := { name := "probeTells", fn := fun _ => fun
  | [d1, d2] => { results := [.lit (.bool true)], args := [d1, d2] }
  | _ => none }
def probeTellsRow : OpenClaim := { program := "ytjmfnohbeoiddaa", sum := "f8a375693bb62d6ea54675bbc0b0f502ad24305df9ee232202aaa270dc5ac3ab", func := "catchbolt/catchboltlaw12.ProbeTells", spec := "probeTells", inPlace := ["internal/reflectlite.TypeOf"], unfollowed := true, recurses := true, apart := false }
def ProbeTellsSaid : Prop := probeTellsRow.holds Try.pinned (OpenSpec.ofChange probeTellsSpec)

/-- ITS FALSE NEIGHBOUR: 'it returns false'. Refute it at one input. -/
def probeTellsWrong : ChangeSpec := { name := "probeTells", fn := fun _ => fun
  | [d1, d2] => { results := [.lit (.bool false)], args := [d1, d2] }
  | _ => none }
def ProbeTellsWrongFalsely : Prop := probeTellsRow.holds Try.pinned (OpenSpec.ofChange probeTellsWrong)

/- THE SECOND FORM. 'bulk': how many values and letters a reading holds, each counted each time it is reached (what is shared counts as often as it is met; a slice's spare places count too). A statement '..UptoSaid' is the law's where the arguments, and the package variables that the reading takes, are together of bulk at most 1048576: NARROWER than '..Said'. Prove '..Said' where nothing that the law and all that it calls make is longer than what came in: it says more and counts as full. Else prove '..UptoSaid'. A law counts once. -/
mutual
def uptoBulk {H : Type} : DataW H → Nat
  | .lit (.string bytes) => bytes.length + 1
  | .lit _ => 1
  | .nil => 1
  | .ptr d => uptoBulk d + 1
  | .slice elems spare => uptoBulkAll elems + uptoBulkAll spare + 1
  | .agg parts => uptoBulkAll parts + 1
  | .iface _ d => uptoBulk d + 1
  | .map entries => uptoBulkEntries entries + 1
  | .held _ => 1
def uptoBulkAll {H : Type} : List (DataW H) → Nat
  | [] => 0
  | d :: r => uptoBulk d + uptoBulkAll r
def uptoBulkEntries {H : Type} : List (Lit × DataW H) → Nat
  | [] => 0
  | x :: r => uptoBulkEntry x + uptoBulkEntries r
def uptoBulkEntry {H : Type} : Lit × DataW H → Nat
  | (.string bytes, d) => bytes.length + uptoBulk d + 1
  | (_, d) => uptoBulk d + 1
 end
def uptoSmall : (H : Type) → List (DataW H) → Bool := fun _ ds => decide (uptoBulkAll ds ≤ 1048576)
def OpenSpec.upto (s : _root_.Go.ChangeSpec) : _root_.Go.OpenSpec := { _root_.Go.OpenSpec.ofChange s with cond := some uptoSmall }

/-- 'catchboltlaw12.ProbeSame', WHERE WHAT IT READS IS OF BULK AT MOST 1048576: true; the input reads as it did. -/
def probeSameUptoRow : OpenClaim := { program := "ytjmfnohbeoiddaa", sum := "f8a375693bb62d6ea54675bbc0b0f502ad24305df9ee232202aaa270dc5ac3ab", func := "catchbolt/catchboltlaw12.ProbeSame", spec := "probeSame", unfollowed := true, recurses := true, apart := false, narrowed := true }
def ProbeSameUptoSaid : Prop := probeSameUptoRow.holds Try.pinned (OpenSpec.upto probeSameSpec)

/-- 'catchboltlaw12.ProbeStarts', WHERE WHAT IT READS IS OF BULK AT MOST 1048576: true; the input reads as it did. -/
def probeStartsUptoRow : OpenClaim := { program := "ytjmfnohbeoiddaa", sum := "f8a375693bb62d6ea54675bbc0b0f502ad24305df9ee232202aaa270dc5ac3ab", func := "catchbolt/catchboltlaw12.ProbeStarts", spec := "probeStarts", inPlace := ["internal/reflectlite.TypeOf"], unfollowed := true, recurses := true, apart := false, narrowed := true }
def ProbeStartsUptoSaid : Prop := probeStartsUptoRow.holds Try.pinned (OpenSpec.upto probeStartsSpec)

/-- 'catchboltlaw12.ProbeFinds', WHERE WHAT IT READS IS OF BULK AT MOST 1048576: true; the input reads as it did. -/
def probeFindsUptoRow : OpenClaim := { program := "ytjmfnohbeoiddaa", sum := "f8a375693bb62d6ea54675bbc0b0f502ad24305df9ee232202aaa270dc5ac3ab", func := "catchbolt/catchboltlaw12.ProbeFinds", spec := "probeFinds", inPlace := ["internal/reflectlite.TypeOf"], unfollowed := true, recurses := true, apart := false, narrowed := true }
def ProbeFindsUptoSaid : Prop := probeFindsUptoRow.holds Try.pinned (OpenSpec.upto probeFindsSpec)

/-- 'catchboltlaw12.ProbeGoes', WHERE WHAT IT READS IS OF BULK AT MOST 1048576: true; the input reads as it did. -/
def probeGoesUptoRow : OpenClaim := { program := "ytjmfnohbeoiddaa", sum := "f8a375693bb62d6ea54675bbc0b0f502ad24305df9ee232202aaa270dc5ac3ab", func := "catchbolt/catchboltlaw12.ProbeGoes", spec := "probeGoes", inPlace := ["internal/reflectlite.TypeOf"], unfollowed := true, recurses := true, apart := false, narrowed := true }
def ProbeGoesUptoSaid : Prop := probeGoesUptoRow.holds Try.pinned (OpenSpec.upto probeGoesSpec)

/-- 'catchboltlaw12.ProbeTells', WHERE WHAT IT READS IS OF BULK AT MOST 1048576: true; the input reads as it did. -/
def probeTellsUptoRow : OpenClaim := { program := "ytjmfnohbeoiddaa", sum := "f8a375693bb62d6ea54675bbc0b0f502ad24305df9ee232202aaa270dc5ac3ab", func := "catchbolt/catchboltlaw12.ProbeTells", spec := "probeTells", inPlace := ["internal/reflectlite.TypeOf"], unfollowed := true, recurses := true, apart := false, narrowed := true }
def ProbeTellsUptoSaid : Prop := probeTellsUptoRow.holds Try.pinned (OpenSpec.upto probeTellsSpec)

end Rows
end Go.Proofs.Ytjmfnohbeoiddaa
