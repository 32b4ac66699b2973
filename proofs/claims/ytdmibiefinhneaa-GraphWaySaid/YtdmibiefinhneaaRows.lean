/-
  No cell of these rows narrows 'for every input' (looked for: loops, veiled, ifaces, maps, wideKeys, modest, calm, conditions, laid).
  DERIVED. THE GIVEN ROWS OF THIS SEAT. 5 by the template 'for every input the law returns true; each argument reads behind the call as it read before'; 0 by the template 'total and deterministic' (their statements: YtdmibiefinhneaaTotals.lean).
  GIVEN WITH THE SEED: the statements are not yours to turn. If you find one false, say at which input.
  Laid BY PROGRAM, IN A SANDBOX (cutbox-rows.mjs): the forced cells as the released guide's own fill.sh prints them over the translation 5ffa964c8b31f223… (all of the seat's roots in one cut). By AI agents, Wed Nov 11 2026. No macro, syntax, notation, axiom, sorry.
-/
import Derived.Test.YtdmibiefinhneaaChecked
import GoSem.Claim
import GoSem.ClaimJoined
import GoSem.ClaimMapViews
import Derived.JoinedTies
import Derived.KernelRfl
namespace Go.Proofs.Ytdmibiefinhneaa
/- THE CELL 'sum', in the pinned program and in every row, IS THE sha256 OF THE DUMP (.gsa) THAT YtdmibiefinhneaaProg.lean LOADS. Nothing in Lean hashes anything: it is a label: what it is worth is what the hold of that sum in a sandbox is worth. -/
noncomputable def Try.pinned : Pinned := { name := "ytdmibiefinhneaa", sum := "5ffa964c8b31f223b316538b022846a647b74d5d7cade7d12e29a76772585b5c", checked := Try.checked }
namespace Rows
def none {H : Type} : Left H := { results := [], args := [] }

/-- 'catchboltlaw10.GraphReach': WHATEVER THE INPUT: true; the input reads as it did. -/
def graphReachSpec : ChangeSpec := { name := "graphReach", fn := fun _ => fun
  | [d1, d2] => { results := [.lit (.bool true)], args := [d1, d2] }
  | _ => none }
def graphReachRow : OpenClaim := { program := "ytdmibiefinhneaa", sum := "5ffa964c8b31f223b316538b022846a647b74d5d7cade7d12e29a76772585b5c", func := "catchbolt/catchboltlaw10.GraphReach", spec := "graphReach", unfollowed := true, recurses := true, apart := false }
def GraphReachSaid : Prop := graphReachRow.holds Try.pinned (OpenSpec.ofChange graphReachSpec)

/-- ITS FALSE NEIGHBOUR: 'it returns false'. Refute it at one input. -/
def graphReachWrong : ChangeSpec := { name := "graphReach", fn := fun _ => fun
  | [d1, d2] => { results := [.lit (.bool false)], args := [d1, d2] }
  | _ => none }
def GraphReachWrongFalsely : Prop := graphReachRow.holds Try.pinned (OpenSpec.ofChange graphReachWrong)

/-- 'catchboltlaw10.GraphWay': WHATEVER THE INPUT: true; the input reads as it did. -/
def graphWaySpec : ChangeSpec := { name := "graphWay", fn := fun _ => fun
  | [d1, d2, d3] => { results := [.lit (.bool true)], args := [d1, d2, d3] }
  | _ => none }
def graphWayRow : OpenClaim := { program := "ytdmibiefinhneaa", sum := "5ffa964c8b31f223b316538b022846a647b74d5d7cade7d12e29a76772585b5c", func := "catchbolt/catchboltlaw10.GraphWay", spec := "graphWay", unfollowed := true, recurses := true, apart := false }
def GraphWaySaid : Prop := graphWayRow.holds Try.pinned (OpenSpec.ofChange graphWaySpec)

/-- ITS FALSE NEIGHBOUR: 'it returns false'. Refute it at one input. -/
def graphWayWrong : ChangeSpec := { name := "graphWay", fn := fun _ => fun
  | [d1, d2, d3] => { results := [.lit (.bool false)], args := [d1, d2, d3] }
  | _ => none }
def GraphWayWrongFalsely : Prop := graphWayRow.holds Try.pinned (OpenSpec.ofChange graphWayWrong)

/-- 'catchboltlaw10.GraphMore': WHATEVER THE INPUT: true; the input reads as it did. -/
def graphMoreSpec : ChangeSpec := { name := "graphMore", fn := fun _ => fun
  | [d1, d2, d3] => { results := [.lit (.bool true)], args := [d1, d2, d3] }
  | _ => none }
def graphMoreRow : OpenClaim := { program := "ytdmibiefinhneaa", sum := "5ffa964c8b31f223b316538b022846a647b74d5d7cade7d12e29a76772585b5c", func := "catchbolt/catchboltlaw10.GraphMore", spec := "graphMore", unfollowed := true, recurses := true, apart := false }
def GraphMoreSaid : Prop := graphMoreRow.holds Try.pinned (OpenSpec.ofChange graphMoreSpec)

/-- ITS FALSE NEIGHBOUR: 'it returns false'. Refute it at one input. -/
def graphMoreWrong : ChangeSpec := { name := "graphMore", fn := fun _ => fun
  | [d1, d2, d3] => { results := [.lit (.bool false)], args := [d1, d2, d3] }
  | _ => none }
def GraphMoreWrongFalsely : Prop := graphMoreRow.holds Try.pinned (OpenSpec.ofChange graphMoreWrong)

/-- 'catchboltlaw10.GraphEither': WHATEVER THE INPUT: true; the input reads as it did. -/
def graphEitherSpec : ChangeSpec := { name := "graphEither", fn := fun _ => fun
  | [d] => { results := [.lit (.bool true)], args := [d] }
  | _ => none }
def graphEitherRow : OpenClaim := { program := "ytdmibiefinhneaa", sum := "5ffa964c8b31f223b316538b022846a647b74d5d7cade7d12e29a76772585b5c", func := "catchbolt/catchboltlaw10.GraphEither", spec := "graphEither", unfollowed := true, recurses := true, apart := false }
def GraphEitherSaid : Prop := graphEitherRow.holds Try.pinned (OpenSpec.ofChange graphEitherSpec)

/-- ITS FALSE NEIGHBOUR: 'it returns false'. Refute it at one input. -/
def graphEitherWrong : ChangeSpec := { name := "graphEither", fn := fun _ => fun
  | [d] => { results := [.lit (.bool false)], args := [d] }
  | _ => none }
def GraphEitherWrongFalsely : Prop := graphEitherRow.holds Try.pinned (OpenSpec.ofChange graphEitherWrong)

/-- 'catchboltlaw10.GraphOrder': WHATEVER THE INPUT: true; the input reads as it did. -/
def graphOrderSpec : ChangeSpec := { name := "graphOrder", fn := fun _ => fun
  | [d] => { results := [.lit (.bool true)], args := [d] }
  | _ => none }
def graphOrderRow : OpenClaim := { program := "ytdmibiefinhneaa", sum := "5ffa964c8b31f223b316538b022846a647b74d5d7cade7d12e29a76772585b5c", func := "catchbolt/catchboltlaw10.GraphOrder", spec := "graphOrder", inPlace := ["internal/reflectlite.TypeOf"], unfollowed := true, recurses := true, apart := false }
def GraphOrderSaid : Prop := graphOrderRow.holds Try.pinned (OpenSpec.ofChange graphOrderSpec)

/-- ITS FALSE NEIGHBOUR: 'it returns false'. Refute it at one input. -/
def graphOrderWrong : ChangeSpec := { name := "graphOrder", fn := fun _ => fun
  | [d] => { results := [.lit (.bool false)], args := [d] }
  | _ => none }
def GraphOrderWrongFalsely : Prop := graphOrderRow.holds Try.pinned (OpenSpec.ofChange graphOrderWrong)

/- THE SECOND FORM. 'bulk': how many values and letters a reading holds, each counted each time it is reached (what is shared counts as often as it is met; a slice's spare places count too). A statement '..UptoSaid' is the law's where the arguments, and the package variables that the reading takes, are together of bulk at most 1048576: NARROWER than '..Said'. Prove '..Said' where nothing that the law and all that it calls make is longer than what came in: it says more and counts as full. Else prove '..UptoSaid'. A law counts once. -/
mutual
def uptoBulk {H : Type} : DataW H → Nat
  | .lit (.string bytes) => bytes.length + 1
  | .lit _ => 1
  | .nil => 1
  | .ptr d => uptoBulk d + 1
  | .slice elems spare => uptoBulkAll elems + uptoBulkAll spare + 1
  | .agg parts => uptoBulkAll parts + 1
  | .iface _ d => uptoBulk d + 1
  | .map entries => uptoBulkEntries entries + 1
  | .held _ => 1
def uptoBulkAll {H : Type} : List (DataW H) → Nat
  | [] => 0
  | d :: r => uptoBulk d + uptoBulkAll r
def uptoBulkEntries {H : Type} : List (Lit × DataW H) → Nat
  | [] => 0
  | x :: r => uptoBulkEntry x + uptoBulkEntries r
def uptoBulkEntry {H : Type} : Lit × DataW H → Nat
  | (.string bytes, d) => bytes.length + uptoBulk d + 1
  | (_, d) => uptoBulk d + 1
 end
def uptoSmall : (H : Type) → List (DataW H) → Bool := fun _ ds => decide (uptoBulkAll ds ≤ 1048576)
def OpenSpec.upto (s : _root_.Go.ChangeSpec) : _root_.Go.OpenSpec := { _root_.Go.OpenSpec.ofChange s with cond := some uptoSmall }

/-- 'catchboltlaw10.GraphReach', WHERE WHAT IT READS IS OF BULK AT MOST 1048576: true; the input reads as it did. -/
def graphReachUptoRow : OpenClaim := { program := "ytdmibiefinhneaa", sum := "5ffa964c8b31f223b316538b022846a647b74d5d7cade7d12e29a76772585b5c", func := "catchbolt/catchboltlaw10.GraphReach", spec := "graphReach", unfollowed := true, recurses := true, apart := false, narrowed := true }
def GraphReachUptoSaid : Prop := graphReachUptoRow.holds Try.pinned (OpenSpec.upto graphReachSpec)

/-- 'catchboltlaw10.GraphWay', WHERE WHAT IT READS IS OF BULK AT MOST 1048576: true; the input reads as it did. -/
def graphWayUptoRow : OpenClaim := { program := "ytdmibiefinhneaa", sum := "5ffa964c8b31f223b316538b022846a647b74d5d7cade7d12e29a76772585b5c", func := "catchbolt/catchboltlaw10.GraphWay", spec := "graphWay", unfollowed := true, recurses := true, apart := false, narrowed := true }
def GraphWayUptoSaid : Prop := graphWayUptoRow.holds Try.pinned (OpenSpec.upto graphWaySpec)

/-- 'catchboltlaw10.GraphMore', WHERE WHAT IT READS IS OF BULK AT MOST 1048576: true; the input reads as it did. -/
def graphMoreUptoRow : OpenClaim := { program := "ytdmibiefinhneaa", sum := "5ffa964c8b31f223b316538b022846a647b74d5d7cade7d12e29a76772585b5c", func := "catchbolt/catchboltlaw10.GraphMore", spec := "graphMore", unfollowed := true, recurses := true, apart := false, narrowed := true }
def GraphMoreUptoSaid : Prop := graphMoreUptoRow.holds Try.pinned (OpenSpec.upto graphMoreSpec)

/-- 'catchboltlaw10.GraphEither', WHERE WHAT IT READS IS OF BULK AT MOST 1048576: true; the input reads as it did. -/
def graphEitherUptoRow : OpenClaim := { program := "ytdmibiefinhneaa", sum := "5ffa964c8b31f223b316538b022846a647b74d5d7cade7d12e29a76772585b5c", func := "catchbolt/catchboltlaw10.GraphEither", spec := "graphEither", unfollowed := true, recurses := true, apart := false, narrowed := true }
def GraphEitherUptoSaid : Prop := graphEitherUptoRow.holds Try.pinned (OpenSpec.upto graphEitherSpec)

/-- 'catchboltlaw10.GraphOrder', WHERE WHAT IT READS IS OF BULK AT MOST 1048576: true; the input reads as it did. -/
def graphOrderUptoRow : OpenClaim := { program := "ytdmibiefinhneaa", sum := "5ffa964c8b31f223b316538b022846a647b74d5d7cade7d12e29a76772585b5c", func := "catchbolt/catchboltlaw10.GraphOrder", spec := "graphOrder", inPlace := ["internal/reflectlite.TypeOf"], unfollowed := true, recurses := true, apart := false, narrowed := true }
def GraphOrderUptoSaid : Prop := graphOrderUptoRow.holds Try.pinned (OpenSpec.upto graphOrderSpec)

end Rows
end Go.Proofs.Ytdmibiefinhneaa
