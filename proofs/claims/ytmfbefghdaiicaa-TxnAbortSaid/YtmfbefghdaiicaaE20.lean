/- The engine, part 20: structs of ints and bools, as numbers (a bool is 0 or not). -/
import Derived.Test.YtmfbefghdaiicaaEB
namespace Go.E
open Go
set_option linter.unusedVariables false

section
variable {P : Program} {w0 : World} {env : Env} {H H' : GH} {ty : TypeId} {pos : String} {af : Array Edge} {g : Option (Nat × Bool)} {d : Option Nat} {t : TypeId} {x y : Operand} {b o N s : Nat} {T : TypeId} {m : Nat → Int} {k : Nat → Bool}
end
end Go.E
