/- The engine, part 19: the keys of a map, collected and sorted (slices.Sorted of maps.Keys), keys of the kind int. -/
import Derived.Test.YtmfbefghdaiicaaEB
import Derived.Shelf.SlIterI.Nil
import Derived.Shelf.SortM.Plain
import Derived.Shelf.SortM.SortNone
import Derived.Scope
namespace Go.E
open Go Go.Proofs Go.Shelf Go.RowKit
set_option linter.unusedVariables false

section
variable {P : Program} {ρ ρm : Ren} {α : Type} {cv : α → Value}

/-- A contract with one new segment, as one on lists of segments. -/
theorem Con.cat1 {f : FuncId} {args : Array Value} {w : World} {V : Value → Value} {Jc : Value → GH → Prop} (h : Con P f args w (fun v F => ∃ (u : Value) (C : GH), v = V u ∧ F = (C ++ []) ∧ Jc u C ∧ Cov w [] C)) :
    Con P f args w (CatG fun v Ls => Cov w (cat []) (cat Ls) ∧ ∃ (u : Value) (C : GH), v = V u ∧ Ls = [C] ∧ Jc u C ∧ Cov w [] C) :=
  h.mono fun v F ⟨u, C, h1, h2, h3, h4⟩ => ⟨[C], h2, by simpa [cat] using h4, u, C, h1, rfl, h3, h4⟩

end
end Go.E
