/- The engine, part 19: the keys of a map, collected and sorted (slices.Sorted of maps.Keys), keys of the kind int. -/
import Derived.Test.YtljklmlodfbdnaaGreatEB
import Derived.Shelf.SlIterI.Nil
import Derived.Shelf.SortM.Plain
import Derived.Shelf.SortM.SortNone
import Derived.Scope
namespace Go.E
open Go Go.Proofs Go.Shelf Go.RowKit
set_option linter.unusedVariables false

/-- The keys, rising. -/
def skeys {α : Type} (d : List (Int × α)) : List Int := (d.map (·.1)).mergeSort leI
/-- What is asked of a map whose keys are sorted. -/
def skeysP {α : Type} (d : List (Int × α)) : Prop := (∀ p ∈ d, inI64 p.1) ∧ d.length ≤ 1000000000000

section
variable {P : Program} {ρ ρm : Ren} {α : Type} {cv : α → Value}

/-- A scope through which the run goes straight. -/
theorem xw_scope {P : Program} {n : Nat} {w0 : World} {env : Env} {H : GH} {c : Code} {Q : Exit → Act → World → Prop} (h : XW P n w0 env H c (Exit.noGoto Q)) : XW P n w0 env H (.scope c) Q := fun a w ha hs => wp_scope_straight (h a w ha hs)
theorem xq_scope_r {n : Nat} {w0 : World} {env : Env} {H : GH} {Q : Exit → Act → World → Prop} (h : XQ n w0 env H .ret Q) : XQ n w0 env H .ret (Exit.noGoto Q) := h
/-- A contract with one new segment, as one on lists of segments. -/
theorem Con.cat1 {f : FuncId} {args : Array Value} {w : World} {V : Value → Value} {Jc : Value → GH → Prop} (h : Con P f args w (fun v F => ∃ (u : Value) (C : GH), v = V u ∧ F = (C ++ []) ∧ Jc u C ∧ Cov w [] C)) :
    Con P f args w (CatG fun v Ls => Cov w (cat []) (cat Ls) ∧ ∃ (u : Value) (C : GH), v = V u ∧ Ls = [C] ∧ Jc u C ∧ Cov w [] C) :=
  h.mono fun v F ⟨u, C, h1, h2, h3, h4⟩ => ⟨[C], h2, by simpa [cat] using h4, u, C, h1, rfl, h3, h4⟩

end
end Go.E
