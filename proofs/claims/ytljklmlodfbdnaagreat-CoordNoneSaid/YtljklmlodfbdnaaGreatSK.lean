/- Where the sort of the library, and the keys of maps, lie in the program. -/
import Derived.Test.YtljklmlodfbdnaaGreatRows
import Derived.Test.YtljklmlodfbdnaaGreatE23
namespace Go.Proofs.YtljklmlodfbdnaaGreat
open Go Go.E Go.Shelf
set_option maxRecDepth 100000
def renI : Ren := ⟨fun x => match x with | 21 => 134 | 27 => 154 | 28 => 155 | 35 => 170 | 39 => 176 | n => n, fun x => match x with | 0 => 0 | 3 => 3 | 4 => 4 | 22 => 59 | n => n, fun x => x⟩
theorem layI : Lays2.n21 Tryz.prog renI where
  mixed := by kernel_rfl
  f21 := Tryz.func134.trans (congrArg some (by kernel_rfl))
  f27 := Tryz.func154.trans (congrArg some (by kernel_rfl))
  f28 := Tryz.func155.trans (congrArg some (by kernel_rfl))
  f35 := Tryz.func170.trans (congrArg some (by kernel_rfl))
  f39 := Tryz.func176.trans (congrArg some (by kernel_rfl))
  t0 := Tryz.underlying0
  a0 := Tryz.isAgg0
  z0 := Tryz.sizeOf0
  v0 := Tryz.zeroValue0
  t3 := Tryz.underlying3
  a3 := Tryz.isAgg3
  z3 := Tryz.sizeOf3
  v3 := Tryz.zeroValue3
  t4 := Tryz.underlying4
  a4 := Tryz.isAgg4
  z4 := Tryz.sizeOf4
  v4 := Tryz.zeroValue4
  t22 := Tryz.underlying59
  a22 := Tryz.isAgg59
  z22 := Tryz.sizeOf59
  v22 := Tryz.zeroValue59
  i3 := by kernel_rfl
end Go.Proofs.YtljklmlodfbdnaaGreat
