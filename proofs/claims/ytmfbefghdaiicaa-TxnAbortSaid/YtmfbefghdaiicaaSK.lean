/- Where the sort of the library, and the keys of maps, lie in the program. -/
import Derived.Test.YtmfbefghdaiicaaRows
import Derived.Test.YtmfbefghdaiicaaE23
namespace Go.Proofs.Ytmfbefghdaiicaa
open Go Go.E Go.Shelf
set_option maxRecDepth 100000
def renI : Ren := ⟨fun x => match x with | 21 => 65 | 27 => 72 | 28 => 73 | 35 => 77 | 39 => 82 | n => n, fun x => match x with | 0 => 0 | 3 => 3 | 4 => 4 | 22 => 27 | n => n, fun x => x⟩
theorem layI : Lays2.n21 Try.prog renI where
  mixed := by kernel_rfl
  f21 := Try.func65.trans (congrArg some (by kernel_rfl))
  f27 := Try.func72.trans (congrArg some (by kernel_rfl))
  f28 := Try.func73.trans (congrArg some (by kernel_rfl))
  f35 := Try.func77.trans (congrArg some (by kernel_rfl))
  f39 := Try.func82.trans (congrArg some (by kernel_rfl))
  t0 := Try.underlying0
  a0 := Try.isAgg0
  z0 := Try.sizeOf0
  v0 := Try.zeroValue0
  t3 := Try.underlying3
  a3 := Try.isAgg3
  z3 := Try.sizeOf3
  v3 := Try.zeroValue3
  t4 := Try.underlying4
  a4 := Try.isAgg4
  z4 := Try.sizeOf4
  v4 := Try.zeroValue4
  t22 := Try.underlying27
  a22 := Try.isAgg27
  z22 := Try.sizeOf27
  v22 := Try.zeroValue27
  i3 := by kernel_rfl
end Go.Proofs.Ytmfbefghdaiicaa
