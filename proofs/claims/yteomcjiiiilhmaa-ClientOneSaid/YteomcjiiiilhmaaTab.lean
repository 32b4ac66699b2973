/- Closed facts of the program: types, functions. -/
import Derived.Test.YteomcjiiiilhmaaRows
import Derived.Test.YteomcjiiiilhmaaE20
import Derived.Test.YteomcjiiiilhmaaEB
namespace Go.Proofs.Yteomcjiiiilhmaa
open Go Go.E
theorem ap33 : App Try.prog 33 3 1 8 (.int .i64 0) := ⟨Try.underlying33, by kernel_rfl, by kernel_rfl, by kernel_rfl⟩
theorem ap41 : App Try.prog 41 48 3 24 (AG 3 (mv (kS [1]) (fun _ => 0))) := ⟨Try.underlying41, by kernel_rfl, by kernel_rfl, by kernel_rfl⟩
theorem ea52 : ElmA Try.prog 52 9 4 1 false := ⟨Try.underlying52, by kernel_rfl, by kernel_rfl⟩
theorem ea53 : ElmA Try.prog 53 9 3 1 false := ⟨Try.underlying53, by kernel_rfl, by kernel_rfl⟩
theorem ea59 : ElmA Try.prog 59 9 58 3 true := ⟨Try.underlying59, by kernel_rfl, by kernel_rfl⟩
theorem el22 : Elm Try.prog 22 32 4 true := ⟨Try.underlying22, by kernel_rfl, by kernel_rfl⟩
theorem el33 : Elm Try.prog 33 3 1 false := ⟨Try.underlying33, by kernel_rfl, by kernel_rfl⟩
theorem el41 : Elm Try.prog 41 48 3 true := ⟨Try.underlying41, by kernel_rfl, by kernel_rfl⟩
theorem fk61 : FldsOk Try.prog 61 := ⟨_, Try.underlying61, by kernel_rfl⟩
theorem fl32_0 : Fld Try.prog 32 0 0 1 false := ⟨_, _, Try.underlying32, rfl, rfl, ⟨by kernel_rfl, by kernel_rfl⟩, rfl⟩
theorem fl32_1 : Fld Try.prog 32 1 1 1 false := ⟨_, _, Try.underlying32, rfl, rfl, ⟨by kernel_rfl, by kernel_rfl⟩, rfl⟩
theorem fl32_2 : Fld Try.prog 32 2 2 1 false := ⟨_, _, Try.underlying32, rfl, rfl, ⟨by kernel_rfl, by kernel_rfl⟩, rfl⟩
theorem fl32_3 : Fld Try.prog 32 3 3 1 false := ⟨_, _, Try.underlying32, rfl, rfl, ⟨by kernel_rfl, by kernel_rfl⟩, rfl⟩
theorem fl48_0 : Fld Try.prog 48 0 0 1 false := ⟨_, _, Try.underlying48, rfl, rfl, ⟨by kernel_rfl, by kernel_rfl⟩, rfl⟩
theorem fl48_1 : Fld Try.prog 48 1 1 1 false := ⟨_, _, Try.underlying48, rfl, rfl, ⟨by kernel_rfl, by kernel_rfl⟩, rfl⟩
theorem fl48_2 : Fld Try.prog 48 2 2 1 false := ⟨_, _, Try.underlying48, rfl, rfl, ⟨by kernel_rfl, by kernel_rfl⟩, rfl⟩
theorem fl58_0 : Fld Try.prog 58 0 0 1 false := ⟨_, _, Try.underlying58, rfl, rfl, ⟨by kernel_rfl, by kernel_rfl⟩, rfl⟩
theorem fl58_1 : Fld Try.prog 58 1 1 1 false := ⟨_, _, Try.underlying58, rfl, rfl, ⟨by kernel_rfl, by kernel_rfl⟩, rfl⟩
theorem fl58_2 : Fld Try.prog 58 2 2 1 false := ⟨_, _, Try.underlying58, rfl, rfl, ⟨by kernel_rfl, by kernel_rfl⟩, rfl⟩
theorem fl61_0 : Fld Try.prog 61 0 0 1 false := ⟨_, _, Try.underlying61, rfl, rfl, ⟨by kernel_rfl, by kernel_rfl⟩, rfl⟩
theorem fl61_1 : Fld Try.prog 61 1 1 27 true := ⟨_, _, Try.underlying61, rfl, rfl, ⟨by kernel_rfl, by kernel_rfl⟩, rfl⟩
theorem kf10 : IsFn Try.prog 10 := ⟨_, Try.func10, by kernel_rfl, by kernel_rfl⟩
theorem kf11 : IsFn Try.prog 11 := ⟨_, Try.func11, by kernel_rfl, by kernel_rfl⟩
theorem kf12 : IsFn Try.prog 12 := ⟨_, Try.func12, by kernel_rfl, by kernel_rfl⟩
theorem kf13 : IsFn Try.prog 13 := ⟨_, Try.func13, by kernel_rfl, by kernel_rfl⟩
theorem kf14 : IsFn Try.prog 14 := ⟨_, Try.func14, by kernel_rfl, by kernel_rfl⟩
theorem kf15 : IsFn Try.prog 15 := ⟨_, Try.func15, by kernel_rfl, by kernel_rfl⟩
theorem kf16 : IsFn Try.prog 16 := ⟨_, Try.func16, by kernel_rfl, by kernel_rfl⟩
theorem kf17 : IsFn Try.prog 17 := ⟨_, Try.func17, by kernel_rfl, by kernel_rfl⟩
theorem kf18 : IsFn Try.prog 18 := ⟨_, Try.func18, by kernel_rfl, by kernel_rfl⟩
theorem kf19 : IsFn Try.prog 19 := ⟨_, Try.func19, by kernel_rfl, by kernel_rfl⟩
theorem kf20 : IsFn Try.prog 20 := ⟨_, Try.func20, by kernel_rfl, by kernel_rfl⟩
theorem kf21 : IsFn Try.prog 21 := ⟨_, Try.func21, by kernel_rfl, by kernel_rfl⟩
theorem kf22 : IsFn Try.prog 22 := ⟨_, Try.func22, by kernel_rfl, by kernel_rfl⟩
theorem kf23 : IsFn Try.prog 23 := ⟨_, Try.func23, by kernel_rfl, by kernel_rfl⟩
theorem kf24 : IsFn Try.prog 24 := ⟨_, Try.func24, by kernel_rfl, by kernel_rfl⟩
theorem kf25 : IsFn Try.prog 25 := ⟨_, Try.func25, by kernel_rfl, by kernel_rfl⟩
theorem kf26 : IsFn Try.prog 26 := ⟨_, Try.func26, by kernel_rfl, by kernel_rfl⟩
theorem kf27 : IsFn Try.prog 27 := ⟨_, Try.func27, by kernel_rfl, by kernel_rfl⟩
theorem kf28 : IsFn Try.prog 28 := ⟨_, Try.func28, by kernel_rfl, by kernel_rfl⟩
theorem kf6 : IsFn Try.prog 6 := ⟨_, Try.func6, by kernel_rfl, by kernel_rfl⟩
theorem kf7 : IsFn Try.prog 7 := ⟨_, Try.func7, by kernel_rfl, by kernel_rfl⟩
theorem kf8 : IsFn Try.prog 8 := ⟨_, Try.func8, by kernel_rfl, by kernel_rfl⟩
theorem kf9 : IsFn Try.prog 9 := ⟨_, Try.func9, by kernel_rfl, by kernel_rfl⟩
theorem kt3 : KeyT Try.prog 3 kI ieq := keyT_int Try.underlying3
theorem ts3 : TyS Try.prog 3 1 false := ⟨by kernel_rfl, by kernel_rfl⟩
theorem ts32 : TyS Try.prog 32 4 true := ⟨by kernel_rfl, by kernel_rfl⟩
theorem ts4 : TyS Try.prog 4 1 false := ⟨by kernel_rfl, by kernel_rfl⟩
theorem ts48 : TyS Try.prog 48 3 true := ⟨by kernel_rfl, by kernel_rfl⟩
theorem ts58 : TyS Try.prog 58 3 true := ⟨by kernel_rfl, by kernel_rfl⟩
theorem ts59 : TyS Try.prog 59 27 true := ⟨by kernel_rfl, by kernel_rfl⟩
theorem ze3 : ZeroT Try.prog 3 (.int .i64 0) := by unfold ZeroT; kernel_rfl
theorem ze32 : ZeroT Try.prog 32 (AG 4 (iv (fun _ => 0))) := by unfold ZeroT; kernel_rfl
theorem ze4 : ZeroT Try.prog 4 (.bool false) := by unfold ZeroT; kernel_rfl
theorem ze48 : ZeroT Try.prog 48 (AG 3 (mv (kS [1]) (fun _ => 0))) := by unfold ZeroT; kernel_rfl
theorem ze52 : ZeroT Try.prog 52 (AG 9 (mv kT (fun _ => 0))) := by unfold ZeroT; kernel_rfl
theorem ze53 : ZeroT Try.prog 53 (AG 9 (iv (fun _ => 0))) := by unfold ZeroT; kernel_rfl
theorem ze58 : ZeroT Try.prog 58 (AG 3 (mv (kS [2]) (fun _ => 0))) := by unfold ZeroT; kernel_rfl
theorem ze61 : ZeroT Try.prog 61 (AG 28 (mv (kPA 1 3 (kS [2])) (fun _ => 0))) := by unfold ZeroT; kernel_rfl
end Go.Proofs.Yteomcjiiiilhmaa
