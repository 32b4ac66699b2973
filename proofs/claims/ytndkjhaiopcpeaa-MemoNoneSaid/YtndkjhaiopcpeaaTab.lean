/- Closed facts of the program: types, functions. -/
import Derived.Test.YtndkjhaiopcpeaaRows
import Derived.Test.YtndkjhaiopcpeaaEB
namespace Go.Proofs.Ytndkjhaiopcpeaa
open Go Go.E
theorem ap22 : App Try.prog 22 28 2 16 (AG 2 (iv (fun _ => 0))) := ⟨Try.underlying22, by kernel_rfl, by kernel_rfl, by kernel_rfl⟩
theorem ap51 : App Try.prog 51 59 30 240 (AG 30 (iv (fun _ => 0))) := ⟨Try.underlying51, by kernel_rfl, by kernel_rfl, by kernel_rfl⟩
theorem ap57 : App Try.prog 57 3 1 8 (.int .i64 0) := ⟨Try.underlying57, by kernel_rfl, by kernel_rfl, by kernel_rfl⟩
theorem ea32 : ElmA Try.prog 32 8 28 2 true := ⟨Try.underlying32, by kernel_rfl, by kernel_rfl⟩
theorem el22 : Elm Try.prog 22 28 2 true := ⟨Try.underlying22, by kernel_rfl, by kernel_rfl⟩
theorem el44 : Elm Try.prog 44 46 31 true := ⟨Try.underlying44, by kernel_rfl, by kernel_rfl⟩
theorem el51 : Elm Try.prog 51 59 30 true := ⟨Try.underlying51, by kernel_rfl, by kernel_rfl⟩
theorem el57 : Elm Try.prog 57 3 1 false := ⟨Try.underlying57, by kernel_rfl, by kernel_rfl⟩
theorem eq28 : Flat Try.prog 28 2 := ⟨by kernel_rfl, by kernel_rfl⟩
theorem eq34 : Flat Try.prog 34 28 := ⟨by kernel_rfl, by kernel_rfl⟩
theorem fk28 : FldsOk Try.prog 28 := ⟨_, Try.underlying28, by kernel_rfl⟩
theorem fk30 : FldsOk Try.prog 30 := ⟨_, Try.underlying30, by kernel_rfl⟩
theorem fk34 : FldsOk Try.prog 34 := ⟨_, Try.underlying34, by kernel_rfl⟩
theorem fk59 : FldsOk Try.prog 59 := ⟨_, Try.underlying59, by kernel_rfl⟩
theorem fk67 : FldsOk Try.prog 67 := ⟨_, Try.underlying67, by kernel_rfl⟩
theorem fk70 : FldsOk Try.prog 70 := ⟨_, Try.underlying70, by kernel_rfl⟩
theorem fl28_0 : Fld Try.prog 28 0 0 1 false := ⟨_, _, Try.underlying28, rfl, rfl, ⟨by kernel_rfl, by kernel_rfl⟩, rfl⟩
theorem fl28_1 : Fld Try.prog 28 1 1 1 false := ⟨_, _, Try.underlying28, rfl, rfl, ⟨by kernel_rfl, by kernel_rfl⟩, rfl⟩
theorem fl30_0 : Fld Try.prog 30 0 0 1 false := ⟨_, _, Try.underlying30, rfl, rfl, ⟨by kernel_rfl, by kernel_rfl⟩, rfl⟩
theorem fl30_1 : Fld Try.prog 30 1 1 1 false := ⟨_, _, Try.underlying30, rfl, rfl, ⟨by kernel_rfl, by kernel_rfl⟩, rfl⟩
theorem fl34_0 : Fld Try.prog 34 0 0 1 false := ⟨_, _, Try.underlying34, rfl, rfl, ⟨by kernel_rfl, by kernel_rfl⟩, rfl⟩
theorem fl34_1 : Fld Try.prog 34 1 1 1 false := ⟨_, _, Try.underlying34, rfl, rfl, ⟨by kernel_rfl, by kernel_rfl⟩, rfl⟩
theorem fl34_10 : Fld Try.prog 34 10 11 1 false := ⟨_, _, Try.underlying34, rfl, rfl, ⟨by kernel_rfl, by kernel_rfl⟩, rfl⟩
theorem fl34_11 : Fld Try.prog 34 11 12 16 true := ⟨_, _, Try.underlying34, rfl, rfl, ⟨by kernel_rfl, by kernel_rfl⟩, rfl⟩
theorem fl34_2 : Fld Try.prog 34 2 2 1 false := ⟨_, _, Try.underlying34, rfl, rfl, ⟨by kernel_rfl, by kernel_rfl⟩, rfl⟩
theorem fl34_3 : Fld Try.prog 34 3 3 1 false := ⟨_, _, Try.underlying34, rfl, rfl, ⟨by kernel_rfl, by kernel_rfl⟩, rfl⟩
theorem fl34_4 : Fld Try.prog 34 4 4 1 false := ⟨_, _, Try.underlying34, rfl, rfl, ⟨by kernel_rfl, by kernel_rfl⟩, rfl⟩
theorem fl34_5 : Fld Try.prog 34 5 5 2 true := ⟨_, _, Try.underlying34, rfl, rfl, ⟨by kernel_rfl, by kernel_rfl⟩, rfl⟩
theorem fl34_6 : Fld Try.prog 34 6 7 1 false := ⟨_, _, Try.underlying34, rfl, rfl, ⟨by kernel_rfl, by kernel_rfl⟩, rfl⟩
theorem fl34_7 : Fld Try.prog 34 7 8 1 false := ⟨_, _, Try.underlying34, rfl, rfl, ⟨by kernel_rfl, by kernel_rfl⟩, rfl⟩
theorem fl34_8 : Fld Try.prog 34 8 9 1 false := ⟨_, _, Try.underlying34, rfl, rfl, ⟨by kernel_rfl, by kernel_rfl⟩, rfl⟩
theorem fl34_9 : Fld Try.prog 34 9 10 1 false := ⟨_, _, Try.underlying34, rfl, rfl, ⟨by kernel_rfl, by kernel_rfl⟩, rfl⟩
theorem fl46_0 : Fld Try.prog 46 0 0 1 false := ⟨_, _, Try.underlying46, rfl, rfl, ⟨by kernel_rfl, by kernel_rfl⟩, rfl⟩
theorem fl46_1 : Fld Try.prog 46 1 1 1 false := ⟨_, _, Try.underlying46, rfl, rfl, ⟨by kernel_rfl, by kernel_rfl⟩, rfl⟩
theorem fl46_2 : Fld Try.prog 46 2 2 1 false := ⟨_, _, Try.underlying46, rfl, rfl, ⟨by kernel_rfl, by kernel_rfl⟩, rfl⟩
theorem fl46_3 : Fld Try.prog 46 3 3 28 true := ⟨_, _, Try.underlying46, rfl, rfl, ⟨by kernel_rfl, by kernel_rfl⟩, rfl⟩
theorem fl59_0 : Fld Try.prog 59 0 0 1 false := ⟨_, _, Try.underlying59, rfl, rfl, ⟨by kernel_rfl, by kernel_rfl⟩, rfl⟩
theorem fl59_1 : Fld Try.prog 59 1 1 1 false := ⟨_, _, Try.underlying59, rfl, rfl, ⟨by kernel_rfl, by kernel_rfl⟩, rfl⟩
theorem fl59_2 : Fld Try.prog 59 2 2 28 true := ⟨_, _, Try.underlying59, rfl, rfl, ⟨by kernel_rfl, by kernel_rfl⟩, rfl⟩
theorem fl67_0 : Fld Try.prog 67 0 0 1 false := ⟨_, _, Try.underlying67, rfl, rfl, ⟨by kernel_rfl, by kernel_rfl⟩, rfl⟩
theorem fl70_0 : Fld Try.prog 70 0 0 1 false := ⟨_, _, Try.underlying70, rfl, rfl, ⟨by kernel_rfl, by kernel_rfl⟩, rfl⟩
theorem fl70_1 : Fld Try.prog 70 1 1 28 true := ⟨_, _, Try.underlying70, rfl, rfl, ⟨by kernel_rfl, by kernel_rfl⟩, rfl⟩
theorem kf10 : IsFn Try.prog 10 := ⟨_, Try.func10, by kernel_rfl, by kernel_rfl⟩
theorem kf11 : IsFn Try.prog 11 := ⟨_, Try.func11, by kernel_rfl, by kernel_rfl⟩
theorem kf12 : IsFn Try.prog 12 := ⟨_, Try.func12, by kernel_rfl, by kernel_rfl⟩
theorem kf13 : IsFn Try.prog 13 := ⟨_, Try.func13, by kernel_rfl, by kernel_rfl⟩
theorem kf14 : IsFn Try.prog 14 := ⟨_, Try.func14, by kernel_rfl, by kernel_rfl⟩
theorem kf15 : IsFn Try.prog 15 := ⟨_, Try.func15, by kernel_rfl, by kernel_rfl⟩
theorem kf16 : IsFn Try.prog 16 := ⟨_, Try.func16, by kernel_rfl, by kernel_rfl⟩
theorem kf17 : IsFn Try.prog 17 := ⟨_, Try.func17, by kernel_rfl, by kernel_rfl⟩
theorem kf18 : IsFn Try.prog 18 := ⟨_, Try.func18, by kernel_rfl, by kernel_rfl⟩
theorem kf19 : IsFn Try.prog 19 := ⟨_, Try.func19, by kernel_rfl, by kernel_rfl⟩
theorem kf20 : IsFn Try.prog 20 := ⟨_, Try.func20, by kernel_rfl, by kernel_rfl⟩
theorem kf21 : IsFn Try.prog 21 := ⟨_, Try.func21, by kernel_rfl, by kernel_rfl⟩
theorem kf22 : IsFn Try.prog 22 := ⟨_, Try.func22, by kernel_rfl, by kernel_rfl⟩
theorem kf23 : IsFn Try.prog 23 := ⟨_, Try.func23, by kernel_rfl, by kernel_rfl⟩
theorem kf24 : IsFn Try.prog 24 := ⟨_, Try.func24, by kernel_rfl, by kernel_rfl⟩
theorem kf25 : IsFn Try.prog 25 := ⟨_, Try.func25, by kernel_rfl, by kernel_rfl⟩
theorem kf26 : IsFn Try.prog 26 := ⟨_, Try.func26, by kernel_rfl, by kernel_rfl⟩
theorem kf29 : IsFn Try.prog 29 := ⟨_, Try.func29, by kernel_rfl, by kernel_rfl⟩
theorem kf30 : IsFn Try.prog 30 := ⟨_, Try.func30, by kernel_rfl, by kernel_rfl⟩
theorem kf31 : IsFn Try.prog 31 := ⟨_, Try.func31, by kernel_rfl, by kernel_rfl⟩
theorem kf35 : IsFn Try.prog 35 := ⟨_, Try.func35, by kernel_rfl, by kernel_rfl⟩
theorem kf36 : IsFn Try.prog 36 := ⟨_, Try.func36, by kernel_rfl, by kernel_rfl⟩
theorem kf40 : IsFn Try.prog 40 := ⟨_, Try.func40, by kernel_rfl, by kernel_rfl⟩
theorem kf41 : IsFn Try.prog 41 := ⟨_, Try.func41, by kernel_rfl, by kernel_rfl⟩
theorem kf42 : IsFn Try.prog 42 := ⟨_, Try.func42, by kernel_rfl, by kernel_rfl⟩
theorem kf43 : IsFn Try.prog 43 := ⟨_, Try.func43, by kernel_rfl, by kernel_rfl⟩
theorem kf44 : IsFn Try.prog 44 := ⟨_, Try.func44, by kernel_rfl, by kernel_rfl⟩
theorem kf7 : IsFn Try.prog 7 := ⟨_, Try.func7, by kernel_rfl, by kernel_rfl⟩
theorem kf8 : IsFn Try.prog 8 := ⟨_, Try.func8, by kernel_rfl, by kernel_rfl⟩
theorem kf9 : IsFn Try.prog 9 := ⟨_, Try.func9, by kernel_rfl, by kernel_rfl⟩
theorem kt28 : KeyT Try.prog 28 (kA 2) (eqN 2) := keyT_flat eq28
theorem kt3 : KeyT Try.prog 3 kI ieq := keyT_int Try.underlying3
theorem ts28 : TyS Try.prog 28 2 true := ⟨by kernel_rfl, by kernel_rfl⟩
theorem ts3 : TyS Try.prog 3 1 false := ⟨by kernel_rfl, by kernel_rfl⟩
theorem ts30 : TyS Try.prog 30 2 true := ⟨by kernel_rfl, by kernel_rfl⟩
theorem ts31 : TyS Try.prog 31 1 false := ⟨by kernel_rfl, by kernel_rfl⟩
theorem ts32 : TyS Try.prog 32 16 true := ⟨by kernel_rfl, by kernel_rfl⟩
theorem ts34 : TyS Try.prog 34 28 true := ⟨by kernel_rfl, by kernel_rfl⟩
theorem ts46 : TyS Try.prog 46 31 true := ⟨by kernel_rfl, by kernel_rfl⟩
theorem ts59 : TyS Try.prog 59 30 true := ⟨by kernel_rfl, by kernel_rfl⟩
theorem ts65 : TyS Try.prog 65 1 false := ⟨by kernel_rfl, by kernel_rfl⟩
theorem ts70 : TyS Try.prog 70 29 true := ⟨by kernel_rfl, by kernel_rfl⟩
theorem ze28 : ZeroT Try.prog 28 (AG 2 (iv (fun _ => 0))) := by unfold ZeroT; kernel_rfl
theorem ze3 : ZeroT Try.prog 3 (.int .i64 0) := by unfold ZeroT; kernel_rfl
theorem ze30 : ZeroT Try.prog 30 (AG 2 (iv (fun _ => 0))) := by unfold ZeroT; kernel_rfl
theorem ze32 : ZeroT Try.prog 32 (AG 16 (iv (fun _ => 0))) := by unfold ZeroT; kernel_rfl
theorem ze34 : ZeroT Try.prog 34 (AG 28 (iv (fun _ => 0))) := by unfold ZeroT; kernel_rfl
theorem ze46 : ZeroT Try.prog 46 (AG 31 (iv (fun _ => 0))) := by unfold ZeroT; kernel_rfl
theorem ze59 : ZeroT Try.prog 59 (AG 30 (iv (fun _ => 0))) := by unfold ZeroT; kernel_rfl
theorem ze67 : ZeroT Try.prog 67 (AG 1 (fun i => ([.map none] : List Value).getD i undef)) := by unfold ZeroT; kernel_rfl
theorem ze70 : ZeroT Try.prog 70 (AG 29 (iv (fun _ => 0))) := by unfold ZeroT; kernel_rfl
end Go.Proofs.Ytndkjhaiopcpeaa
