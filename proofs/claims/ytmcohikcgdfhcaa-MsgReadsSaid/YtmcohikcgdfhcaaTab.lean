/- Closed facts of the program: types, functions. -/
import Derived.Test.YtmcohikcgdfhcaaRows
import Derived.Test.YtmcohikcgdfhcaaE7
namespace Go.Proofs.Ytmcohikcgdfhcaa
open Go Go.E
theorem ap35 : App Try.prog 35 5 1 1 (.int .u8 0) := ⟨Try.underlying35, by kernel_rfl, by kernel_rfl, by kernel_rfl⟩
theorem ea32 : ElmA Try.prog 32 8 31 2 true := ⟨Try.underlying32, by kernel_rfl, by kernel_rfl⟩
theorem el35 : Elm Try.prog 35 5 1 false := ⟨Try.underlying35, by kernel_rfl, by kernel_rfl⟩
theorem el53 : Elm Try.prog 53 3 1 false := ⟨Try.underlying53, by kernel_rfl, by kernel_rfl⟩
theorem el80 : Elm Try.prog 80 67 1 false := ⟨Try.underlying80, by kernel_rfl, by kernel_rfl⟩
theorem el93 : Elm Try.prog 93 31 2 true := ⟨Try.underlying93, by kernel_rfl, by kernel_rfl⟩
theorem eq31 : Flat Try.prog 31 2 := ⟨by kernel_rfl, by kernel_rfl⟩
theorem eq34 : Flat Try.prog 34 28 := ⟨by kernel_rfl, by kernel_rfl⟩
theorem fk28 : FldsOk Try.prog 28 := ⟨_, Try.underlying28, by kernel_rfl⟩
theorem fk31 : FldsOk Try.prog 31 := ⟨_, Try.underlying31, by kernel_rfl⟩
theorem fk34 : FldsOk Try.prog 34 := ⟨_, Try.underlying34, by kernel_rfl⟩
theorem fk78 : FldsOk Try.prog 78 := ⟨_, Try.underlying78, by kernel_rfl⟩
theorem fl28_0 : Fld Try.prog 28 0 0 1 false := ⟨_, _, Try.underlying28, rfl, rfl, ⟨by kernel_rfl, by kernel_rfl⟩, rfl⟩
theorem fl28_1 : Fld Try.prog 28 1 1 1 false := ⟨_, _, Try.underlying28, rfl, rfl, ⟨by kernel_rfl, by kernel_rfl⟩, rfl⟩
theorem fl31_0 : Fld Try.prog 31 0 0 1 false := ⟨_, _, Try.underlying31, rfl, rfl, ⟨by kernel_rfl, by kernel_rfl⟩, rfl⟩
theorem fl31_1 : Fld Try.prog 31 1 1 1 false := ⟨_, _, Try.underlying31, rfl, rfl, ⟨by kernel_rfl, by kernel_rfl⟩, rfl⟩
theorem fl34_0 : Fld Try.prog 34 0 0 1 false := ⟨_, _, Try.underlying34, rfl, rfl, ⟨by kernel_rfl, by kernel_rfl⟩, rfl⟩
theorem fl34_1 : Fld Try.prog 34 1 1 1 false := ⟨_, _, Try.underlying34, rfl, rfl, ⟨by kernel_rfl, by kernel_rfl⟩, rfl⟩
theorem fl34_10 : Fld Try.prog 34 10 11 1 false := ⟨_, _, Try.underlying34, rfl, rfl, ⟨by kernel_rfl, by kernel_rfl⟩, rfl⟩
theorem fl34_11 : Fld Try.prog 34 11 12 16 true := ⟨_, _, Try.underlying34, rfl, rfl, ⟨by kernel_rfl, by kernel_rfl⟩, rfl⟩
theorem fl34_2 : Fld Try.prog 34 2 2 1 false := ⟨_, _, Try.underlying34, rfl, rfl, ⟨by kernel_rfl, by kernel_rfl⟩, rfl⟩
theorem fl34_3 : Fld Try.prog 34 3 3 1 false := ⟨_, _, Try.underlying34, rfl, rfl, ⟨by kernel_rfl, by kernel_rfl⟩, rfl⟩
theorem fl34_4 : Fld Try.prog 34 4 4 1 false := ⟨_, _, Try.underlying34, rfl, rfl, ⟨by kernel_rfl, by kernel_rfl⟩, rfl⟩
theorem fl34_5 : Fld Try.prog 34 5 5 2 true := ⟨_, _, Try.underlying34, rfl, rfl, ⟨by kernel_rfl, by kernel_rfl⟩, rfl⟩
theorem fl34_6 : Fld Try.prog 34 6 7 1 false := ⟨_, _, Try.underlying34, rfl, rfl, ⟨by kernel_rfl, by kernel_rfl⟩, rfl⟩
theorem fl34_7 : Fld Try.prog 34 7 8 1 false := ⟨_, _, Try.underlying34, rfl, rfl, ⟨by kernel_rfl, by kernel_rfl⟩, rfl⟩
theorem fl34_8 : Fld Try.prog 34 8 9 1 false := ⟨_, _, Try.underlying34, rfl, rfl, ⟨by kernel_rfl, by kernel_rfl⟩, rfl⟩
theorem fl34_9 : Fld Try.prog 34 9 10 1 false := ⟨_, _, Try.underlying34, rfl, rfl, ⟨by kernel_rfl, by kernel_rfl⟩, rfl⟩
theorem fl78_0 : Fld Try.prog 78 0 0 1 false := ⟨_, _, Try.underlying78, rfl, rfl, ⟨by kernel_rfl, by kernel_rfl⟩, rfl⟩
theorem fl78_1 : Fld Try.prog 78 1 1 1 false := ⟨_, _, Try.underlying78, rfl, rfl, ⟨by kernel_rfl, by kernel_rfl⟩, rfl⟩
theorem kf10 : IsFn Try.prog 10 := ⟨_, Try.func10, by kernel_rfl, by kernel_rfl⟩
theorem kf11 : IsFn Try.prog 11 := ⟨_, Try.func11, by kernel_rfl, by kernel_rfl⟩
theorem kf12 : IsFn Try.prog 12 := ⟨_, Try.func12, by kernel_rfl, by kernel_rfl⟩
theorem kf13 : IsFn Try.prog 13 := ⟨_, Try.func13, by kernel_rfl, by kernel_rfl⟩
theorem kf14 : IsFn Try.prog 14 := ⟨_, Try.func14, by kernel_rfl, by kernel_rfl⟩
theorem kf15 : IsFn Try.prog 15 := ⟨_, Try.func15, by kernel_rfl, by kernel_rfl⟩
theorem kf16 : IsFn Try.prog 16 := ⟨_, Try.func16, by kernel_rfl, by kernel_rfl⟩
theorem kf17 : IsFn Try.prog 17 := ⟨_, Try.func17, by kernel_rfl, by kernel_rfl⟩
theorem kf18 : IsFn Try.prog 18 := ⟨_, Try.func18, by kernel_rfl, by kernel_rfl⟩
theorem kf19 : IsFn Try.prog 19 := ⟨_, Try.func19, by kernel_rfl, by kernel_rfl⟩
theorem kf20 : IsFn Try.prog 20 := ⟨_, Try.func20, by kernel_rfl, by kernel_rfl⟩
theorem kf21 : IsFn Try.prog 21 := ⟨_, Try.func21, by kernel_rfl, by kernel_rfl⟩
theorem kf22 : IsFn Try.prog 22 := ⟨_, Try.func22, by kernel_rfl, by kernel_rfl⟩
theorem kf23 : IsFn Try.prog 23 := ⟨_, Try.func23, by kernel_rfl, by kernel_rfl⟩
theorem kf24 : IsFn Try.prog 24 := ⟨_, Try.func24, by kernel_rfl, by kernel_rfl⟩
theorem kf25 : IsFn Try.prog 25 := ⟨_, Try.func25, by kernel_rfl, by kernel_rfl⟩
theorem kf26 : IsFn Try.prog 26 := ⟨_, Try.func26, by kernel_rfl, by kernel_rfl⟩
theorem kf27 : IsFn Try.prog 27 := ⟨_, Try.func27, by kernel_rfl, by kernel_rfl⟩
theorem kf28 : IsFn Try.prog 28 := ⟨_, Try.func28, by kernel_rfl, by kernel_rfl⟩
theorem kf29 : IsFn Try.prog 29 := ⟨_, Try.func29, by kernel_rfl, by kernel_rfl⟩
theorem kf30 : IsFn Try.prog 30 := ⟨_, Try.func30, by kernel_rfl, by kernel_rfl⟩
theorem kf31 : IsFn Try.prog 31 := ⟨_, Try.func31, by kernel_rfl, by kernel_rfl⟩
theorem kf32 : IsFn Try.prog 32 := ⟨_, Try.func32, by kernel_rfl, by kernel_rfl⟩
theorem kf33 : IsFn Try.prog 33 := ⟨_, Try.func33, by kernel_rfl, by kernel_rfl⟩
theorem kf36 : IsFn Try.prog 36 := ⟨_, Try.func36, by kernel_rfl, by kernel_rfl⟩
theorem kf37 : IsFn Try.prog 37 := ⟨_, Try.func37, by kernel_rfl, by kernel_rfl⟩
theorem kf38 : IsFn Try.prog 38 := ⟨_, Try.func38, by kernel_rfl, by kernel_rfl⟩
theorem kf39 : IsFn Try.prog 39 := ⟨_, Try.func39, by kernel_rfl, by kernel_rfl⟩
theorem kf8 : IsFn Try.prog 8 := ⟨_, Try.func8, by kernel_rfl, by kernel_rfl⟩
theorem ts28 : TyS Try.prog 28 2 true := ⟨by kernel_rfl, by kernel_rfl⟩
theorem ts29 : TyS Try.prog 29 1 false := ⟨by kernel_rfl, by kernel_rfl⟩
theorem ts3 : TyS Try.prog 3 1 false := ⟨by kernel_rfl, by kernel_rfl⟩
theorem ts31 : TyS Try.prog 31 2 true := ⟨by kernel_rfl, by kernel_rfl⟩
theorem ts32 : TyS Try.prog 32 16 true := ⟨by kernel_rfl, by kernel_rfl⟩
theorem ts34 : TyS Try.prog 34 28 true := ⟨by kernel_rfl, by kernel_rfl⟩
theorem ts35 : TyS Try.prog 35 1 false := ⟨by kernel_rfl, by kernel_rfl⟩
theorem ts5 : TyS Try.prog 5 1 false := ⟨by kernel_rfl, by kernel_rfl⟩
theorem ts67 : TyS Try.prog 67 1 false := ⟨by kernel_rfl, by kernel_rfl⟩
theorem ze28 : ZeroT Try.prog 28 (AG 2 (iv (fun _ => 0))) := by unfold ZeroT; kernel_rfl
theorem ze3 : ZeroT Try.prog 3 (.int .i64 0) := by unfold ZeroT; kernel_rfl
theorem ze31 : ZeroT Try.prog 31 (AG 2 (iv (fun _ => 0))) := by unfold ZeroT; kernel_rfl
theorem ze32 : ZeroT Try.prog 32 (AG 16 (iv (fun _ => 0))) := by unfold ZeroT; kernel_rfl
theorem ze34 : ZeroT Try.prog 34 (AG 28 (iv (fun _ => 0))) := by unfold ZeroT; kernel_rfl
theorem ze35 : ZeroT Try.prog 35 (.slice none 0 0) := by unfold ZeroT; kernel_rfl
theorem ze5 : ZeroT Try.prog 5 (.int .u8 0) := by unfold ZeroT; kernel_rfl
theorem ze67 : ZeroT Try.prog 67 (.pointer none) := by unfold ZeroT; kernel_rfl
theorem ze78 : ZeroT Try.prog 78 (AG 2 (fun i => ([.slice none 0 0, .int .i64 0] : List Value).getD i undef)) := by unfold ZeroT; kernel_rfl
end Go.Proofs.Ytmcohikcgdfhcaa
