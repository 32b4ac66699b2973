/- Closed facts of the program: types, functions. -/
import Derived.Test.YtfpilngnhkcgjaaRows
import Derived.Test.YtfpilngnhkcgjaaEB
namespace Go.Proofs.Ytfpilngnhkcgjaa
open Go Go.E
theorem ap31 : App Try.prog 31 3 1 8 (.int .i64 0) := ⟨Try.underlying31, by kernel_rfl, by kernel_rfl, by kernel_rfl⟩
theorem ap43 : App Try.prog 43 45 2 16 (AG 2 (iv (fun _ => 0))) := ⟨Try.underlying43, by kernel_rfl, by kernel_rfl, by kernel_rfl⟩
theorem el31 : Elm Try.prog 31 3 1 false := ⟨Try.underlying31, by kernel_rfl, by kernel_rfl⟩
theorem el37 : Elm Try.prog 37 22 1 false := ⟨Try.underlying37, by kernel_rfl, by kernel_rfl⟩
theorem el42 : Elm Try.prog 42 48 3 true := ⟨Try.underlying42, by kernel_rfl, by kernel_rfl⟩
theorem el43 : Elm Try.prog 43 45 2 true := ⟨Try.underlying43, by kernel_rfl, by kernel_rfl⟩
theorem fk45 : FldsOk Try.prog 45 := ⟨_, Try.underlying45, by kernel_rfl⟩
theorem fk57 : FldsOk Try.prog 57 := ⟨_, Try.underlying57, by kernel_rfl⟩
theorem fl45_0 : Fld Try.prog 45 0 0 1 false := ⟨_, _, Try.underlying45, rfl, rfl, ⟨by kernel_rfl, by kernel_rfl⟩, rfl⟩
theorem fl45_1 : Fld Try.prog 45 1 1 1 false := ⟨_, _, Try.underlying45, rfl, rfl, ⟨by kernel_rfl, by kernel_rfl⟩, rfl⟩
theorem fl48_0 : Fld Try.prog 48 0 0 1 false := ⟨_, _, Try.underlying48, rfl, rfl, ⟨by kernel_rfl, by kernel_rfl⟩, rfl⟩
theorem fl48_1 : Fld Try.prog 48 1 1 1 false := ⟨_, _, Try.underlying48, rfl, rfl, ⟨by kernel_rfl, by kernel_rfl⟩, rfl⟩
theorem fl48_2 : Fld Try.prog 48 2 2 1 false := ⟨_, _, Try.underlying48, rfl, rfl, ⟨by kernel_rfl, by kernel_rfl⟩, rfl⟩
theorem fl57_0 : Fld Try.prog 57 0 0 1 false := ⟨_, _, Try.underlying57, rfl, rfl, ⟨by kernel_rfl, by kernel_rfl⟩, rfl⟩
theorem fl57_1 : Fld Try.prog 57 1 1 1 false := ⟨_, _, Try.underlying57, rfl, rfl, ⟨by kernel_rfl, by kernel_rfl⟩, rfl⟩
theorem kf10 : IsFn Try.prog 10 := ⟨_, Try.func10, by kernel_rfl, by kernel_rfl⟩
theorem kf11 : IsFn Try.prog 11 := ⟨_, Try.func11, by kernel_rfl, by kernel_rfl⟩
theorem kf12 : IsFn Try.prog 12 := ⟨_, Try.func12, by kernel_rfl, by kernel_rfl⟩
theorem kf13 : IsFn Try.prog 13 := ⟨_, Try.func13, by kernel_rfl, by kernel_rfl⟩
theorem kf14 : IsFn Try.prog 14 := ⟨_, Try.func14, by kernel_rfl, by kernel_rfl⟩
theorem kf15 : IsFn Try.prog 15 := ⟨_, Try.func15, by kernel_rfl, by kernel_rfl⟩
theorem kf16 : IsFn Try.prog 16 := ⟨_, Try.func16, by kernel_rfl, by kernel_rfl⟩
theorem kf17 : IsFn Try.prog 17 := ⟨_, Try.func17, by kernel_rfl, by kernel_rfl⟩
theorem kf18 : IsFn Try.prog 18 := ⟨_, Try.func18, by kernel_rfl, by kernel_rfl⟩
theorem kf19 : IsFn Try.prog 19 := ⟨_, Try.func19, by kernel_rfl, by kernel_rfl⟩
theorem kf20 : IsFn Try.prog 20 := ⟨_, Try.func20, by kernel_rfl, by kernel_rfl⟩
theorem kf21 : IsFn Try.prog 21 := ⟨_, Try.func21, by kernel_rfl, by kernel_rfl⟩
theorem kf22 : IsFn Try.prog 22 := ⟨_, Try.func22, by kernel_rfl, by kernel_rfl⟩
theorem kf23 : IsFn Try.prog 23 := ⟨_, Try.func23, by kernel_rfl, by kernel_rfl⟩
theorem kf7 : IsFn Try.prog 7 := ⟨_, Try.func7, by kernel_rfl, by kernel_rfl⟩
theorem kf8 : IsFn Try.prog 8 := ⟨_, Try.func8, by kernel_rfl, by kernel_rfl⟩
theorem kf9 : IsFn Try.prog 9 := ⟨_, Try.func9, by kernel_rfl, by kernel_rfl⟩
theorem kt3 : KeyT Try.prog 3 kI ieq := keyT_int Try.underlying3
theorem ts22 : TyS Try.prog 22 1 false := ⟨by kernel_rfl, by kernel_rfl⟩
theorem ts3 : TyS Try.prog 3 1 false := ⟨by kernel_rfl, by kernel_rfl⟩
theorem ts45 : TyS Try.prog 45 2 true := ⟨by kernel_rfl, by kernel_rfl⟩
theorem ts48 : TyS Try.prog 48 3 true := ⟨by kernel_rfl, by kernel_rfl⟩
theorem ts55 : TyS Try.prog 55 1 false := ⟨by kernel_rfl, by kernel_rfl⟩
theorem ze3 : ZeroT Try.prog 3 (.int .i64 0) := by unfold ZeroT; kernel_rfl
theorem ze45 : ZeroT Try.prog 45 (AG 2 (iv (fun _ => 0))) := by unfold ZeroT; kernel_rfl
theorem ze48 : ZeroT Try.prog 48 (AG 3 (iv (fun _ => 0))) := by unfold ZeroT; kernel_rfl
theorem ze57 : ZeroT Try.prog 57 (AG 2 (fun i => ([.int .i64 0, .map none] : List Value).getD i undef)) := by unfold ZeroT; kernel_rfl
end Go.Proofs.Ytfpilngnhkcgjaa
