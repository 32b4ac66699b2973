/- Closed facts of the program: types, functions. -/
import Derived.Test.YtcnbdkkmcdjncaaRows
import Derived.Test.YtcnbdkkmcdjncaaEB
namespace Go.Proofs.Ytcnbdkkmcdjncaa
open Go Go.E
theorem ap22 : App Try.prog 22 37 4 32 (AG 4 (iv (fun _ => 0))) := ⟨Try.underlying22, by kernel_rfl, by kernel_rfl, by kernel_rfl⟩
theorem ap24 : App Try.prog 24 29 2 16 (AG 2 (iv (fun _ => 0))) := ⟨Try.underlying24, by kernel_rfl, by kernel_rfl, by kernel_rfl⟩
theorem ap26 : App Try.prog 26 30 2 16 (AG 2 (iv (fun _ => 0))) := ⟨Try.underlying26, by kernel_rfl, by kernel_rfl, by kernel_rfl⟩
theorem ap38 : App Try.prog 38 3 1 8 (.int .i64 0) := ⟨Try.underlying38, by kernel_rfl, by kernel_rfl, by kernel_rfl⟩
theorem ea30 : ElmA Try.prog 30 2 3 1 false := ⟨Try.underlying30, by kernel_rfl, by kernel_rfl⟩
theorem el22 : Elm Try.prog 22 37 4 true := ⟨Try.underlying22, by kernel_rfl, by kernel_rfl⟩
theorem el24 : Elm Try.prog 24 29 2 true := ⟨Try.underlying24, by kernel_rfl, by kernel_rfl⟩
theorem el26 : Elm Try.prog 26 30 2 true := ⟨Try.underlying26, by kernel_rfl, by kernel_rfl⟩
theorem el38 : Elm Try.prog 38 3 1 false := ⟨Try.underlying38, by kernel_rfl, by kernel_rfl⟩
theorem eq29 : Flat Try.prog 29 2 := ⟨by kernel_rfl, by kernel_rfl⟩
theorem eq37 : Flat Try.prog 37 4 := ⟨by kernel_rfl, by kernel_rfl⟩
theorem fk29 : FldsOk Try.prog 29 := ⟨_, Try.underlying29, by kernel_rfl⟩
theorem fk37 : FldsOk Try.prog 37 := ⟨_, Try.underlying37, by kernel_rfl⟩
theorem fl29_0 : Fld Try.prog 29 0 0 1 false := ⟨_, _, Try.underlying29, rfl, rfl, ⟨by kernel_rfl, by kernel_rfl⟩, rfl⟩
theorem fl29_1 : Fld Try.prog 29 1 1 1 false := ⟨_, _, Try.underlying29, rfl, rfl, ⟨by kernel_rfl, by kernel_rfl⟩, rfl⟩
theorem fl37_0 : Fld Try.prog 37 0 0 1 false := ⟨_, _, Try.underlying37, rfl, rfl, ⟨by kernel_rfl, by kernel_rfl⟩, rfl⟩
theorem fl37_2 : Fld Try.prog 37 2 2 1 false := ⟨_, _, Try.underlying37, rfl, rfl, ⟨by kernel_rfl, by kernel_rfl⟩, rfl⟩
theorem kf10 : IsFn Try.prog 10 := ⟨_, Try.func10, by kernel_rfl, by kernel_rfl⟩
theorem kf11 : IsFn Try.prog 11 := ⟨_, Try.func11, by kernel_rfl, by kernel_rfl⟩
theorem kf12 : IsFn Try.prog 12 := ⟨_, Try.func12, by kernel_rfl, by kernel_rfl⟩
theorem kf13 : IsFn Try.prog 13 := ⟨_, Try.func13, by kernel_rfl, by kernel_rfl⟩
theorem kf14 : IsFn Try.prog 14 := ⟨_, Try.func14, by kernel_rfl, by kernel_rfl⟩
theorem kf15 : IsFn Try.prog 15 := ⟨_, Try.func15, by kernel_rfl, by kernel_rfl⟩
theorem kf16 : IsFn Try.prog 16 := ⟨_, Try.func16, by kernel_rfl, by kernel_rfl⟩
theorem kf17 : IsFn Try.prog 17 := ⟨_, Try.func17, by kernel_rfl, by kernel_rfl⟩
theorem kf18 : IsFn Try.prog 18 := ⟨_, Try.func18, by kernel_rfl, by kernel_rfl⟩
theorem kf19 : IsFn Try.prog 19 := ⟨_, Try.func19, by kernel_rfl, by kernel_rfl⟩
theorem kf20 : IsFn Try.prog 20 := ⟨_, Try.func20, by kernel_rfl, by kernel_rfl⟩
theorem kf21 : IsFn Try.prog 21 := ⟨_, Try.func21, by kernel_rfl, by kernel_rfl⟩
theorem kf22 : IsFn Try.prog 22 := ⟨_, Try.func22, by kernel_rfl, by kernel_rfl⟩
theorem kf23 : IsFn Try.prog 23 := ⟨_, Try.func23, by kernel_rfl, by kernel_rfl⟩
theorem kf24 : IsFn Try.prog 24 := ⟨_, Try.func24, by kernel_rfl, by kernel_rfl⟩
theorem kf25 : IsFn Try.prog 25 := ⟨_, Try.func25, by kernel_rfl, by kernel_rfl⟩
theorem kf26 : IsFn Try.prog 26 := ⟨_, Try.func26, by kernel_rfl, by kernel_rfl⟩
theorem kf27 : IsFn Try.prog 27 := ⟨_, Try.func27, by kernel_rfl, by kernel_rfl⟩
theorem kf28 : IsFn Try.prog 28 := ⟨_, Try.func28, by kernel_rfl, by kernel_rfl⟩
theorem kf29 : IsFn Try.prog 29 := ⟨_, Try.func29, by kernel_rfl, by kernel_rfl⟩
theorem kf30 : IsFn Try.prog 30 := ⟨_, Try.func30, by kernel_rfl, by kernel_rfl⟩
theorem kf31 : IsFn Try.prog 31 := ⟨_, Try.func31, by kernel_rfl, by kernel_rfl⟩
theorem kf35 : IsFn Try.prog 35 := ⟨_, Try.func35, by kernel_rfl, by kernel_rfl⟩
theorem kf36 : IsFn Try.prog 36 := ⟨_, Try.func36, by kernel_rfl, by kernel_rfl⟩
theorem kf37 : IsFn Try.prog 37 := ⟨_, Try.func37, by kernel_rfl, by kernel_rfl⟩
theorem kf38 : IsFn Try.prog 38 := ⟨_, Try.func38, by kernel_rfl, by kernel_rfl⟩
theorem kf7 : IsFn Try.prog 7 := ⟨_, Try.func7, by kernel_rfl, by kernel_rfl⟩
theorem kf8 : IsFn Try.prog 8 := ⟨_, Try.func8, by kernel_rfl, by kernel_rfl⟩
theorem kf9 : IsFn Try.prog 9 := ⟨_, Try.func9, by kernel_rfl, by kernel_rfl⟩
theorem kt3 : KeyT Try.prog 3 kI ieq := keyT_int Try.underlying3
theorem ts22 : TyS Try.prog 22 1 false := ⟨by kernel_rfl, by kernel_rfl⟩
theorem ts24 : TyS Try.prog 24 1 false := ⟨by kernel_rfl, by kernel_rfl⟩
theorem ts29 : TyS Try.prog 29 2 true := ⟨by kernel_rfl, by kernel_rfl⟩
theorem ts3 : TyS Try.prog 3 1 false := ⟨by kernel_rfl, by kernel_rfl⟩
theorem ts37 : TyS Try.prog 37 4 true := ⟨by kernel_rfl, by kernel_rfl⟩
theorem ts38 : TyS Try.prog 38 1 false := ⟨by kernel_rfl, by kernel_rfl⟩
theorem ze24 : ZeroT Try.prog 24 (.slice none 0 0) := by unfold ZeroT; kernel_rfl
theorem ze29 : ZeroT Try.prog 29 (AG 2 (iv (fun _ => 0))) := by unfold ZeroT; kernel_rfl
theorem ze3 : ZeroT Try.prog 3 (.int .i64 0) := by unfold ZeroT; kernel_rfl
theorem ze30 : ZeroT Try.prog 30 (AG 2 (iv (fun _ => 0))) := by unfold ZeroT; kernel_rfl
theorem ze37 : ZeroT Try.prog 37 (AG 4 (iv (fun _ => 0))) := by unfold ZeroT; kernel_rfl
theorem ze38 : ZeroT Try.prog 38 (.slice none 0 0) := by unfold ZeroT; kernel_rfl
theorem ze4 : ZeroT Try.prog 4 (.bool false) := by unfold ZeroT; kernel_rfl
end Go.Proofs.Ytcnbdkkmcdjncaa
