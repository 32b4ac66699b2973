/- Closed facts of the program: types, functions. -/
import Derived.Test.YtjmfnohbeoiddaaRows
import Derived.Test.YtjmfnohbeoiddaaEA
namespace Go.Proofs.Ytjmfnohbeoiddaa
open Go Go.E
theorem ap30 : App Try.prog 30 54 4 32 (AG 4 (iv (fun _ => 0))) := ⟨Try.underlying30, by kernel_rfl, by kernel_rfl, by kernel_rfl⟩
theorem ap41 : App Try.prog 41 29 28 224 (AG 28 (iv (fun _ => 0))) := ⟨Try.underlying41, by kernel_rfl, by kernel_rfl, by kernel_rfl⟩
theorem ap57 : App Try.prog 57 3 1 8 (.int .i64 0) := ⟨Try.underlying57, by kernel_rfl, by kernel_rfl, by kernel_rfl⟩
theorem ea27 : ElmA Try.prog 27 8 26 2 true := ⟨Try.underlying27, by kernel_rfl, by kernel_rfl⟩
theorem ea52 : ElmA Try.prog 52 2 5 1 false := ⟨Try.underlying52, by kernel_rfl, by kernel_rfl⟩
theorem el30 : Elm Try.prog 30 54 4 true := ⟨Try.underlying30, by kernel_rfl, by kernel_rfl⟩
theorem el31 : Elm Try.prog 31 26 2 true := ⟨Try.underlying31, by kernel_rfl, by kernel_rfl⟩
theorem el41 : Elm Try.prog 41 29 28 true := ⟨Try.underlying41, by kernel_rfl, by kernel_rfl⟩
theorem el51 : Elm Try.prog 51 52 2 true := ⟨Try.underlying51, by kernel_rfl, by kernel_rfl⟩
theorem el57 : Elm Try.prog 57 3 1 false := ⟨Try.underlying57, by kernel_rfl, by kernel_rfl⟩
theorem eq26 : Flat Try.prog 26 2 := ⟨by kernel_rfl, by kernel_rfl⟩
theorem eq29 : Flat Try.prog 29 28 := ⟨by kernel_rfl, by kernel_rfl⟩
theorem fk23 : FldsOk Try.prog 23 := ⟨_, Try.underlying23, by kernel_rfl⟩
theorem fk26 : FldsOk Try.prog 26 := ⟨_, Try.underlying26, by kernel_rfl⟩
theorem fk29 : FldsOk Try.prog 29 := ⟨_, Try.underlying29, by kernel_rfl⟩
theorem fk54 : FldsOk Try.prog 54 := ⟨_, Try.underlying54, by kernel_rfl⟩
theorem fl23_0 : Fld Try.prog 23 0 0 1 false := ⟨_, _, Try.underlying23, rfl, rfl, ⟨by kernel_rfl, by kernel_rfl⟩, rfl⟩
theorem fl23_1 : Fld Try.prog 23 1 1 1 false := ⟨_, _, Try.underlying23, rfl, rfl, ⟨by kernel_rfl, by kernel_rfl⟩, rfl⟩
theorem fl26_0 : Fld Try.prog 26 0 0 1 false := ⟨_, _, Try.underlying26, rfl, rfl, ⟨by kernel_rfl, by kernel_rfl⟩, rfl⟩
theorem fl26_1 : Fld Try.prog 26 1 1 1 false := ⟨_, _, Try.underlying26, rfl, rfl, ⟨by kernel_rfl, by kernel_rfl⟩, rfl⟩
theorem fl29_0 : Fld Try.prog 29 0 0 1 false := ⟨_, _, Try.underlying29, rfl, rfl, ⟨by kernel_rfl, by kernel_rfl⟩, rfl⟩
theorem fl29_1 : Fld Try.prog 29 1 1 1 false := ⟨_, _, Try.underlying29, rfl, rfl, ⟨by kernel_rfl, by kernel_rfl⟩, rfl⟩
theorem fl29_10 : Fld Try.prog 29 10 11 1 false := ⟨_, _, Try.underlying29, rfl, rfl, ⟨by kernel_rfl, by kernel_rfl⟩, rfl⟩
theorem fl29_11 : Fld Try.prog 29 11 12 16 true := ⟨_, _, Try.underlying29, rfl, rfl, ⟨by kernel_rfl, by kernel_rfl⟩, rfl⟩
theorem fl29_2 : Fld Try.prog 29 2 2 1 false := ⟨_, _, Try.underlying29, rfl, rfl, ⟨by kernel_rfl, by kernel_rfl⟩, rfl⟩
theorem fl29_3 : Fld Try.prog 29 3 3 1 false := ⟨_, _, Try.underlying29, rfl, rfl, ⟨by kernel_rfl, by kernel_rfl⟩, rfl⟩
theorem fl29_4 : Fld Try.prog 29 4 4 1 false := ⟨_, _, Try.underlying29, rfl, rfl, ⟨by kernel_rfl, by kernel_rfl⟩, rfl⟩
theorem fl29_5 : Fld Try.prog 29 5 5 2 true := ⟨_, _, Try.underlying29, rfl, rfl, ⟨by kernel_rfl, by kernel_rfl⟩, rfl⟩
theorem fl29_6 : Fld Try.prog 29 6 7 1 false := ⟨_, _, Try.underlying29, rfl, rfl, ⟨by kernel_rfl, by kernel_rfl⟩, rfl⟩
theorem fl29_7 : Fld Try.prog 29 7 8 1 false := ⟨_, _, Try.underlying29, rfl, rfl, ⟨by kernel_rfl, by kernel_rfl⟩, rfl⟩
theorem fl29_8 : Fld Try.prog 29 8 9 1 false := ⟨_, _, Try.underlying29, rfl, rfl, ⟨by kernel_rfl, by kernel_rfl⟩, rfl⟩
theorem fl29_9 : Fld Try.prog 29 9 10 1 false := ⟨_, _, Try.underlying29, rfl, rfl, ⟨by kernel_rfl, by kernel_rfl⟩, rfl⟩
theorem fl54_0 : Fld Try.prog 54 0 0 1 false := ⟨_, _, Try.underlying54, rfl, rfl, ⟨by kernel_rfl, by kernel_rfl⟩, rfl⟩
theorem fl54_1 : Fld Try.prog 54 1 1 1 false := ⟨_, _, Try.underlying54, rfl, rfl, ⟨by kernel_rfl, by kernel_rfl⟩, rfl⟩
theorem fl54_2 : Fld Try.prog 54 2 2 1 false := ⟨_, _, Try.underlying54, rfl, rfl, ⟨by kernel_rfl, by kernel_rfl⟩, rfl⟩
theorem fl54_3 : Fld Try.prog 54 3 3 1 false := ⟨_, _, Try.underlying54, rfl, rfl, ⟨by kernel_rfl, by kernel_rfl⟩, rfl⟩
theorem kf10 : IsFn Try.prog 10 := ⟨_, Try.func10, by kernel_rfl, by kernel_rfl⟩
theorem kf11 : IsFn Try.prog 11 := ⟨_, Try.func11, by kernel_rfl, by kernel_rfl⟩
theorem kf12 : IsFn Try.prog 12 := ⟨_, Try.func12, by kernel_rfl, by kernel_rfl⟩
theorem kf13 : IsFn Try.prog 13 := ⟨_, Try.func13, by kernel_rfl, by kernel_rfl⟩
theorem kf14 : IsFn Try.prog 14 := ⟨_, Try.func14, by kernel_rfl, by kernel_rfl⟩
theorem kf15 : IsFn Try.prog 15 := ⟨_, Try.func15, by kernel_rfl, by kernel_rfl⟩
theorem kf16 : IsFn Try.prog 16 := ⟨_, Try.func16, by kernel_rfl, by kernel_rfl⟩
theorem kf17 : IsFn Try.prog 17 := ⟨_, Try.func17, by kernel_rfl, by kernel_rfl⟩
theorem kf18 : IsFn Try.prog 18 := ⟨_, Try.func18, by kernel_rfl, by kernel_rfl⟩
theorem kf19 : IsFn Try.prog 19 := ⟨_, Try.func19, by kernel_rfl, by kernel_rfl⟩
theorem kf20 : IsFn Try.prog 20 := ⟨_, Try.func20, by kernel_rfl, by kernel_rfl⟩
theorem kf21 : IsFn Try.prog 21 := ⟨_, Try.func21, by kernel_rfl, by kernel_rfl⟩
theorem kf22 : IsFn Try.prog 22 := ⟨_, Try.func22, by kernel_rfl, by kernel_rfl⟩
theorem kf23 : IsFn Try.prog 23 := ⟨_, Try.func23, by kernel_rfl, by kernel_rfl⟩
theorem kf24 : IsFn Try.prog 24 := ⟨_, Try.func24, by kernel_rfl, by kernel_rfl⟩
theorem kf25 : IsFn Try.prog 25 := ⟨_, Try.func25, by kernel_rfl, by kernel_rfl⟩
theorem kf26 : IsFn Try.prog 26 := ⟨_, Try.func26, by kernel_rfl, by kernel_rfl⟩
theorem kf27 : IsFn Try.prog 27 := ⟨_, Try.func27, by kernel_rfl, by kernel_rfl⟩
theorem kf28 : IsFn Try.prog 28 := ⟨_, Try.func28, by kernel_rfl, by kernel_rfl⟩
theorem kf29 : IsFn Try.prog 29 := ⟨_, Try.func29, by kernel_rfl, by kernel_rfl⟩
theorem kf30 : IsFn Try.prog 30 := ⟨_, Try.func30, by kernel_rfl, by kernel_rfl⟩
theorem kf31 : IsFn Try.prog 31 := ⟨_, Try.func31, by kernel_rfl, by kernel_rfl⟩
theorem kf32 : IsFn Try.prog 32 := ⟨_, Try.func32, by kernel_rfl, by kernel_rfl⟩
theorem kf33 : IsFn Try.prog 33 := ⟨_, Try.func33, by kernel_rfl, by kernel_rfl⟩
theorem kf34 : IsFn Try.prog 34 := ⟨_, Try.func34, by kernel_rfl, by kernel_rfl⟩
theorem kf35 : IsFn Try.prog 35 := ⟨_, Try.func35, by kernel_rfl, by kernel_rfl⟩
theorem kf36 : IsFn Try.prog 36 := ⟨_, Try.func36, by kernel_rfl, by kernel_rfl⟩
theorem kf37 : IsFn Try.prog 37 := ⟨_, Try.func37, by kernel_rfl, by kernel_rfl⟩
theorem kf38 : IsFn Try.prog 38 := ⟨_, Try.func38, by kernel_rfl, by kernel_rfl⟩
theorem kf39 : IsFn Try.prog 39 := ⟨_, Try.func39, by kernel_rfl, by kernel_rfl⟩
theorem kf40 : IsFn Try.prog 40 := ⟨_, Try.func40, by kernel_rfl, by kernel_rfl⟩
theorem kf41 : IsFn Try.prog 41 := ⟨_, Try.func41, by kernel_rfl, by kernel_rfl⟩
theorem kf42 : IsFn Try.prog 42 := ⟨_, Try.func42, by kernel_rfl, by kernel_rfl⟩
theorem kf43 : IsFn Try.prog 43 := ⟨_, Try.func43, by kernel_rfl, by kernel_rfl⟩
theorem kf46 : IsFn Try.prog 46 := ⟨_, Try.func46, by kernel_rfl, by kernel_rfl⟩
theorem kf47 : IsFn Try.prog 47 := ⟨_, Try.func47, by kernel_rfl, by kernel_rfl⟩
theorem kf48 : IsFn Try.prog 48 := ⟨_, Try.func48, by kernel_rfl, by kernel_rfl⟩
theorem kf49 : IsFn Try.prog 49 := ⟨_, Try.func49, by kernel_rfl, by kernel_rfl⟩
theorem kf50 : IsFn Try.prog 50 := ⟨_, Try.func50, by kernel_rfl, by kernel_rfl⟩
theorem kf51 : IsFn Try.prog 51 := ⟨_, Try.func51, by kernel_rfl, by kernel_rfl⟩
theorem kf52 : IsFn Try.prog 52 := ⟨_, Try.func52, by kernel_rfl, by kernel_rfl⟩
theorem kf53 : IsFn Try.prog 53 := ⟨_, Try.func53, by kernel_rfl, by kernel_rfl⟩
theorem kf54 : IsFn Try.prog 54 := ⟨_, Try.func54, by kernel_rfl, by kernel_rfl⟩
theorem kf55 : IsFn Try.prog 55 := ⟨_, Try.func55, by kernel_rfl, by kernel_rfl⟩
theorem kf8 : IsFn Try.prog 8 := ⟨_, Try.func8, by kernel_rfl, by kernel_rfl⟩
theorem kf9 : IsFn Try.prog 9 := ⟨_, Try.func9, by kernel_rfl, by kernel_rfl⟩
theorem ts23 : TyS Try.prog 23 2 true := ⟨by kernel_rfl, by kernel_rfl⟩
theorem ts24 : TyS Try.prog 24 1 false := ⟨by kernel_rfl, by kernel_rfl⟩
theorem ts26 : TyS Try.prog 26 2 true := ⟨by kernel_rfl, by kernel_rfl⟩
theorem ts27 : TyS Try.prog 27 16 true := ⟨by kernel_rfl, by kernel_rfl⟩
theorem ts29 : TyS Try.prog 29 28 true := ⟨by kernel_rfl, by kernel_rfl⟩
theorem ts3 : TyS Try.prog 3 1 false := ⟨by kernel_rfl, by kernel_rfl⟩
theorem ts31 : TyS Try.prog 31 1 false := ⟨by kernel_rfl, by kernel_rfl⟩
theorem ts5 : TyS Try.prog 5 1 false := ⟨by kernel_rfl, by kernel_rfl⟩
theorem ts54 : TyS Try.prog 54 4 true := ⟨by kernel_rfl, by kernel_rfl⟩
theorem ze23 : ZeroT Try.prog 23 (AG 2 (iv (fun _ => 0))) := by unfold ZeroT; kernel_rfl
theorem ze26 : ZeroT Try.prog 26 (AG 2 (iv (fun _ => 0))) := by unfold ZeroT; kernel_rfl
theorem ze27 : ZeroT Try.prog 27 (AG 16 (iv (fun _ => 0))) := by unfold ZeroT; kernel_rfl
theorem ze29 : ZeroT Try.prog 29 (AG 28 (iv (fun _ => 0))) := by unfold ZeroT; kernel_rfl
theorem ze3 : ZeroT Try.prog 3 (.int .i64 0) := by unfold ZeroT; kernel_rfl
theorem ze54 : ZeroT Try.prog 54 (AG 4 (iv (fun _ => 0))) := by unfold ZeroT; kernel_rfl
end Go.Proofs.Ytjmfnohbeoiddaa
