/- Closed facts of the program: types, functions. -/
import Derived.Test.YtmfbefghdaiicaaRows
import Derived.Test.YtmfbefghdaiicaaEA
namespace Go.Proofs.Ytmfbefghdaiicaa
open Go Go.E
theorem ap27 : App Try.prog 27 3 1 8 (.int .i64 0) := ⟨Try.underlying27, by kernel_rfl, by kernel_rfl, by kernel_rfl⟩
theorem ap28 : App Try.prog 28 94 5 40 (AG 5 (iv (fun _ => 0))) := ⟨Try.underlying28, by kernel_rfl, by kernel_rfl, by kernel_rfl⟩
theorem ap35 : App Try.prog 35 42 28 224 (AG 28 (iv (fun _ => 0))) := ⟨Try.underlying35, by kernel_rfl, by kernel_rfl, by kernel_rfl⟩
theorem ea40 : ElmA Try.prog 40 8 39 2 true := ⟨Try.underlying40, by kernel_rfl, by kernel_rfl⟩
theorem el128 : Elm Try.prog 128 39 2 true := ⟨Try.underlying128, by kernel_rfl, by kernel_rfl⟩
theorem el22 : Elm Try.prog 22 44 33 true := ⟨Try.underlying22, by kernel_rfl, by kernel_rfl⟩
theorem el27 : Elm Try.prog 27 3 1 false := ⟨Try.underlying27, by kernel_rfl, by kernel_rfl⟩
theorem el28 : Elm Try.prog 28 94 5 true := ⟨Try.underlying28, by kernel_rfl, by kernel_rfl⟩
theorem el35 : Elm Try.prog 35 42 28 true := ⟨Try.underlying35, by kernel_rfl, by kernel_rfl⟩
theorem eq25 : Flat Try.prog 25 2 := ⟨by kernel_rfl, by kernel_rfl⟩
theorem eq39 : Flat Try.prog 39 2 := ⟨by kernel_rfl, by kernel_rfl⟩
theorem eq42 : Flat Try.prog 42 28 := ⟨by kernel_rfl, by kernel_rfl⟩
theorem eq94 : Flat Try.prog 94 5 := ⟨by kernel_rfl, by kernel_rfl⟩
theorem fk25 : FldsOk Try.prog 25 := ⟨_, Try.underlying25, by kernel_rfl⟩
theorem fk30 : FldsOk Try.prog 30 := ⟨_, Try.underlying30, by kernel_rfl⟩
theorem fk39 : FldsOk Try.prog 39 := ⟨_, Try.underlying39, by kernel_rfl⟩
theorem fk42 : FldsOk Try.prog 42 := ⟨_, Try.underlying42, by kernel_rfl⟩
theorem fk48 : FldsOk Try.prog 48 := ⟨_, Try.underlying48, by kernel_rfl⟩
theorem fk94 : FldsOk Try.prog 94 := ⟨_, Try.underlying94, by kernel_rfl⟩
theorem fl25_0 : Fld Try.prog 25 0 0 1 false := ⟨_, _, Try.underlying25, rfl, rfl, ⟨by kernel_rfl, by kernel_rfl⟩, rfl⟩
theorem fl25_1 : Fld Try.prog 25 1 1 1 false := ⟨_, _, Try.underlying25, rfl, rfl, ⟨by kernel_rfl, by kernel_rfl⟩, rfl⟩
theorem fl30_0 : Fld Try.prog 30 0 0 1 false := ⟨_, _, Try.underlying30, rfl, rfl, ⟨by kernel_rfl, by kernel_rfl⟩, rfl⟩
theorem fl30_1 : Fld Try.prog 30 1 1 1 false := ⟨_, _, Try.underlying30, rfl, rfl, ⟨by kernel_rfl, by kernel_rfl⟩, rfl⟩
theorem fl30_10 : Fld Try.prog 30 10 11 1 false := ⟨_, _, Try.underlying30, rfl, rfl, ⟨by kernel_rfl, by kernel_rfl⟩, rfl⟩
theorem fl30_11 : Fld Try.prog 30 11 12 1 false := ⟨_, _, Try.underlying30, rfl, rfl, ⟨by kernel_rfl, by kernel_rfl⟩, rfl⟩
theorem fl30_2 : Fld Try.prog 30 2 2 1 false := ⟨_, _, Try.underlying30, rfl, rfl, ⟨by kernel_rfl, by kernel_rfl⟩, rfl⟩
theorem fl30_3 : Fld Try.prog 30 3 3 1 false := ⟨_, _, Try.underlying30, rfl, rfl, ⟨by kernel_rfl, by kernel_rfl⟩, rfl⟩
theorem fl30_4 : Fld Try.prog 30 4 4 1 false := ⟨_, _, Try.underlying30, rfl, rfl, ⟨by kernel_rfl, by kernel_rfl⟩, rfl⟩
theorem fl30_5 : Fld Try.prog 30 5 5 1 false := ⟨_, _, Try.underlying30, rfl, rfl, ⟨by kernel_rfl, by kernel_rfl⟩, rfl⟩
theorem fl30_6 : Fld Try.prog 30 6 6 2 true := ⟨_, _, Try.underlying30, rfl, rfl, ⟨by kernel_rfl, by kernel_rfl⟩, rfl⟩
theorem fl30_7 : Fld Try.prog 30 7 8 1 false := ⟨_, _, Try.underlying30, rfl, rfl, ⟨by kernel_rfl, by kernel_rfl⟩, rfl⟩
theorem fl30_8 : Fld Try.prog 30 8 9 1 false := ⟨_, _, Try.underlying30, rfl, rfl, ⟨by kernel_rfl, by kernel_rfl⟩, rfl⟩
theorem fl30_9 : Fld Try.prog 30 9 10 1 false := ⟨_, _, Try.underlying30, rfl, rfl, ⟨by kernel_rfl, by kernel_rfl⟩, rfl⟩
theorem fl39_0 : Fld Try.prog 39 0 0 1 false := ⟨_, _, Try.underlying39, rfl, rfl, ⟨by kernel_rfl, by kernel_rfl⟩, rfl⟩
theorem fl39_1 : Fld Try.prog 39 1 1 1 false := ⟨_, _, Try.underlying39, rfl, rfl, ⟨by kernel_rfl, by kernel_rfl⟩, rfl⟩
theorem fl42_0 : Fld Try.prog 42 0 0 1 false := ⟨_, _, Try.underlying42, rfl, rfl, ⟨by kernel_rfl, by kernel_rfl⟩, rfl⟩
theorem fl42_1 : Fld Try.prog 42 1 1 1 false := ⟨_, _, Try.underlying42, rfl, rfl, ⟨by kernel_rfl, by kernel_rfl⟩, rfl⟩
theorem fl42_10 : Fld Try.prog 42 10 11 1 false := ⟨_, _, Try.underlying42, rfl, rfl, ⟨by kernel_rfl, by kernel_rfl⟩, rfl⟩
theorem fl42_11 : Fld Try.prog 42 11 12 16 true := ⟨_, _, Try.underlying42, rfl, rfl, ⟨by kernel_rfl, by kernel_rfl⟩, rfl⟩
theorem fl42_2 : Fld Try.prog 42 2 2 1 false := ⟨_, _, Try.underlying42, rfl, rfl, ⟨by kernel_rfl, by kernel_rfl⟩, rfl⟩
theorem fl42_3 : Fld Try.prog 42 3 3 1 false := ⟨_, _, Try.underlying42, rfl, rfl, ⟨by kernel_rfl, by kernel_rfl⟩, rfl⟩
theorem fl42_4 : Fld Try.prog 42 4 4 1 false := ⟨_, _, Try.underlying42, rfl, rfl, ⟨by kernel_rfl, by kernel_rfl⟩, rfl⟩
theorem fl42_5 : Fld Try.prog 42 5 5 2 true := ⟨_, _, Try.underlying42, rfl, rfl, ⟨by kernel_rfl, by kernel_rfl⟩, rfl⟩
theorem fl42_6 : Fld Try.prog 42 6 7 1 false := ⟨_, _, Try.underlying42, rfl, rfl, ⟨by kernel_rfl, by kernel_rfl⟩, rfl⟩
theorem fl42_7 : Fld Try.prog 42 7 8 1 false := ⟨_, _, Try.underlying42, rfl, rfl, ⟨by kernel_rfl, by kernel_rfl⟩, rfl⟩
theorem fl42_8 : Fld Try.prog 42 8 9 1 false := ⟨_, _, Try.underlying42, rfl, rfl, ⟨by kernel_rfl, by kernel_rfl⟩, rfl⟩
theorem fl42_9 : Fld Try.prog 42 9 10 1 false := ⟨_, _, Try.underlying42, rfl, rfl, ⟨by kernel_rfl, by kernel_rfl⟩, rfl⟩
theorem fl44_0 : Fld Try.prog 44 0 0 1 false := ⟨_, _, Try.underlying44, rfl, rfl, ⟨by kernel_rfl, by kernel_rfl⟩, rfl⟩
theorem fl44_1 : Fld Try.prog 44 1 1 1 false := ⟨_, _, Try.underlying44, rfl, rfl, ⟨by kernel_rfl, by kernel_rfl⟩, rfl⟩
theorem fl44_2 : Fld Try.prog 44 2 2 2 true := ⟨_, _, Try.underlying44, rfl, rfl, ⟨by kernel_rfl, by kernel_rfl⟩, rfl⟩
theorem fl44_3 : Fld Try.prog 44 3 4 1 false := ⟨_, _, Try.underlying44, rfl, rfl, ⟨by kernel_rfl, by kernel_rfl⟩, rfl⟩
theorem fl44_4 : Fld Try.prog 44 4 5 28 true := ⟨_, _, Try.underlying44, rfl, rfl, ⟨by kernel_rfl, by kernel_rfl⟩, rfl⟩
theorem fl48_0 : Fld Try.prog 48 0 0 1 false := ⟨_, _, Try.underlying48, rfl, rfl, ⟨by kernel_rfl, by kernel_rfl⟩, rfl⟩
theorem fl48_1 : Fld Try.prog 48 1 1 1 false := ⟨_, _, Try.underlying48, rfl, rfl, ⟨by kernel_rfl, by kernel_rfl⟩, rfl⟩
theorem fl48_10 : Fld Try.prog 48 10 11 1 false := ⟨_, _, Try.underlying48, rfl, rfl, ⟨by kernel_rfl, by kernel_rfl⟩, rfl⟩
theorem fl48_11 : Fld Try.prog 48 11 12 1 false := ⟨_, _, Try.underlying48, rfl, rfl, ⟨by kernel_rfl, by kernel_rfl⟩, rfl⟩
theorem fl48_2 : Fld Try.prog 48 2 2 1 false := ⟨_, _, Try.underlying48, rfl, rfl, ⟨by kernel_rfl, by kernel_rfl⟩, rfl⟩
theorem fl48_3 : Fld Try.prog 48 3 3 1 false := ⟨_, _, Try.underlying48, rfl, rfl, ⟨by kernel_rfl, by kernel_rfl⟩, rfl⟩
theorem fl48_4 : Fld Try.prog 48 4 4 1 false := ⟨_, _, Try.underlying48, rfl, rfl, ⟨by kernel_rfl, by kernel_rfl⟩, rfl⟩
theorem fl48_5 : Fld Try.prog 48 5 5 1 false := ⟨_, _, Try.underlying48, rfl, rfl, ⟨by kernel_rfl, by kernel_rfl⟩, rfl⟩
theorem fl48_6 : Fld Try.prog 48 6 6 2 true := ⟨_, _, Try.underlying48, rfl, rfl, ⟨by kernel_rfl, by kernel_rfl⟩, rfl⟩
theorem fl48_7 : Fld Try.prog 48 7 8 1 false := ⟨_, _, Try.underlying48, rfl, rfl, ⟨by kernel_rfl, by kernel_rfl⟩, rfl⟩
theorem fl48_8 : Fld Try.prog 48 8 9 1 false := ⟨_, _, Try.underlying48, rfl, rfl, ⟨by kernel_rfl, by kernel_rfl⟩, rfl⟩
theorem fl48_9 : Fld Try.prog 48 9 10 1 false := ⟨_, _, Try.underlying48, rfl, rfl, ⟨by kernel_rfl, by kernel_rfl⟩, rfl⟩
theorem fl94_0 : Fld Try.prog 94 0 0 1 false := ⟨_, _, Try.underlying94, rfl, rfl, ⟨by kernel_rfl, by kernel_rfl⟩, rfl⟩
theorem fl94_1 : Fld Try.prog 94 1 1 1 false := ⟨_, _, Try.underlying94, rfl, rfl, ⟨by kernel_rfl, by kernel_rfl⟩, rfl⟩
theorem fl94_2 : Fld Try.prog 94 2 2 2 true := ⟨_, _, Try.underlying94, rfl, rfl, ⟨by kernel_rfl, by kernel_rfl⟩, rfl⟩
theorem fl94_3 : Fld Try.prog 94 3 4 1 false := ⟨_, _, Try.underlying94, rfl, rfl, ⟨by kernel_rfl, by kernel_rfl⟩, rfl⟩
theorem kf10 : IsFn Try.prog 10 := ⟨_, Try.func10, by kernel_rfl, by kernel_rfl⟩
theorem kf11 : IsFn Try.prog 11 := ⟨_, Try.func11, by kernel_rfl, by kernel_rfl⟩
theorem kf12 : IsFn Try.prog 12 := ⟨_, Try.func12, by kernel_rfl, by kernel_rfl⟩
theorem kf13 : IsFn Try.prog 13 := ⟨_, Try.func13, by kernel_rfl, by kernel_rfl⟩
theorem kf14 : IsFn Try.prog 14 := ⟨_, Try.func14, by kernel_rfl, by kernel_rfl⟩
theorem kf15 : IsFn Try.prog 15 := ⟨_, Try.func15, by kernel_rfl, by kernel_rfl⟩
theorem kf18 : IsFn Try.prog 18 := ⟨_, Try.func18, by kernel_rfl, by kernel_rfl⟩
theorem kf21 : IsFn Try.prog 21 := ⟨_, Try.func21, by kernel_rfl, by kernel_rfl⟩
theorem kf23 : IsFn Try.prog 23 := ⟨_, Try.func23, by kernel_rfl, by kernel_rfl⟩
theorem kf24 : IsFn Try.prog 24 := ⟨_, Try.func24, by kernel_rfl, by kernel_rfl⟩
theorem kf25 : IsFn Try.prog 25 := ⟨_, Try.func25, by kernel_rfl, by kernel_rfl⟩
theorem kf26 : IsFn Try.prog 26 := ⟨_, Try.func26, by kernel_rfl, by kernel_rfl⟩
theorem kf27 : IsFn Try.prog 27 := ⟨_, Try.func27, by kernel_rfl, by kernel_rfl⟩
theorem kf28 : IsFn Try.prog 28 := ⟨_, Try.func28, by kernel_rfl, by kernel_rfl⟩
theorem kf29 : IsFn Try.prog 29 := ⟨_, Try.func29, by kernel_rfl, by kernel_rfl⟩
theorem kf30 : IsFn Try.prog 30 := ⟨_, Try.func30, by kernel_rfl, by kernel_rfl⟩
theorem kf31 : IsFn Try.prog 31 := ⟨_, Try.func31, by kernel_rfl, by kernel_rfl⟩
theorem kf32 : IsFn Try.prog 32 := ⟨_, Try.func32, by kernel_rfl, by kernel_rfl⟩
theorem kf33 : IsFn Try.prog 33 := ⟨_, Try.func33, by kernel_rfl, by kernel_rfl⟩
theorem kf40 : IsFn Try.prog 40 := ⟨_, Try.func40, by kernel_rfl, by kernel_rfl⟩
theorem kf41 : IsFn Try.prog 41 := ⟨_, Try.func41, by kernel_rfl, by kernel_rfl⟩
theorem kf42 : IsFn Try.prog 42 := ⟨_, Try.func42, by kernel_rfl, by kernel_rfl⟩
theorem kf43 : IsFn Try.prog 43 := ⟨_, Try.func43, by kernel_rfl, by kernel_rfl⟩
theorem kf47 : IsFn Try.prog 47 := ⟨_, Try.func47, by kernel_rfl, by kernel_rfl⟩
theorem kf48 : IsFn Try.prog 48 := ⟨_, Try.func48, by kernel_rfl, by kernel_rfl⟩
theorem kf49 : IsFn Try.prog 49 := ⟨_, Try.func49, by kernel_rfl, by kernel_rfl⟩
theorem kf50 : IsFn Try.prog 50 := ⟨_, Try.func50, by kernel_rfl, by kernel_rfl⟩
theorem kf51 : IsFn Try.prog 51 := ⟨_, Try.func51, by kernel_rfl, by kernel_rfl⟩
theorem kf52 : IsFn Try.prog 52 := ⟨_, Try.func52, by kernel_rfl, by kernel_rfl⟩
theorem kf53 : IsFn Try.prog 53 := ⟨_, Try.func53, by kernel_rfl, by kernel_rfl⟩
theorem kf54 : IsFn Try.prog 54 := ⟨_, Try.func54, by kernel_rfl, by kernel_rfl⟩
theorem kf55 : IsFn Try.prog 55 := ⟨_, Try.func55, by kernel_rfl, by kernel_rfl⟩
theorem kf61 : IsFn Try.prog 61 := ⟨_, Try.func61, by kernel_rfl, by kernel_rfl⟩
theorem kf62 : IsFn Try.prog 62 := ⟨_, Try.func62, by kernel_rfl, by kernel_rfl⟩
theorem kf63 : IsFn Try.prog 63 := ⟨_, Try.func63, by kernel_rfl, by kernel_rfl⟩
theorem kf64 : IsFn Try.prog 64 := ⟨_, Try.func64, by kernel_rfl, by kernel_rfl⟩
theorem kf65 : IsFn Try.prog 65 := ⟨_, Try.func65, by kernel_rfl, by kernel_rfl⟩
theorem kf66 : IsFn Try.prog 66 := ⟨_, Try.func66, by kernel_rfl, by kernel_rfl⟩
theorem kf68 : IsFn Try.prog 68 := ⟨_, Try.func68, by kernel_rfl, by kernel_rfl⟩
theorem kf69 : IsFn Try.prog 69 := ⟨_, Try.func69, by kernel_rfl, by kernel_rfl⟩
theorem kf70 : IsFn Try.prog 70 := ⟨_, Try.func70, by kernel_rfl, by kernel_rfl⟩
theorem kf71 : IsFn Try.prog 71 := ⟨_, Try.func71, by kernel_rfl, by kernel_rfl⟩
theorem kf74 : IsFn Try.prog 74 := ⟨_, Try.func74, by kernel_rfl, by kernel_rfl⟩
theorem kf75 : IsFn Try.prog 75 := ⟨_, Try.func75, by kernel_rfl, by kernel_rfl⟩
theorem kf76 : IsFn Try.prog 76 := ⟨_, Try.func76, by kernel_rfl, by kernel_rfl⟩
theorem kf78 : IsFn Try.prog 78 := ⟨_, Try.func78, by kernel_rfl, by kernel_rfl⟩
theorem kf79 : IsFn Try.prog 79 := ⟨_, Try.func79, by kernel_rfl, by kernel_rfl⟩
theorem kf8 : IsFn Try.prog 8 := ⟨_, Try.func8, by kernel_rfl, by kernel_rfl⟩
theorem kf80 : IsFn Try.prog 80 := ⟨_, Try.func80, by kernel_rfl, by kernel_rfl⟩
theorem kf81 : IsFn Try.prog 81 := ⟨_, Try.func81, by kernel_rfl, by kernel_rfl⟩
theorem kf9 : IsFn Try.prog 9 := ⟨_, Try.func9, by kernel_rfl, by kernel_rfl⟩
theorem ts25 : TyS Try.prog 25 2 true := ⟨by kernel_rfl, by kernel_rfl⟩
theorem ts26 : TyS Try.prog 26 1 false := ⟨by kernel_rfl, by kernel_rfl⟩
theorem ts27 : TyS Try.prog 27 1 false := ⟨by kernel_rfl, by kernel_rfl⟩
theorem ts28 : TyS Try.prog 28 1 false := ⟨by kernel_rfl, by kernel_rfl⟩
theorem ts3 : TyS Try.prog 3 1 false := ⟨by kernel_rfl, by kernel_rfl⟩
theorem ts30 : TyS Try.prog 30 13 true := ⟨by kernel_rfl, by kernel_rfl⟩
theorem ts39 : TyS Try.prog 39 2 true := ⟨by kernel_rfl, by kernel_rfl⟩
theorem ts4 : TyS Try.prog 4 1 false := ⟨by kernel_rfl, by kernel_rfl⟩
theorem ts40 : TyS Try.prog 40 16 true := ⟨by kernel_rfl, by kernel_rfl⟩
theorem ts42 : TyS Try.prog 42 28 true := ⟨by kernel_rfl, by kernel_rfl⟩
theorem ts44 : TyS Try.prog 44 33 true := ⟨by kernel_rfl, by kernel_rfl⟩
theorem ts48 : TyS Try.prog 48 13 true := ⟨by kernel_rfl, by kernel_rfl⟩
theorem ts94 : TyS Try.prog 94 5 true := ⟨by kernel_rfl, by kernel_rfl⟩
theorem ze25 : ZeroT Try.prog 25 (AG 2 (iv (fun _ => 0))) := by unfold ZeroT; kernel_rfl
theorem ze3 : ZeroT Try.prog 3 (.int .i64 0) := by unfold ZeroT; kernel_rfl
theorem ze30 : ZeroT Try.prog 30 (AG 13 (fun i => ([.int .i64 0, .int .i64 0, .int .i64 0, .int .i64 0, .bool false, .int .i64 0, .int .i64 0, .int .i64 0, .int .i64 0, .slice none 0 0, .slice none 0 0, .slice none 0 0, .slice none 0 0] : List Value).getD i undef)) := by unfold ZeroT; kernel_rfl
theorem ze39 : ZeroT Try.prog 39 (AG 2 (iv (fun _ => 0))) := by unfold ZeroT; kernel_rfl
theorem ze40 : ZeroT Try.prog 40 (AG 16 (iv (fun _ => 0))) := by unfold ZeroT; kernel_rfl
theorem ze42 : ZeroT Try.prog 42 (AG 28 (iv (fun _ => 0))) := by unfold ZeroT; kernel_rfl
theorem ze48 : ZeroT Try.prog 48 (AG 13 (fun i => ([.int .i64 0, .int .i64 0, .int .i64 0, .int .i64 0, .bool false, .int .i64 0, .int .i64 0, .int .i64 0, .int .i64 0, .slice none 0 0, .slice none 0 0, .slice none 0 0, .slice none 0 0] : List Value).getD i undef)) := by unfold ZeroT; kernel_rfl
theorem ze94 : ZeroT Try.prog 94 (AG 5 (iv (fun _ => 0))) := by unfold ZeroT; kernel_rfl
end Go.Proofs.Ytmfbefghdaiicaa
