/- Closed facts of the program: types, functions. -/
import Derived.Test.YthikmldodgijdaaRows
import Derived.Test.YthikmldodgijdaaEB
namespace Go.Proofs.Ythikmldodgijdaa
open Go Go.E
theorem ap30 : App Try.prog 30 39 28 224 (AG 28 (iv (fun _ => 0))) := ⟨Try.underlying30, by kernel_rfl, by kernel_rfl, by kernel_rfl⟩
theorem ea37 : ElmA Try.prog 37 8 36 2 true := ⟨Try.underlying37, by kernel_rfl, by kernel_rfl⟩
theorem el22 : Elm Try.prog 22 43 30 true := ⟨Try.underlying22, by kernel_rfl, by kernel_rfl⟩
theorem el30 : Elm Try.prog 30 39 28 true := ⟨Try.underlying30, by kernel_rfl, by kernel_rfl⟩
theorem el92 : Elm Try.prog 92 36 2 true := ⟨Try.underlying92, by kernel_rfl, by kernel_rfl⟩
theorem eq36 : Flat Try.prog 36 2 := ⟨by kernel_rfl, by kernel_rfl⟩
theorem eq39 : Flat Try.prog 39 28 := ⟨by kernel_rfl, by kernel_rfl⟩
theorem fk33 : FldsOk Try.prog 33 := ⟨_, Try.underlying33, by kernel_rfl⟩
theorem fk36 : FldsOk Try.prog 36 := ⟨_, Try.underlying36, by kernel_rfl⟩
theorem fk39 : FldsOk Try.prog 39 := ⟨_, Try.underlying39, by kernel_rfl⟩
theorem fk48 : FldsOk Try.prog 48 := ⟨_, Try.underlying48, by kernel_rfl⟩
theorem fk64 : FldsOk Try.prog 64 := ⟨_, Try.underlying64, by kernel_rfl⟩
theorem fl33_0 : Fld Try.prog 33 0 0 1 false := ⟨_, _, Try.underlying33, rfl, rfl, ⟨by kernel_rfl, by kernel_rfl⟩, rfl⟩
theorem fl33_1 : Fld Try.prog 33 1 1 1 false := ⟨_, _, Try.underlying33, rfl, rfl, ⟨by kernel_rfl, by kernel_rfl⟩, rfl⟩
theorem fl36_0 : Fld Try.prog 36 0 0 1 false := ⟨_, _, Try.underlying36, rfl, rfl, ⟨by kernel_rfl, by kernel_rfl⟩, rfl⟩
theorem fl36_1 : Fld Try.prog 36 1 1 1 false := ⟨_, _, Try.underlying36, rfl, rfl, ⟨by kernel_rfl, by kernel_rfl⟩, rfl⟩
theorem fl39_0 : Fld Try.prog 39 0 0 1 false := ⟨_, _, Try.underlying39, rfl, rfl, ⟨by kernel_rfl, by kernel_rfl⟩, rfl⟩
theorem fl39_1 : Fld Try.prog 39 1 1 1 false := ⟨_, _, Try.underlying39, rfl, rfl, ⟨by kernel_rfl, by kernel_rfl⟩, rfl⟩
theorem fl39_10 : Fld Try.prog 39 10 11 1 false := ⟨_, _, Try.underlying39, rfl, rfl, ⟨by kernel_rfl, by kernel_rfl⟩, rfl⟩
theorem fl39_11 : Fld Try.prog 39 11 12 16 true := ⟨_, _, Try.underlying39, rfl, rfl, ⟨by kernel_rfl, by kernel_rfl⟩, rfl⟩
theorem fl39_2 : Fld Try.prog 39 2 2 1 false := ⟨_, _, Try.underlying39, rfl, rfl, ⟨by kernel_rfl, by kernel_rfl⟩, rfl⟩
theorem fl39_3 : Fld Try.prog 39 3 3 1 false := ⟨_, _, Try.underlying39, rfl, rfl, ⟨by kernel_rfl, by kernel_rfl⟩, rfl⟩
theorem fl39_4 : Fld Try.prog 39 4 4 1 false := ⟨_, _, Try.underlying39, rfl, rfl, ⟨by kernel_rfl, by kernel_rfl⟩, rfl⟩
theorem fl39_5 : Fld Try.prog 39 5 5 2 true := ⟨_, _, Try.underlying39, rfl, rfl, ⟨by kernel_rfl, by kernel_rfl⟩, rfl⟩
theorem fl39_6 : Fld Try.prog 39 6 7 1 false := ⟨_, _, Try.underlying39, rfl, rfl, ⟨by kernel_rfl, by kernel_rfl⟩, rfl⟩
theorem fl39_7 : Fld Try.prog 39 7 8 1 false := ⟨_, _, Try.underlying39, rfl, rfl, ⟨by kernel_rfl, by kernel_rfl⟩, rfl⟩
theorem fl39_8 : Fld Try.prog 39 8 9 1 false := ⟨_, _, Try.underlying39, rfl, rfl, ⟨by kernel_rfl, by kernel_rfl⟩, rfl⟩
theorem fl39_9 : Fld Try.prog 39 9 10 1 false := ⟨_, _, Try.underlying39, rfl, rfl, ⟨by kernel_rfl, by kernel_rfl⟩, rfl⟩
theorem fl43_0 : Fld Try.prog 43 0 0 1 false := ⟨_, _, Try.underlying43, rfl, rfl, ⟨by kernel_rfl, by kernel_rfl⟩, rfl⟩
theorem fl43_1 : Fld Try.prog 43 1 1 1 false := ⟨_, _, Try.underlying43, rfl, rfl, ⟨by kernel_rfl, by kernel_rfl⟩, rfl⟩
theorem fl43_2 : Fld Try.prog 43 2 2 28 true := ⟨_, _, Try.underlying43, rfl, rfl, ⟨by kernel_rfl, by kernel_rfl⟩, rfl⟩
theorem fl48_0 : Fld Try.prog 48 0 0 1 false := ⟨_, _, Try.underlying48, rfl, rfl, ⟨by kernel_rfl, by kernel_rfl⟩, rfl⟩
theorem fl48_1 : Fld Try.prog 48 1 1 1 false := ⟨_, _, Try.underlying48, rfl, rfl, ⟨by kernel_rfl, by kernel_rfl⟩, rfl⟩
theorem fl64_0 : Fld Try.prog 64 0 0 1 false := ⟨_, _, Try.underlying64, rfl, rfl, ⟨by kernel_rfl, by kernel_rfl⟩, rfl⟩
theorem fl64_1 : Fld Try.prog 64 1 1 1 false := ⟨_, _, Try.underlying64, rfl, rfl, ⟨by kernel_rfl, by kernel_rfl⟩, rfl⟩
theorem kf10 : IsFn Try.prog 10 := ⟨_, Try.func10, by kernel_rfl, by kernel_rfl⟩
theorem kf11 : IsFn Try.prog 11 := ⟨_, Try.func11, by kernel_rfl, by kernel_rfl⟩
theorem kf12 : IsFn Try.prog 12 := ⟨_, Try.func12, by kernel_rfl, by kernel_rfl⟩
theorem kf13 : IsFn Try.prog 13 := ⟨_, Try.func13, by kernel_rfl, by kernel_rfl⟩
theorem kf14 : IsFn Try.prog 14 := ⟨_, Try.func14, by kernel_rfl, by kernel_rfl⟩
theorem kf15 : IsFn Try.prog 15 := ⟨_, Try.func15, by kernel_rfl, by kernel_rfl⟩
theorem kf16 : IsFn Try.prog 16 := ⟨_, Try.func16, by kernel_rfl, by kernel_rfl⟩
theorem kf17 : IsFn Try.prog 17 := ⟨_, Try.func17, by kernel_rfl, by kernel_rfl⟩
theorem kf18 : IsFn Try.prog 18 := ⟨_, Try.func18, by kernel_rfl, by kernel_rfl⟩
theorem kf19 : IsFn Try.prog 19 := ⟨_, Try.func19, by kernel_rfl, by kernel_rfl⟩
theorem kf20 : IsFn Try.prog 20 := ⟨_, Try.func20, by kernel_rfl, by kernel_rfl⟩
theorem kf21 : IsFn Try.prog 21 := ⟨_, Try.func21, by kernel_rfl, by kernel_rfl⟩
theorem kf22 : IsFn Try.prog 22 := ⟨_, Try.func22, by kernel_rfl, by kernel_rfl⟩
theorem kf23 : IsFn Try.prog 23 := ⟨_, Try.func23, by kernel_rfl, by kernel_rfl⟩
theorem kf24 : IsFn Try.prog 24 := ⟨_, Try.func24, by kernel_rfl, by kernel_rfl⟩
theorem kf25 : IsFn Try.prog 25 := ⟨_, Try.func25, by kernel_rfl, by kernel_rfl⟩
theorem kf26 : IsFn Try.prog 26 := ⟨_, Try.func26, by kernel_rfl, by kernel_rfl⟩
theorem kf27 : IsFn Try.prog 27 := ⟨_, Try.func27, by kernel_rfl, by kernel_rfl⟩
theorem kf28 : IsFn Try.prog 28 := ⟨_, Try.func28, by kernel_rfl, by kernel_rfl⟩
theorem kf29 : IsFn Try.prog 29 := ⟨_, Try.func29, by kernel_rfl, by kernel_rfl⟩
theorem kf30 : IsFn Try.prog 30 := ⟨_, Try.func30, by kernel_rfl, by kernel_rfl⟩
theorem kf31 : IsFn Try.prog 31 := ⟨_, Try.func31, by kernel_rfl, by kernel_rfl⟩
theorem kf32 : IsFn Try.prog 32 := ⟨_, Try.func32, by kernel_rfl, by kernel_rfl⟩
theorem kf35 : IsFn Try.prog 35 := ⟨_, Try.func35, by kernel_rfl, by kernel_rfl⟩
theorem kf36 : IsFn Try.prog 36 := ⟨_, Try.func36, by kernel_rfl, by kernel_rfl⟩
theorem kf37 : IsFn Try.prog 37 := ⟨_, Try.func37, by kernel_rfl, by kernel_rfl⟩
theorem kf38 : IsFn Try.prog 38 := ⟨_, Try.func38, by kernel_rfl, by kernel_rfl⟩
theorem kf39 : IsFn Try.prog 39 := ⟨_, Try.func39, by kernel_rfl, by kernel_rfl⟩
theorem kf40 : IsFn Try.prog 40 := ⟨_, Try.func40, by kernel_rfl, by kernel_rfl⟩
theorem kf41 : IsFn Try.prog 41 := ⟨_, Try.func41, by kernel_rfl, by kernel_rfl⟩
theorem kf42 : IsFn Try.prog 42 := ⟨_, Try.func42, by kernel_rfl, by kernel_rfl⟩
theorem kf8 : IsFn Try.prog 8 := ⟨_, Try.func8, by kernel_rfl, by kernel_rfl⟩
theorem kf9 : IsFn Try.prog 9 := ⟨_, Try.func9, by kernel_rfl, by kernel_rfl⟩
theorem kt39 : KeyT Try.prog 39 (kA 28) (eqN 28) := keyT_flat eq39
theorem ts24 : TyS Try.prog 24 1 false := ⟨by kernel_rfl, by kernel_rfl⟩
theorem ts3 : TyS Try.prog 3 1 false := ⟨by kernel_rfl, by kernel_rfl⟩
theorem ts30 : TyS Try.prog 30 1 false := ⟨by kernel_rfl, by kernel_rfl⟩
theorem ts33 : TyS Try.prog 33 2 true := ⟨by kernel_rfl, by kernel_rfl⟩
theorem ts34 : TyS Try.prog 34 1 false := ⟨by kernel_rfl, by kernel_rfl⟩
theorem ts36 : TyS Try.prog 36 2 true := ⟨by kernel_rfl, by kernel_rfl⟩
theorem ts37 : TyS Try.prog 37 16 true := ⟨by kernel_rfl, by kernel_rfl⟩
theorem ts39 : TyS Try.prog 39 28 true := ⟨by kernel_rfl, by kernel_rfl⟩
theorem ts43 : TyS Try.prog 43 30 true := ⟨by kernel_rfl, by kernel_rfl⟩
theorem ze3 : ZeroT Try.prog 3 (.int .i64 0) := by unfold ZeroT; kernel_rfl
theorem ze33 : ZeroT Try.prog 33 (AG 2 (iv (fun _ => 0))) := by unfold ZeroT; kernel_rfl
theorem ze36 : ZeroT Try.prog 36 (AG 2 (iv (fun _ => 0))) := by unfold ZeroT; kernel_rfl
theorem ze37 : ZeroT Try.prog 37 (AG 16 (iv (fun _ => 0))) := by unfold ZeroT; kernel_rfl
theorem ze39 : ZeroT Try.prog 39 (AG 28 (iv (fun _ => 0))) := by unfold ZeroT; kernel_rfl
theorem ze48 : ZeroT Try.prog 48 (AG 2 (fun i => ([.int .i64 0, .slice none 0 0] : List Value).getD i undef)) := by unfold ZeroT; kernel_rfl
theorem ze64 : ZeroT Try.prog 64 (AG 2 (fun i => ([.int .i64 0, .slice none 0 0] : List Value).getD i undef)) := by unfold ZeroT; kernel_rfl
end Go.Proofs.Ythikmldodgijdaa
