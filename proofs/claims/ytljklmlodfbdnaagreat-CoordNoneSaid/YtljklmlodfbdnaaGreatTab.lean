/- Closed facts of the program: types, functions. -/
import Derived.Test.YtljklmlodfbdnaaGreatRows
import Derived.Test.YtljklmlodfbdnaaGreatE20
import Derived.Test.YtljklmlodfbdnaaGreatE27
namespace Go.Proofs.YtljklmlodfbdnaaGreat
open Go Go.E
theorem ap35 : App Tryz.prog 35 45 28 224 (AG 28 (iv (fun _ => 0))) := ⟨Tryz.underlying35, by kernel_rfl, by kernel_rfl, by kernel_rfl⟩
theorem ap54 : App Tryz.prog 54 65 7 56 (AG 7 (iv (fun _ => 0))) := ⟨Tryz.underlying54, by kernel_rfl, by kernel_rfl, by kernel_rfl⟩
theorem ap59 : App Tryz.prog 59 3 1 8 (.int .i64 0) := ⟨Tryz.underlying59, by kernel_rfl, by kernel_rfl, by kernel_rfl⟩
theorem ap60 : App Tryz.prog 60 104 5 40 (AG 5 (iv (fun _ => 0))) := ⟨Tryz.underlying60, by kernel_rfl, by kernel_rfl, by kernel_rfl⟩
theorem ea128 : ElmA Tryz.prog 128 9 127 3 true := ⟨Tryz.underlying128, by kernel_rfl, by kernel_rfl⟩
theorem el35 : Elm Tryz.prog 35 45 28 true := ⟨Tryz.underlying35, by kernel_rfl, by kernel_rfl⟩
theorem el54 : Elm Tryz.prog 54 65 7 true := ⟨Tryz.underlying54, by kernel_rfl, by kernel_rfl⟩
theorem el59 : Elm Tryz.prog 59 3 1 false := ⟨Tryz.underlying59, by kernel_rfl, by kernel_rfl⟩
theorem el60 : Elm Tryz.prog 60 104 5 true := ⟨Tryz.underlying60, by kernel_rfl, by kernel_rfl⟩
theorem eq45 : Flat Tryz.prog 45 28 := ⟨by kernel_rfl, by kernel_rfl⟩
theorem fk130 : FldsOk Tryz.prog 130 := ⟨_, Tryz.underlying130, by kernel_rfl⟩
theorem fk23 : FldsOk Tryz.prog 23 := ⟨_, Tryz.underlying23, by kernel_rfl⟩
theorem fk39 : FldsOk Tryz.prog 39 := ⟨_, Tryz.underlying39, by kernel_rfl⟩
theorem fk45 : FldsOk Tryz.prog 45 := ⟨_, Tryz.underlying45, by kernel_rfl⟩
theorem fk56 : FldsOk Tryz.prog 56 := ⟨_, Tryz.underlying56, by kernel_rfl⟩
theorem fk62 : FldsOk Tryz.prog 62 := ⟨_, Tryz.underlying62, by kernel_rfl⟩
theorem fk65 : FldsOk Tryz.prog 65 := ⟨_, Tryz.underlying65, by kernel_rfl⟩
theorem fk84 : FldsOk Tryz.prog 84 := ⟨_, Tryz.underlying84, by kernel_rfl⟩
theorem fl127_0 : Fld Tryz.prog 127 0 0 1 false := ⟨_, _, Tryz.underlying127, rfl, rfl, ⟨by kernel_rfl, by kernel_rfl⟩, rfl⟩
theorem fl127_2 : Fld Tryz.prog 127 2 2 1 false := ⟨_, _, Tryz.underlying127, rfl, rfl, ⟨by kernel_rfl, by kernel_rfl⟩, rfl⟩
theorem fl130_0 : Fld Tryz.prog 130 0 0 1 false := ⟨_, _, Tryz.underlying130, rfl, rfl, ⟨by kernel_rfl, by kernel_rfl⟩, rfl⟩
theorem fl130_1 : Fld Tryz.prog 130 1 1 27 true := ⟨_, _, Tryz.underlying130, rfl, rfl, ⟨by kernel_rfl, by kernel_rfl⟩, rfl⟩
theorem fl23_0 : Fld Tryz.prog 23 0 0 1 false := ⟨_, _, Tryz.underlying23, rfl, rfl, ⟨by kernel_rfl, by kernel_rfl⟩, rfl⟩
theorem fl23_1 : Fld Tryz.prog 23 1 1 1 false := ⟨_, _, Tryz.underlying23, rfl, rfl, ⟨by kernel_rfl, by kernel_rfl⟩, rfl⟩
theorem fl23_2 : Fld Tryz.prog 23 2 2 1 false := ⟨_, _, Tryz.underlying23, rfl, rfl, ⟨by kernel_rfl, by kernel_rfl⟩, rfl⟩
theorem fl23_3 : Fld Tryz.prog 23 3 3 1 false := ⟨_, _, Tryz.underlying23, rfl, rfl, ⟨by kernel_rfl, by kernel_rfl⟩, rfl⟩
theorem fl23_4 : Fld Tryz.prog 23 4 4 1 false := ⟨_, _, Tryz.underlying23, rfl, rfl, ⟨by kernel_rfl, by kernel_rfl⟩, rfl⟩
theorem fl23_5 : Fld Tryz.prog 23 5 5 1 false := ⟨_, _, Tryz.underlying23, rfl, rfl, ⟨by kernel_rfl, by kernel_rfl⟩, rfl⟩
theorem fl23_6 : Fld Tryz.prog 23 6 6 1 false := ⟨_, _, Tryz.underlying23, rfl, rfl, ⟨by kernel_rfl, by kernel_rfl⟩, rfl⟩
theorem fl39_0 : Fld Tryz.prog 39 0 0 1 false := ⟨_, _, Tryz.underlying39, rfl, rfl, ⟨by kernel_rfl, by kernel_rfl⟩, rfl⟩
theorem fl39_1 : Fld Tryz.prog 39 1 1 1 false := ⟨_, _, Tryz.underlying39, rfl, rfl, ⟨by kernel_rfl, by kernel_rfl⟩, rfl⟩
theorem fl45_0 : Fld Tryz.prog 45 0 0 1 false := ⟨_, _, Tryz.underlying45, rfl, rfl, ⟨by kernel_rfl, by kernel_rfl⟩, rfl⟩
theorem fl45_2 : Fld Tryz.prog 45 2 2 1 false := ⟨_, _, Tryz.underlying45, rfl, rfl, ⟨by kernel_rfl, by kernel_rfl⟩, rfl⟩
theorem fl45_3 : Fld Tryz.prog 45 3 3 1 false := ⟨_, _, Tryz.underlying45, rfl, rfl, ⟨by kernel_rfl, by kernel_rfl⟩, rfl⟩
theorem fl45_4 : Fld Tryz.prog 45 4 4 1 false := ⟨_, _, Tryz.underlying45, rfl, rfl, ⟨by kernel_rfl, by kernel_rfl⟩, rfl⟩
theorem fl45_5 : Fld Tryz.prog 45 5 5 2 true := ⟨_, _, Tryz.underlying45, rfl, rfl, ⟨by kernel_rfl, by kernel_rfl⟩, rfl⟩
theorem fl45_6 : Fld Tryz.prog 45 6 7 1 false := ⟨_, _, Tryz.underlying45, rfl, rfl, ⟨by kernel_rfl, by kernel_rfl⟩, rfl⟩
theorem fl45_7 : Fld Tryz.prog 45 7 8 1 false := ⟨_, _, Tryz.underlying45, rfl, rfl, ⟨by kernel_rfl, by kernel_rfl⟩, rfl⟩
theorem fl56_0 : Fld Tryz.prog 56 0 0 1 false := ⟨_, _, Tryz.underlying56, rfl, rfl, ⟨by kernel_rfl, by kernel_rfl⟩, rfl⟩
theorem fl56_2 : Fld Tryz.prog 56 2 2 1 false := ⟨_, _, Tryz.underlying56, rfl, rfl, ⟨by kernel_rfl, by kernel_rfl⟩, rfl⟩
theorem fl56_3 : Fld Tryz.prog 56 3 3 1 false := ⟨_, _, Tryz.underlying56, rfl, rfl, ⟨by kernel_rfl, by kernel_rfl⟩, rfl⟩
theorem fl62_0 : Fld Tryz.prog 62 0 0 1 false := ⟨_, _, Tryz.underlying62, rfl, rfl, ⟨by kernel_rfl, by kernel_rfl⟩, rfl⟩
theorem fl62_1 : Fld Tryz.prog 62 1 1 1 false := ⟨_, _, Tryz.underlying62, rfl, rfl, ⟨by kernel_rfl, by kernel_rfl⟩, rfl⟩
theorem fl62_10 : Fld Tryz.prog 62 10 11 1 false := ⟨_, _, Tryz.underlying62, rfl, rfl, ⟨by kernel_rfl, by kernel_rfl⟩, rfl⟩
theorem fl62_11 : Fld Tryz.prog 62 11 12 1 false := ⟨_, _, Tryz.underlying62, rfl, rfl, ⟨by kernel_rfl, by kernel_rfl⟩, rfl⟩
theorem fl62_2 : Fld Tryz.prog 62 2 2 1 false := ⟨_, _, Tryz.underlying62, rfl, rfl, ⟨by kernel_rfl, by kernel_rfl⟩, rfl⟩
theorem fl62_3 : Fld Tryz.prog 62 3 3 1 false := ⟨_, _, Tryz.underlying62, rfl, rfl, ⟨by kernel_rfl, by kernel_rfl⟩, rfl⟩
theorem fl62_4 : Fld Tryz.prog 62 4 4 1 false := ⟨_, _, Tryz.underlying62, rfl, rfl, ⟨by kernel_rfl, by kernel_rfl⟩, rfl⟩
theorem fl62_5 : Fld Tryz.prog 62 5 5 1 false := ⟨_, _, Tryz.underlying62, rfl, rfl, ⟨by kernel_rfl, by kernel_rfl⟩, rfl⟩
theorem fl62_6 : Fld Tryz.prog 62 6 6 2 true := ⟨_, _, Tryz.underlying62, rfl, rfl, ⟨by kernel_rfl, by kernel_rfl⟩, rfl⟩
theorem fl62_7 : Fld Tryz.prog 62 7 8 1 false := ⟨_, _, Tryz.underlying62, rfl, rfl, ⟨by kernel_rfl, by kernel_rfl⟩, rfl⟩
theorem fl62_8 : Fld Tryz.prog 62 8 9 1 false := ⟨_, _, Tryz.underlying62, rfl, rfl, ⟨by kernel_rfl, by kernel_rfl⟩, rfl⟩
theorem fl62_9 : Fld Tryz.prog 62 9 10 1 false := ⟨_, _, Tryz.underlying62, rfl, rfl, ⟨by kernel_rfl, by kernel_rfl⟩, rfl⟩
theorem fl65_0 : Fld Tryz.prog 65 0 0 1 false := ⟨_, _, Tryz.underlying65, rfl, rfl, ⟨by kernel_rfl, by kernel_rfl⟩, rfl⟩
theorem fl65_1 : Fld Tryz.prog 65 1 1 1 false := ⟨_, _, Tryz.underlying65, rfl, rfl, ⟨by kernel_rfl, by kernel_rfl⟩, rfl⟩
theorem fl65_2 : Fld Tryz.prog 65 2 2 1 false := ⟨_, _, Tryz.underlying65, rfl, rfl, ⟨by kernel_rfl, by kernel_rfl⟩, rfl⟩
theorem fl65_3 : Fld Tryz.prog 65 3 3 2 true := ⟨_, _, Tryz.underlying65, rfl, rfl, ⟨by kernel_rfl, by kernel_rfl⟩, rfl⟩
theorem fl65_4 : Fld Tryz.prog 65 4 5 1 false := ⟨_, _, Tryz.underlying65, rfl, rfl, ⟨by kernel_rfl, by kernel_rfl⟩, rfl⟩
theorem fl65_5 : Fld Tryz.prog 65 5 6 1 false := ⟨_, _, Tryz.underlying65, rfl, rfl, ⟨by kernel_rfl, by kernel_rfl⟩, rfl⟩
theorem fl84_0 : Fld Tryz.prog 84 0 0 7 true := ⟨_, _, Tryz.underlying84, rfl, rfl, ⟨by kernel_rfl, by kernel_rfl⟩, rfl⟩
theorem fl84_1 : Fld Tryz.prog 84 1 7 1 false := ⟨_, _, Tryz.underlying84, rfl, rfl, ⟨by kernel_rfl, by kernel_rfl⟩, rfl⟩
theorem fl84_3 : Fld Tryz.prog 84 3 9 1 false := ⟨_, _, Tryz.underlying84, rfl, rfl, ⟨by kernel_rfl, by kernel_rfl⟩, rfl⟩
theorem fl84_4 : Fld Tryz.prog 84 4 10 1 false := ⟨_, _, Tryz.underlying84, rfl, rfl, ⟨by kernel_rfl, by kernel_rfl⟩, rfl⟩
theorem fl84_5 : Fld Tryz.prog 84 5 11 1 false := ⟨_, _, Tryz.underlying84, rfl, rfl, ⟨by kernel_rfl, by kernel_rfl⟩, rfl⟩
theorem kf10 : IsFn Tryz.prog 10 := ⟨_, Tryz.func10, by kernel_rfl, by kernel_rfl⟩
theorem kf100 : IsFn Tryz.prog 100 := ⟨_, Tryz.func100, by kernel_rfl, by kernel_rfl⟩
theorem kf11 : IsFn Tryz.prog 11 := ⟨_, Tryz.func11, by kernel_rfl, by kernel_rfl⟩
theorem kf114 : IsFn Tryz.prog 114 := ⟨_, Tryz.func114, by kernel_rfl, by kernel_rfl⟩
theorem kf13 : IsFn Tryz.prog 13 := ⟨_, Tryz.func13, by kernel_rfl, by kernel_rfl⟩
theorem kf133 : IsFn Tryz.prog 133 := ⟨_, Tryz.func133, by kernel_rfl, by kernel_rfl⟩
theorem kf134 : IsFn Tryz.prog 134 := ⟨_, Tryz.func134, by kernel_rfl, by kernel_rfl⟩
theorem kf152 : IsFn Tryz.prog 152 := ⟨_, Tryz.func152, by kernel_rfl, by kernel_rfl⟩
theorem kf153 : IsFn Tryz.prog 153 := ⟨_, Tryz.func153, by kernel_rfl, by kernel_rfl⟩
theorem kf169 : IsFn Tryz.prog 169 := ⟨_, Tryz.func169, by kernel_rfl, by kernel_rfl⟩
theorem kf17 : IsFn Tryz.prog 17 := ⟨_, Tryz.func17, by kernel_rfl, by kernel_rfl⟩
theorem kf19 : IsFn Tryz.prog 19 := ⟨_, Tryz.func19, by kernel_rfl, by kernel_rfl⟩
theorem kf20 : IsFn Tryz.prog 20 := ⟨_, Tryz.func20, by kernel_rfl, by kernel_rfl⟩
theorem kf22 : IsFn Tryz.prog 22 := ⟨_, Tryz.func22, by kernel_rfl, by kernel_rfl⟩
theorem kf23 : IsFn Tryz.prog 23 := ⟨_, Tryz.func23, by kernel_rfl, by kernel_rfl⟩
theorem kf24 : IsFn Tryz.prog 24 := ⟨_, Tryz.func24, by kernel_rfl, by kernel_rfl⟩
theorem kf25 : IsFn Tryz.prog 25 := ⟨_, Tryz.func25, by kernel_rfl, by kernel_rfl⟩
theorem kf26 : IsFn Tryz.prog 26 := ⟨_, Tryz.func26, by kernel_rfl, by kernel_rfl⟩
theorem kf27 : IsFn Tryz.prog 27 := ⟨_, Tryz.func27, by kernel_rfl, by kernel_rfl⟩
theorem kf28 : IsFn Tryz.prog 28 := ⟨_, Tryz.func28, by kernel_rfl, by kernel_rfl⟩
theorem kf31 : IsFn Tryz.prog 31 := ⟨_, Tryz.func31, by kernel_rfl, by kernel_rfl⟩
theorem kf32 : IsFn Tryz.prog 32 := ⟨_, Tryz.func32, by kernel_rfl, by kernel_rfl⟩
theorem kf33 : IsFn Tryz.prog 33 := ⟨_, Tryz.func33, by kernel_rfl, by kernel_rfl⟩
theorem kf42 : IsFn Tryz.prog 42 := ⟨_, Tryz.func42, by kernel_rfl, by kernel_rfl⟩
theorem kf43 : IsFn Tryz.prog 43 := ⟨_, Tryz.func43, by kernel_rfl, by kernel_rfl⟩
theorem kf44 : IsFn Tryz.prog 44 := ⟨_, Tryz.func44, by kernel_rfl, by kernel_rfl⟩
theorem kf45 : IsFn Tryz.prog 45 := ⟨_, Tryz.func45, by kernel_rfl, by kernel_rfl⟩
theorem kf46 : IsFn Tryz.prog 46 := ⟨_, Tryz.func46, by kernel_rfl, by kernel_rfl⟩
theorem kf47 : IsFn Tryz.prog 47 := ⟨_, Tryz.func47, by kernel_rfl, by kernel_rfl⟩
theorem kf48 : IsFn Tryz.prog 48 := ⟨_, Tryz.func48, by kernel_rfl, by kernel_rfl⟩
theorem kf49 : IsFn Tryz.prog 49 := ⟨_, Tryz.func49, by kernel_rfl, by kernel_rfl⟩
theorem kf50 : IsFn Tryz.prog 50 := ⟨_, Tryz.func50, by kernel_rfl, by kernel_rfl⟩
theorem kf51 : IsFn Tryz.prog 51 := ⟨_, Tryz.func51, by kernel_rfl, by kernel_rfl⟩
theorem kf52 : IsFn Tryz.prog 52 := ⟨_, Tryz.func52, by kernel_rfl, by kernel_rfl⟩
theorem kf53 : IsFn Tryz.prog 53 := ⟨_, Tryz.func53, by kernel_rfl, by kernel_rfl⟩
theorem kf64 : IsFn Tryz.prog 64 := ⟨_, Tryz.func64, by kernel_rfl, by kernel_rfl⟩
theorem kf66 : IsFn Tryz.prog 66 := ⟨_, Tryz.func66, by kernel_rfl, by kernel_rfl⟩
theorem kf69 : IsFn Tryz.prog 69 := ⟨_, Tryz.func69, by kernel_rfl, by kernel_rfl⟩
theorem kf92 : IsFn Tryz.prog 92 := ⟨_, Tryz.func92, by kernel_rfl, by kernel_rfl⟩
theorem kf93 : IsFn Tryz.prog 93 := ⟨_, Tryz.func93, by kernel_rfl, by kernel_rfl⟩
theorem kf94 : IsFn Tryz.prog 94 := ⟨_, Tryz.func94, by kernel_rfl, by kernel_rfl⟩
theorem kf95 : IsFn Tryz.prog 95 := ⟨_, Tryz.func95, by kernel_rfl, by kernel_rfl⟩
theorem kf96 : IsFn Tryz.prog 96 := ⟨_, Tryz.func96, by kernel_rfl, by kernel_rfl⟩
theorem kf97 : IsFn Tryz.prog 97 := ⟨_, Tryz.func97, by kernel_rfl, by kernel_rfl⟩
theorem kf98 : IsFn Tryz.prog 98 := ⟨_, Tryz.func98, by kernel_rfl, by kernel_rfl⟩
theorem kf99 : IsFn Tryz.prog 99 := ⟨_, Tryz.func99, by kernel_rfl, by kernel_rfl⟩
theorem kt3 : KeyT Tryz.prog 3 kI ieq := keyT_int Tryz.underlying3
theorem ts127 : TyS Tryz.prog 127 3 true := ⟨by kernel_rfl, by kernel_rfl⟩
theorem ts128 : TyS Tryz.prog 128 27 true := ⟨by kernel_rfl, by kernel_rfl⟩
theorem ts23 : TyS Tryz.prog 23 7 true := ⟨by kernel_rfl, by kernel_rfl⟩
theorem ts26 : TyS Tryz.prog 26 1 false := ⟨by kernel_rfl, by kernel_rfl⟩
theorem ts3 : TyS Tryz.prog 3 1 false := ⟨by kernel_rfl, by kernel_rfl⟩
theorem ts39 : TyS Tryz.prog 39 2 true := ⟨by kernel_rfl, by kernel_rfl⟩
theorem ts4 : TyS Tryz.prog 4 1 false := ⟨by kernel_rfl, by kernel_rfl⟩
theorem ts40 : TyS Tryz.prog 40 1 false := ⟨by kernel_rfl, by kernel_rfl⟩
theorem ts45 : TyS Tryz.prog 45 28 true := ⟨by kernel_rfl, by kernel_rfl⟩
theorem ts53 : TyS Tryz.prog 53 1 false := ⟨by kernel_rfl, by kernel_rfl⟩
theorem ts54 : TyS Tryz.prog 54 1 false := ⟨by kernel_rfl, by kernel_rfl⟩
theorem ts56 : TyS Tryz.prog 56 4 true := ⟨by kernel_rfl, by kernel_rfl⟩
theorem ts59 : TyS Tryz.prog 59 1 false := ⟨by kernel_rfl, by kernel_rfl⟩
theorem ts60 : TyS Tryz.prog 60 1 false := ⟨by kernel_rfl, by kernel_rfl⟩
theorem ts62 : TyS Tryz.prog 62 13 true := ⟨by kernel_rfl, by kernel_rfl⟩
theorem ts65 : TyS Tryz.prog 65 7 true := ⟨by kernel_rfl, by kernel_rfl⟩
theorem ts79 : TyS Tryz.prog 79 1 false := ⟨by kernel_rfl, by kernel_rfl⟩
theorem ts82 : TyS Tryz.prog 82 1 false := ⟨by kernel_rfl, by kernel_rfl⟩
theorem ze104 : ZeroT Tryz.prog 104 (AG 5 (iv (fun _ => 0))) := by unfold ZeroT; kernel_rfl
theorem ze127 : ZeroT Tryz.prog 127 (AG 3 (mv (kS [2]) (fun _ => 0))) := by unfold ZeroT; kernel_rfl
theorem ze130 : ZeroT Tryz.prog 130 (AG 28 (mv (kPA 1 3 (kS [2])) (fun _ => 0))) := by unfold ZeroT; kernel_rfl
theorem ze23 : ZeroT Tryz.prog 23 (AG 7 (mv (kS [1]) (fun _ => 0))) := by unfold ZeroT; kernel_rfl
theorem ze3 : ZeroT Tryz.prog 3 (.int .i64 0) := by unfold ZeroT; kernel_rfl
theorem ze39 : ZeroT Tryz.prog 39 (AG 2 (iv (fun _ => 0))) := by unfold ZeroT; kernel_rfl
theorem ze45 : ZeroT Tryz.prog 45 (AG 28 (iv (fun _ => 0))) := by unfold ZeroT; kernel_rfl
theorem ze56 : ZeroT Tryz.prog 56 (AG 4 (fun i => ([.int .i64 0, .int .i64 0, .slice none 0 0, .slice none 0 0] : List Value).getD i undef)) := by unfold ZeroT; kernel_rfl
theorem ze62 : ZeroT Tryz.prog 62 (AG 13 (fun i => ([.int .i64 0, .int .i64 0, .int .i64 0, .int .i64 0, .bool false, .int .i64 0, .int .i64 0, .int .i64 0, .int .i64 0, .slice none 0 0, .slice none 0 0, .slice none 0 0, .slice none 0 0] : List Value).getD i undef)) := by unfold ZeroT; kernel_rfl
theorem ze65 : ZeroT Tryz.prog 65 (AG 7 (iv (fun _ => 0))) := by unfold ZeroT; kernel_rfl
theorem ze84 : ZeroT Tryz.prog 84 (AG 12 (fun i => ([.int .i64 0, .bool false, .int .i64 0, .int .i64 0, .int .i64 0, .int .i64 0, .int .i64 0, .pointer none, .int .i64 0, .int .i64 0, .map none, .slice none 0 0] : List Value).getD i undef)) := by unfold ZeroT; kernel_rfl
structure nT62 (A : GH) (t : (Int × Int × Int × Int × Bool × Int × (Nat → Int) × Int × (List Int) × (List Int) × (List Int) × (List (Nat → Int)))) (f : Nat → Value) : Prop where
  c0 : f 0 = .int .i64 t.1
  c1 : f 1 = .int .i64 t.2.1
  c2 : f 2 = .int .i64 t.2.2.1
  c3 : f 3 = .int .i64 t.2.2.2.1
  c4 : f 4 = .bool (t.2.2.2.2.1)
  c5 : f 5 = .int .i64 t.2.2.2.2.2.1
  c6 : f 6 = .int .i64 (t.2.2.2.2.2.2.1 0)
  c7 : f 7 = .int .i64 (t.2.2.2.2.2.2.1 1)
  c8 : f 8 = .int .i64 t.2.2.2.2.2.2.2.1
  s9 : OJ 3 1 ic A (f 9) t.2.2.2.2.2.2.2.2.1
  s10 : OJ 3 1 ic A (f 10) t.2.2.2.2.2.2.2.2.2.1
  s11 : OJ 3 1 ic A (f 11) t.2.2.2.2.2.2.2.2.2.2.1
  s12 : OJ 104 5 iv A (f 12) t.2.2.2.2.2.2.2.2.2.2.2
theorem nT62.mono : MonoR nT62 := fun _ _ _ _ hs h => { h with s9 := h.s9.mono hs, s10 := h.s10.mono hs, s11 := h.s11.mono hs, s12 := h.s12.mono hs }
theorem nT62.all {A : GH} {t : (Int × Int × Int × Int × Bool × Int × (Nat → Int) × Int × (List Int) × (List Int) × (List Int) × (List (Nat → Int)))} {f : Nat → Value} (h : nT62 A t f) : ∀ i, i < 13 → f i = cl [.int .i64 t.1, .int .i64 t.2.1, .int .i64 t.2.2.1, .int .i64 t.2.2.2.1, .bool (t.2.2.2.2.1), .int .i64 t.2.2.2.2.2.1, .int .i64 (t.2.2.2.2.2.2.1 0), .int .i64 (t.2.2.2.2.2.2.1 1), .int .i64 t.2.2.2.2.2.2.2.1, f 9, f 10, f 11, f 12] i := M13 h.c0 h.c1 h.c2 h.c3 h.c4 h.c5 h.c6 h.c7 h.c8 rfl rfl rfl rfl
def nZ62 : Nat → Value := cl [.int .i64 0, .int .i64 0, .int .i64 0, .int .i64 0, .bool false, .int .i64 0, .int .i64 0, .int .i64 0, .int .i64 0, .slice none 0 0, .slice none 0 0, .slice none 0 0, .slice none 0 0]
theorem nT62.zero : nT62 [] (0, 0, 0, 0, false, 0, (fun _ => 0), 0, [], [], [], []) nZ62 := ⟨rfl, rfl, rfl, rfl, rfl, rfl, rfl, rfl, rfl, OJ.nil, OJ.nil, OJ.nil, OJ.nil⟩
end Go.Proofs.YtljklmlodfbdnaaGreat
