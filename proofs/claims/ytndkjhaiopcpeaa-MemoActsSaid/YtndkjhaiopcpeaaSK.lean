/- Where the sort of the library, and the keys of maps, lie in the program. -/
import Derived.Test.YtndkjhaiopcpeaaRows
import Derived.Test.YtndkjhaiopcpeaaE19
namespace Go.Proofs.Ytndkjhaiopcpeaa
open Go Go.E Go.Shelf
set_option maxRecDepth 100000
def renO : Ren := ⟨fun x => match x with | 5 => 33 | 7 => 38 | 8 => 39 | 10 => 45 | 11 => 46 | 12 => 47 | 13 => 48 | 14 => 49 | 15 => 50 | 16 => 51 | 17 => 52 | 18 => 53 | 19 => 54 | 20 => 55 | 30 => 56 | 31 => 57 | 32 => 58 | 33 => 59 | 34 => 60 | 35 => 61 | 40 => 62 | n => n, fun x => match x with | 0 => 0 | 3 => 3 | 4 => 4 | 5 => 5 | 9 => 9 | 22 => 57 | 23 => 57 | 25 => 3 | 32 => 102 | 35 => 105 | 36 => 106 | 41 => 111 | 44 => 114 | 46 => 116 | 53 => 117 | 57 => 121 | 63 => 123 | 64 => 124 | n => n, fun x => x⟩
theorem layO : SlLaysM.n5 Try.prog renO where
  mixed := by kernel_rfl
  f5 := ⟨Try.f33.name, by kernel_rfl, Try.func33.trans (congrArg some (by kernel_rfl))⟩
  f7 := ⟨Try.f38.name, by kernel_rfl, Try.func38.trans (congrArg some (by kernel_rfl))⟩
  f8 := Try.func39.trans (congrArg some (by kernel_rfl))
  f10 := ⟨Try.f45.name, by kernel_rfl, Try.func45.trans (congrArg some (by kernel_rfl))⟩
  f11 := ⟨Try.f46.name, by kernel_rfl, Try.func46.trans (congrArg some (by kernel_rfl))⟩
  f12 := ⟨Try.f47.name, by kernel_rfl, Try.func47.trans (congrArg some (by kernel_rfl))⟩
  f13 := ⟨Try.f48.name, by kernel_rfl, Try.func48.trans (congrArg some (by kernel_rfl))⟩
  f14 := ⟨Try.f49.name, by kernel_rfl, Try.func49.trans (congrArg some (by kernel_rfl))⟩
  f15 := ⟨Try.f50.name, by kernel_rfl, Try.func50.trans (congrArg some (by kernel_rfl))⟩
  f16 := ⟨Try.f51.name, by kernel_rfl, Try.func51.trans (congrArg some (by kernel_rfl))⟩
  f17 := ⟨Try.f52.name, by kernel_rfl, Try.func52.trans (congrArg some (by kernel_rfl))⟩
  f18 := ⟨Try.f53.name, by kernel_rfl, Try.func53.trans (congrArg some (by kernel_rfl))⟩
  f19 := Try.func54.trans (congrArg some (by kernel_rfl))
  f20 := Try.func55.trans (congrArg some (by kernel_rfl))
  f30 := ⟨Try.f56.name, by kernel_rfl, Try.func56.trans (congrArg some (by kernel_rfl))⟩
  f31 := Try.func57.trans (congrArg some (by kernel_rfl))
  f32 := Try.func58.trans (congrArg some (by kernel_rfl))
  f33 := ⟨Try.f59.name, by kernel_rfl, Try.func59.trans (congrArg some (by kernel_rfl))⟩
  f34 := ⟨Try.f60.name, by kernel_rfl, Try.func60.trans (congrArg some (by kernel_rfl))⟩
  f35 := ⟨Try.f61.name, by kernel_rfl, Try.func61.trans (congrArg some (by kernel_rfl))⟩
  f40 := ⟨Try.f62.name, by kernel_rfl, Try.func62.trans (congrArg some (by kernel_rfl))⟩
  t0 := Try.underlying0
  a0 := Try.isAgg0
  z0 := Try.sizeOf0
  v0 := Try.zeroValue0
  t3 := Try.underlying3
  a3 := Try.isAgg3
  z3 := Try.sizeOf3
  v3 := Try.zeroValue3
  t4 := Try.underlying4
  a4 := Try.isAgg4
  z4 := Try.sizeOf4
  v4 := Try.zeroValue4
  t5 := Try.underlying5
  a5 := Try.isAgg5
  z5 := Try.sizeOf5
  v5 := Try.zeroValue5
  t9 := Try.underlying9
  a9 := Try.isAgg9
  z9 := Try.sizeOf9
  v9 := Try.zeroValue9
  t22 := Try.underlying57
  a22 := Try.isAgg57
  z22 := Try.sizeOf57
  v22 := Try.zeroValue57
  t23 := Try.underlying57
  a23 := Try.isAgg57
  z23 := Try.sizeOf57
  v23 := Try.zeroValue57
  t25 := Try.underlying3
  a25 := Try.isAgg3
  z25 := Try.sizeOf3
  v25 := Try.zeroValue3
  t32 := Try.underlying102
  a32 := Try.isAgg102
  z32 := Try.sizeOf102
  v32 := Try.zeroValue102
  t35 := Try.underlying105
  a35 := Try.isAgg105
  z35 := Try.sizeOf105
  v35 := Try.zeroValue105
  t36 := Try.underlying106
  a36 := Try.isAgg106
  z36 := Try.sizeOf106
  v36 := Try.zeroValue106
  t41 := Try.underlying111
  a41 := Try.isAgg111
  z41 := Try.sizeOf111
  v41 := Try.zeroValue111
  t44 := Try.underlying114
  a44 := Try.isAgg114
  z44 := Try.sizeOf114
  v44 := Try.zeroValue114
  t46 := Try.underlying116
  a46 := Try.isAgg116
  z46 := Try.sizeOf116
  v46 := Try.zeroValue116
  t53 := Try.underlying117
  a53 := Try.isAgg117
  z53 := Try.sizeOf117
  v53 := Try.zeroValue117
  t57 := Try.underlying121
  a57 := Try.isAgg121
  z57 := Try.sizeOf121
  v57 := Try.zeroValue121
  t63 := Try.underlying123
  a63 := Try.isAgg123
  z63 := Try.sizeOf123
  v63 := Try.zeroValue123
  t64 := Try.underlying124
  a64 := Try.isAgg124
  z64 := Try.sizeOf124
  v64 := Try.zeroValue124
theorem enO : Enters Try.prog 33 := enters_of Try.func33 (by kernel_rfl) rfl
def ren34 : Ren := ⟨fun x => match x with | 6 => 25 | 7 => 26 | 8 => 32 | 9 => 33 | 10 => 34 | 11 => 37 | n => n, fun x => match x with | 0 => 0 | 3 => 70 | 4 => 4 | 23 => 65 | 24 => 57 | 26 => 3 | 27 => 76 | 28 => 77 | 33 => 83 | n => n, fun x => x⟩
theorem layK34 : SlLaysZI.n10 Try.prog ren34 where
  mixed := by kernel_rfl
  f10 := ⟨Try.f34.name, by kernel_rfl, Try.func34.trans (congrArg some (by kernel_rfl))⟩
  t0 := Try.underlying0
  a0 := Try.isAgg0
  z0 := Try.sizeOf0
  v0 := Try.zeroValue0
  t4 := Try.underlying4
  a4 := Try.isAgg4
  z4 := Try.sizeOf4
  v4 := Try.zeroValue4
  t23 := Try.underlying65
  a23 := Try.isAgg65
  z23 := Try.sizeOf65
  v23 := Try.zeroValue65
  t26 := Try.underlying3
  a26 := Try.isAgg3
  z26 := Try.sizeOf3
  v26 := Try.zeroValue3
  t33 := Try.underlying83
  a33 := Try.isAgg83
  z33 := Try.sizeOf83
  v33 := Try.zeroValue83
theorem layS34 : SlLaysZI.n6 Try.prog ren34 where
  mixed := by kernel_rfl
  f6 := ⟨Try.f25.name, by kernel_rfl, Try.func25.trans (congrArg some (by kernel_rfl))⟩
  f8 := ⟨Try.f32.name, by kernel_rfl, Try.func32.trans (congrArg some (by kernel_rfl))⟩
  f11 := ⟨Try.f37.name, by kernel_rfl, Try.func37.trans (congrArg some (by kernel_rfl))⟩
  t0 := Try.underlying0
  a0 := Try.isAgg0
  z0 := Try.sizeOf0
  v0 := Try.zeroValue0
  t24 := Try.underlying57
  a24 := Try.isAgg57
  z24 := Try.sizeOf57
  v24 := Try.zeroValue57
  t26 := Try.underlying3
  a26 := Try.isAgg3
  z26 := Try.sizeOf3
  v26 := Try.zeroValue3
  t28 := Try.underlying77
  a28 := Try.isAgg77
  z28 := Try.sizeOf77
  v28 := Try.zeroValue77
  i26 := by kernel_rfl
theorem sk34_c {α : Type} {cv : α → Value} {w : World} {Bm : Nat} {T : TypeId} {v : Value} {B : GH} {d : List (Int × α)} (hm : w.heap[Bm]? = some (BK 1 (fun _ => v) T)) (hJ : MJ kI cv ieq B v d) (hB : ∀ x ∈ B, w.heap[x.1]? = some x.2) (hP : skeysP d) :
    Con Try.prog 25 #[.func (.func 34) [].toArray [.pointer (some ⟨Bm, 0, none⟩)].toArray] w (fun v F => ∃ (u : Value) (C : GH), v = u ∧ F = (C ++ []) ∧ OJ 3 1 ic C u (skeys d) ∧ Cov w [] C) :=
  con_sortedKeysJ layK34 layS34 layO rfl enO (enters_of Try.func34 (by kernel_rfl) rfl) hm hJ hB hP
end Go.Proofs.Ytndkjhaiopcpeaa
