/- Where the sort of the library, and the keys of maps, lie in the program. -/
import Derived.Test.YtfpilngnhkcgjaaRows
import Derived.Test.YtfpilngnhkcgjaaE19
namespace Go.Proofs.Ytfpilngnhkcgjaa
open Go Go.E Go.Shelf
set_option maxRecDepth 100000
def renO : Ren := ⟨fun x => match x with | 5 => 25 | 7 => 30 | 8 => 31 | 10 => 32 | 11 => 33 | 12 => 34 | 13 => 35 | 14 => 36 | 15 => 37 | 16 => 38 | 17 => 39 | 18 => 40 | 19 => 41 | 20 => 42 | 30 => 43 | 31 => 44 | 32 => 45 | 33 => 46 | 34 => 47 | 35 => 48 | 40 => 49 | n => n, fun x => match x with | 0 => 0 | 3 => 3 | 4 => 4 | 5 => 5 | 9 => 9 | 22 => 31 | 23 => 31 | 25 => 3 | 32 => 73 | 35 => 86 | 36 => 87 | 41 => 59 | 44 => 23 | 46 => 94 | 53 => 95 | 57 => 99 | 63 => 101 | 64 => 102 | n => n, fun x => x⟩
theorem layO : SlLaysM.n5 Try.prog renO where
  mixed := by kernel_rfl
  f5 := ⟨Try.f25.name, by kernel_rfl, Try.func25.trans (congrArg some (by kernel_rfl))⟩
  f7 := ⟨Try.f30.name, by kernel_rfl, Try.func30.trans (congrArg some (by kernel_rfl))⟩
  f8 := Try.func31.trans (congrArg some (by kernel_rfl))
  f10 := ⟨Try.f32.name, by kernel_rfl, Try.func32.trans (congrArg some (by kernel_rfl))⟩
  f11 := ⟨Try.f33.name, by kernel_rfl, Try.func33.trans (congrArg some (by kernel_rfl))⟩
  f12 := ⟨Try.f34.name, by kernel_rfl, Try.func34.trans (congrArg some (by kernel_rfl))⟩
  f13 := ⟨Try.f35.name, by kernel_rfl, Try.func35.trans (congrArg some (by kernel_rfl))⟩
  f14 := ⟨Try.f36.name, by kernel_rfl, Try.func36.trans (congrArg some (by kernel_rfl))⟩
  f15 := ⟨Try.f37.name, by kernel_rfl, Try.func37.trans (congrArg some (by kernel_rfl))⟩
  f16 := ⟨Try.f38.name, by kernel_rfl, Try.func38.trans (congrArg some (by kernel_rfl))⟩
  f17 := ⟨Try.f39.name, by kernel_rfl, Try.func39.trans (congrArg some (by kernel_rfl))⟩
  f18 := ⟨Try.f40.name, by kernel_rfl, Try.func40.trans (congrArg some (by kernel_rfl))⟩
  f19 := Try.func41.trans (congrArg some (by kernel_rfl))
  f20 := Try.func42.trans (congrArg some (by kernel_rfl))
  f30 := ⟨Try.f43.name, by kernel_rfl, Try.func43.trans (congrArg some (by kernel_rfl))⟩
  f31 := Try.func44.trans (congrArg some (by kernel_rfl))
  f32 := Try.func45.trans (congrArg some (by kernel_rfl))
  f33 := ⟨Try.f46.name, by kernel_rfl, Try.func46.trans (congrArg some (by kernel_rfl))⟩
  f34 := ⟨Try.f47.name, by kernel_rfl, Try.func47.trans (congrArg some (by kernel_rfl))⟩
  f35 := ⟨Try.f48.name, by kernel_rfl, Try.func48.trans (congrArg some (by kernel_rfl))⟩
  f40 := ⟨Try.f49.name, by kernel_rfl, Try.func49.trans (congrArg some (by kernel_rfl))⟩
  t0 := Try.underlying0
  a0 := Try.isAgg0
  z0 := Try.sizeOf0
  v0 := Try.zeroValue0
  t3 := Try.underlying3
  a3 := Try.isAgg3
  z3 := Try.sizeOf3
  v3 := Try.zeroValue3
  t4 := Try.underlying4
  a4 := Try.isAgg4
  z4 := Try.sizeOf4
  v4 := Try.zeroValue4
  t5 := Try.underlying5
  a5 := Try.isAgg5
  z5 := Try.sizeOf5
  v5 := Try.zeroValue5
  t9 := Try.underlying9
  a9 := Try.isAgg9
  z9 := Try.sizeOf9
  v9 := Try.zeroValue9
  t22 := Try.underlying31
  a22 := Try.isAgg31
  z22 := Try.sizeOf31
  v22 := Try.zeroValue31
  t23 := Try.underlying31
  a23 := Try.isAgg31
  z23 := Try.sizeOf31
  v23 := Try.zeroValue31
  t25 := Try.underlying3
  a25 := Try.isAgg3
  z25 := Try.sizeOf3
  v25 := Try.zeroValue3
  t32 := Try.underlying73
  a32 := Try.isAgg73
  z32 := Try.sizeOf73
  v32 := Try.zeroValue73
  t35 := Try.underlying86
  a35 := Try.isAgg86
  z35 := Try.sizeOf86
  v35 := Try.zeroValue86
  t36 := Try.underlying87
  a36 := Try.isAgg87
  z36 := Try.sizeOf87
  v36 := Try.zeroValue87
  t41 := Try.underlying59
  a41 := Try.isAgg59
  z41 := Try.sizeOf59
  v41 := Try.zeroValue59
  t44 := Try.underlying23
  a44 := Try.isAgg23
  z44 := Try.sizeOf23
  v44 := Try.zeroValue23
  t46 := Try.underlying94
  a46 := Try.isAgg94
  z46 := Try.sizeOf94
  v46 := Try.zeroValue94
  t53 := Try.underlying95
  a53 := Try.isAgg95
  z53 := Try.sizeOf95
  v53 := Try.zeroValue95
  t57 := Try.underlying99
  a57 := Try.isAgg99
  z57 := Try.sizeOf99
  v57 := Try.zeroValue99
  t63 := Try.underlying101
  a63 := Try.isAgg101
  z63 := Try.sizeOf101
  v63 := Try.zeroValue101
  t64 := Try.underlying102
  a64 := Try.isAgg102
  z64 := Try.sizeOf102
  v64 := Try.zeroValue102
theorem enO : Enters Try.prog 25 := enters_of Try.func25 (by kernel_rfl) rfl
def ren26 : Ren := ⟨fun x => match x with | 6 => 20 | 7 => 21 | 8 => 24 | 9 => 25 | 10 => 26 | 11 => 29 | n => n, fun x => match x with | 0 => 0 | 3 => 3 | 4 => 4 | 23 => 55 | 24 => 31 | 26 => 3 | 27 => 61 | 28 => 62 | 33 => 58 | n => n, fun x => x⟩
theorem layK26 : SlLaysZI.n10 Try.prog ren26 where
  mixed := by kernel_rfl
  f10 := ⟨Try.f26.name, by kernel_rfl, Try.func26.trans (congrArg some (by kernel_rfl))⟩
  t0 := Try.underlying0
  a0 := Try.isAgg0
  z0 := Try.sizeOf0
  v0 := Try.zeroValue0
  t4 := Try.underlying4
  a4 := Try.isAgg4
  z4 := Try.sizeOf4
  v4 := Try.zeroValue4
  t23 := Try.underlying55
  a23 := Try.isAgg55
  z23 := Try.sizeOf55
  v23 := Try.zeroValue55
  t26 := Try.underlying3
  a26 := Try.isAgg3
  z26 := Try.sizeOf3
  v26 := Try.zeroValue3
  t33 := Try.underlying58
  a33 := Try.isAgg58
  z33 := Try.sizeOf58
  v33 := Try.zeroValue58
theorem layS26 : SlLaysZI.n6 Try.prog ren26 where
  mixed := by kernel_rfl
  f6 := ⟨Try.f20.name, by kernel_rfl, Try.func20.trans (congrArg some (by kernel_rfl))⟩
  f8 := ⟨Try.f24.name, by kernel_rfl, Try.func24.trans (congrArg some (by kernel_rfl))⟩
  f11 := ⟨Try.f29.name, by kernel_rfl, Try.func29.trans (congrArg some (by kernel_rfl))⟩
  t0 := Try.underlying0
  a0 := Try.isAgg0
  z0 := Try.sizeOf0
  v0 := Try.zeroValue0
  t24 := Try.underlying31
  a24 := Try.isAgg31
  z24 := Try.sizeOf31
  v24 := Try.zeroValue31
  t26 := Try.underlying3
  a26 := Try.isAgg3
  z26 := Try.sizeOf3
  v26 := Try.zeroValue3
  t28 := Try.underlying62
  a28 := Try.isAgg62
  z28 := Try.sizeOf62
  v28 := Try.zeroValue62
  i26 := by kernel_rfl
theorem sk26_c {α : Type} {cv : α → Value} {w : World} {Bm : Nat} {T : TypeId} {v : Value} {B : GH} {d : List (Int × α)} (hm : w.heap[Bm]? = some (BK 1 (fun _ => v) T)) (hJ : MJ kI cv ieq B v d) (hB : ∀ x ∈ B, w.heap[x.1]? = some x.2) (hP : skeysP d) :
    Con Try.prog 20 #[.func (.func 26) [].toArray [.pointer (some ⟨Bm, 0, none⟩)].toArray] w (fun v F => ∃ (u : Value) (C : GH), v = u ∧ F = (C ++ []) ∧ OJ 3 1 ic C u (skeys d) ∧ Cov w [] C) :=
  con_sortedKeysJ layK26 layS26 layO rfl enO (enters_of Try.func26 (by kernel_rfl) rfl) hm hJ hB hP
end Go.Proofs.Ytfpilngnhkcgjaa
