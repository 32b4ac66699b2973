/- Where the sort of the library, and the keys of maps, lie in the program. -/
import Derived.Test.YtcnbdkkmcdjncaaRows
import Derived.Test.YtcnbdkkmcdjncaaE19
namespace Go.Proofs.Ytcnbdkkmcdjncaa
open Go Go.E Go.Shelf
set_option maxRecDepth 100000
def renO : Ren := ⟨fun x => match x with | 5 => 33 | 7 => 40 | 8 => 41 | 10 => 43 | 11 => 44 | 12 => 45 | 13 => 46 | 14 => 47 | 15 => 48 | 16 => 49 | 17 => 50 | 18 => 51 | 19 => 52 | 20 => 53 | 30 => 54 | 31 => 55 | 32 => 56 | 33 => 57 | 34 => 58 | 35 => 59 | 40 => 60 | n => n, fun x => match x with | 0 => 0 | 3 => 3 | 4 => 4 | 5 => 5 | 9 => 9 | 22 => 38 | 23 => 38 | 25 => 3 | 32 => 71 | 35 => 73 | 36 => 74 | 41 => 34 | 44 => 81 | 46 => 83 | 53 => 84 | 57 => 88 | 63 => 90 | 64 => 91 | n => n, fun x => x⟩
theorem layO : SlLaysM.n5 Try.prog renO where
  mixed := by kernel_rfl
  f5 := ⟨Try.f33.name, by kernel_rfl, Try.func33.trans (congrArg some (by kernel_rfl))⟩
  f7 := ⟨Try.f40.name, by kernel_rfl, Try.func40.trans (congrArg some (by kernel_rfl))⟩
  f8 := Try.func41.trans (congrArg some (by kernel_rfl))
  f10 := ⟨Try.f43.name, by kernel_rfl, Try.func43.trans (congrArg some (by kernel_rfl))⟩
  f11 := ⟨Try.f44.name, by kernel_rfl, Try.func44.trans (congrArg some (by kernel_rfl))⟩
  f12 := ⟨Try.f45.name, by kernel_rfl, Try.func45.trans (congrArg some (by kernel_rfl))⟩
  f13 := ⟨Try.f46.name, by kernel_rfl, Try.func46.trans (congrArg some (by kernel_rfl))⟩
  f14 := ⟨Try.f47.name, by kernel_rfl, Try.func47.trans (congrArg some (by kernel_rfl))⟩
  f15 := ⟨Try.f48.name, by kernel_rfl, Try.func48.trans (congrArg some (by kernel_rfl))⟩
  f16 := ⟨Try.f49.name, by kernel_rfl, Try.func49.trans (congrArg some (by kernel_rfl))⟩
  f17 := ⟨Try.f50.name, by kernel_rfl, Try.func50.trans (congrArg some (by kernel_rfl))⟩
  f18 := ⟨Try.f51.name, by kernel_rfl, Try.func51.trans (congrArg some (by kernel_rfl))⟩
  f19 := Try.func52.trans (congrArg some (by kernel_rfl))
  f20 := Try.func53.trans (congrArg some (by kernel_rfl))
  f30 := ⟨Try.f54.name, by kernel_rfl, Try.func54.trans (congrArg some (by kernel_rfl))⟩
  f31 := Try.func55.trans (congrArg some (by kernel_rfl))
  f32 := Try.func56.trans (congrArg some (by kernel_rfl))
  f33 := ⟨Try.f57.name, by kernel_rfl, Try.func57.trans (congrArg some (by kernel_rfl))⟩
  f34 := ⟨Try.f58.name, by kernel_rfl, Try.func58.trans (congrArg some (by kernel_rfl))⟩
  f35 := ⟨Try.f59.name, by kernel_rfl, Try.func59.trans (congrArg some (by kernel_rfl))⟩
  f40 := ⟨Try.f60.name, by kernel_rfl, Try.func60.trans (congrArg some (by kernel_rfl))⟩
  t0 := Try.underlying0
  a0 := Try.isAgg0
  z0 := Try.sizeOf0
  v0 := Try.zeroValue0
  t3 := Try.underlying3
  a3 := Try.isAgg3
  z3 := Try.sizeOf3
  v3 := Try.zeroValue3
  t4 := Try.underlying4
  a4 := Try.isAgg4
  z4 := Try.sizeOf4
  v4 := Try.zeroValue4
  t5 := Try.underlying5
  a5 := Try.isAgg5
  z5 := Try.sizeOf5
  v5 := Try.zeroValue5
  t9 := Try.underlying9
  a9 := Try.isAgg9
  z9 := Try.sizeOf9
  v9 := Try.zeroValue9
  t22 := Try.underlying38
  a22 := Try.isAgg38
  z22 := Try.sizeOf38
  v22 := Try.zeroValue38
  t23 := Try.underlying38
  a23 := Try.isAgg38
  z23 := Try.sizeOf38
  v23 := Try.zeroValue38
  t25 := Try.underlying3
  a25 := Try.isAgg3
  z25 := Try.sizeOf3
  v25 := Try.zeroValue3
  t32 := Try.underlying71
  a32 := Try.isAgg71
  z32 := Try.sizeOf71
  v32 := Try.zeroValue71
  t35 := Try.underlying73
  a35 := Try.isAgg73
  z35 := Try.sizeOf73
  v35 := Try.zeroValue73
  t36 := Try.underlying74
  a36 := Try.isAgg74
  z36 := Try.sizeOf74
  v36 := Try.zeroValue74
  t41 := Try.underlying34
  a41 := Try.isAgg34
  z41 := Try.sizeOf34
  v41 := Try.zeroValue34
  t44 := Try.underlying81
  a44 := Try.isAgg81
  z44 := Try.sizeOf81
  v44 := Try.zeroValue81
  t46 := Try.underlying83
  a46 := Try.isAgg83
  z46 := Try.sizeOf83
  v46 := Try.zeroValue83
  t53 := Try.underlying84
  a53 := Try.isAgg84
  z53 := Try.sizeOf84
  v53 := Try.zeroValue84
  t57 := Try.underlying88
  a57 := Try.isAgg88
  z57 := Try.sizeOf88
  v57 := Try.zeroValue88
  t63 := Try.underlying90
  a63 := Try.isAgg90
  z63 := Try.sizeOf90
  v63 := Try.zeroValue90
  t64 := Try.underlying91
  a64 := Try.isAgg91
  z64 := Try.sizeOf91
  v64 := Try.zeroValue91
theorem enO : Enters Try.prog 33 := enters_of Try.func33 (by kernel_rfl) rfl
def ren34 : Ren := ⟨fun x => match x with | 6 => 18 | 7 => 19 | 8 => 32 | 9 => 33 | 10 => 34 | 11 => 39 | n => n, fun x => match x with | 0 => 0 | 3 => 3 | 4 => 4 | 23 => 45 | 24 => 38 | 26 => 3 | 27 => 48 | 28 => 49 | 33 => 53 | n => n, fun x => x⟩
theorem layK34 : SlLaysZI.n10 Try.prog ren34 where
  mixed := by kernel_rfl
  f10 := ⟨Try.f34.name, by kernel_rfl, Try.func34.trans (congrArg some (by kernel_rfl))⟩
  t0 := Try.underlying0
  a0 := Try.isAgg0
  z0 := Try.sizeOf0
  v0 := Try.zeroValue0
  t4 := Try.underlying4
  a4 := Try.isAgg4
  z4 := Try.sizeOf4
  v4 := Try.zeroValue4
  t23 := Try.underlying45
  a23 := Try.isAgg45
  z23 := Try.sizeOf45
  v23 := Try.zeroValue45
  t26 := Try.underlying3
  a26 := Try.isAgg3
  z26 := Try.sizeOf3
  v26 := Try.zeroValue3
  t33 := Try.underlying53
  a33 := Try.isAgg53
  z33 := Try.sizeOf53
  v33 := Try.zeroValue53
theorem layS34 : SlLaysZI.n6 Try.prog ren34 where
  mixed := by kernel_rfl
  f6 := ⟨Try.f18.name, by kernel_rfl, Try.func18.trans (congrArg some (by kernel_rfl))⟩
  f8 := ⟨Try.f32.name, by kernel_rfl, Try.func32.trans (congrArg some (by kernel_rfl))⟩
  f11 := ⟨Try.f39.name, by kernel_rfl, Try.func39.trans (congrArg some (by kernel_rfl))⟩
  t0 := Try.underlying0
  a0 := Try.isAgg0
  z0 := Try.sizeOf0
  v0 := Try.zeroValue0
  t24 := Try.underlying38
  a24 := Try.isAgg38
  z24 := Try.sizeOf38
  v24 := Try.zeroValue38
  t26 := Try.underlying3
  a26 := Try.isAgg3
  z26 := Try.sizeOf3
  v26 := Try.zeroValue3
  t28 := Try.underlying49
  a28 := Try.isAgg49
  z28 := Try.sizeOf49
  v28 := Try.zeroValue49
  i26 := by kernel_rfl
theorem sk34_c {α : Type} {cv : α → Value} {w : World} {Bm : Nat} {T : TypeId} {v : Value} {B : GH} {d : List (Int × α)} (hm : w.heap[Bm]? = some (BK 1 (fun _ => v) T)) (hJ : MJ kI cv ieq B v d) (hB : ∀ x ∈ B, w.heap[x.1]? = some x.2) (hP : skeysP d) :
    Con Try.prog 18 #[.func (.func 34) [].toArray [.pointer (some ⟨Bm, 0, none⟩)].toArray] w (fun v F => ∃ (u : Value) (C : GH), v = u ∧ F = (C ++ []) ∧ OJ 3 1 ic C u (skeys d) ∧ Cov w [] C) :=
  con_sortedKeysJ layK34 layS34 layO rfl enO (enters_of Try.func34 (by kernel_rfl) rfl) hm hJ hB hP
def ren42 : Ren := ⟨fun x => match x with | 6 => 18 | 7 => 36 | 8 => 32 | 9 => 33 | 10 => 42 | 11 => 39 | n => n, fun x => match x with | 0 => 0 | 3 => 4 | 4 => 4 | 23 => 64 | 24 => 38 | 26 => 3 | 27 => 48 | 28 => 49 | 33 => 53 | n => n, fun x => x⟩
theorem layK42 : SlLaysZI.n10 Try.prog ren42 where
  mixed := by kernel_rfl
  f10 := ⟨Try.f42.name, by kernel_rfl, Try.func42.trans (congrArg some (by kernel_rfl))⟩
  t0 := Try.underlying0
  a0 := Try.isAgg0
  z0 := Try.sizeOf0
  v0 := Try.zeroValue0
  t4 := Try.underlying4
  a4 := Try.isAgg4
  z4 := Try.sizeOf4
  v4 := Try.zeroValue4
  t23 := Try.underlying64
  a23 := Try.isAgg64
  z23 := Try.sizeOf64
  v23 := Try.zeroValue64
  t26 := Try.underlying3
  a26 := Try.isAgg3
  z26 := Try.sizeOf3
  v26 := Try.zeroValue3
  t33 := Try.underlying53
  a33 := Try.isAgg53
  z33 := Try.sizeOf53
  v33 := Try.zeroValue53
theorem layS42 : SlLaysZI.n6 Try.prog ren42 where
  mixed := by kernel_rfl
  f6 := ⟨Try.f18.name, by kernel_rfl, Try.func18.trans (congrArg some (by kernel_rfl))⟩
  f8 := ⟨Try.f32.name, by kernel_rfl, Try.func32.trans (congrArg some (by kernel_rfl))⟩
  f11 := ⟨Try.f39.name, by kernel_rfl, Try.func39.trans (congrArg some (by kernel_rfl))⟩
  t0 := Try.underlying0
  a0 := Try.isAgg0
  z0 := Try.sizeOf0
  v0 := Try.zeroValue0
  t24 := Try.underlying38
  a24 := Try.isAgg38
  z24 := Try.sizeOf38
  v24 := Try.zeroValue38
  t26 := Try.underlying3
  a26 := Try.isAgg3
  z26 := Try.sizeOf3
  v26 := Try.zeroValue3
  t28 := Try.underlying49
  a28 := Try.isAgg49
  z28 := Try.sizeOf49
  v28 := Try.zeroValue49
  i26 := by kernel_rfl
theorem sk42_c {α : Type} {cv : α → Value} {w : World} {Bm : Nat} {T : TypeId} {v : Value} {B : GH} {d : List (Int × α)} (hm : w.heap[Bm]? = some (BK 1 (fun _ => v) T)) (hJ : MJ kI cv ieq B v d) (hB : ∀ x ∈ B, w.heap[x.1]? = some x.2) (hP : skeysP d) :
    Con Try.prog 18 #[.func (.func 42) [].toArray [.pointer (some ⟨Bm, 0, none⟩)].toArray] w (fun v F => ∃ (u : Value) (C : GH), v = u ∧ F = (C ++ []) ∧ OJ 3 1 ic C u (skeys d) ∧ Cov w [] C) :=
  con_sortedKeysJ layK42 layS42 layO rfl enO (enters_of Try.func42 (by kernel_rfl) rfl) hm hJ hB hP
end Go.Proofs.Ytcnbdkkmcdjncaa
