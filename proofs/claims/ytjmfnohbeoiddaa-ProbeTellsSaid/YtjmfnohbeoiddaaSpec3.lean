/- Numbers as bytes. -/
import Derived.Test.YtjmfnohbeoiddaaE8
namespace Go.E
open Go
def be1 (x : Int) : List Int := [x % 256]
def be4 (x : Int) : List Int := [x / 16777216 % 256, x / 65536 % 256, x / 256 % 256, x % 256]
theorem u8_wrap (x : Int) : IntKind.u8.wrap x = x % 256 := by
  simp only [IntKind.wrap, IntKind.signed, IntKind.bits, Bool.false_and, Bool.false_eq_true, if_false]
  rfl
theorem fdiv_pos {x : Int} {y : Int} (hy : 0 ≤ y) : x.fdiv y = x / y := Int.fdiv_eq_ediv_of_nonneg x hy
theorem be4_take {x : Int} {j q : Nat} (hj : j < 4) (hq : q = 8 * (3 - j)) : (be4 x).take (j + 1) = (be4 x).take j ++ [IntKind.u8.wrap (x / 2 ^ q)] := by
  subst hq
  rw [u8_wrap]
  rcases (show j = 0 ∨ j = 1 ∨ j = 2 ∨ j = 3 by omega) with rfl | rfl | rfl | rfl <;> simp [be4]
theorem be1_take {x : Int} {j q : Nat} (hj : j < 1) (hq : q = 8 * (0 - j)) : (be1 x).take (j + 1) = (be1 x).take j ++ [IntKind.u8.wrap (x / 2 ^ q)] := by
  subst hq
  obtain rfl : j = 0 := by omega
  rw [u8_wrap]
  simp [be1]
theorem flat_take {f : Int → List Int} {xs : List Int} {k : Nat} (hk : k < xs.length) : (xs.take (k + 1)).flatMap f = (xs.take k).flatMap f ++ f xs[k] := by
  rw [List.take_succ_eq_append_getElem hk, List.flatMap_append]; simp
theorem be4_flat (xs : List Int) : (xs.flatMap be4).length = 4 * xs.length := by
  induction xs with
  | nil => rfl
  | cons x xs ih => rw [List.flatMap_cons, List.length_append, ih]; simp [be4]; omega
theorem be1_flat (xs : List Int) : (xs.flatMap be1).length = 1 * xs.length := by
  induction xs with
  | nil => rfl
  | cons x xs ih => rw [List.flatMap_cons, List.length_append, ih]; simp [be1]; omega
end Go.E
