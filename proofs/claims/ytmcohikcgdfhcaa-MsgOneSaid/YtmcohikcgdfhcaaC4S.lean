/- What functions of the program say, as relations. -/
import Derived.Test.YtmcohikcgdfhcaaB4S
set_option maxHeartbeats 1000000
set_option linter.unusedVariables false
set_option linter.unusedSimpArgs false
set_option maxRecDepth 100000
namespace Go.E
open Go

def cloneB_F (l : List Int) : List Int := l
def cloneB_P (l : List Int) : Prop := l.length ≤ 140737488355328
theorem cloneB_ok (l : List Int) (h : cloneB_P l) : cloneB_S l (cloneB_F l) := ⟨fun e => e, by unfold cloneB_P at h; omega, rfl⟩

def take_l1 (r0b : (List Int)) (width1 : Int) (n6 : Int) (x39 : Int) (fp0_1 : Int) (o : (Int × Int × Int) ⊕ (Int × Int)) : Prop :=
  if x39 < width1 then
    (inI64 (n6 * 256)) ∧ (
    (0 ≤ fp0_1 ∧ fp0_1 < r0b.length) ∧ (
    (0 ≤ n6 * 256 ∧ n6 * 256 < 9223372036854775000 ∧ (n6 * 256) % 256 = 0) ∧ (
    (0 ≤ IntKind.i64.wrap (r0b[fp0_1.toNat]!) ∧ IntKind.i64.wrap (r0b[fp0_1.toNat]!) < 256) ∧ (
    (inI64 (fp0_1 + 1)) ∧ (
    (inI64 (x39 + 1)) ∧ (
    o = (.inl ((n6 * 256) + (IntKind.i64.wrap (r0b[fp0_1.toNat]!)), x39 + 1, fp0_1 + 1))))))))
  else
    o = (.inr (n6, fp0_1))

def take_k1a (n6 : Int) (fp0_1 : Int) (r : Int × Int × Int) : Prop :=
  r = ((n6, 0, fp0_1))

def take_S (r0b : (List Int)) (r0at : Int) (width1 : Int) (r : Int × Int × Int) : Prop :=
  if ((right_F width1)) = true then
    (inI64 ((r0b.length : Int) - r0at)) ∧ (
    (¬ ((r0b.length : Int) - r0at < width1)) ∧ (
    ∃ x : Int × Int, Wh (fun (s : Int × Int × Int) (o : (Int × Int × Int) ⊕ (Int × Int)) => take_l1 r0b width1 s.1 s.2.1 s.2.2 o) ((0, 0, r0at) : Int × Int × Int) x ∧ take_k1a x.1 x.2 r))
  else
    r = ((0, 1, r0at))

def put_l2 (l2 : (List Int)) (x20 : Int) (out8a : (List Int)) (k11 : Int) (o : ((List Int) × Int) ⊕ ((List Int))) : Prop :=
  if 0 ≤ k11 then
    (inI64 (8 * k11)) ∧ (
    (0 ≤ 8 * k11 ∧ 8 * k11 < 64) ∧ (
    ((out8a.length + 1) * 1 ≤ 140737488355328) ∧ (
    (inI64 (k11 - 1)) ∧ (
    o = (.inl ((out8a ++ [IntKind.u8.wrap ((l2[x20.toNat]!) / 2 ^ (8 * k11).toNat)]), k11 - 1))))))
  else
    o = (.inr out8a)

def put_k2a (x20 : Int) (out8a : (List Int)) (o : ((List Int) × Int) ⊕ ((List Int))) : Prop :=
  (inI64 (x20 + 1)) ∧ (
  o = (.inl (out8a, x20 + 1)))

def put_l1 (width1 : Int) (l2 : (List Int)) (out8 : (List Int)) (x20 : Int) (o : ((List Int) × Int) ⊕ ((List Int))) : Prop :=
  if x20 < (l2.length : Int) then
    (0 ≤ x20 ∧ x20 < l2.length) ∧ (
    (((decide (l2[x20.toNat]! < 0)) = false) → inI64 (8 * width1)) ∧ (((decide (l2[x20.toNat]! < 0)) = false) → 0 ≤ 8 * width1 ∧ 8 * width1 < 64) ∧ (((decide (l2[x20.toNat]! < 0)) = false) → inI64 (1 * 2 ^ (8 * width1).toNat)) ∧ (
    (¬ (((decide (l2[x20.toNat]! < 0)) || (decide (1 * 2 ^ (8 * width1).toNat ≤ l2[x20.toNat]!))) = true)) ∧ (
    (inI64 (width1 - 1)) ∧ (
    ∃ x : (List Int), Wh (fun (s : (List Int) × Int) (o : ((List Int) × Int) ⊕ ((List Int))) => put_l2 l2 x20 s.1 s.2 o) ((out8, width1 - 1) : (List Int) × Int) x ∧ put_k2a x20 x o))))
  else
    o = (.inr out8)

def put_k1a (out8 : (List Int)) (r : (List Int) × Int) : Prop :=
  r = ((out8, 0))

def put_S (b0 : (List Int)) (width1 : Int) (l2 : (List Int)) (r : (List Int) × Int) : Prop :=
  if ((right_F width1)) = true then
    (cloneB_P b0) ∧ (
    ∃ x : (List Int), Wh (fun (s : (List Int) × Int) (o : ((List Int) × Int) ⊕ ((List Int))) => put_l1 width1 l2 s.1 s.2 o) ((b0, 0) : (List Int) × Int) x ∧ put_k1a x r)
  else
    r = (([], 1))

end Go.E
