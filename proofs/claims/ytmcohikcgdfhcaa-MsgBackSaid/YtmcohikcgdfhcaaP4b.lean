/- Numbers put behind bytes, and taken; what the loops come to. -/
import Derived.Test.YtmcohikcgdfhcaaSpec3
import Derived.Test.YtmcohikcgdfhcaaL1
import Derived.Test.YtmcohikcgdfhcaaC4S
namespace Go.E
open Go
def isB (l : List Int) : Prop := ∀ x ∈ l, 0 ≤ x ∧ x < 256
def numF (b : List Int) (at_ : Int) : Nat → Int
  | 0 => 0
  | k + 1 => numF b at_ k * 256 + b[(at_ + k).toNat]!
def take_F (b : List Int) (at_ w : Int) : Int × Int × Int := (numF b at_ w.toNat, 0, at_ + w)
def take_P (b : List Int) (at_ w : Int) : Prop := 1 ≤ w ∧ w ≤ 4 ∧ 0 ≤ at_ ∧ at_ + w ≤ b.length ∧ b.length ≤ 140737488355328 ∧ isB b
theorem isB_get {b : List Int} (h : isB b) {i : Nat} (hi : i < b.length) : 0 ≤ b[i]! ∧ b[i]! < 256 := by
  rw [getElem!_pos b i hi]; exact h _ (List.getElem_mem hi)
theorem numF_le {b : List Int} {at_ : Int} (hb : isB b) : ∀ k : Nat, 0 ≤ at_ → at_ + k ≤ b.length → 0 ≤ numF b at_ k ∧ numF b at_ k < 256 ^ k
  | 0, _, _ => ⟨by simp [numF], by simp [numF]⟩
  | k + 1, h0, h1 => by
    have h := numF_le hb k h0 (by omega)
    have hx := isB_get hb (i := (at_ + k).toNat) (by omega)
    simp only [numF, Int.pow_succ]
    omega
theorem take_ok (b : List Int) (at_ w : Int) (h : take_P b at_ w) : take_S b at_ w (take_F b at_ w) := by
  obtain ⟨h1, h2, h3, h4, h5, h6⟩ := h
  unfold take_S
  have hr : right_F w = true := by simp [right_F]; omega
  rw [if_pos hr]
  refine ⟨⟨by omega, by omega⟩, by omega, (numF b at_ w.toNat, at_ + w), ?_, rfl⟩
  have := Wh.upto (f := fun (s : Int × Int × Int) (o : (Int × Int × Int) ⊕ (Int × Int)) => take_l1 b w s.1 s.2.1 s.2.2 o) (fun k => (numF b at_ k, (k : Int), at_ + k)) w.toNat (r := (numF b at_ w.toNat, at_ + w)) ?_ ?_
  · simpa [numF] using this
  · intro k hk
    have hn := numF_le h6 k h3 (by omega)
    have hp : (256 : Int) ^ k ≤ 256 ^ 3 := by
      rcases (show k = 0 ∨ k = 1 ∨ k = 2 ∨ k = 3 by omega) with rfl | rfl | rfl | rfl <;> decide
    have hx := isB_get h6 (i := (at_ + k).toNat) (by omega)
    have hw : IntKind.i64.wrap (b[(at_ + k).toNat]!) = b[(at_ + k).toNat]! := wrap_id ⟨by omega, by omega⟩
    unfold take_l1
    simp only
    rw [if_pos (by omega)]
    refine ⟨⟨by omega, by omega⟩, ⟨by omega, by omega⟩, ⟨by omega, by omega, by omega⟩, by rw [hw]; exact hx, ⟨by omega, by omega⟩, ⟨by omega, by omega⟩, ?_⟩
    rw [hw]
    simp only [numF]
    congr 3
    omega
  · unfold take_l1
    simp only
    rw [if_neg (by omega)]
    congr 2
    omega
def beN (w x : Int) : List Int := (List.range w.toNat).map fun (i : Nat) => IntKind.u8.wrap (x / 2 ^ (8 * (w - 1 - (i : Int))).toNat)
theorem beN_len (w x : Int) : (beN w x).length = w.toNat := by simp [beN]
def put_F (b : List Int) (w : Int) (l : List Int) : List Int × Int := (b ++ l.flatMap (beN w), 0)
def put_P (b : List Int) (w : Int) (l : List Int) : Prop := 1 ≤ w ∧ w ≤ 4 ∧ b.length + 4 * l.length ≤ 1099511627776 ∧ ∀ x ∈ l, 0 ≤ x ∧ x < 2 ^ (8 * w).toNat
theorem flat_len (w : Int) (l : List Int) : (l.flatMap (beN w)).length = w.toNat * l.length := by
  induction l with
  | nil => simp
  | cons x l ih => rw [List.flatMap_cons, List.length_append, ih, beN_len, List.length_cons, Nat.mul_add]; omega
theorem put_l2_wh (l : List Int) (i : Nat) (w : Int) (out : List Int) (h1 : 1 ≤ w) (h2 : w ≤ 4) (hl : out.length + 4 ≤ 140737488355328) :
    Wh (fun (s : (List Int) × Int) (o : ((List Int) × Int) ⊕ (List Int)) => put_l2 l (i : Int) s.1 s.2 o) (out, w - 1) (out ++ beN w (l[i]!)) := by
  have := Wh.upto (f := fun (s : (List Int) × Int) (o : ((List Int) × Int) ⊕ (List Int)) => put_l2 l (i : Int) s.1 s.2 o) (fun k => (out ++ (beN w (l[i]!)).take k, w - 1 - k)) w.toNat (r := out ++ beN w (l[i]!)) ?_ ?_
  · simpa using this
  · intro k hk
    unfold put_l2
    simp only
    rw [if_pos (by omega)]
    refine ⟨⟨by omega, by omega⟩, ⟨by omega, by omega⟩, ?_, ⟨by omega, by omega⟩, ?_⟩
    · rw [List.length_append, List.length_take, beN_len]; omega
    · refine congrArg Sum.inl (Prod.ext ?_ ?_)
      · simp only
        rw [List.take_succ_eq_append_getElem (by rw [beN_len]; exact hk), List.append_assoc]
        simp [beN]
      · simp only; omega
  · unfold put_l2
    simp only
    rw [if_neg (by omega), List.take_of_length_le (by rw [beN_len]; omega)]
theorem put_ok (b : List Int) (w : Int) (l : List Int) (h : put_P b w l) : put_S b w l (put_F b w l) := by
  obtain ⟨h1, h2, h3, h4⟩ := h
  unfold put_S
  have hr : right_F w = true := by simp [right_F]; omega
  rw [if_pos hr]
  refine ⟨by unfold cloneB_P; omega, b ++ l.flatMap (beN w), ?_, rfl⟩
  have := Wh.upto (f := fun (s : (List Int) × Int) (o : ((List Int) × Int) ⊕ (List Int)) => put_l1 w l s.1 s.2 o) (fun k => (b ++ (l.take k).flatMap (beN w), (k : Int))) l.length (r := b ++ l.flatMap (beN w)) ?_ ?_
  · simpa [cloneB_F] using this
  · intro k hk
    unfold put_l1
    simp only
    rw [if_pos (by omega)]
    have hx := h4 l[k] (List.getElem_mem hk)
    have hg : l[(k : Int).toNat]! = l[k] := by rw [Int.toNat_natCast, getElem!_pos l k hk]
    have hpow : (2 : Int) ^ (8 * w).toNat ≤ 4294967296 := by
      rcases (show w = 1 ∨ w = 2 ∨ w = 3 ∨ w = 4 by omega) with rfl | rfl | rfl | rfl <;> decide
    have hpow0 : (0 : Int) < 2 ^ (8 * w).toNat := by
      rcases (show w = 1 ∨ w = 2 ∨ w = 3 ∨ w = 4 by omega) with rfl | rfl | rfl | rfl <;> decide
    refine ⟨⟨by omega, by omega⟩, fun _ => ⟨by omega, by omega⟩, fun _ => ⟨by omega, by omega⟩, fun _ => ⟨by omega, by omega⟩, ?_, ⟨by omega, by omega⟩, _, put_l2_wh l k w _ h1 h2 ?_, ⟨by omega, by omega⟩, ?_⟩
    · rw [hg]
      simp only [Bool.or_eq_true, decide_eq_true_eq, not_or]
      omega
    · rw [List.length_append, flat_len, List.length_take]
      have : w.toNat * min k l.length ≤ 4 * l.length := Nat.mul_le_mul (by omega) (by omega)
      omega
    · rw [List.take_succ_eq_append_getElem hk, List.flatMap_append, List.append_assoc]
      rw [getElem!_pos l k hk]
      simp
  · unfold put_l1
    simp only
    rw [if_neg (by omega), List.take_of_length_le (by omega)]
end Go.E
