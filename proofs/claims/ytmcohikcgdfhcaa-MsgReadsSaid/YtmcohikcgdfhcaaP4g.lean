/- The document's example; decoding and encoding undo each other. -/
import Derived.Test.YtmcohikcgdfhcaaF4S
namespace Go.E
open Go
set_option maxRecDepth 100000
def alive4_F : Bool := true
def ex4 : Nat → Int := updI (updI (updI (fun _ => 0) 0 4) 2 2) 3 7
theorem alive4_ok : alive4_S alive4_F := by
  unfold alive4_S alive4_F
  have h0 : (enc_F ex4).2 = 0 := by decide +kernel
  have hl : ((enc_F ex4).1.length) = 88 := by decide +kernel
  have hz : ∀ i, i < 88 → 7 ≤ i → (enc_F ex4).1[i]! = 0 := by decide +kernel
  show (if (enc_F ex4).2 = 0 then _ else _)
  rw [if_pos h0]
  show (if ((enc_F ex4).1.length : Int) = 88 then _ else _)
  rw [if_pos (by omega)]
  refine ⟨⟨by omega, by show (7 : Int) ≤ ((enc_F ex4).1.length : Int); omega⟩, by show _ < _; simp; omega, ?_⟩
  rw [if_pos (by show same_F (((enc_F ex4).1.take 7).drop 0) [4, 0, 2, 0, 0, 0, 7] = true; decide +kernel)]
  refine ⟨.inl (), ?_, rfl⟩
  have := Wh.upto (f := fun (s : Int) (o : Int ⊕ (Unit ⊕ Unit)) => alive4_l1 s o) (fun k => (k : Int) + 7) 81 (r := .inl ()) ?_ ?_
  · simpa using this
  · intro k hk
    unfold alive4_l1
    rw [if_pos (by omega)]
    refine ⟨⟨by omega, by show _ < ((enc_F ex4).1.length : Int); omega⟩, ?_⟩
    have e : ((k : Int) + 7).toNat = k + 7 := by omega
    rw [e, if_pos (by exact hz (k + 7) (by omega) (by omega))]
    exact ⟨⟨by omega, by omega⟩, by congr 1⟩
  · unfold alive4_l1
    rw [if_neg (by omega)]
/-! ### Numbers out of bytes -/
theorem num1 (b : List Int) (k : Int) : numF b k 1 = b[k.toNat]! := by
  simp [numF]
theorem num4 (b : List Int) (k : Nat) : numF b k 4 = ((b[k]! * 256 + b[k + 1]!) * 256 + b[k + 2]!) * 256 + b[k + 3]! := by
  simp only [numF]
  have e0 : ((k : Int) + ((0 : Nat) : Int)).toNat = k := by omega
  have e1 : ((k : Int) + ((1 : Nat) : Int)).toNat = k + 1 := by omega
  have e2 : ((k : Int) + ((2 : Nat) : Int)).toNat = k + 2 := by omega
  have e3 : ((k : Int) + ((3 : Nat) : Int)).toNat = k + 3 := by omega
  rw [e0, e1, e2, e3]; simp
theorem four_num {a b c d : Int} (ha : 0 ≤ a ∧ a < 256) (hb : 0 ≤ b ∧ b < 256) (hc : 0 ≤ c ∧ c < 256) (hd : 0 ≤ d ∧ d < 256) : four_F (((a * 256 + b) * 256 + c) * 256 + d) = [a, b, c, d] := by
  rw [four_eq ⟨by omega, by omega⟩, beN4]
  simp only [u8_wrap]
  have h1 : (((a * 256 + b) * 256 + c) * 256 + d) / 16777216 % 256 = a := by omega
  have h2 : (((a * 256 + b) * 256 + c) * 256 + d) / 65536 % 256 = b := by omega
  have h3 : (((a * 256 + b) * 256 + c) * 256 + d) / 256 % 256 = c := by omega
  have h4 : (((a * 256 + b) * 256 + c) * 256 + d) / 1 % 256 = d := by omega
  rw [h1, h2, h3, h4]
theorem num_four {x : Int} (h : 0 ≤ x ∧ x < 4294967296) : ((IntKind.u8.wrap (x / 16777216) * 256 + IntKind.u8.wrap (x / 65536)) * 256 + IntKind.u8.wrap (x / 256)) * 256 + IntKind.u8.wrap (x / 1) = x := by
  simp only [u8_wrap]; omega
theorem seg4 {b : List Int} (hb : isB b) {k : Nat} (hk : k + 4 ≤ b.length) : four_F (numF b k 4) = (b.drop k).take 4 := by
  rw [num4, four_num (isB_get hb (by omega)) (isB_get hb (by omega)) (isB_get hb (by omega)) (isB_get hb (by omega))]
  rw [getElem!_pos b k (by omega), getElem!_pos b (k + 1) (by omega), getElem!_pos b (k + 2) (by omega), getElem!_pos b (k + 3) (by omega)]
  rw [List.drop_eq_getElem_cons (by omega), List.drop_eq_getElem_cons (i := k + 1) (by omega), List.drop_eq_getElem_cons (i := k + 2) (by omega), List.drop_eq_getElem_cons (i := k + 3) (by omega)]
  rfl
theorem seg1 {b : List Int} (hb : isB b) {k : Nat} (hk : k < b.length) : [IntKind.u8.wrap (b[k]!)] = (b.drop k).take 1 := by
  have h := isB_get hb hk
  rw [getElem!_pos b k hk] at h
  rw [getElem!_pos b k hk, u8_wrap, List.drop_eq_getElem_cons hk, Int.emod_eq_of_lt h.1 h.2]
  rfl
theorem seg_app (b : List Int) (k n m : Nat) : (b.drop k).take n ++ (b.drop (k + n)).take m = (b.drop k).take (n + m) := by
  rw [List.take_add, List.drop_drop]

/-- The message of 88 bytes. -/
def decM (b : List Int) : Nat → Int
  | 0 => b[0]!
  | 1 => b[1]!
  | 2 => b[2]!
  | 3 => numF b 3 4
  | 4 => numF b 7 4
  | 5 => b[11]!
  | 6 => b[12]!
  | 7 => b[13]!
  | 8 => b[14]!
  | 9 => numF b 15 4
  | 10 => numF b 19 4
  | 11 => b[23]!
  | 12 => numF b 24 4
  | 13 => numF b 28 4
  | 14 => numF b 32 4
  | 15 => numF b 36 4
  | 16 => numF b 40 4
  | 17 => numF b 44 4
  | 18 => numF b 48 4
  | 19 => numF b 52 4
  | 20 => numF b 56 4
  | 21 => numF b 60 4
  | 22 => numF b 64 4
  | 23 => numF b 68 4
  | 24 => numF b 72 4
  | 25 => numF b 76 4
  | 26 => numF b 80 4
  | 27 => numF b 84 4
  | _ => 0
theorem dcd_88 {b : List Int} (h : b.length = 88) : dcd_F b = if okB (decM b) = true then (decM b, 0) else ((fun _ => 0), 5) := by
  have e : ∀ f : Nat → Int, (∀ i, i < 28 → f i = decM b i) → (∀ i, 28 ≤ i → f i = 0) → f = decM b := by
    intro f h1 h2
    funext i
    by_cases hi : i < 28
    · exact h1 i hi
    · rw [h2 i (by omega)]
      match i, hi with
      | q + 28, _ => rfl
  unfold dcd_F
  rw [if_neg (by omega), if_neg (by omega)]
  generalize hg : updI _ _ _ = g
  have hd : g = decM b := by
    refine e g ?_ ?_
    · rw [← hg]
      refine all28.2 ⟨(by simp [updI, decM, numF]), (by simp [updI, decM, numF]), (by simp [updI, decM, numF]), (by simp [updI, decM]), (by simp [updI, decM]), (by simp [updI, decM, numF]), (by simp [updI, decM, numF]), (by simp [updI, decM, numF]), (by simp [updI, decM, numF]), (by simp [updI, decM]), (by simp [updI, decM]), (by simp [updI, decM, numF]), (by simp [updI, decM]), (by simp [updI, decM]), (by simp [updI, decM]), (by simp [updI, decM]), (by simp [updI, decM]), (by simp [updI, decM]), (by simp [updI, decM]), (by simp [updI, decM]), (by simp [updI, decM]), (by simp [updI, decM]), (by simp [updI, decM]), (by simp [updI, decM]), (by simp [updI, decM]), (by simp [updI, decM]), (by simp [updI, decM]), (by simp [updI, decM])⟩
    · rw [← hg]
      intro i hi
      simp only [updI]
      repeat rw [if_neg (by omega)]
  rw [hd, msgOk_eq]
  by_cases hk : okB (decM b) = true
  · rw [if_pos hk, if_pos rfl, if_pos hk]
  · rw [if_neg hk, if_neg (by omega), if_neg hk]
theorem dcd_P_of {b : List Int} (hb : isB b) (hl : b.length ≤ 140737488355328) : dcd_P b := by
  unfold dcd_P
  refine ite_intro (fun _ => trivial) (fun h1 => ite_intro (fun _ => trivial) (fun h2 => ?_))
  have t : ∀ k w : Int, 1 ≤ w → w ≤ 4 → 0 ≤ k → k + w ≤ 88 → take_P b k w := fun k w h3 h4 h5 h6 => ⟨h3, h4, h5, by omega, hl, hb⟩
  refine ⟨hl, t _ _ (by omega) (by omega) (by omega) (by omega), t _ _ (by omega) (by omega) (by omega) (by omega), t _ _ (by omega) (by omega) (by omega) (by omega), t _ _ (by omega) (by omega) (by omega) (by omega), t _ _ (by omega) (by omega) (by omega) (by omega), t _ _ (by omega) (by omega) (by omega) (by omega), t _ _ (by omega) (by omega) (by omega) (by omega), t _ _ (by omega) (by omega) (by omega) (by omega), t _ _ (by omega) (by omega) (by omega) (by omega), t _ _ (by omega) (by omega) (by omega) (by omega), t _ _ (by omega) (by omega) (by omega) (by omega), t _ _ (by omega) (by omega) (by omega) (by omega), t _ _ (by omega) (by omega) (by omega) (by omega), t _ _ (by omega) (by omega) (by omega) (by omega), t _ _ (by omega) (by omega) (by omega) (by omega), t _ _ (by omega) (by omega) (by omega) (by omega), t _ _ (by omega) (by omega) (by omega) (by omega), t _ _ (by omega) (by omega) (by omega) (by omega), t _ _ (by omega) (by omega) (by omega) (by omega), t _ _ (by omega) (by omega) (by omega) (by omega), t _ _ (by omega) (by omega) (by omega) (by omega), t _ _ (by omega) (by omega) (by omega) (by omega), t _ _ (by omega) (by omega) (by omega) (by omega), t _ _ (by omega) (by omega) (by omega) (by omega), t _ _ (by omega) (by omega) (by omega) (by omega), t _ _ (by omega) (by omega) (by omega) (by omega), t _ _ (by omega) (by omega) (by omega) (by omega), t _ _ (by omega) (by omega) (by omega) (by omega), ?_⟩
  exact ite_intro (fun _ => trivial) (fun _ => trivial)
end Go.E
