/- The laws of layer 4, in plain words. -/
import Derived.Test.YtmcohikcgdfhcaaP4h
import Derived.Test.YtmcohikcgdfhcaaG4S
namespace Go.E
open Go
set_option maxRecDepth 100000
theorem wrapB {b : List Int} (hb : isB b) {k : Nat} (hk : k < b.length) : IntKind.i64.wrap (b[k]!) = b[k]! := by
  have := isB_get hb hk
  exact wrap_id ⟨by omega, by omega⟩
theorem at4_num {b : List Int} (hb : isB b) (hl : b.length = 88) (k : Nat) (i : Int) (hi : i = k) (hk : k + 4 ≤ 88) : at4_F b i = numF b i 4 := by
  have e0 : i.toNat = k := by omega
  have e1 : (i + 1).toNat = k + 1 := by omega
  have e2 : (i + 2).toNat = k + 2 := by omega
  have e3 : (i + 3).toNat = k + 3 := by omega
  rw [hi, num4, ← hi]
  unfold at4_F
  rw [e0, e1, e2, e3, wrapB hb (by omega), wrapB hb (by omega), wrapB hb (by omega), wrapB hb (by omega)]
  omega
theorem at4_P_of {b : List Int} (hb : isB b) (hl : b.length = 88) (i : Int) (h0 : 0 ≤ i) (hk : i + 4 ≤ 88) : at4_P b i := by
  obtain ⟨k, rfl⟩ := Int.eq_ofNat_of_zero_le h0
  have e0 : (k : Int).toNat = k := by omega
  have e1 : ((k : Int) + 1).toNat = k + 1 := by omega
  have e2 : ((k : Int) + 2).toNat = k + 2 := by omega
  have e3 : ((k : Int) + 3).toNat = k + 3 := by omega
  have g0 := isB_get hb (i := k) (by omega)
  have g1 := isB_get hb (i := k + 1) (by omega)
  have g2 := isB_get hb (i := k + 2) (by omega)
  have g3 := isB_get hb (i := k + 3) (by omega)
  unfold at4_P
  rw [e0, e1, e2, e3, wrapB hb (by omega), wrapB hb (by omega), wrapB hb (by omega), wrapB hb (by omega)]
  repeat' (first | exact trivial | apply And.intro)
  all_goals omega
theorem refDec_88 {b : List Int} (hb : isB b) (hl : b.length = 88) : refDec_F b = if okB (decM b) = true then (decM b, 0) else ((fun _ => 0), 5) := by
  have e : ∀ f : Nat → Int, (∀ i, i < 28 → f i = decM b i) → (∀ i, 28 ≤ i → f i = 0) → f = decM b := by
    intro f h1 h2
    funext i
    by_cases hi : i < 28
    · exact h1 i hi
    · rw [h2 i (by omega)]
      match i, hi with
      | q + 28, _ => rfl
  unfold refDec_F
  rw [if_neg (by omega), if_neg (by omega)]
  rw [wrapB hb (by omega : 0 < b.length), wrapB hb (by omega : 1 < b.length), wrapB hb (by omega : 2 < b.length), wrapB hb (by omega : 11 < b.length), wrapB hb (by omega : 12 < b.length), wrapB hb (by omega : 13 < b.length), wrapB hb (by omega : 14 < b.length), wrapB hb (by omega : 23 < b.length), at4_num hb hl 3 3 rfl (by omega), at4_num hb hl 7 7 rfl (by omega), at4_num hb hl 15 15 rfl (by omega), at4_num hb hl 19 19 rfl (by omega), at4_num hb hl 24 24 rfl (by omega), at4_num hb hl 28 28 rfl (by omega), at4_num hb hl 32 32 rfl (by omega), at4_num hb hl 36 36 rfl (by omega), at4_num hb hl 40 40 rfl (by omega), at4_num hb hl 44 44 rfl (by omega), at4_num hb hl 48 48 rfl (by omega), at4_num hb hl 52 52 rfl (by omega), at4_num hb hl 56 56 rfl (by omega), at4_num hb hl 60 60 rfl (by omega), at4_num hb hl 64 64 rfl (by omega), at4_num hb hl 68 68 rfl (by omega), at4_num hb hl 72 72 rfl (by omega), at4_num hb hl 76 76 rfl (by omega), at4_num hb hl 80 80 rfl (by omega), at4_num hb hl 84 84 rfl (by omega)]
  generalize hg : updRI _ _ _ _ = g
  have hd : g = decM b := by
    refine e g ?_ ?_
    · rw [← hg]
      refine all28.2 ⟨(by simp [updI, updRI, decM]), (by simp [updI, updRI, decM]), (by simp [updI, updRI, decM]), (by simp [updI, updRI, decM]), (by simp [updI, updRI, decM]), (by simp [updI, updRI, decM]), (by simp [updI, updRI, decM]), (by simp [updI, updRI, decM]), (by simp [updI, updRI, decM]), (by simp [updI, updRI, decM]), (by simp [updI, updRI, decM]), (by simp [updI, updRI, decM]), (by simp [updI, updRI, decM]), (by simp [updI, updRI, decM]), (by simp [updI, updRI, decM]), (by simp [updI, updRI, decM]), (by simp [updI, updRI, decM]), (by simp [updI, updRI, decM]), (by simp [updI, updRI, decM]), (by simp [updI, updRI, decM]), (by simp [updI, updRI, decM]), (by simp [updI, updRI, decM]), (by simp [updI, updRI, decM]), (by simp [updI, updRI, decM]), (by simp [updI, updRI, decM]), (by simp [updI, updRI, decM]), (by simp [updI, updRI, decM]), (by simp [updI, updRI, decM])⟩
    · rw [← hg]
      intro i hi
      simp only [updI, updRI]
      repeat rw [if_neg (by omega)]
  rw [hd]
  rfl
theorem refDec_P_of {b : List Int} (hb : isB b) : refDec_P b := by
  unfold refDec_P
  refine ite_intro (fun _ => trivial) (fun h1 => ite_intro (fun _ => trivial) (fun h2 => ?_))
  have hl : b.length = 88 := by omega
  repeat' (first | exact trivial | exact at4_P_of hb hl _ (by omega) (by omega) | refine ite_intro (fun _ => trivial) (fun _ => trivial) | apply And.intro)
  all_goals omega
theorem dec_eq {b : List Int} (hb : isB b) : dcd_F b = refDec_F b := by
  by_cases hl : b.length = 88
  · rw [dcd_88 hl, refDec_88 hb hl]
  · unfold dcd_F refDec_F
    by_cases h1 : (b.length : Int) < 88
    · rw [if_pos h1, if_pos h1]
    · rw [if_neg h1, if_neg h1, if_pos (by omega), if_pos (by omega)]
theorem dcd_len {b : List Int} (h : (dcd_F b).2 = 0) : b.length = 88 := by
  unfold dcd_F at h
  by_cases h1 : (b.length : Int) < 88
  · rw [if_pos h1] at h; cases h
  · by_cases h2 : 88 < (b.length : Int)
    · rw [if_neg h1, if_pos h2] at h; cases h
    · omega
/-- What is decoded may be, and has those bytes. -/
theorem dcd_yes {b : List Int} (hb : isB b) (h : (dcd_F b).2 = 0) : msgOk_F (dcd_F b).1 = 0 ∧ refEnc_F (dcd_F b).1 = b := by
  have hl := dcd_len h
  rw [dcd_88 hl] at h ⊢
  by_cases hk : okB (decM b) = true
  · rw [if_pos hk]
    exact ⟨(msgOk_0 _).2 hk, enc_dec hb hl⟩
  · rw [if_neg hk] at h; cases h
theorem dcd_no {b : List Int} (h : (dcd_F b).2 ≠ 0) : (dcd_F b).1 = fun _ => 0 := by
  by_cases hl : b.length = 88
  · rw [dcd_88 hl] at h ⊢
    by_cases hk : okB (decM b) = true
    · rw [if_pos hk] at h; exact absurd rfl h
    · rw [if_neg hk]
  · unfold dcd_F
    by_cases h1 : (b.length : Int) < 88
    · rw [if_pos h1]
    · rw [if_neg h1, if_pos (by omega)]
theorem dcd_enc {m : Nat → Int} (h : msgOk_F m = 0) : (dcd_F (refEnc_F m)).2 = 0 ∧ ∀ i, i < 28 → (dcd_F (refEnc_F m)).1 i = m i := by
  have hl : (refEnc_F m).length = 88 := by rw [← (enc_ref m h).1]; exact enc_len m h
  have hd := dec_enc h
  rw [dcd_88 hl]
  have hk : okB (decM (refEnc_F m)) = true := by rw [okB_congr hd]; exact (msgOk_0 m).1 h
  rw [if_pos hk]
  exact ⟨rfl, hd⟩
theorem enc_2 (m : Nat → Int) : (enc_F m).2 = 0 ↔ msgOk_F m = 0 := by
  by_cases h : msgOk_F m = 0
  · exact ⟨fun _ => h, fun _ => (enc_ref m h).2⟩
  · rw [enc_no m h]; exact ⟨fun e => absurd e (by decide), fun e => absurd e h⟩
theorem small88 {a b : List Int} (h : a.length = 88) : same_P a b := by
  show a.length < _; omega
theorem msgOk_all (m : Nat → Int) : msgOkL_S m true := by
  unfold msgOkL_S
  rw [if_pos (show alive4_F = true from rfl)]
  show (if okB m = true then _ else _)
  by_cases hk : okB m = true
  · have h := (msgOk_0 m).2 hk
    rw [if_pos hk, if_pos h, if_pos (enc_ref m h).2]
    refine ⟨h, small88 (enc_len m h), ?_⟩
    rw [(enc_ref m h).1]
    simp [same_F]
  · have h : msgOk_F m ≠ 0 := fun e => hk ((msgOk_0 m).1 e)
    have h5 : msgOk_F m = 5 := by rw [msgOk_eq, if_neg hk]
    rw [if_neg hk, enc_no m h, h5]
    rfl
theorem msgReads_all {b : List Int} (hb : isB b) (hl : b.length ≤ 140737488355328) : msgReadsL_S b true := by
  unfold msgReadsL_S
  rw [if_pos (show alive4_F = true from rfl)]
  refine ⟨by omega, dcd_P_of hb hl, refDec_P_of hb, ?_⟩
  rw [List.nil_append, dec_eq hb, eqN_refl, Bool.true_and]
  have : code_F (refDec_F b).2 = (refDec_F b).2 := by
    unfold refDec_F code_F
    repeat' split
    all_goals first | rfl | omega
  rw [this]; simp
theorem same_true {a : List Int} : same_F a a = true := by simp [same_F]
theorem msgBack_all (m : Nat → Int) {b : List Int} (hb : isB b) (hl : b.length ≤ 140737488355328) : msgBackL_S m b true := by
  have second : (dcd_P b) ∧ (
        if (dcd_F b).2 = 0 then
          (((decide ((enc_F ((dcd_F b).1)).2 = 0)) = true) → same_P ((enc_F ((dcd_F b).1)).1) b) ∧ (
          true = ((decide ((enc_F ((dcd_F b).1)).2 = 0)) && ((same_F ((enc_F ((dcd_F b).1)).1) b))))
        else
          true = ((eqN 28 ((dcd_F b).1) (fun _ => 0)))) := by
    refine ⟨dcd_P_of hb hl, ite_intro (fun h => ?_) (fun h => ?_)⟩
    · obtain ⟨h1, h2⟩ := dcd_yes hb h
      rw [(enc_ref _ h1).2, (enc_ref _ h1).1, h2]
      exact ⟨fun _ => small88 (dcd_len h), by rw [same_true]; rfl⟩
    · rw [dcd_no h, eqN_refl]
  unfold msgBackL_S
  rw [if_pos (show alive4_F = true from rfl)]
  refine ite_intro (fun h => ?_) (fun _ => second)
  have h' := (enc_2 m).1 h
  have hL := enc_len m h'
  rw [(enc_ref m h').1] at hL ⊢
  refine ⟨dcd_P_of (enc_isB m) (by omega), ?_⟩
  obtain ⟨g1, g2⟩ := dcd_enc h'
  rw [if_neg ?_]
  · exact second
  · rw [g1, eqN_of g2, hL]; simp
theorem msgOne_all (m : Nat → Int) (at1 by2 : Int) (h1 : 0 ≤ at1 ∧ at1 < 256) (h2 : 0 ≤ by2 ∧ by2 < 256) : msgOneL_S m at1 by2 true := by
  unfold msgOneL_S
  rw [if_pos (show alive4_F = true from rfl)]
  have hw : IntKind.i64.wrap at1 = at1 := wrap_id ⟨by omega, by omega⟩
  have ht : at1.tmod 88 = at1 % 88 := Int.tmod_eq_emod_of_nonneg h1.1
  rw [hw, ht]
  by_cases hk : msgOk_F m = 0
  · have hL := enc_len m hk
    rw [(enc_ref m hk).1] at hL ⊢
    rw [(enc_ref m hk).2]
    rw [if_neg (by rw [hL]; simp)]
    generalize hb' : (refEnc_F m).set (at1 % 88).toNat (IntKind.u8.wrap ((refEnc_F m)[(at1 % 88).toNat]! + by2)) = b'
    have hi : (at1 % 88).toNat < (refEnc_F m).length := by omega
    have hB : isB b' := by
      rw [← hb']
      intro x hx
      rcases List.mem_or_eq_of_mem_set hx with hx | rfl
      · exact enc_isB m x hx
      · rw [u8_wrap]; omega
    have hl' : b'.length = 88 := by rw [← hb', List.length_set]; exact hL
    refine ⟨by omega, by omega, dcd_P_of hB (by omega), ?_⟩
    by_cases hd : (dcd_F b').2 = 0
    · obtain ⟨g1, g2⟩ := dcd_yes hB hd
      rw [hd]
      have key : eqN 28 (dcd_F b').1 m = decide (by2 = 0) := by
        refine boolEq ?_
        rw [decide_eq_true_eq]
        constructor
        · intro he
          have := refEnc_congr (eqN_iff.1 he)
          rw [g2] at this
          have hx : b'[(at1 % 88).toNat]! = (refEnc_F m)[(at1 % 88).toNat]! := by rw [this]
          rw [← hb', getElem!_pos _ _ (by rw [List.length_set]; exact hi), List.getElem_set_self, u8_wrap] at hx
          have hr := isB_get (enc_isB m) hi
          omega
        · intro he
          have hr := isB_get (enc_isB m) hi
          have : b' = refEnc_F m := by
            rw [← hb', he, Int.add_zero, u8_wrap, Int.emod_eq_of_lt hr.1 hr.2, getElem!_pos (refEnc_F m) (at1 % 88).toNat hi, List.set_getElem_self hi]
          rw [this]
          exact eqN_of (dcd_enc hk).2
      rw [key]; simp
    · simp [hd]
  · rw [enc_no m hk]; rfl
end Go.E
