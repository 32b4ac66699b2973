/- What a chase finds: it ends, and it finds circles, and only those. -/
import Derived.Test.YtjmfnohbeoiddaaP12i
namespace Go.E
open Go
set_option linter.unusedVariables false
set_option maxRecDepth 100000

/-! ### What is left to do -/
def wN : Nat → Nat
  | 1 => 326
  | 2 => 81
  | 3 => 26
  | 4 => 11
  | 5 => 6
  | _ => 1
def pathL (m : Nat → Int) : List Int := (List.range (m 11).toNat).map fun k => m (12 + k * 2)
def wt (m : Nat → Int) : Nat := if m 9 ∈ pathL m then 1 else wN (m 11).toNat
def wsum (q : List (Nat → Int)) : Nat := (q.map wt).sum
theorem Pf.path {P : List Int} {m : Nat → Int} (h : Pf P m) (hl : P.length ≤ 8) : pathL m = P := by
  unfold pathL
  rw [h.n, Int.toNat_natCast]
  refine List.ext_getElem (by simp) fun k h1 h2 => ?_
  rw [List.getElem_map, List.getElem_range, (h.s k (by omega)).1, List.getD_eq_getElem?_getD, List.getElem?_eq_getElem h2]
  rfl
theorem wN_pos (k : Nat) : 1 ≤ wN k := by
  unfold wN
  split <;> decide
theorem wt_pos (m : Nat → Int) : 1 ≤ wt m := by
  unfold wt
  split
  · exact Nat.le_refl _
  · exact wN_pos _
theorem wsum_app (p q : List (Nat → Int)) : wsum (p ++ q) = wsum p + wsum q := by
  unfold wsum
  rw [List.map_append, List.sum_append]
theorem wsum_cons (m : Nat → Int) (q : List (Nat → Int)) : wsum (m :: q) = wt m + wsum q := by
  unfold wsum
  rw [List.map_cons, List.sum_cons]
/-- The weights of the next ones: those on the path are one each. -/
theorem sum_next (P : List Int) (w : Nat) (hw : 1 ≤ w) (one : (Nat → Int) → (Nat → Int)) : ∀ (F : List (Nat → Int)), (∀ e ∈ F, wt (one e) ≤ if e 2 ∈ P then 1 else w) →
    wsum (F.map one) ≤ F.length + ((F.map fun e => e 2).filter fun y => !decide (y ∈ P)).length * (w - 1) := by
  intro F
  induction F with
  | nil => intro _; simp [wsum]
  | cons e F ih =>
    intro h
    have h1 := h e List.mem_cons_self
    have h2 := ih fun x hx => h x (List.mem_cons_of_mem _ hx)
    rw [List.map_cons, wsum_cons, List.map_cons, List.filter_cons, List.length_cons]
    by_cases hm : e 2 ∈ P
    · rw [if_pos hm] at h1
      rw [decide_eq_true hm, if_neg (by decide)]
      omega
    · rw [if_neg hm] at h1
      rw [decide_eq_false hm, if_pos (by decide), List.length_cons, Nat.add_mul]
      omega
theorem nexts_nodup {l : List (Nat → Int)} (hl : EdgeOk l) (x : Int) : ((nexts l x).map fun e => e 2).Nodup := by
  refine List.pairwise_map.2 ?_
  have : (nexts l x).Pairwise fun e f => ¬ (e 0 = f 0 ∧ e 2 = f 2) := hl.p.sublist List.filter_sublist
  refine (List.Pairwise.and_mem.1 this).imp ?_
  rintro e f ⟨he, hf, h⟩ h2
  exact h ⟨by rw [(mem_nexts.1 he).2, (mem_nexts.1 hf).2], h2⟩
theorem sum_le {l : List (Nat → Int)} (hl : EdgeOk l) (x : Int) (P : List Int) (hP : P.Nodup) (h6 : ∀ y ∈ P, 1 ≤ y ∧ y ≤ 6) (hx : x ∈ P) (w : Nat) (hw : 1 ≤ w) (one : (Nat → Int) → (Nat → Int))
    (h : ∀ e ∈ nexts l x, wt (one e) ≤ if e 2 ∈ P then 1 else w) : wsum ((nexts l x).map one) ≤ 5 + (6 - P.length) * (w - 1) := by
  have hs := sum_next P w hw one (nexts l x) h
  have hn := nexts_nodup hl x
  have hne : ∀ y ∈ (nexts l x).map (fun e => e 2), (1 ≤ y ∧ y ≤ 6) ∧ y ≠ x := by
    intro y hy
    obtain ⟨e, he, rfl⟩ := List.mem_map.1 hy
    obtain ⟨h1, h2⟩ := mem_nexts.1 he
    have := hl.a e h1
    exact ⟨this.2.1, fun h => this.2.2.1 (by rw [h2, h])⟩
  have l5 : (nexts l x).length ≤ 5 := by
    have := six_len (P := x :: (nexts l x).map fun e => e 2) (List.nodup_cons.2 ⟨fun h => (hne x h).2 rfl, hn⟩) (fun y hy => by
      rcases List.mem_cons.1 hy with rfl | hy
      · exact h6 _ hx
      · exact (hne y hy).1)
    simp only [List.length_cons, List.length_map] at this
    omega
  have lN : (((nexts l x).map fun e => e 2).filter fun y => !decide (y ∈ P)).length ≤ 6 - P.length := by
    have := six_len (P := (((nexts l x).map fun e => e 2).filter fun y => !decide (y ∈ P)) ++ P) (List.nodup_append.2 ⟨hn.sublist List.filter_sublist, hP, fun a ha b hb => by
      rintro rfl
      have := (List.mem_filter.1 ha).2
      simp [hb] at this⟩) (fun y hy => by
      rcases List.mem_append.1 hy with hy | hy
      · exact (hne y (List.mem_filter.1 hy).1).1
      · exact h6 y hy)
    rw [List.length_append] at this
    omega
  refine Nat.le_trans hs (Nat.add_le_add l5 (Nat.mul_le_mul_right _ lN))

theorem Pb.wt_le {l : List (Nat → Int)} (hl : EdgeOk l) {who : Int} {P : List Int} {m : Nat → Int} (h : Pb l who P m) : wt m = if m 9 ∈ P then 1 else wN P.length := by
  have := six_len h.n (h.six hl)
  unfold wt
  rw [h.f.path (by omega), h.f.n, Int.toNat_natCast]

/-- Those by which one goes on. -/
def goOn (l : List (Nat → Int)) (m : Nat → Int) : List (Nat → Int) := (nexts l (m 9)).map (onE 1 m (updI (updI (fun _ => 0) 0 (m 9)) 1 (m 9)))
theorem Pb.go {l : List (Nat → Int)} (hl : EdgeOk l) {who : Int} {P : List Int} {m : Nat → Int} (h : Pb l who P m) :
    goP_F 1 m (m 9) l = if m 9 ∈ P then ([], 11) else (goOn l m, 0) := by
  have h6 := six_len h.n (h.six hl)
  have hs : stops_F m (m 9) = if m 9 ∈ P then 11 else 0 := by
    unfold stops_F
    rw [if_pos (h.is hl), if_neg (by
      rcases h.h10 with h | h <;> simp [h]), h.met hl]
    have hn := h.f.n
    by_cases hm : m 9 ∈ P
    · rw [decide_eq_true hm, if_pos rfl, if_pos hm]
    · rw [decide_eq_false hm, if_neg (by decide), if_neg (by omega), if_neg hm]
  unfold goP_F
  rw [hs]
  by_cases hm : m 9 ∈ P
  · rw [if_pos hm, if_neg (by decide), if_pos hm]
  · rw [if_neg hm, if_pos rfl, if_neg hm]
    have e : longF 1 m (updI (updI (fun _ => 0) 0 (m 9)) 1 (m 9)) l = goOn l m := by
      unfold longF goOn
      rw [ofB_nexts hl]
    have ha : (goOn l m).all isP_F = true := List.all_eq_true.2 fun p hp => by
      obtain ⟨e, he, rfl⟩ := List.mem_map.1 hp
      exact (h.on hl hm he).1.is hl
    unfold longer_F
    rw [e, if_pos ha]
theorem Pb.sum {l : List (Nat → Int)} (hl : EdgeOk l) {who : Int} {P : List Int} {m : Nat → Int} (h : Pb l who P m) (hm : m 9 ∉ P) : wsum (goOn l m) + 1 ≤ wt m := by
  have hP : (P ++ [m 9]).Nodup := List.nodup_append.2 ⟨h.n, by simp, fun a ha b hb => by
    rw [List.mem_singleton] at hb
    rintro rfl
    exact hm (hb ▸ ha)⟩
  have h9 := (hl.l h.e).2.1
  have h6 : ∀ y ∈ P ++ [m 9], 1 ≤ y ∧ y ≤ 6 := fun y hy => by
    rcases List.mem_append.1 hy with hy | hy
    · exact h.six hl y hy
    · rw [List.mem_singleton.1 hy]; exact h9
  have hlen := six_len hP h6
  rw [List.length_append, List.length_singleton] at hlen
  have hs := sum_le hl (m 9) (P ++ [m 9]) hP h6 (by simp) (wN (P.length + 1)) (wN_pos _) (onE 1 m (updI (updI (fun _ => 0) 0 (m 9)) 1 (m 9))) (fun e he => by
    obtain ⟨h1, h2⟩ := h.on hl hm he
    rw [h1.wt_le hl, h2, List.length_append, List.length_singleton]
    exact Nat.le_refl _)
  rw [h.wt_le hl, if_neg hm]
  unfold goOn
  rw [List.length_append, List.length_singleton] at hs
  have hpos := h.pos
  rcases (show P.length = 1 ∨ P.length = 2 ∨ P.length = 3 ∨ P.length = 4 ∨ P.length = 5 by omega) with e | e | e | e | e <;> rw [e] at hs ⊢ <;> simp only [wN] at hs ⊢ <;> omega
/-- Those with which it starts. -/
def goAt (l : List (Nat → Int)) (who : Int) : List (Nat → Int) := (nexts l who).map (onE 1 (fun _ => 0) (updI (updI (fun _ => 0) 0 who) 1 who))
theorem start_is {l : List (Nat → Int)} (hl : EdgeOk l) {who : Int} (hw : 1 ≤ who ∧ who ≤ 6) : startP_F 1 (updI (updI (fun _ => 0) 0 who) 1 who) l = (goAt l who, 0) ∧ wsum (goAt l who) ≤ 1630 := by
  have hP : Pf [who] (updI (updRI (updI (updI (updI (fun _ => 0) 0 11) 1 1) 11 1) 12 16 (updRI (fun _ => 0) 0 2 (updI (updI (fun _ => 0) 0 who) 1 who))) 9 1) := by
    refine ⟨fun i h1 h2 => ?_, rfl, fun k hk => ?_⟩
    · simp only [updI, updRI]
      rw [if_neg (by omega), if_neg (by omega), if_neg (by omega), if_neg (by omega), if_neg (by omega)]
    · rcases (show k = 0 ∨ 0 < k by omega) with rfl | h0
      · exact ⟨rfl, rfl⟩
      · simp only [updI, updRI]
        rw [List.getD_eq_getElem?_getD, List.getElem?_eq_none (by simp; omega)]
        constructor
        · rw [if_neg (by omega), if_pos (by omega), if_neg (by omega)]; rfl
        · rw [if_neg (by omega), if_pos (by omega), if_neg (by omega)]; rfl
  have hi : isP_F (updI (updRI (updI (updI (updI (fun _ => 0) 0 11) 1 1) 11 1) 12 16 (updRI (fun _ => 0) 0 2 (updI (updI (fun _ => 0) 0 who) 1 who))) 9 1) = true :=
    hP.is rfl rfl rfl ⟨Int.le_refl 1, (by decide : (1 : Int) ≤ 6)⟩ (.inl rfl) (by simp) (by simp) (fun x hx => by rw [List.mem_singleton.1 hx]; exact hw)
  have e : longF 1 (fun _ => 0) (updI (updI (fun _ => 0) 0 who) 1 who) l = goAt l who := by
    unfold longF goAt
    rw [ofB_nexts hl]
  have ha : (goAt l who).all isP_F = true := List.all_eq_true.2 fun p hp => by
    obtain ⟨e, he, rfl⟩ := List.mem_map.1 hp
    exact (Pb.start hl he).1.is hl
  constructor
  · unfold startP_F
    rw [if_pos hi]
    unfold longer_F
    rw [e, if_pos ha]
  · exact sum_le hl who [who] (by simp) (fun y hy => by rw [List.mem_singleton.1 hy]; exact hw) (by simp) (wN 1) (by decide) _ (fun e he => by
      obtain ⟨h1, h2⟩ := Pb.start hl he
      rw [h1.wt_le hl, h2]
      exact Nat.le_refl _)

/-! ### The chase -/
/-- One by which the chase comes to a circle. -/
def Good (l : List (Nat → Int)) (who : Int) (P : List Int) (y : Int) : Prop := y = who ∨ (y ∉ P ∧ ∃ j, Wk l who (fun z => z ∈ P) y j)
structure Chase (l : List (Nat → Int)) (who : Int) (s : List (Nat → Int) × List (Nat → Int) × Int) : Prop where
  n0 : 0 ≤ s.2.2
  w : s.2.2 + wsum s.1 ≤ 1630
  q : ∀ m ∈ s.1, ∃ P, Pb l who P m
  b : ∀ m ∈ s.2.1, ∃ P, Pb l who P m ∧ m 9 = who
  bl : (s.2.1.length : Int) ≤ s.2.2
  g : Rt l who who → s.2.1 ≠ [] ∨ ∃ m ∈ s.1, ∃ P, Pb l who P m ∧ Good l who P (m 9)
theorem Chase.len {q : List (Nat → Int)} : q.length ≤ wsum q := by
  induction q with
  | nil => simp
  | cons m q ih =>
    rw [wsum_cons, List.length_cons]
    have := wt_pos m
    omega
theorem Chase.start {l : List (Nat → Int)} (hl : EdgeOk l) {who : Int} (hw : 1 ≤ who ∧ who ≤ 6) : Chase l who (goAt l who, [], 0) := by
  refine ⟨by simp, by have := (start_is hl hw).2; simp only; omega, fun m hm => ?_, fun m hm => by simp at hm, by simp, fun hr => .inr ?_⟩
  · obtain ⟨e, he, rfl⟩ := List.mem_map.1 hm
    exact ⟨_, (Pb.start hl he).1⟩
  · obtain ⟨j, hj⟩ := Wk.of hr
    obtain ⟨y, ⟨e, he1, he2, he3⟩, hy⟩ := Wk.step j hj
    have he : e ∈ nexts l who := mem_nexts.2 ⟨he1, he2⟩
    obtain ⟨h1, h2⟩ := Pb.start hl he
    refine ⟨_, List.mem_map.2 ⟨e, he, rfl⟩, [who], h1, ?_⟩
    rw [h2, he3]
    rcases hy with rfl | ⟨h3, j, h4⟩
    · exact .inl rfl
    · refine .inr ⟨fun hm => h3 (.inr (List.mem_singleton.1 hm)), j, ?_⟩
      have : (fun z => z ∈ [who]) = fun z => False ∨ z = who := by
        funext z
        simp
      rw [this]; exact h4
theorem Chase.good {l : List (Nat → Int)} (hl : EdgeOk l) {who : Int} {P : List Int} {m : Nat → Int} (h : Pb l who P m) (hg : Good l who P (m 9)) (hw : m 9 ≠ who) : m 9 ∉ P ∧ ∃ p ∈ goOn l m, ∃ P', Pb l who P' p ∧ Good l who P' (p 9) := by
  rcases hg with hg | ⟨hm, j, hj⟩
  · exact absurd hg hw
  refine ⟨hm, ?_⟩
  obtain ⟨y, ⟨e, he1, he2, he3⟩, hy⟩ := Wk.step j hj
  have he : e ∈ nexts l (m 9) := mem_nexts.2 ⟨he1, he2⟩
  obtain ⟨h1, h2⟩ := h.on hl hm he
  refine ⟨_, List.mem_map.2 ⟨e, he, rfl⟩, _, h1, ?_⟩
  rw [h2, he3]
  rcases hy with rfl | ⟨h3, j, h4⟩
  · exact .inl rfl
  · refine .inr ⟨fun hm => h3 (by simpa using hm), j, ?_⟩
    have : (fun z => z ∈ P ++ [m 9]) = fun z => z ∈ P ∨ z = m 9 := by
      funext z
      simp
    rw [this]; exact h4

theorem chase_step {l : List (Nat → Int)} (hl : EdgeOk l) (hlen : l.length ≤ 12) {who : Int} {m : Nat → Int} {at_ back : List (Nat → Int)} {n : Int} (h : Chase l who (m :: at_, back, n)) :
    ∃ at' back', finds12_l3 l (m :: at_) back n (.inl (at', back', n + 1)) ∧ Chase l who (at', back', n + 1) := by
  obtain ⟨n0, w, q, b, bl, g⟩ := h
  simp only at n0 w q b bl g
  rw [wsum_cons] at w
  have hp := wt_pos m
  obtain ⟨P, hP⟩ := q m List.mem_cons_self
  have hin : inI64 (n + 1) := ⟨by omega, by omega⟩
  have hql := Chase.len (q := at_)
  have hcut : ((m :: at_).take (m :: at_).length).drop 1 = at_ := by rw [List.take_length]; rfl
  have hq' : ∀ x ∈ at_, ∃ P, Pb l who P x := fun x hx => q x (List.mem_cons_of_mem _ hx)
  have h0 : (m :: at_)[0]! = m := rfl
  unfold finds12_l3
  simp only [h0, hP.back hl, hP.go hl, hcut]
  have hc1 : ((decide (0 < ((m :: at_).length : Int))) && (decide (n < 3000))) = true := by
    simp only [List.length_cons, Bool.and_eq_true, decide_eq_true_eq]
    omega
  have hb1 : (0 ≤ (0 : Int) ∧ (0 : Int) < ((m :: at_).length : Int)) := ⟨by omega, by simp only [List.length_cons]; omega⟩
  have hb2 : (0 ≤ (1 : Int) ∧ (1 : Int) ≤ ((m :: at_).length : Int)) := ⟨by omega, by simp only [List.length_cons]; omega⟩
  by_cases hw : m 9 = who
  · refine ⟨at_, back ++ [m], ?_, ⟨by simp only; omega, by simp only; omega, hq', fun x hx => ?_, by simp only [List.length_append, List.length_singleton]; omega, fun _ => .inl (by simp)⟩⟩
    · rw [if_pos hc1, if_pos (decide_eq_true hw)]
      exact ⟨hb1, hb2, by omega, hin, rfl⟩
    · rcases List.mem_append.1 hx with hx | hx
      · exact b x hx
      · rw [List.mem_singleton.1 hx]; exact ⟨P, hP, hw⟩
  · have hgp : goP_P 1 m (m 9) l := goP_pre (by omega)
    by_cases hm : m 9 ∈ P
    · refine ⟨at_, back, ?_, ⟨by simp only; omega, by simp only; omega, hq', b, by simp only; omega, fun hr => ?_⟩⟩
      · rw [if_pos hc1, if_neg (by simpa using hw), if_pos hm, if_neg (by decide), List.append_nil]
        exact ⟨hb1, hb2, hgp, by simp only [List.length_nil]; omega, hin, rfl⟩
      · rcases g hr with h | ⟨x, hx, P', hP', hg⟩
        · exact .inl h
        · rcases List.mem_cons.1 hx with rfl | hx
          · have := hP'.f.path (by have := six_len hP'.n (hP'.six hl); omega)
            have e := hP.f.path (by have := six_len hP.n (hP.six hl); omega)
            rw [this] at e
            subst e
            exact absurd hm (Chase.good hl hP' hg hw).1
          · exact .inr ⟨x, hx, P', hP', hg⟩
    · have hsum := hP.sum hl hm
      have hgl := Chase.len (q := goOn l m)
      refine ⟨at_ ++ goOn l m, back, ?_, ⟨by simp only; omega, by simp only [wsum_app]; omega, fun x hx => ?_, b, by simp only; omega, fun hr => ?_⟩⟩
      · rw [if_pos hc1, if_neg (by simpa using hw), if_neg hm, if_neg (by exact Bool.false_ne_true)]
        refine ⟨hb1, hb2, hgp, ?_, hin, rfl⟩
        show (at_.length + (goOn l m).length) * 224 ≤ _
        omega
      · rcases List.mem_append.1 hx with hx | hx
        · exact hq' x hx
        · obtain ⟨e, he, rfl⟩ := List.mem_map.1 hx
          exact ⟨_, (hP.on hl hm he).1⟩
      · rcases g hr with h | ⟨x, hx, P', hP', hg⟩
        · exact .inl h
        · rcases List.mem_cons.1 hx with rfl | hx
          · obtain ⟨p, hp, h⟩ := (Chase.good hl hP' hg hw).2
            exact .inr ⟨p, List.mem_append_right _ hp, h⟩
          · exact .inr ⟨x, List.mem_append_left _ hx, P', hP', hg⟩
theorem chase_all {l : List (Nat → Int)} (hl : EdgeOk l) (hlen : l.length ≤ 12) {who : Int} (hw : 1 ≤ who ∧ who ≤ 6) :
    ∃ back, Wh (fun (s : (List (Nat → Int)) × (List (Nat → Int)) × Int) (o : ((List (Nat → Int)) × (List (Nat → Int)) × Int) ⊕ (((List (Nat → Int))) ⊕ (Unit))) => finds12_l3 l s.1 s.2.1 s.2.2 o) ((goAt l who, [], 0) : (List (Nat → Int)) × (List (Nat → Int)) × Int) (Sum.inl back) ∧
      (∀ m ∈ back, ∃ P, Pb l who P m ∧ m 9 = who) ∧ back.length ≤ 1630 ∧ (Rt l who who → back ≠ []) := by
  suffices h : ∃ r, Wh (fun (s : (List (Nat → Int)) × (List (Nat → Int)) × Int) (o : ((List (Nat → Int)) × (List (Nat → Int)) × Int) ⊕ (((List (Nat → Int))) ⊕ (Unit))) => finds12_l3 l s.1 s.2.1 s.2.2 o) ((goAt l who, [], 0) : (List (Nat → Int)) × (List (Nat → Int)) × Int) r ∧ ∃ back n, r = Sum.inl back ∧ Chase l who ([], back, n) by
    obtain ⟨_, hr, back, n, rfl, hC⟩ := h
    refine ⟨back, hr, hC.b, ?_, fun h => ?_⟩
    · have := hC.bl; have := hC.w
      simp only at *
      omega
    · rcases hC.g h with h | ⟨m, hm, _⟩
      · exact h
      · simp at hm
  refine Wh.by (Chase l who) (fun s => (3000 - s.2.2).toNat) (fun r => ∃ back n, r = Sum.inl back ∧ Chase l who ([], back, n)) (Chase.start hl hw) ?_
  rintro ⟨at_, back, n⟩ hC
  cases at_ with
  | nil =>
    refine .inr ⟨.inl back, ?_, back, n, rfl, hC⟩
    show finds12_l3 l [] back n _
    unfold finds12_l3
    rw [if_neg (by simp)]
  | cons m at_ =>
    obtain ⟨at', back', h1, h2⟩ := chase_step hl hlen hC
    have h3 := hC.w
    have h4 := hC.n0
    simp only at h3 h4
    exact .inl ⟨(at', back', n + 1), h1, h2, by simp only; omega⟩
end Go.E
