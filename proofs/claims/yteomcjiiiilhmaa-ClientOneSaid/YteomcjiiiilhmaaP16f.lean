/- Clients: one transaction each, and who is dead stays so. -/
import Derived.Test.YteomcjiiiilhmaaG16S
import Derived.Test.YteomcjiiiilhmaaP16d
namespace Go.E
open Go
set_option linter.unusedVariables false
set_option maxRecDepth 100000

/-- What is done leaves who is dead dead, and gives him no transaction. -/
theorem act_dead {n : Int} {c : Nat → Int} (h : Inv16 n c) (a : Nat → Int) {j : Nat} (hj : j < 9) (hd : nz (c (1 + (j * 3 + 2))) = true) :
    nz ((act16_F c a).2 (1 + (j * 3 + 2))) = true ∧ ((act16_F c a).2 (1 + j * 3) = c (1 + j * 3) ∨ (act16_F c a).2 (1 + j * 3) = 0) := by
  have hn := h.n1
  have keep : nz (c (1 + (j * 3 + 2))) = true ∧ (c (1 + j * 3) = c (1 + j * 3) ∨ c (1 + j * 3) = 0) := ⟨hd, .inl rfl⟩
  unfold act16_F
  by_cases h0 : a 0 = 0
  · rw [if_pos h0]
    simp only [(begin_eq h (a 1) (a 2)).2]
    by_cases h1 : a 1 < 1 ∨ n < a 1
    · rw [if_pos h1]; exact keep
    · rw [if_neg h1]
      by_cases h2 : a 2 < 1 ∨ 1048576 < a 2
      · rw [if_pos h2]; exact keep
      · rw [if_neg h2]
        by_cases h3 : nz (c (1 + ((a 1).toNat * 3 + 2))) = true
        · rw [if_pos h3]; exact keep
        · rw [if_neg h3]
          by_cases h4 : c (1 + (a 1).toNat * 3) = 0
          · rw [if_pos h4]
            by_cases h5 : cofI c (a 2) = 0
            · rw [if_pos h5]
              simp only
              have hne : j ≠ (a 1).toNat := by
                rintro rfl
                exact h3 hd
              rw [up_2, up_tx, if_neg hne]
              exact keep
            · rw [if_neg h5]; exact keep
          · rw [if_neg h4]; exact keep
  · rw [if_neg h0]
    by_cases h1 : a 0 = 1
    · rw [if_pos h1]
      simp only [(end_eq h (a 2)).2]
      by_cases h2 : cofI c (a 2) = 0
      · rw [if_pos h2]; exact keep
      · rw [if_neg h2]
        simp only
        rw [up_2, up_tx]
        refine ⟨hd, ?_⟩
        split
        · exact .inr rfl
        · exact .inl rfl
    · rw [if_neg h1]
      simp only [(crash_eq h (a 1) (a 3)).2]
      by_cases h2 : a 1 < 1 ∨ n < a 1
      · rw [if_pos h2]; exact keep
      · rw [if_neg h2]
        by_cases h3 : a 3 < 0 ∨ 1099511627776 < a 3
        · rw [if_pos h3]; exact keep
        · rw [if_neg h3]
          by_cases h4 : nz (c (1 + ((a 1).toNat * 3 + 2))) = true
          · rw [if_pos h4]; exact keep
          · rw [if_neg h4]
            simp only
            rw [dead_2, dead_tx]
            refine ⟨?_, .inl rfl⟩
            split
            · rfl
            · exact hd

theorem now8 {c : Nat → Int} (h : Inv16 8 c) {k : Int} (hk : 1 ≤ k ∧ k ≤ 8) : cnow_P c k ∧ (cnow_F c k).1 = c (1 + k.toNat * 3) ∧ ((cnow_F c k).2 = 0 ↔ c (1 + k.toNat * 3) ≠ 0) := by
  obtain ⟨p, f⟩ := now_eq h k
  rw [if_neg (by omega)] at f
  refine ⟨p, ?_⟩
  rw [f]
  by_cases h0 : c (1 + k.toNat * 3) = 0
  · rw [if_pos h0]; exact ⟨h0.symm, by simp [h0]⟩
  · rw [if_neg h0]; exact ⟨rfl, by simp [h0]⟩
theorem alive8 {c : Nat → Int} (h : Inv16 8 c) {k : Int} (hk : 1 ≤ k ∧ k ≤ 8) : calive_P c k ∧ calive_F c k = !(nz (c (1 + (k.toNat * 3 + 2)))) := by
  obtain ⟨p, f⟩ := alive_eq h k
  rw [if_neg (by omega)] at f
  exact ⟨p, f⟩

/-- What was noted ahead. -/
structure Had (c : Nat → Int) (k : Int) (s : Int × (Nat → Int) × (Nat → Int)) : Prop where
  i0 : 1 ≤ s.1
  i1 : s.1 ≤ 9
  f : ∀ j : Nat, 1 ≤ j → (j : Int) < s.1 → s.2.1 (0 + j * 1) = c (1 + j * 3) ∧ nz (s.2.2 (0 + j * 1)) = nz (c (1 + (j * 3 + 2)))
theorem one16_had {c : Nat → Int} (h : Inv16 8 c) : ∃ had dead, Wh (fun (s : Int × (Nat → Int) × (Nat → Int)) (o : (Int × (Nat → Int) × (Nat → Int)) ⊕ ((Nat → Int) × (Nat → Int))) => one16_l2 c s.1 s.2.1 s.2.2 o) ((1, (fun _ => 0), (fun _ => 0)) : Int × (Nat → Int) × (Nat → Int)) (had, dead) ∧ Had c 9 (9, had, dead) := by
  suffices hs : ∃ r, Wh (fun (s : Int × (Nat → Int) × (Nat → Int)) (o : (Int × (Nat → Int) × (Nat → Int)) ⊕ ((Nat → Int) × (Nat → Int))) => one16_l2 c s.1 s.2.1 s.2.2 o) ((1, (fun _ => 0), (fun _ => 0)) : Int × (Nat → Int) × (Nat → Int)) r ∧ Had c 9 (9, r.1, r.2) by
    obtain ⟨⟨a, b⟩, h1, h2⟩ := hs
    exact ⟨a, b, h1, h2⟩
  refine Wh.by (Had c 9) (fun (s : Int × (Nat → Int) × (Nat → Int)) => (9 - s.1).toNat) (fun (r : (Nat → Int) × (Nat → Int)) => Had c 9 (9, r.1, r.2)) ⟨by simp, by simp, fun j h1 h2 => by simp only at h2; omega⟩ ?_
  rintro ⟨k, had, dead⟩ ⟨i0, i1, hf⟩
  simp only at i0 i1 hf
  by_cases hk : k ≤ 8
  · obtain ⟨nP, n1, _⟩ := now8 h (k := k) ⟨i0, hk⟩
    obtain ⟨aP, aF⟩ := alive8 h (k := k) ⟨i0, hk⟩
    refine .inl ⟨(k + 1, updI had (0 + (k.toNat * 1)) ((cnow_F c k).1), updI dead (0 + (k.toNat * 1)) (bI (!((calive_F c k))))), ?_, ⟨by simp only; omega, by simp only; omega, fun j h1 h2 => ?_⟩, by simp only; omega⟩
    · show one16_l2 c k had dead _
      unfold one16_l2
      rw [if_pos hk]
      exact ⟨aP, ⟨by omega, by omega⟩, nP, ⟨by omega, by omega⟩, ⟨by omega, by omega⟩, rfl⟩
    · simp only at h2 ⊢
      by_cases hj : j = k.toNat
      · subst hj
        rw [updI_at, updI_at, n1, aF, Bool.not_not, nz_bI]
        exact ⟨rfl, rfl⟩
      · rw [updI_ne (by omega), updI_ne (by omega)]
        exact hf j h1 (by omega)
  · obtain rfl : k = 9 := by omega
    refine .inr ⟨(had, dead), ?_, i0, i1, hf⟩
    show one16_l2 c 9 had dead _
    unfold one16_l2
    rw [if_neg (by omega)]

structure Seen (c : Nat → Int) (s : List (Int × Bool) × Int) : Prop where
  i0 : 1 ≤ s.2
  i1 : s.2 ≤ 9
  f : ∀ x, mget ieq s.1 x false = true → ∃ j : Nat, 1 ≤ j ∧ (j : Int) < s.2 ∧ c (1 + j * 3) = x
theorem one16_tail {c : Nat → Int} (h : Inv16 8 c) {seen : List (Int × Bool)} {k : Int} (hS : Seen c (seen, k)) (hk : k ≤ 8) :
    ∃ seen', Seen c (seen', k + 1) ∧
      (if (cnow_F c k).2 = 0 then
        if ((((mget ieq seen ((cnow_F c k).1) false)) || (!(decide ((cof_F c ((cnow_F c k).1)).1 = k)))) || (!(decide ((cof_F c ((cnow_F c k).1)).2 = 0)))) = true then
          (Sum.inl (seen', k + 1) : ((List (Int × Bool)) × Int) ⊕ ((Unit) ⊕ (Unit))) = (.inr (.inr ()))
        else
          (inI64 (k + 1)) ∧ (
          (Sum.inl (seen', k + 1) : ((List (Int × Bool)) × Int) ⊕ ((Unit) ⊕ (Unit))) = (.inl (mset ieq seen ((cnow_F c k).1) true, k + 1)))
      else
        (inI64 (k + 1)) ∧ (
        (Sum.inl (seen', k + 1) : ((List (Int × Bool)) × Int) ⊕ ((Unit) ⊕ (Unit))) = (.inl (seen, k + 1)))) := by
  obtain ⟨i0, i1, hf⟩ := hS
  simp only at i0 i1 hf
  obtain ⟨nP, n1, n2⟩ := now8 h (k := k) ⟨i0, hk⟩
  have hin : inI64 (k + 1) := ⟨by omega, by omega⟩
  by_cases h0 : c (1 + k.toNat * 3) = 0
  · refine ⟨seen, ⟨by simp only; omega, by simp only; omega, fun x hx => ?_⟩, ?_⟩
    · obtain ⟨j, g1, g2, g3⟩ := hf x hx
      exact ⟨j, g1, by simp only; omega, g3⟩
    · rw [if_neg (fun e => n2.1 e h0)]
      exact ⟨hin, rfl⟩
  · have hkt := h.tx k.toNat (by omega)
    have hco : cofI c (c (1 + k.toNat * 3)) = k := by
      rcases h.of (c (1 + k.toNat * 3)) with ⟨_, g⟩ | ⟨j, g1, g2, g3, g4⟩
      · exact absurd rfl (g k.toNat (by omega) (by omega))
      · have := h.one j k.toNat (by omega) (by omega) g4 (by rw [g4]; exact h0)
        rw [g1]; omega
    obtain ⟨e1, e2⟩ := cof_eq c (c (1 + k.toNat * 3))
    rw [hco] at e1 e2
    rw [if_neg (by omega)] at e2
    have hno : mget ieq seen (c (1 + k.toNat * 3)) false = false := by
      cases hm : mget ieq seen (c (1 + k.toNat * 3)) false with
      | false => rfl
      | true =>
        obtain ⟨j, g1, g2, g3⟩ := hf _ hm
        have := h.one j k.toNat (by omega) (by omega) g3 (by rw [g3]; exact h0)
        omega
    refine ⟨mset ieq seen ((cnow_F c k).1) true, ⟨by simp only; omega, by simp only; omega, fun x hx => ?_⟩, ?_⟩
    · simp only at hx ⊢
      rw [mget_mset eqk_int, n1] at hx
      by_cases hxk : x = c (1 + k.toNat * 3)
      · exact ⟨k.toNat, by omega, by omega, hxk.symm⟩
      · rw [if_neg (fun e => hxk (ieq_iff.1 e))] at hx
        obtain ⟨j, g1, g2, g3⟩ := hf x hx
        exact ⟨j, g1, by omega, g3⟩
    · rw [if_pos (n2.2 h0), n1, hno, e1, e2, if_neg (by simp)]
      exact ⟨hin, rfl⟩

theorem one16_look (acts : List (Nat → Int)) (i : Int) (c had dead : Nat → Int) (h : Inv16 8 c) (hH : Had c 9 (9, had, dead)) :
    Wh (fun (s : (List (Int × Bool)) × Int) (o : ((List (Int × Bool)) × Int) ⊕ ((Unit) ⊕ (Unit))) => one16_l3 acts i c had dead s.1 s.2 o) (([], 1) : (List (Int × Bool)) × Int) (.inl ()) := by
  generalize ha : acts[i.toNat]! = a
  have hI := (h.act a).2
  suffices hs : ∃ r, Wh (fun (s : (List (Int × Bool)) × Int) (o : ((List (Int × Bool)) × Int) ⊕ ((Unit) ⊕ (Unit))) => one16_l3 acts i c had dead s.1 s.2 o) (([], 1) : (List (Int × Bool)) × Int) r ∧ r = .inl () by
    obtain ⟨_, hr, rfl⟩ := hs
    exact hr
  refine Wh.by (Seen (act16_F c a).2) (fun (s : (List (Int × Bool)) × Int) => (9 - s.2).toNat) (fun (r : (Unit) ⊕ (Unit)) => r = .inl ()) ⟨by simp, by simp, fun x hx => by simp [mget, mfind] at hx⟩ ?_
  rintro ⟨seen, k⟩ hS
  have i0 := hS.i0
  have i1 := hS.i1
  simp only at i0 i1
  by_cases hk : k ≤ 8
  · obtain ⟨seen', hS', hT⟩ := one16_tail hI hS hk
    refine .inl ⟨(seen', k + 1), ?_, hS', by simp only; omega⟩
    obtain ⟨nP, n1, n2⟩ := now8 hI (k := k) ⟨i0, hk⟩
    obtain ⟨aP, aF⟩ := alive8 hI (k := k) ⟨i0, hk⟩
    obtain ⟨f1, f2⟩ := hH.f k.toNat (by omega) (by simp only; omega)
    simp only at f1 f2
    show one16_l3 acts i c had dead seen k _
    unfold one16_l3
    rw [if_pos hk, ha]
    refine ⟨nP, ⟨by omega, by omega⟩, ?_⟩
    rw [f2]
    by_cases hd : nz (c (1 + (k.toNat * 3 + 2))) = true
    · rw [if_pos hd]
      obtain ⟨d1, d2⟩ := act_dead h a (by omega) hd
      refine ⟨aP, ?_⟩
      rw [aF, d1, if_neg (by decide)]
      refine ⟨⟨by omega, by omega⟩, ?_⟩
      by_cases he : (cnow_F (act16_F c a).2 k).1 = had (0 + (k.toNat * 1))
      · rw [if_pos he]; exact hT
      · rw [if_neg he, if_pos (by
          rw [f1, n1] at he
          rw [n1]
          exact d2.resolve_left he)]
        exact hT
    · rw [if_neg hd]; exact hT
  · obtain rfl : k = 9 := by omega
    refine .inr ⟨.inl (), ?_, rfl⟩
    show one16_l3 acts i c had dead seen 9 _
    unfold one16_l3
    rw [if_neg (by omega)]

theorem one16_all (acts : List (Nat → Int)) : one16_S acts true := by
  unfold one16_S
  refine ⟨alive16_p, ?_⟩
  rw [if_pos alive16_t]
  refine ite_intro (fun _ => rfl) fun hlen => ?_
  rw [if_pos (by decide)]
  suffices h : ∃ r, Wh (fun (s : Int × (Nat → Int)) (o : (Int × (Nat → Int)) ⊕ (((Nat → Int)) ⊕ ((Nat → Int)))) => one16_l1 acts s.1 s.2 o) ((0, (updI (fun _ => 0) 0 8)) : Int × (Nat → Int)) r ∧ ∃ c, r = Sum.inl c by
    obtain ⟨_, hr, c, rfl⟩ := h
    exact ⟨_, hr, rfl⟩
  refine Wh.by (fun (s : Int × (Nat → Int)) => 0 ≤ s.1 ∧ s.1 ≤ acts.length ∧ Inv16 8 s.2) (fun s => ((acts.length : Int) - s.1).toNat) (fun r => ∃ c, r = Sum.inl c) ⟨by simp, by simp, Inv16.start (by omega)⟩ ?_
  rintro ⟨i, c⟩ ⟨i0, i1, hI⟩
  simp only at i0 i1 hI
  by_cases hi : i < acts.length
  · have ha := hI.act (acts[i.toNat]!)
    obtain ⟨had, dead, h1, h2⟩ := one16_had hI
    refine .inl ⟨(i + 1, (act16_F c (acts[i.toNat]!)).2), ?_, ⟨by simp only; omega, by simp only; omega, ha.2⟩, by simp only; omega⟩
    show one16_l1 acts i c _
    unfold one16_l1
    rw [if_pos hi]
    refine ⟨(had, dead), h1, ?_⟩
    show one16_k2a acts i c had dead _
    unfold one16_k2a
    exact ⟨⟨i0, hi⟩, ha.1, .inl (), one16_look acts i c had dead hI h2, ⟨by omega, by omega⟩, rfl⟩
  · refine .inr ⟨.inl c, ?_, c, rfl⟩
    show one16_l1 acts i c _
    unfold one16_l1
    rw [if_neg hi]
end Go.E
