/- The engine, part 10: append to a slice whose segment may hold more; stores through places of elements. -/
import Derived.Test.YtjmfnohbeoiddaaE9
namespace Go.E
open Go

/-- A slice in a segment: nil, or of n elements with cells G. -/
def Oj (T : TypeId) (s : Nat) (B : GH) (v : Value) (n : Nat) (G : Nat → Value) : Prop :=
  (v = .slice none 0 0 ∧ n = 0) ∨ ∃ b o c N F, (b, BK N F T) ∈ B ∧ v = .slice (some ⟨b, o, none⟩) n c ∧ n ≤ c ∧ o + c * s ≤ N ∧ c ≤ maxLen ∧ ∀ i, i < n * s → F (o + i) = G i
theorem Oj.val {T : TypeId} {s n : Nat} {B : GH} {v : Value} {G : Nat → Value} (h : Oj T s B v n G) : ∃ p c, v = .slice p n c ∧ n ≤ c ∧ c ≤ maxLen ∧ (p = none → c = 0) := by
  rcases h with ⟨h2, h3⟩ | ⟨b, o, c, N, F, h1, h3, h4, h5, h6, h7⟩
  · subst h3; exact ⟨none, 0, h2, Nat.le_refl _, Nat.zero_le _, fun _ => rfl⟩
  · exact ⟨_, c, h3, h4, h6, fun h => by cases h⟩
theorem Oj.ext {T : TypeId} {s n : Nat} {B : GH} {v : Value} {G G' : Nat → Value} (h : Oj T s B v n G) (hG : ∀ i, i < n * s → G i = G' i) : Oj T s B v n G' := by
  rcases h with h | ⟨b, o, c, N, F, h1, h3, h4, h5, h6, h7⟩
  · exact .inl h
  · exact .inr ⟨b, o, c, N, F, h1, h3, h4, h5, h6, fun i hi => (h7 i hi).trans (hG i hi)⟩

section
variable {P : Program} {n : Nat} {w0 : World} {env : Env} {H : GH} {Q : Exit → Act → World → Prop} {ops : Array Oper} {rest : List Oper}
variable {d : Option Nat} {op : Op} {ty : TypeId} {pos : String} {af : Array Edge} {g : Option (Nat × Bool)}
variable {t yt : TypeId} {x y : Operand} {b o N s : Nat} {F : Nat → Value} {m k : Nat → Int} {T : TypeId}

theorem o_appj {e : TypeId} {by_ : Nat} {z : Value} {B : GH} {v : Value} {n m c2 : Nat} {G S : Nat → Value} {q : Option Addr} {ts : Array TypeId} {args : Array Operand} (ht : App P t e s by_ z) (hts : ts = #[t, t])
    (hargs : evL env args.toList = some [v, .slice q m c2]) (hown : Oj e s B v n G) (hsrc : ∀ w, St w0 (B ++ H) w → SrcAt w q (m * s) S) (h1 : ∀ i, i < m * s → (S i).oneCell' = true) (hmax : n + m ≤ maxLen) (hby : (n + m) * by_ ≤ 140737488355328) :
    OT P w0 env (B ++ H) ⟨d, .call ⟨.builtin .append, args, ts⟩, ty, pos, af, g⟩ (fun v' H' => ∃ B', H' = B' ++ H ∧ Cov w0 B B' ∧ Oj e s B' v' (n + m) (app G (n * s) S)) :=
  OT.val fun a w ha hs => by
    subst hts
    have e1 : args.map a.eval = #[v, .slice q m c2] := Array.toList_inj.1 (by simpa using evL_spec ha _ _ hargs)
    have hexec : (execOp a.eval ⟨d, .call ⟨.builtin .append, args, #[t, t]⟩, ty, pos, af, g⟩).run P w = ((Builtin.append_ #[t, t] ty #[v, .slice q m c2]).run P w).andThen fun u w' => .ok (.value u) w' := by
      simp [execOp, resolve, invoke, builtin, e1]
    obtain ⟨i, hi, hi'⟩ := Option.map_eq_some_iff.1 ht.i
    simp only [Prod.mk.injEq] at hi'
    obtain ⟨hi1, hi2, hi3⟩ := hi'
    have hspos : 0 < s := by simpa [Nat.blt_eq] using ht.pos
    have hmx : maxLen = 9223372036854775807 := by decide
    have hsrc' := hsrc w hs
    -- the case of nothing to put
    rcases Nat.eq_zero_or_pos m with hm0 | hmpos
    · subst hm0
      obtain ⟨p, c, hv, hnc, hcm, hpn⟩ := hown.val
      have hr : (Builtin.append_ #[t, t] ty #[v, .slice q 0 c2]).run P w = .ok v w := by
        rw [hv]
        cases q <;> cases p <;> simp [Builtin.append_, run_underlying ht.u, Go.sizeOf, typeInfo, hi, Builtin.lenOf, hnc, Builtin.firstCells, loadCells, loadCellsFrom, storeCells]
      refine ⟨v, w, B ++ H, by rw [hexec, hr]; rfl, hs, B, rfl, Cov.refl B, ?_⟩
      rw [Nat.add_zero]
      exact hown.ext fun i hi => by simp [app, hi]
    · have hms : m * s ≠ 0 := Nat.mul_ne_zero (by omega) (by omega)
      rcases hsrc' with h0 | ⟨b2, o2, hq, hcells⟩
      · exact absurd h0 hms
      · subst hq
        have hl : ((List.range (m * s)).map S).length = m * i.size := by rw [hi1]; simp
        have hnews := list_src hcells
        have hoc : ∀ u ∈ (List.range (m * s)).map S, u.oneCell' = true := by
          intro u hu
          obtain ⟨j, hj, rfl⟩ := List.mem_map.1 hu
          exact h1 j (List.mem_range.1 hj)
        rcases hown with ⟨hv, hn0⟩ | ⟨b, o, c, N, F, hB, hv, hnc, hoN, hcm, hF⟩
        · subst hv hn0
          simp only [Nat.zero_add] at hmax hby
          have hr := run_append_nil (P := P) w t ty e i z ht.u hi hi3 ⟨b2, o2, none⟩ m c2 _ hl hnews hmpos (by omega) (by rw [hi2]; omega)
          have hgc := grownCap_ge w m 0 e
          have hgm := grownCap_le_maxLen w m 0 e (by omega)
          have hobj : Obj.cells (((List.range (m * s)).map S).toArray ++ Builtin.zeroCells z.cells (grownCap w m 0 e - m)) e = BK (grownCap w m 0 e * s) (fun j => (((List.range (m * s)).map S).toArray ++ Builtin.zeroCells z.cells (grownCap w m 0 e - m)).getD j undef) e := by
            unfold BK
            congr 1
            refine CV_eq ?_ fun j hj => ?_
            · simp only [Array.size_append, List.size_toArray, List.length_map, List.length_range, size_zeroCells, ht.z, ← Nat.add_mul]
              congr 1; omega
            · have hsz : (((List.range (m * s)).map S).toArray ++ Builtin.zeroCells z.cells (grownCap w m 0 e - m)).size = grownCap w m 0 e * s := by
                simp only [Array.size_append, List.size_toArray, List.length_map, List.length_range, size_zeroCells, ht.z, ← Nat.add_mul]
                congr 1; omega
              simp only [Array.getD_eq_getD_getElem?]
              rw [Array.getElem?_eq_getElem (by rw [hsz]; exact hj)]
              rfl
          have hst := (hs.drew).alloc (Obj.cells (((List.range (m * s)).map S).toArray ++ Builtin.zeroCells z.cells (grownCap w m 0 e - m)) e)
          refine ⟨_, _, _, by rw [hexec, hr]; rfl, hst, (w.heap.size, BK (grownCap w m 0 e * s) (fun j => (((List.range (m * s)).map S).toArray ++ Builtin.zeroCells z.cells (grownCap w m 0 e - m)).getD j undef) e) :: B, by rw [hobj]; rfl, Cov.new hs.size, ?_⟩
          refine .inr ⟨w.heap.size, 0, grownCap w m 0 e, _, _, List.mem_cons_self .., by rw [Nat.zero_add], by omega, by omega, hgm, fun j hj => ?_⟩
          simp only [Nat.zero_add] at hj ⊢
          simp only [app, Nat.zero_mul, Nat.not_lt_zero, if_false, Nat.sub_zero]
          rw [Array.getD_eq_getD_getElem?, Array.getElem?_append_left (by simpa using hj)]
          simp [hj]
        · subst hv
          by_cases hroom : n + m ≤ c
          · -- there is room
            have hbk : w.heap[b]? = some (BK N F e) := hs.own _ _ (List.mem_append_left _ hB)
            have hcs : (n + m) * s ≤ c * s := Nat.mul_le_mul_right _ hroom
            rw [Nat.add_mul] at hcs
            have hfc := run_firstCells_some (P := P) w i.size m ⟨b2, o2, none⟩ m c2 _ hl hnews
            have hst := run_storeCells_at P b (o + n * s) e ((List.range (m * s)).map S) 0 (CV N F) w hbk (by simp; omega) hoc
            simp only [Nat.add_zero] at hst
            have hr : (Builtin.append_ #[t, t] ty #[.slice (some ⟨b, o, none⟩) n c, .slice (some ⟨b2, o2, none⟩) m c2]).run P w = .ok (.slice (some ⟨b, o, none⟩) (n + m) c) (w.setRow b ((CV N F).toList.take (o + n * s) ++ (List.range (m * s)).map S ++ (CV N F).toList.drop (o + n * s + ((List.range (m * s)).map S).length)).toArray) := by
              subst hi1
              simp [Builtin.append_, run_underlying ht.u, Go.sizeOf, typeInfo, hi, Builtin.lenOf, hroom, hfc, Addr.add_lit]
              simp at hst
              rw [hst]
              rfl
            have hsp : ((CV N F).toList.take (o + n * s) ++ (List.range (m * s)).map S ++ (CV N F).toList.drop (o + n * s + ((List.range (m * s)).map S).length)).toArray = CV N (updR F (o + n * s) (m * s) S) :=
              splice_CV (by simp; omega) (fun j hj => by
                have hj' : j < m * s := by simpa using hj
                simp only [updR]
                rw [if_pos (by omega)]
                simp [hj']) (fun j _ hh => by
                simp only [List.length_map, List.length_range] at hh
                simp only [updR]; rw [if_neg (by omega)])
            obtain ⟨B', hB'⟩ := Upd.ex (BK N (updR F (o + n * s) (m * s) S) e) hB
            refine ⟨_, _, _, by rw [hexec, hr]; rfl, hs.setRow (N := N) (F := F) (T := e) (b := b) (f' := updR F (o + n * s) (m * s) S) (List.mem_append_left _ hB) hsp hB'.left, B', rfl, Cov.upd hB', ?_⟩
            refine .inr ⟨b, o, c, N, _, hB'.isin, rfl, hroom, hoN, hcm, fun j hj => ?_⟩
            rw [Nat.add_mul] at hj
            simp only [updR, app]
            by_cases hjn : j < n * s
            · rw [if_neg (by omega), if_pos hjn, hF j hjn]
            · rw [if_pos (by omega), if_neg hjn]; congr 1; omega
          · -- it grows
            have hns : n * s ≤ c * s := Nat.mul_le_mul_right _ hnc
            have hbk : w.heap[b]? = some (BK N F e) := hs.own _ _ (List.mem_append_left _ hB)
            have holds : ∀ j u, ((List.range (n * s)).map G)[j]? = some u → w.cell? ((⟨b, o, none⟩ : Addr).add j) = some u :=
              list_src fun j hj => by rw [cell_BK hbk (by omega), hF j hj]
            have hr := run_append_grow (P := P) w t ty e i z ht.u hi hi3 ⟨b, o, none⟩ n c ((List.range (n * s)).map G) (by rw [hi1]; simp) holds ⟨b2, o2, none⟩ m c2 _ hl hnews (by omega) (by omega) (growslice_fits (by omega) (by rw [hi2]; exact hby))
            have hgc := grownCap_ge w (n + m) c e
            have hgm := grownCap_le_maxLen w (n + m) c e hmax
            have hsz : (((List.range (n * s)).map G).toArray ++ ((List.range (m * s)).map S).toArray ++ Builtin.zeroCells z.cells (grownCap w (n + m) c e - (n + m))).size = grownCap w (n + m) c e * s := by
              simp only [Array.size_append, List.size_toArray, List.length_map, List.length_range, size_zeroCells, ht.z, ← Nat.add_mul]
              congr 1; omega
            have hobj : Obj.cells (((List.range (n * s)).map G).toArray ++ ((List.range (m * s)).map S).toArray ++ Builtin.zeroCells z.cells (grownCap w (n + m) c e - (n + m))) e =
                BK (grownCap w (n + m) c e * s) (fun j => (((List.range (n * s)).map G).toArray ++ ((List.range (m * s)).map S).toArray ++ Builtin.zeroCells z.cells (grownCap w (n + m) c e - (n + m))).getD j undef) e := by
              unfold BK
              congr 1
              refine CV_eq hsz fun j hj => ?_
              simp only [Array.getD_eq_getD_getElem?]
              rw [Array.getElem?_eq_getElem (by rw [hsz]; exact hj)]
              rfl
            have hst := (hs.drew).alloc (Obj.cells (((List.range (n * s)).map G).toArray ++ ((List.range (m * s)).map S).toArray ++ Builtin.zeroCells z.cells (grownCap w (n + m) c e - (n + m))) e)
            refine ⟨_, _, _, by rw [hexec, hr]; rfl, hst, (w.heap.size, BK (grownCap w (n + m) c e * s) (fun j => (((List.range (n * s)).map G).toArray ++ ((List.range (m * s)).map S).toArray ++ Builtin.zeroCells z.cells (grownCap w (n + m) c e - (n + m))).getD j undef) e) :: B, by rw [hobj]; rfl, Cov.new hs.size, ?_⟩
            refine .inr ⟨w.heap.size, 0, grownCap w (n + m) c e, _, _, List.mem_cons_self .., rfl, hgc, by omega, hgm, fun j hj => ?_⟩
            rw [Nat.add_mul] at hj
            simp only [Nat.zero_add, app]
            rw [Array.getD_eq_getD_getElem?, Array.getElem?_append_left (by simp; omega)]
            by_cases hjn : j < n * s
            · rw [if_pos hjn, Array.getElem?_append_left (by simpa using hjn)]
              simp [hjn]
            · rw [if_neg hjn, Array.getElem?_append_right (by simp; omega)]
              simp [show j - n * s < m * s by omega]


end
section
variable {α : Type} {P : Program} {w0 : World} {env : Env} {H : GH}
variable {d : Option Nat} {ty : TypeId} {pos : String} {af : Array Edge} {g : Option (Nat × Bool)} {t : TypeId} {s : Nat} {c : α → Nat → Value}

/-- append, of lists. -/
theorem o_appJ {e : TypeId} {by_ : Nat} {z : Value} {B : GH} {v u : Value} {l l' : List α} {ts : Array TypeId} {args : Array Operand} (ht : App P t e s by_ z) (hts : ts = #[t, t])
    (hargs : evL env args.toList = some [v, u]) (hown : OJ e s c B v l) (hsrc : ∀ w, St w0 (B ++ H) w → SL w s c u l') (h1 : ∀ (a : α) (i : Nat), (c a i).oneCell' = true) (hby : (l.length + l'.length) * by_ ≤ 140737488355328) (hmax : l.length + l'.length ≤ maxLen) :
    OT P w0 env (B ++ H) ⟨d, .call ⟨.builtin .append, args, ts⟩, ty, pos, af, g⟩ (fun v' H' => ∃ B', H' = B' ++ H ∧ Cov w0 B B' ∧ OJ e s c B' v' (l ++ l')) := by
  intro a w ha hs
  obtain ⟨p, cap, hu, _, _, hpn, hsrc0⟩ := hsrc w hs
  subst hu
  have hspos : 0 < s := by simpa [Nat.blt_eq] using ht.pos
  have hsrc2 : ∀ w', St w0 (B ++ H) w' → SrcAt w' p (l'.length * s) (eG s c l') := by
    intro w' hs'
    obtain ⟨p', cap', hu', _, _, _, h⟩ := hsrc w' hs'
    cases hu'
    exact h
  have h1' : ∀ i, i < l'.length * s → (eG s c l' i).oneCell' = true := by
    intro i hi
    have : i / s < l'.length := by rw [Nat.div_lt_iff_lt_mul hspos]; exact hi
    simp only [eG, List.getElem?_eq_getElem this, Option.elim_some, h1]
  have hj : Oj e s B v l.length (eG s c l) := by
    rcases hown with ⟨h1, h2⟩ | h
    · exact .inl ⟨h1, by rw [h2]; rfl⟩
    · exact .inr h
  have := o_appj (d := d) (ty := ty) (pos := pos) (af := af) (g := g) (B := B) (H := H) (n := l.length) (m := l'.length) ht hts hargs hj hsrc2 h1' hmax hby a w ha hs
  refine wp_mono2 ?_ (fun _ _ _ h => h.elim) this
  rintro a' w' ⟨v', H', rfl, hs', B', rfl, hcov, hown'⟩
  refine ⟨v', _, rfl, hs', B', rfl, hcov, ?_⟩
  have hx := hown'.ext (eG_app hspos c l l')
  rcases hx with ⟨h1, h2⟩ | ⟨b, o, cp, N, F, h1, h2⟩
  · exact .inl ⟨h1, by rw [← List.length_append] at h2; exact List.length_eq_zero_iff.1 h2⟩
  · exact .inr ⟨b, o, cp, N, F, h1, by rw [List.length_append]; exact h2⟩

/-- A store into an element. -/
theorem eG_set {l : List α} {j : Nat} (e : α) (hj : j < l.length) (hs : 0 < s) (i : Nat) : eG s c (l.set j e) i = if j * s ≤ i ∧ i < j * s + s then c e (i - j * s) else eG s c l i := by
  simp only [eG, List.getElem?_set]
  have hdm := Nat.div_add_mod i s
  have hml := Nat.mod_lt i hs
  by_cases h : j = i / s
  · subst h
    rw [Nat.mul_comm] at hdm
    rw [if_pos rfl, if_pos hj, if_pos (by omega)]
    simp only [Option.elim_some]
    congr 1; omega
  · rw [if_neg h, if_neg]
    intro hh
    apply h
    have h1 : j ≤ i / s := (Nat.le_div_iff_mul_le hs).2 hh.1
    have h2 : i / s < j + 1 := by rw [Nat.div_lt_iff_lt_mul hs, Nat.add_mul, Nat.one_mul]; exact hh.2
    omega

theorem OJ.set {T : TypeId} {B : GH} {v : Value} {l : List α} {j : Nat} (h : OJ T s c B v l) (hj : j < l.length) (hs : 0 < s) (e : α) : ∃ b o cap N F, v = .slice (some ⟨b, o, none⟩) l.length cap ∧ (b, BK N F T) ∈ B ∧ o + (j * s + s) ≤ N ∧
    ∀ B', Upd B b (BK N (updR F (o + j * s) s (c e)) T) B' → OJ T s c B' v (l.set j e) := by
  rcases h with ⟨_, rfl⟩ | ⟨b, o, cap, N, F, h1, h2, h3, h4, h5, h6⟩
  · simp at hj
  · have hle := Nat.mul_le_mul_right s (show j + 1 ≤ l.length by omega)
    have hle2 := Nat.mul_le_mul_right s h3
    rw [Nat.add_mul, Nat.one_mul] at hle
    refine ⟨b, o, cap, N, F, h2, h1, by omega, fun B' hu => .inr ⟨b, o, cap, N, _, hu.isin, by rw [List.length_set]; exact h2, by rw [List.length_set]; exact h3, h4, h5, fun i hi => ?_⟩⟩
    rw [List.length_set] at hi
    rw [eG_set e hj hs]
    simp only [updR]
    by_cases hh : j * s ≤ i ∧ i < j * s + s
    · rw [if_pos (by omega), if_pos hh]; congr 1; omega
    · rw [if_neg (by omega), if_neg hh, h6 i hi]

/-- xs[j] = e, of one cell. -/
theorem o_stL1 {T : TypeId} {B : GH} {x y : Operand} {v u : Value} {l : List α} {k j : Nat} {e : α} {c : α → Nat → Value} (hx : ev env x = some (.pointer (some (sadr v k)))) (hy : ev env y = some u) (ht : TyS P t 1 false) (h1 : u.oneCell' = true) (hJ : OJ T 1 c B v l) (hj : j < l.length) (hk : k = j * 1) (hu : c e = fun _ => u) :
    OT P w0 env (B ++ H) ⟨none, .store t x y, ty, pos, af, g⟩ (fun _ H' => ∃ B', H' = B' ++ H ∧ Cov w0 B B' ∧ OJ T 1 c B' v (l.set j e)) := by
  intro a w ha hs
  subst hk
  obtain ⟨b, o, cap, N, F, hv, hm, hle, hset⟩ := hJ.set hj (by omega) e
  obtain ⟨B', hB'⟩ := Upd.ex (BK N (updR F (o + j * 1) 1 (c e)) T) hm
  have e1 : updR F (o + j * 1) 1 (c e) = upd F (o + j * 1) u := by
    funext i; simp only [updR, upd, hu]
    by_cases h : i = o + j * 1
    · rw [if_pos (by omega), if_pos h]
    · rw [if_neg (by omega), if_neg h]
  have := o_st (w0 := w0) (env := env) (H := B ++ H) (H' := B' ++ H) (b := b) (o := o + j * 1) (N := N) (F := F) (T := T) (ty := ty) (pos := pos) (af := af) (g := g) (by rw [hx, hv]; simp [sadr, Addr.add_lit]) hy ht h1 (List.mem_append_left _ hm) (by omega) (by rw [← e1]; exact hB'.left) a w ha hs
  refine wp_mono2 ?_ (fun _ _ _ h => h.elim) this
  rintro a' w' ⟨v', H', rfl, hs', rfl, rfl⟩
  exact ⟨undef, _, rfl, hs', B', rfl, Cov.upd hB', hset B' hB'⟩
/-- xs[j] = e, of several cells. -/
theorem o_stLA {T : TypeId} {B : GH} {x y : Operand} {v : Value} {l : List α} {k j : Nat} {e : α} {c : α → Nat → Value} (hx : ev env x = some (.pointer (some (sadr v k)))) (hy : ev env y = some (AG s (c e))) (ht : TyS P t s true) (hs0 : Nat.blt 0 s = true) (h1 : ∀ i, i < s → (c e i).oneCell' = true) (hJ : OJ T s c B v l) (hj : j < l.length) (hk : k = j * s) :
    OT P w0 env (B ++ H) ⟨none, .store t x y, ty, pos, af, g⟩ (fun _ H' => ∃ B', H' = B' ++ H ∧ Cov w0 B B' ∧ OJ T s c B' v (l.set j e)) := by
  intro a w ha hs
  subst hk
  obtain ⟨b, o, cap, N, F, hv, hm, hle, hset⟩ := hJ.set hj (by simpa [Nat.blt_eq] using hs0) e
  obtain ⟨B', hB'⟩ := Upd.ex (BK N (updR F (o + j * s) s (c e)) T) hm
  have := o_stS (w0 := w0) (env := env) (H := B ++ H) (H' := B' ++ H) (b := b) (o := o + j * s) (N := N) (F := F) (T := T) (ty := ty) (pos := pos) (af := af) (g := g) (by rw [hx, hv]; simp [sadr, Addr.add_lit]) hy ht h1 (List.mem_append_left _ hm) (by omega) hB'.left a w ha hs
  refine wp_mono2 ?_ (fun _ _ _ h => h.elim) this
  rintro a' w' ⟨v', H', rfl, hs', rfl, rfl⟩
  exact ⟨undef, _, rfl, hs', B', rfl, Cov.upd hB', hset B' hB'⟩
end
end Go.E
namespace Go.E
open Go
section
variable {P : Program} {n : Nat} {w0 : World} {env : Env} {H : GH} {o : Oper}
theorem OT.st {H1 : GH} {R : Value → GH → Prop} (hh : ∀ w, St w0 H w → St w0 H1 w) (h : OT P w0 env H1 o R) : OT P w0 env H o R := fun a w ha hs => h a w ha (hh w hs)
end
end Go.E
namespace Go.E
open Go
section
variable {P : Program} {n : Nat} {w0 : World} {ops : Array Oper} {KS : List Nat} {env0 env : Env} {dn : List Nat} {H RS : GH} {Q : Exit → Act → World → Prop}
/-- One that only reads. -/
theorem xd_all (hok : RegOK n ops = true) (i : Nat) {o : Oper} {d : Nat} {v : Value} (l : Env) (ho : ops[i]? = some o) (hd : o.dst = some d) (hn : dn.contains i = false) (hl : Live env l) (hs : slotsOK ops dn i (l.map (·.1)) = true) (hw : Wt ops l o.guard)
    (ht : ∀ H', (∀ x ∈ H, x ∈ H') → (∀ k ∈ keys H', k ∈ KS ∨ w0.heap.size ≤ k) → OT P w0 l H' o (Is v H')) (k : XD P n w0 ops KS env0 (i :: dn) ((d, v) :: env) H (H ++ RS) Q) : XD P n w0 ops KS env0 dn env H RS Q :=
  xd_take hok i l H ho hd hn hl hs (fun _ h => h) (fun H' h h2 => .inl ⟨hw, ht H' h h2⟩) k
end
end Go.E
