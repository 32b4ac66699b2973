/- The engine, part 7: against nil; slices of the call's own; append; literals of slices; reading what came in. -/
import Derived.Test.YtjmfnohbeoiddaaE6
namespace Go.E
open Go

/-- Cells that can be read. -/
def SrcAt (w : World) (q : Option Addr) (k : Nat) (S : Nat → Value) : Prop := k = 0 ∨ ∃ b o, q = some ⟨b, o, none⟩ ∧ ∀ i, i < k → w.cell? ⟨b, o + i, none⟩ = some (S i)

/-- A slice of the call's own: nil, or it lies in a block of its own (B). G: what its cells hold. -/
def Own (w0 : World) (T : TypeId) (s : Nat) (B : GH) (v : Value) (n : Nat) (G : Nat → Value) : Prop :=
  (B = [] ∧ v = .slice none 0 0 ∧ n = 0) ∨ ∃ b o c N F, B = [(b, BK N F T)] ∧ w0.heap.size ≤ b ∧ v = .slice (some ⟨b, o, none⟩) n c ∧ n ≤ c ∧ o + c * s ≤ N ∧ c ≤ maxLen ∧ ∀ i, i < n * s → F (o + i) = G i

/-- A slice that can be read in w: of n elements, its cells hold G. -/
def Sl (w : World) (s : Nat) (v : Value) (n : Nat) (G : Nat → Value) : Prop := ∃ p c, v = .slice p n c ∧ n ≤ c ∧ c ≤ maxLen ∧ (p = none → c = 0) ∧ SrcAt w p (n * s) G

def app (G : Nat → Value) (k : Nat) (S : Nat → Value) : Nat → Value := fun i => if i < k then G i else S (i - k)

theorem Own.nil {w0 : World} {T : TypeId} {s : Nat} (G : Nat → Value) : Own w0 T s [] (.slice none 0 0) 0 G := .inl ⟨rfl, rfl, rfl⟩
theorem Own.mk {w0 : World} {T : TypeId} {s b o n c N : Nat} {F G : Nat → Value} (hb : w0.heap.size ≤ b) (hn : n ≤ c) (hN : o + c * s ≤ N) (hc : c ≤ maxLen) (hF : ∀ i, i < n * s → F (o + i) = G i) :
    Own w0 T s [(b, BK N F T)] (.slice (some ⟨b, o, none⟩) n c) n G := .inr ⟨b, o, c, N, F, rfl, hb, rfl, hn, hN, hc, hF⟩
theorem Own.ext {w0 : World} {T : TypeId} {s n : Nat} {B : GH} {v : Value} {G G' : Nat → Value} (h : Own w0 T s B v n G) (hG : ∀ i, i < n * s → G i = G' i) : Own w0 T s B v n G' := by
  rcases h with h | ⟨b, o, c, N, F, h1, h2, h3, h4, h5, h6, h7⟩
  · exact .inl h
  · exact .inr ⟨b, o, c, N, F, h1, h2, h3, h4, h5, h6, fun i hi => (h7 i hi).trans (hG i hi)⟩
theorem Own.val {w0 : World} {T : TypeId} {s n : Nat} {B : GH} {v : Value} {G : Nat → Value} (h : Own w0 T s B v n G) : ∃ p c, v = .slice p n c ∧ n ≤ c ∧ c ≤ maxLen ∧ (p = none → c = 0) := by
  rcases h with ⟨_, h2, h3⟩ | ⟨b, o, c, N, F, h1, h2, h3, h4, h5, h6, h7⟩
  · subst h3; exact ⟨none, 0, h2, Nat.le_refl _, Nat.zero_le _, fun _ => rfl⟩
  · exact ⟨_, c, h3, h4, h6, fun h => by cases h⟩
theorem Own.fresh {w0 : World} {T : TypeId} {s n : Nat} {B : GH} {v : Value} {G : Nat → Value} (h : Own w0 T s B v n G) : ∀ b, b ∈ keys B → w0.heap.size ≤ b := by
  rcases h with ⟨h1, _⟩ | ⟨b, o, c, N, F, h1, h2, _⟩
  · subst h1; simp
  · subst h1; simpa using h2
/-- It can be read in every world of that state. -/
theorem Own.src {w0 w : World} {T : TypeId} {s n : Nat} {B H : GH} {v : Value} {G : Nat → Value} (h : Own w0 T s B v n G) (hs : St w0 H w) (hB : ∀ x ∈ B, x ∈ H) : Sl w s v n G := by
  rcases h with ⟨h1, h2, h3⟩ | ⟨b, o, c, N, F, h1, h2, h3, h4, h5, h6, h7⟩
  · subst h3; exact ⟨none, 0, h2, Nat.le_refl _, Nat.zero_le _, fun _ => rfl, .inl (by simp)⟩
  · refine ⟨_, c, h3, h4, h6, fun h => (by cases h), .inr ⟨b, o, rfl, fun i hi => ?_⟩⟩
    have hm : (b, BK N F T) ∈ H := hB _ (by rw [h1]; exact List.mem_singleton.2 rfl)
    have hle : n * s ≤ c * s := Nat.mul_le_mul_right _ h4
    rw [cell_BK (hs.own _ _ hm) (by omega), h7 i hi]
/-- What could be read before can be read still, if its block isn't in the list. -/
theorem SrcAt.keep {w0 w : World} {H : GH} {q : Option Addr} {k : Nat} {S : Nat → Value} (h : SrcAt w0 q k S) (hs : St w0 H w) (hn : ∀ b o, q = some ⟨b, o, none⟩ → b < w0.heap.size → b ∉ keys H) : SrcAt w q k S := by
  rcases h with h | ⟨b, o, h1, h2⟩
  · exact .inl h
  · rcases Nat.eq_zero_or_pos k with hk | hk
    · exact .inl hk
    · have hlt := World.block_lt_of_cell? w0 _ (h2 0 hk)
      exact .inr ⟨b, o, h1, fun i hi => cell_keep hs (h2 i hi) (hn b o h1 hlt)⟩
theorem Sl.keep {w0 w : World} {H : GH} {s n : Nat} {v : Value} {G : Nat → Value} (h : Sl w0 s v n G) (hs : St w0 H w) (hn : ∀ b, b ∈ keys H → w0.heap.size ≤ b) : Sl w s v n G := by
  obtain ⟨p, c, h1, h2, h3, h4, h5⟩ := h
  exact ⟨p, c, h1, h2, h3, h4, h5.keep hs fun b o _ hlt hb => by have := hn b hb; omega⟩
theorem Sl.nil {w : World} {s : Nat} (G : Nat → Value) : Sl w s (.slice none 0 0) 0 G := ⟨none, 0, rfl, Nat.le_refl _, Nat.zero_le _, fun _ => rfl, .inl (by simp)⟩
theorem Sl.ext {w : World} {s n : Nat} {v : Value} {G G' : Nat → Value} (h : Sl w s v n G) (hG : ∀ i, i < n * s → G i = G' i) : Sl w s v n G' := by
  obtain ⟨p, c, h1, h2, h3, h4, h5⟩ := h
  refine ⟨p, c, h1, h2, h3, h4, ?_⟩
  rcases h5 with h5 | ⟨b, o, e1, e2⟩
  · exact .inl h5
  · exact .inr ⟨b, o, e1, fun i hi => by rw [e2 i hi, hG i hi]⟩
theorem SrcAt.own {w0 w : World} {H : GH} {b o k N : Nat} {F S : Nat → Value} {T : TypeId} (hs : St w0 H w) (hm : (b, BK N F T) ∈ H) (ho : o + k ≤ N) (hF : ∀ i, i < k → F (o + i) = S i) : SrcAt w (some ⟨b, o, none⟩) k S :=
  .inr ⟨b, o, rfl, fun i hi => by rw [cell_BK (hs.own _ _ hm) (by omega), hF i hi]⟩

/-- Where a slice with an element lies. -/
theorem Sl.at {w : World} {s n i : Nat} {v : Value} {G : Nat → Value} (h : Sl w s v n G) (hi : i < n) (hs : 0 < s) : ∃ b o c, v = .slice (some ⟨b, o, none⟩) n c ∧ n ≤ c ∧ c ≤ maxLen ∧ b < w.heap.size ∧ ∀ l, l < n * s → w.cell? ⟨b, o + l, none⟩ = some (G l) := by
  obtain ⟨p, c, rfl, h2, h3, h4, h5⟩ := h
  have hpos : 0 < n * s := Nat.mul_pos (by omega) hs
  rcases h5 with h5 | ⟨b, o, rfl, hc⟩
  · omega
  · exact ⟨b, o, c, rfl, h2, h3, World.block_lt_of_cell? w _ (hc 0 hpos), hc⟩
theorem Own.at {w0 : World} {T : TypeId} {s n i : Nat} {B : GH} {v : Value} {G : Nat → Value} (h : Own w0 T s B v n G) (hi : i < n) : ∃ b o c N F, B = [(b, BK N F T)] ∧ w0.heap.size ≤ b ∧ v = .slice (some ⟨b, o, none⟩) n c ∧ n ≤ c ∧ o + c * s ≤ N ∧ c ≤ maxLen ∧ ∀ i, i < n * s → F (o + i) = G i := by
  rcases h with ⟨_, _, h⟩ | h
  · omega
  · exact h

section
variable {P : Program} {n : Nat} {w0 : World} {env : Env} {H : GH} {Q : Exit → Act → World → Prop} {ops : Array Oper} {rest : List Oper}
variable {d : Option Nat} {op : Op} {ty : TypeId} {pos : String} {af : Array Edge} {g : Option (Nat × Bool)}
variable {t yt : TypeId} {x y : Operand} {b o N s : Nat} {F : Nat → Value} {m k : Nat → Int} {T : TypeId}

/-! ### Against nil -/
def isNilV : Value → Option Bool
  | .pointer p => some p.isNone
  | .slice p _ _ => some p.isNone
  | .map p => some p.isNone
  | .nilIface => some true
  | .iface _ _ => some false
  | .nilFunc => some true
  | .func _ _ _ => some false
  | _ => none
/-- The nil of a type's kind. -/
def nilOf : TypeDesc → Option Value
  | .pointer _ => some (.pointer none)
  | .slice _ => some (.slice none 0 0)
  | .map _ _ => some (.map none)
  | .interface _ => some .nilIface
  | .func _ _ _ => some .nilFunc
  | _ => none
def sameKind : TypeDesc → Value → Bool
  | .pointer _, .pointer _ => true
  | .slice _, .slice _ _ _ => true
  | .map _ _, .map _ => true
  | .interface _, .nilIface => true
  | .interface _, .iface _ _ => true
  | .func _ _ _, .nilFunc => true
  | .func _ _ _, .func _ _ _ => true
  | _, _ => false

theorem run_eq_nil {ds : TypeDesc} {v z : Value} {r : Bool} (ht : P.underlying t = some ds) (hz : nilOf ds = some z) (hk : sameKind ds v = true) (hr : isNilV v = some r) (w : World) : (Op.equal t v z).run P w = .ok r w := by
  show (Op.equalIn (9999 + 1) t v z).run P w = _
  cases ds <;> simp only [nilOf, Option.some.injEq, reduceCtorEq] at hz <;> subst hz <;> cases v <;> simp only [sameKind, Bool.false_eq_true, isNilV, Option.some.injEq] at hk hr <;> subst hr
  case pointer.pointer e p => cases p <;> (rw [Op.equalIn]; simp [run_underlying ht])
  case slice.slice e p _ _ => cases p <;> (rw [Op.equalIn]; simp [run_underlying ht])
  case map.map e p => cases p <;> (rw [Op.equalIn]; simp [run_underlying ht])
  all_goals (rw [Op.equalIn]; simp [run_underlying ht])

theorem guard_nil {bop : BinOp} {ds : TypeDesc} {v z : Value} (hz : nilOf ds = some z) (hk : sameKind ds v = true) {a : Act} (_ha : a.eval x = v) (w : World) : (eqGuard bop t x (.const z) v z).run P w = .ok () w := by
  cases ds <;> simp only [nilOf, Option.some.injEq, reduceCtorEq] at hz <;> subst hz <;> cases v <;> simp only [sameKind, Bool.false_eq_true] at hk <;> (unfold eqGuard; cases bop <;> simp)

theorem o_eqn {ds : TypeDesc} {v z : Value} {r : Bool} (ht : P.underlying t = some ds) (hz : nilOf ds = some z) (hx : ev env x = some v) (hk : sameKind ds v = true) (hr : isNilV v = some r) :
    OT P w0 env H ⟨d, .binOp .eql t x (.const z) yt, ty, pos, af, g⟩ (Is (.bool r) H) :=
  OT.pure fun a w ha => by
    have hb : (binOp .eql t v z).run P w = .ok (.bool r) w := by
      have := run_eq_nil ht hz hk hr w
      cases ds <;> simp only [nilOf, Option.some.injEq, reduceCtorEq] at hz <;> subst hz <;> cases v <;> simp only [sameKind, Bool.false_eq_true] at hk <;> simp [binOp, this]
    have hc : a.eval (.const z) = z := rfl
    simp only [execOp, ha.ev hx, hc, Sem.run_bind, guard_nil hz hk (ha.ev hx), hb, Result.andThen_ok, Sem.run_pure]
theorem o_nen {ds : TypeDesc} {v z : Value} {r : Bool} (ht : P.underlying t = some ds) (hz : nilOf ds = some z) (hx : ev env x = some v) (hk : sameKind ds v = true) (hr : isNilV v = some r) :
    OT P w0 env H ⟨d, .binOp .neq t x (.const z) yt, ty, pos, af, g⟩ (Is (.bool (!r)) H) :=
  OT.pure fun a w ha => by
    have hb : (binOp .neq t v z).run P w = .ok (.bool !r) w := by
      have := run_eq_nil ht hz hk hr w
      cases ds <;> simp only [nilOf, Option.some.injEq, reduceCtorEq] at hz <;> subst hz <;> cases v <;> simp only [sameKind, Bool.false_eq_true] at hk <;> simp [binOp, this]
    have hc : a.eval (.const z) = z := rfl
    simp only [execOp, ha.ev hx, hc, Sem.run_bind, guard_nil hz hk (ha.ev hx), hb, Result.andThen_ok, Sem.run_pure]

/-! ### Strings -/
theorem o_eqs {u v : ByteArray} (hx : ev env x = some (.string u)) (hy : ev env y = some (.string v)) : OT P w0 env H ⟨d, .binOp .eql t x y yt, ty, pos, af, g⟩ (Is (.bool (u == v)) H) :=
  OT.pure fun a w ha => by simp [execOp, ha.ev hx, ha.ev hy, eqGuard, binOp, Op.stringOp, beq_toListBytes]
theorem o_nes {u v : ByteArray} (hx : ev env x = some (.string u)) (hy : ev env y = some (.string v)) : OT P w0 env H ⟨d, .binOp .neq t x y yt, ty, pos, af, g⟩ (Is (.bool (!(u == v))) H) :=
  OT.pure fun a w ha => by simp [execOp, ha.ev hx, ha.ev hy, eqGuard, binOp, Op.stringOp, beq_toListBytes]

/-! ### append -/
structure App (P : Program) (t e : TypeId) (s by_ : Nat) (z : Value) : Prop where
  u : P.underlying t = some (.slice e)
  i : (P.info? e).map (fun i => (i.size, i.bytes, i.zero)) = some (s, by_, some z)
  z : z.cells.size = s
  pos : Nat.blt 0 s = true

theorem list_src {w : World} {b o k : Nat} {S : Nat → Value} (h : ∀ i, i < k → w.cell? ⟨b, o + i, none⟩ = some (S i)) : ∀ j v, ((List.range k).map S)[j]? = some v → w.cell? ((⟨b, o, none⟩ : Addr).add j) = some v := by
  intro j v hj
  rw [Addr.add_lit]
  by_cases hjk : j < k
  · rw [h j hjk]; simpa [hjk] using hj
  · simp [hjk] at hj

theorem o_app {e : TypeId} {by_ : Nat} {z : Value} {B : GH} {v : Value} {n m c2 : Nat} {G S : Nat → Value} {q : Option Addr} {ts : Array TypeId} {args : Array Operand} (ht : App P t e s by_ z) (hts : ts = #[t, t])
    (hargs : evL env args.toList = some [v, .slice q m c2]) (hown : Own w0 e s B v n G) (hsrc : ∀ w, St w0 (B ++ H) w → SrcAt w q (m * s) S) (h1 : ∀ i, i < m * s → (S i).oneCell' = true) (hmax : n + m ≤ maxLen) (hby : (n + m) * by_ ≤ 140737488355328) :
    OT P w0 env (B ++ H) ⟨d, .call ⟨.builtin .append, args, ts⟩, ty, pos, af, g⟩ (fun v' H' => ∃ B', H' = B' ++ H ∧ Own w0 e s B' v' (n + m) (app G (n * s) S)) :=
  OT.val fun a w ha hs => by
    subst hts
    have e1 : args.map a.eval = #[v, .slice q m c2] := Array.toList_inj.1 (by simpa using evL_spec ha _ _ hargs)
    have hexec : (execOp a.eval ⟨d, .call ⟨.builtin .append, args, #[t, t]⟩, ty, pos, af, g⟩).run P w = ((Builtin.append_ #[t, t] ty #[v, .slice q m c2]).run P w).andThen fun u w' => .ok (.value u) w' := by
      simp [execOp, resolve, invoke, builtin, e1]
    obtain ⟨i, hi, hi'⟩ := Option.map_eq_some_iff.1 ht.i
    simp only [Prod.mk.injEq] at hi'
    obtain ⟨hi1, hi2, hi3⟩ := hi'
    have hspos : 0 < s := by simpa [Nat.blt_eq] using ht.pos
    have hmx : maxLen = 9223372036854775807 := by decide
    have hsrc' := hsrc w hs
    -- the case of nothing to put
    rcases Nat.eq_zero_or_pos m with hm0 | hmpos
    · subst hm0
      obtain ⟨p, c, hv, hnc, hcm, hpn⟩ := hown.val
      have hr : (Builtin.append_ #[t, t] ty #[v, .slice q 0 c2]).run P w = .ok v w := by
        rw [hv]
        cases q <;> cases p <;> simp [Builtin.append_, run_underlying ht.u, Go.sizeOf, typeInfo, hi, Builtin.lenOf, hnc, Builtin.firstCells, loadCells, loadCellsFrom, storeCells]
      refine ⟨v, w, B ++ H, by rw [hexec, hr]; rfl, hs, B, rfl, ?_⟩
      rw [Nat.add_zero]
      exact hown.ext fun i hi => by simp [app, hi]
    · have hms : m * s ≠ 0 := Nat.mul_ne_zero (by omega) (by omega)
      rcases hsrc' with h0 | ⟨b2, o2, hq, hcells⟩
      · exact absurd h0 hms
      · subst hq
        have hl : ((List.range (m * s)).map S).length = m * i.size := by rw [hi1]; simp
        have hnews := list_src hcells
        have hoc : ∀ u ∈ (List.range (m * s)).map S, u.oneCell' = true := by
          intro u hu
          obtain ⟨j, hj, rfl⟩ := List.mem_map.1 hu
          exact h1 j (List.mem_range.1 hj)
        rcases hown with ⟨hB, hv, hn0⟩ | ⟨b, o, c, N, F, hB, hb, hv, hnc, hoN, hcm, hF⟩
        · subst hB hv hn0
          simp only [Nat.zero_add] at hmax hby
          have hr := run_append_nil (P := P) w t ty e i z ht.u hi hi3 ⟨b2, o2, none⟩ m c2 _ hl hnews hmpos (by omega) (by rw [hi2]; omega)
          have hgc := grownCap_ge w m 0 e
          have hgm := grownCap_le_maxLen w m 0 e (by omega)
          have hobj : Obj.cells (((List.range (m * s)).map S).toArray ++ Builtin.zeroCells z.cells (grownCap w m 0 e - m)) e = BK (grownCap w m 0 e * s) (fun j => (((List.range (m * s)).map S).toArray ++ Builtin.zeroCells z.cells (grownCap w m 0 e - m)).getD j undef) e := by
            unfold BK
            congr 1
            refine CV_eq ?_ fun j hj => ?_
            · simp only [Array.size_append, List.size_toArray, List.length_map, List.length_range, size_zeroCells, ht.z, ← Nat.add_mul]
              congr 1; omega
            · have hsz : (((List.range (m * s)).map S).toArray ++ Builtin.zeroCells z.cells (grownCap w m 0 e - m)).size = grownCap w m 0 e * s := by
                simp only [Array.size_append, List.size_toArray, List.length_map, List.length_range, size_zeroCells, ht.z, ← Nat.add_mul]
                congr 1; omega
              simp only [Array.getD_eq_getD_getElem?]
              rw [Array.getElem?_eq_getElem (by rw [hsz]; exact hj)]
              rfl
          have hst := (hs.drew).alloc (Obj.cells (((List.range (m * s)).map S).toArray ++ Builtin.zeroCells z.cells (grownCap w m 0 e - m)) e)
          refine ⟨_, _, _, by rw [hexec, hr]; rfl, hst, [(w.heap.size, BK (grownCap w m 0 e * s) (fun j => (((List.range (m * s)).map S).toArray ++ Builtin.zeroCells z.cells (grownCap w m 0 e - m)).getD j undef) e)], by rw [hobj]; rfl, ?_⟩
          refine .inr ⟨w.heap.size, 0, grownCap w m 0 e, _, _, rfl, hs.size, by rw [Nat.zero_add], by omega, by omega, hgm, fun j hj => ?_⟩
          simp only [Nat.zero_add] at hj ⊢
          simp only [app, Nat.zero_mul, Nat.not_lt_zero, if_false, Nat.sub_zero]
          rw [Array.getD_eq_getD_getElem?, Array.getElem?_append_left (by simpa using hj)]
          simp [hj]
        · subst hB hv
          by_cases hroom : n + m ≤ c
          · -- there is room
            have hbk : w.heap[b]? = some (BK N F e) := hs.own _ _ (by simp)
            have hcs : (n + m) * s ≤ c * s := Nat.mul_le_mul_right _ hroom
            rw [Nat.add_mul] at hcs
            have hfc := run_firstCells_some (P := P) w i.size m ⟨b2, o2, none⟩ m c2 _ hl hnews
            have hst := run_storeCells_at P b (o + n * s) e ((List.range (m * s)).map S) 0 (CV N F) w hbk (by simp; omega) hoc
            simp only [Nat.add_zero] at hst
            have hr : (Builtin.append_ #[t, t] ty #[.slice (some ⟨b, o, none⟩) n c, .slice (some ⟨b2, o2, none⟩) m c2]).run P w = .ok (.slice (some ⟨b, o, none⟩) (n + m) c) (w.setRow b ((CV N F).toList.take (o + n * s) ++ (List.range (m * s)).map S ++ (CV N F).toList.drop (o + n * s + ((List.range (m * s)).map S).length)).toArray) := by
              subst hi1
              simp [Builtin.append_, run_underlying ht.u, Go.sizeOf, typeInfo, hi, Builtin.lenOf, hroom, hfc, Addr.add_lit]
              simp at hst
              rw [hst]
              rfl
            have hsp : ((CV N F).toList.take (o + n * s) ++ (List.range (m * s)).map S ++ (CV N F).toList.drop (o + n * s + ((List.range (m * s)).map S).length)).toArray = CV N (updR F (o + n * s) (m * s) S) :=
              splice_CV (by simp; omega) (fun j hj => by
                have hj' : j < m * s := by simpa using hj
                simp only [updR]
                rw [if_pos (by omega)]
                simp [hj']) (fun j _ hh => by
                simp only [List.length_map, List.length_range] at hh
                simp only [updR]; rw [if_neg (by omega)])
            refine ⟨_, _, _, by rw [hexec, hr]; rfl, hs.setRow (N := N) (F := F) (T := e) (b := b) (f' := updR F (o + n * s) (m * s) S) (by simp) hsp (.here b _ _ _), [(b, BK N (updR F (o + n * s) (m * s) S) e)], rfl, ?_⟩
            refine .inr ⟨b, o, c, N, _, rfl, hb, rfl, hroom, hoN, hcm, fun j hj => ?_⟩
            rw [Nat.add_mul] at hj
            simp only [updR, app]
            by_cases hjn : j < n * s
            · rw [if_neg (by omega), if_pos hjn, hF j hjn]
            · rw [if_pos (by omega), if_neg hjn]; congr 1; omega
          · -- it grows
            have hns : n * s ≤ c * s := Nat.mul_le_mul_right _ hnc
            have hbk : w.heap[b]? = some (BK N F e) := hs.own _ _ (by simp)
            have holds : ∀ j u, ((List.range (n * s)).map G)[j]? = some u → w.cell? ((⟨b, o, none⟩ : Addr).add j) = some u :=
              list_src fun j hj => by rw [cell_BK hbk (by omega), hF j hj]
            have hr := run_append_grow (P := P) w t ty e i z ht.u hi hi3 ⟨b, o, none⟩ n c ((List.range (n * s)).map G) (by rw [hi1]; simp) holds ⟨b2, o2, none⟩ m c2 _ hl hnews (by omega) (by omega) (growslice_fits (by omega) (by rw [hi2]; exact hby))
            have hgc := grownCap_ge w (n + m) c e
            have hgm := grownCap_le_maxLen w (n + m) c e hmax
            have hsz : (((List.range (n * s)).map G).toArray ++ ((List.range (m * s)).map S).toArray ++ Builtin.zeroCells z.cells (grownCap w (n + m) c e - (n + m))).size = grownCap w (n + m) c e * s := by
              simp only [Array.size_append, List.size_toArray, List.length_map, List.length_range, size_zeroCells, ht.z, ← Nat.add_mul]
              congr 1; omega
            have hobj : Obj.cells (((List.range (n * s)).map G).toArray ++ ((List.range (m * s)).map S).toArray ++ Builtin.zeroCells z.cells (grownCap w (n + m) c e - (n + m))) e =
                BK (grownCap w (n + m) c e * s) (fun j => (((List.range (n * s)).map G).toArray ++ ((List.range (m * s)).map S).toArray ++ Builtin.zeroCells z.cells (grownCap w (n + m) c e - (n + m))).getD j undef) e := by
              unfold BK
              congr 1
              refine CV_eq hsz fun j hj => ?_
              simp only [Array.getD_eq_getD_getElem?]
              rw [Array.getElem?_eq_getElem (by rw [hsz]; exact hj)]
              rfl
            have hst := (hs.drew).alloc (Obj.cells (((List.range (n * s)).map G).toArray ++ ((List.range (m * s)).map S).toArray ++ Builtin.zeroCells z.cells (grownCap w (n + m) c e - (n + m))) e)
            have hst2 := hst.drop (H' := (w.heap.size, Obj.cells (((List.range (n * s)).map G).toArray ++ ((List.range (m * s)).map S).toArray ++ Builtin.zeroCells z.cells (grownCap w (n + m) c e - (n + m))) e) :: H)
              (fun b' o' hm => by
                rcases List.mem_cons.1 hm with hm | hm
                · exact hm ▸ List.mem_cons_self ..
                · exact List.mem_cons_of_mem _ (List.mem_cons_of_mem _ hm))
              (by
                have := hst.nd
                simp only [List.cons_append, List.nil_append, keys_cons, List.nodup_cons, List.mem_cons, not_or] at this ⊢
                exact ⟨this.1.2, this.2.2⟩)
              (fun b' o' hm => by
                rcases List.mem_cons.1 hm with hm | hm
                · cases hm; exact .inl (by simp)
                · rcases List.mem_cons.1 hm with hm | hm
                  · cases hm; exact .inr (.inl hb)
                  · exact .inl (List.mem_cons_of_mem _ (mem_keys hm)))
            refine ⟨_, _, _, by rw [hexec, hr]; rfl, hst2, [(w.heap.size, BK (grownCap w (n + m) c e * s) (fun j => (((List.range (n * s)).map G).toArray ++ ((List.range (m * s)).map S).toArray ++ Builtin.zeroCells z.cells (grownCap w (n + m) c e - (n + m))).getD j undef) e)], by rw [hobj]; rfl, ?_⟩
            refine .inr ⟨w.heap.size, 0, grownCap w (n + m) c e, _, _, rfl, hs.size, rfl, hgc, by omega, hgm, fun j hj => ?_⟩
            rw [Nat.add_mul] at hj
            simp only [Nat.zero_add, app]
            rw [Array.getD_eq_getD_getElem?, Array.getElem?_append_left (by simp; omega)]
            by_cases hjn : j < n * s
            · rw [if_pos hjn, Array.getElem?_append_left (by simpa using hjn)]
              simp [hjn]
            · rw [if_neg hjn, Array.getElem?_append_right (by simp; omega)]
              simp [show j - n * s < m * s by omega]

/-! ### Literals of slices -/
inductive FillS (P : Program) (s N : Nat) (env : Env) : List (Nat × Operand) → (Nat → Value) → (Nat → Value) → Prop
  | nil (f : Nat → Value) : FillS P s N env [] f f
  | one {i : Nat} {x : Operand} {v : Value} {f f' : Nat → Value} {l : List (Nat × Operand)} (h1 : s = 1) (ho : Nat.ble (i + 1) N = true) (hx : ev env x = some v) (hv : v.oneCell' = true) (h : FillS P s N env l (upd f i v) f') : FillS P s N env ((i, x) :: l) f f'
  | agg {i : Nat} {x : Operand} {h : Nat → Value} {f f' : Nat → Value} {l : List (Nat × Operand)} (ho : Nat.ble (i * s + s) N = true) (hx : ev env x = some (AG s h)) (hh : FillS P s N env l (updR f (i * s) s h) f') : FillS P s N env ((i, x) :: l) f f'
theorem FillS.int {i : Nat} {x : Operand} {v : Int} {m : Nat → Int} {f' : Nat → Value} {l : List (Nat × Operand)} (ho : Nat.ble (i + 1) N = true) (hx : ev env x = some (.int .i64 v)) (h : FillS P 1 N env l (iv (updI m i v)) f') : FillS P 1 N env ((i, x) :: l) (iv m) f' :=
  .one rfl ho hx rfl (by rw [updI_iv]; exact h)
theorem FillS.ints {i : Nat} {x : Operand} {h m : Nat → Int} {f' : Nat → Value} {l : List (Nat × Operand)} (ho : Nat.ble (i * s + s) N = true) (hx : ev env x = some (AI s h)) (hh : FillS P s N env l (iv (updRI m (i * s) s h)) f') : FillS P s N env ((i, x) :: l) (iv m) f' :=
  .agg ho hx (by rw [updRI_iv]; exact hh)
theorem FillS.run {a : Act} (ha : AgV env a) {l : List (Nat × Operand)} {f f' : Nat → Value} (h : FillS P s N env l f f') :
    Instr.fill (fun i => some (i * s, s)) (CV N f) (l.map fun p => (p.1, a.eval p.2)) = some (CV N f') := by
  induction h with
  | nil f => rfl
  | @one i x v f f' l h1 ho hx hv h ih =>
    subst h1
    have hc : v.cells = #[v] := by cases v <;> first | rfl | simp [Value.oneCell'] at hv
    have hle := Nat.le_of_ble_eq_true ho
    rw [List.map_cons, fill_one (off := i * 1) (s := 1) rfl (by rw [ha.ev hx, hc]; rfl) (by omega) (f' := upd f i v)
      (fun j hj => by
        obtain rfl : j = 0 := by omega
        rw [ha.ev hx, hc]; simp [upd]) (fun j _ hh => by simp only [upd]; rw [if_neg (by omega)])]
    exact ih
  | @agg i x h f f' l ho hx hh ih =>
    rw [List.map_cons, fill_one (off := i * s) (s := s) rfl (by rw [ha.ev hx, AG_cells]; simp) (Nat.le_of_ble_eq_true ho) (f' := updR f (i * s) s h)
      (fun j hj => by rw [ha.ev hx, AG_cells, CV_get hj]; simp only [updR]; rw [if_pos (by omega)]; congr 2; omega) (fun j _ hh => by simp only [updR]; rw [if_neg (by omega)])]
    exact ih

def NewSl (w0 : World) (o : Obj) (len : Nat) (H : GH) : Value → GH → Prop := fun v H' => ∃ b, w0.heap.size ≤ b ∧ v = .slice (some ⟨b, 0, none⟩) len len ∧ H' = (b, o) :: H

/-- A literal of a slice: z is the element's zero, cell by cell. -/
theorem o_bsl {e : TypeId} {ag : Bool} {ps : Array (Nat × Operand)} {len : Nat} {z : Value} {zf f : Nat → Value} (he : Elm P t e s ag) (hz : ZeroT P e z) (hzc : z.cells = CV s zf) (hN : N = len * s) (hlen : Nat.ble (len * s) 16777216 = true)
    (hf : FillS P s N env ps.toList (fun i => zf (i % s)) f) : OT P w0 env H ⟨d, .buildSlice t len ps, ty, pos, af, g⟩ (NewSl w0 (BK N f e) len H) :=
  OT.val fun a w ha hs => by
    subst hN
    have hle := Nat.le_of_ble_eq_true hlen
    have hm : (ps.map fun (p : Nat × Operand) => (p.1, a.eval p.2)).toList = ps.toList.map fun p => (p.1, a.eval p.2) := by simp
    have hinit : (Array.range (len * s)).map (fun i => z.cells[i % z.cells.size]!) = CV (len * s) (fun i => zf (i % s)) := by
      refine CV_eq (by simp) fun i hi => ?_
      have hs0 : 0 < s := Nat.pos_of_ne_zero fun e => by subst e; simp at hi
      rw [hzc]
      simp only [CV_size]
      rw [Array.getElem?_map, Array.getElem?_range, if_pos hi]
      simp only [Option.map_some, getElem!_def, CV_get (Nat.mod_lt i hs0)]
    have hfill := hf.run ha
    have hrun : (execOp a.eval ⟨d, .buildSlice t len ps, ty, pos, af, g⟩).run P w = .ok (.value (.slice (some ⟨w.heap.size, 0, none⟩) len len)) (w.alloc (BK (len * s) f e)) := by
      have hnot : ¬ 16777216 < len * s := by omega
      by_cases h0 : len * s = 0
      · have hinit0 : (Array.range (len * s)).map (fun i => (#[] : Array Value)[i % (#[] : Array Value).size]!) = CV (len * s) (fun i => zf (i % s)) := by rw [h0]; simp [CV]
        simp only [execOp, Instr.buildSlice, Sem.run_bind, run_underlying he.1, Result.andThen_ok, he.2.sizeOf]
        rw [if_neg (by simpa using hnot)]
        simp only [h0, if_true, Sem.run_pure, Result.andThen_ok, hm, Sem.run_bind]
        rw [h0] at hfill hinit0
        rw [hinit0, hfill]
        simp [newRow, BK]
      · simp only [execOp, Instr.buildSlice, Sem.run_bind, run_underlying he.1, Result.andThen_ok, he.2.sizeOf]
        rw [if_neg (by simpa using hnot)]
        simp only [h0, if_false, Sem.run_pure, Result.andThen_ok, hm, Sem.run_bind, hz.run, hinit, hfill]
        simp [newRow, BK]
    exact ⟨_, _, _, hrun, hs.alloc _, w.heap.size, hs.size, rfl, rfl⟩

/-- a[:h], a an array behind a pointer. -/
theorem o_slA {e : TypeId} {ag : Bool} {len h : Nat} {o2 : Operand} {k : IntKind} {i : Int} (he : ElmA P t len e s ag) (hx : ev env x = some (.pointer (some ⟨b, o, none⟩))) (hy : ev env o2 = some (.int k i)) (hi : i = (h : Int)) (hl : h ≤ len) :
    OT P w0 env H ⟨d, .slice t x none (some o2) none, ty, pos, af, g⟩ (Is (.slice (some ⟨b, o, none⟩) h len) H) :=
  OT.pure fun a w ha => by
    subst hi
    have hb : (Instr.sliceBounds false len len none (some (.int k (h : Int))) none).run P w = .ok (0, h, len) w := by
      simp [Instr.sliceBounds, Instr.sliceBound, asIntOf, hl]
    simp [execOp, ha.ev hx, ha.ev hy, Instr.sliceAt, run_underlying he.1, Instr.sureAddr, hb, he.2.sizeOf, Addr.add]

/-! ### Reading slices -/
/-- A place of a slice that came in. -/
theorem o_ixS {e : TypeId} {ag : Bool} {k : IntKind} {i : Int} {j n : Nat} {v : Value} {G : Nat → Value} (he : Elm P t e s ag) (hs0 : Nat.blt 0 s = true) (hx : ev env x = some v) (hsl : Sl w0 s v n G) (hy : ev env y = some (.int k i)) (hij : i = (j : Int)) (hj : j < n) :
    OT P w0 env H ⟨d, .indexAddr t x y, ty, pos, af, g⟩ (fun u H' => ∃ b o, u = .pointer (some ⟨b, o, none⟩) ∧ H' = H ∧ b < w0.heap.size ∧ ∀ l, l < s → w0.cell? ⟨b, o + l, none⟩ = some (G (j * s + l))) := by
  obtain ⟨p, c, rfl, h2, h3, h4, h5⟩ := hsl
  have hspos : 0 < s := by simpa [Nat.blt_eq] using hs0
  rcases h5 with h5 | ⟨b, o, rfl, hc⟩
  · exact absurd h5 (Nat.mul_ne_zero (by omega) (by omega))
  · have hjs : j * s + s ≤ n * s := by
      have := Nat.mul_le_mul_right s (show j + 1 ≤ n by omega)
      rwa [Nat.add_mul, Nat.one_mul] at this
    intro a w ha hst
    have := o_ixs (w0 := w0) (H := H) (d := d) (ty := ty) (pos := pos) (af := af) (g := g) he hx hy (j := j) (by omega) (by omega) a w ha hst
    refine wp_mono2 ?_ (fun _ _ _ h => h.elim) this
    rintro a' w' ⟨v, H', rfl, hs', rfl, rfl⟩
    exact ⟨_, H', rfl, hs', b, o + j * s, rfl, rfl, World.block_lt_of_cell? w0 _ (hc 0 (by have := Nat.mul_pos (show 0 < n by omega) hspos; omega)), fun l hl => by rw [Nat.add_assoc]; exact hc _ (by omega)⟩
/-- A place of one of the call's own. -/
theorem o_ixO {e : TypeId} {ag : Bool} {k : IntKind} {i : Int} {j n : Nat} {v : Value} {B : GH} {G : Nat → Value} (he : Elm P t e s ag) (hx : ev env x = some v) (hown : Own w0 T s B v n G) (hy : ev env y = some (.int k i)) (hij : i = (j : Int)) (hj : j < n) :
    OT P w0 env H ⟨d, .indexAddr t x y, ty, pos, af, g⟩ (fun u H' => ∃ b o N F, u = .pointer (some ⟨b, o, none⟩) ∧ H' = H ∧ B = [(b, BK N F T)] ∧ w0.heap.size ≤ b ∧ o + s ≤ N ∧ ∀ l, l < s → F (o + l) = G (j * s + l)) := by
  rcases hown with ⟨_, _, h3⟩ | ⟨b, o, c, N, F, hB, hb, rfl, hnc, hoN, hcm, hF⟩
  · omega
  · have hjs : j * s + s ≤ n * s := by
      have := Nat.mul_le_mul_right s (show j + 1 ≤ n by omega)
      rwa [Nat.add_mul, Nat.one_mul] at this
    have hcs : n * s ≤ c * s := Nat.mul_le_mul_right _ hnc
    intro a w ha hst
    have := o_ixs (w0 := w0) (H := H) (d := d) (ty := ty) (pos := pos) (af := af) (g := g) he hx hy (j := j) (by omega) (by omega) a w ha hst
    refine wp_mono2 ?_ (fun _ _ _ h => h.elim) this
    rintro a' w' ⟨v, H', rfl, hs', rfl, rfl⟩
    exact ⟨_, H', rfl, hs', b, o + j * s, N, F, rfl, rfl, hB, hb, by omega, fun l hl => by rw [Nat.add_assoc]; exact hF _ (by omega)⟩
/-- len of whatever slice. -/
theorem o_lenS {e : TypeId} {ts : Array TypeId} {n : Nat} {v : Value} (ht : ts = #[t]) (he : P.underlying t = some (.slice e)) {args : Array Operand} (hargs : evL env args.toList = some [v]) (hv : ∃ p c, v = .slice p n c) :
    OT P w0 env H ⟨d, .call ⟨.builtin .len, args, ts⟩, ty, pos, af, g⟩ (Is (.int .i64 n) H) := by
  obtain ⟨p, c, rfl⟩ := hv
  exact o_len ht he hargs
end
end Go.E
