/- The engine, part 5: structs of integers compared; structs made; slices cut and made. -/
import Derived.Test.YtjmfnohbeoiddaaE4
import Derived.ChangeKeysEq
namespace Go.E
open Go

def eqN (n : Nat) (f g : Nat → Int) : Bool := (List.range n).all fun i => f i == g i
theorem eqN_iff {n : Nat} {f g : Nat → Int} : eqN n f g = true ↔ ∀ i, i < n → f i = g i := by simp [eqN]
theorem eqN_of {n : Nat} {f g : Nat → Int} (h : ∀ i, i < n → f i = g i) : eqN n f g = true := eqN_iff.2 h
theorem eqN_not {n : Nat} {f g : Nat → Int} {i : Nat} (hi : i < n) (h : f i ≠ g i) : eqN n f g = false := by
  cases hb : eqN n f g
  · rfl
  · exact absurd (eqN_iff.1 hb i hi) h
theorem eqN_refl (n : Nat) (f : Nat → Int) : eqN n f f = true := eqN_of fun _ _ => rfl

def flatFs (P : Program) (rec : TypeId → Option (Nat × Bool)) : List Field → Nat → Option Nat
  | [], o => some o
  | f :: fs, o => if f.name == "_" || f.offset != o then none else
    match rec f.type with
    | some (s, ag) => if (P.info? f.type).map (·.size) == some s && (P.underlying f.type).map isAggD == some ag then flatFs P rec fs (o + s) else none
    | none => none
/-- A type all of whose cells are 64-bit integers; how many; whether it is a struct or an array. -/
def flat (P : Program) : Nat → TypeId → Option (Nat × Bool)
  | 0, _ => none
  | k + 1, t => match P.underlying t with
    | some (.int .i64) => some (1, false)
    | some (.struct fs) => if P.stoodInHeld t then none else (flatFs P (flat P k) fs.toList 0).map (·, true)
    | some (.array len e) => match flat P k e with
      | some (s, ag) => if (P.info? e).map (·.size) == some s && (P.underlying e).map isAggD == some ag then some (len * s, true) else none
      | none => none
    | _ => none

def fv (ag : Bool) (n : Nat) (f : Nat → Int) : Value := if ag then AI n f else .int .i64 (f 0)

section
variable {P : Program}

theorem run_part_fv {u : TypeId} {s o N : Nat} {ag : Bool} (ht : TyS P u s ag) (hs : ag = false → s = 1) (ho : o + s ≤ N) (f : Nat → Int) (w : World) :
    (part u (CV N (iv f)) o).run P w = .ok (fv ag s (fun i => f (o + i))) w := by
  rw [run_part ht ho hs]
  cases ag <;> rfl

theorem flat_one {k : Nat} {t : TypeId} {n : Nat} {ag : Bool} (h : flat P k t = some (n, ag)) : ag = false → n = 1 := by
  intro he
  subst he
  cases k with
  | zero => simp [flat] at h
  | succ k =>
    simp only [flat] at h
    split at h
    · simp_all
    · split at h <;> simp_all
    · split at h
      · split at h <;> simp_all
      · simp at h
    · simp at h

theorem flat_eq : ∀ (k d : Nat), k ≤ d → ∀ (t : TypeId) (n : Nat) (ag : Bool), flat P k t = some (n, ag) → ∀ (f g : Nat → Int) (w : World),
    ∃ r, (Op.equalIn d t (fv ag n f) (fv ag n g)).run P w = .ok r w ∧ (r = true ↔ ∀ i, i < n → f i = g i) := by
  intro k
  induction k with
  | zero => intro d _ t n ag h; simp [flat] at h
  | succ k ih =>
    intro d hd t n ag h f g w
    obtain ⟨d, rfl⟩ : ∃ d', d = d' + 1 := ⟨d - 1, by omega⟩
    simp only [flat] at h
    split at h
    · rename_i hu
      simp only [Option.some.injEq, Prod.mk.injEq] at h
      obtain ⟨rfl, rfl⟩ := h
      refine ⟨f 0 == g 0, run_equalIn_int w d t .i64 .i64 _ _ hu, ?_⟩
      simp only [beq_iff_eq]
      refine ⟨fun h i hi => ?_, fun h => h 0 (by omega)⟩
      obtain rfl : i = 0 := by omega
      exact h
    · rename_i fs hu
      split at h
      · cases h
      · rename_i hst
        simp only [Option.map_eq_some_iff, Prod.mk.injEq] at h
        obtain ⟨m, hm, rfl, rfl⟩ := h
        have hfo : P.fieldsOf t = fs := by simp [Program.fieldsOf, hu]
        have key : ∀ (l : List Field) (o : Nat), flatFs P (flat P k) l o = some m → o ≤ m ∧ ∃ r, (Op.eqFields d (CV m (iv f)) (CV m (iv g)) l).run P w = .ok r w ∧ (r = true ↔ ∀ i, o ≤ i → i < m → f i = g i) := by
          intro l
          induction l with
          | nil =>
            intro o ho
            simp only [flatFs, Option.some.injEq] at ho
            subst ho
            exact ⟨Nat.le_refl _, true, by simp [Op.eqFields], by simp; omega⟩
          | cons x l ihl =>
            intro o ho
            simp only [flatFs] at ho
            split at ho
            · cases ho
            · rename_i hnm
              simp only [Bool.or_eq_true, beq_iff_eq, bne_iff_ne, ne_eq, not_or, Decidable.not_not] at hnm
              split at ho
              · rename_i s ag' hrec
                split at ho
                · rename_i hsz
                  simp only [Bool.and_eq_true, beq_iff_eq] at hsz
                  obtain ⟨hle, r2, hr2, hi2⟩ := ihl (o + s) ho
                  have hty : TyS P x.type s ag' := ⟨hsz.2, hsz.1⟩
                  obtain ⟨r1, hr1, hi1⟩ := ih d (by omega) x.type s ag' hrec (fun i => f (o + i)) (fun i => g (o + i)) w
                  have hone := flat_one hrec
                  have p1 := run_part_fv hty hone (by omega : o + s ≤ m) f w
                  have p2 := run_part_fv hty hone (by omega : o + s ≤ m) g w
                  refine ⟨by omega, r1 && r2, ?_, ?_⟩
                  · simp only [Op.eqFields, if_pos (show x.name ≠ "_" from hnm.1), Sem.run_bind, hnm.2, p1, p2, hr1, Result.andThen_ok]
                    cases r1
                    · simp
                    · simpa using hr2
                  · simp only [Bool.and_eq_true, hi1, hi2]
                    constructor
                    · rintro ⟨h1, h2⟩ i hi hi'
                      by_cases hio : i < o + s
                      · have := h1 (i - o) (by omega)
                        rwa [show o + (i - o) = i from by omega] at this
                      · exact h2 i (by omega) hi'
                    · intro h
                      exact ⟨fun i hi => h (o + i) (by omega) (by omega), fun i hi hi' => h i (by omega) hi'⟩
                · cases ho
              · cases ho
        obtain ⟨_, r, hr, hi⟩ := key fs.toList 0 hm
        refine ⟨r, ?_, by rw [hi]; exact ⟨fun h i hi => h i (Nat.zero_le _) hi, fun h i _ hi => h i hi⟩⟩
        show (Op.equalIn (d + 1) t (.agg (CV m (iv f))) (.agg (CV m (iv g)))).run P w = _
        rw [run_equalIn_struct w d t _ _ (by rw [hfo]; exact hu) (by simpa using hst), hfo]
        exact hr
    · rename_i len e hu
      split at h
      · rename_i s ag' hrec
        split at h
        · rename_i hsz
          simp only [Bool.and_eq_true, beq_iff_eq] at hsz
          simp only [Option.some.injEq, Prod.mk.injEq] at h
          obtain ⟨rfl, rfl⟩ := h
          have hty : TyS P e s ag' := ⟨hsz.2, hsz.1⟩
          obtain ⟨i0, hi0, hi1⟩ := Option.map_eq_some_iff.1 hsz.1
          have hco : P.cellsOf e = s := by simp [Program.cellsOf, hi0, hi1]
          have hone := flat_one hrec
          have key : ∀ (c o : Nat), o + c = len → ∃ r, (Op.eqItems d e s (CV (len * s) (iv f)) (CV (len * s) (iv g)) (List.range' o c)).run P w = .ok r w ∧ (r = true ↔ ∀ i, o * s ≤ i → i < len * s → f i = g i) := by
            intro c
            induction c with
            | zero =>
              intro o ho
              obtain rfl : o = len := by omega
              exact ⟨true, by simp [Op.eqItems], by simp; omega⟩
            | succ c ihc =>
              intro o ho
              obtain ⟨r2, hr2, hi2⟩ := ihc (o + 1) (by omega)
              obtain ⟨r1, hr1, hi1⟩ := ih d (by omega) e s ag' hrec (fun i => f (o * s + i)) (fun i => g (o * s + i)) w
              have hle : o * s + s ≤ len * s := by
                have := Nat.mul_le_mul_right s (show o + 1 ≤ len by omega)
                rwa [Nat.add_mul, Nat.one_mul] at this
              have p1 := run_part_fv hty hone hle f w
              have p2 := run_part_fv hty hone hle g w
              refine ⟨r1 && r2, ?_, ?_⟩
              · simp only [List.range'_succ, Op.eqItems, Sem.run_bind, p1, p2, hr1, Result.andThen_ok]
                cases r1
                · simp
                · simpa using hr2
              · simp only [Bool.and_eq_true, hi1, hi2]
                constructor
                · rintro ⟨h1, h2⟩ i hi hi'
                  by_cases hio : i < o * s + s
                  · have := h1 (i - o * s) (by omega)
                    rwa [show o * s + (i - o * s) = i from by omega] at this
                  · exact h2 i (by rw [Nat.add_mul, Nat.one_mul]; omega) hi'
                · intro h
                  exact ⟨fun i hi => h (o * s + i) (by omega) (by omega), fun i hi hi' => h i (by rw [Nat.add_mul, Nat.one_mul] at hi; omega) hi'⟩
          obtain ⟨r, hr, hi⟩ := key len 0 (by omega)
          refine ⟨r, ?_, by rw [hi]; exact ⟨fun h i hi => h i (by simp) hi, fun h i _ hi => h i hi⟩⟩
          show (Op.equalIn (d + 1) t (.agg (CV (len * s) (iv f))) (.agg (CV (len * s) (iv g)))).run P w = _
          rw [run_equalIn_array w d _ _ hu hi0, hco, List.range_eq_range']
          exact hr
        · cases h
      · cases h
    · cases h

/-- The closed fact that a comparison of structs asks. -/
def Flat (P : Program) (t : TypeId) (n : Nat) : Prop := flat P 9 t = some (n, true) ∧ P.eqGuardType P.depth t = false

theorem Flat.equal {t : TypeId} {n : Nat} (h : Flat P t n) (f g : Nat → Int) (w : World) : (Op.equalIn 10000 t (AI n f) (AI n g)).run P w = .ok (eqN n f g) w := by
  obtain ⟨r, hr, hi⟩ := flat_eq 9 10000 (by omega) t n true h.1 f g w
  rw [show r = eqN n f g from by rw [Bool.eq_iff_iff, hi, eqN_iff]] at hr
  exact hr
end

section
variable {P : Program} {n : Nat} {w0 : World} {env : Env} {H : GH} {Q : Exit → Act → World → Prop} {ops : Array Oper} {rest : List Oper}
variable {d : Option Nat} {op : Op} {ty : TypeId} {pos : String} {af : Array Edge} {g : Option (Nat × Bool)}
variable {t yt : TypeId} {x y : Operand} {b o N s : Nat} {F : Nat → Value} {m k : Nat → Int} {T : TypeId}

theorem o_eqlA (ht : Flat P t N) (hx : ev env x = some (AI N m)) (hy : ev env y = some (AI N k)) : OT P w0 env H ⟨d, .binOp .eql t x y yt, ty, pos, af, g⟩ (Is (.bool (eqN N m k)) H) :=
  OT.pure fun a w ha => by
    have h1 := run_eqGuard_agg (P := P) w .eql t x y (CV N (iv m)) (CV N (iv k)) ht.2
    have h2 := run_eql_struct (P := P) w t (CV N (iv m)) (CV N (iv k))
    have h3 := ht.equal m k w
    simp only [AG] at h3
    simp only [execOp, ha.ev hx, ha.ev hy, AG, Sem.run_bind, h1, h2, h3, Result.andThen_ok, Sem.run_pure]
theorem o_neqA (ht : Flat P t N) (hx : ev env x = some (AI N m)) (hy : ev env y = some (AI N k)) : OT P w0 env H ⟨d, .binOp .neq t x y yt, ty, pos, af, g⟩ (Is (.bool (!eqN N m k)) H) :=
  OT.pure fun a w ha => by
    have h1 := run_eqGuard_agg (P := P) w .neq t x y (CV N (iv m)) (CV N (iv k)) ht.2
    have h2 := run_neq_struct (P := P) w t (CV N (iv m)) (CV N (iv k))
    have h3 := ht.equal m k w
    simp only [AG] at h3
    simp only [execOp, ha.ev hx, ha.ev hy, AG, Sem.run_bind, h1, h2, h3, Result.andThen_ok, Sem.run_pure]

/-! ### Structs made -/
inductive Fill (P : Program) (t : TypeId) (N : Nat) (env : Env) : List (Nat × Operand) → (Nat → Value) → (Nat → Value) → Prop
  | nil (f : Nat → Value) : Fill P t N env [] f f
  | one {i off : Nat} {x : Operand} {v : Value} {f f' : Nat → Value} {l : List (Nat × Operand)} (hf : Fld P t i off 1 false) (ho : Nat.ble (off + 1) N = true) (hx : ev env x = some v) (h1 : v.oneCell' = true) (h : Fill P t N env l (upd f off v) f') : Fill P t N env ((i, x) :: l) f f'
  | agg {i off s : Nat} {x : Operand} {h : Nat → Value} {f f' : Nat → Value} {l : List (Nat × Operand)} (hf : Fld P t i off s true) (ho : Nat.ble (off + s) N = true) (hx : ev env x = some (AG s h)) (hh : Fill P t N env l (updR f off s h) f') : Fill P t N env ((i, x) :: l) f f'
theorem Fill.int {i off : Nat} {x : Operand} {v : Int} {m : Nat → Int} {f' : Nat → Value} {l : List (Nat × Operand)} (hf : Fld P t i off 1 false) (ho : Nat.ble (off + 1) N = true) (hx : ev env x = some (.int .i64 v)) (h : Fill P t N env l (iv (updI m off v)) f') : Fill P t N env ((i, x) :: l) (iv m) f' :=
  .one hf ho hx rfl (by rw [updI_iv]; exact h)
theorem Fill.ints {i off s : Nat} {x : Operand} {h m : Nat → Int} {f' : Nat → Value} {l : List (Nat × Operand)} (hf : Fld P t i off s true) (ho : Nat.ble (off + s) N = true) (hx : ev env x = some (AI s h)) (hh : Fill P t N env l (iv (updRI m off s h)) f') : Fill P t N env ((i, x) :: l) (iv m) f' :=
  .agg hf ho hx (by rw [updRI_iv]; exact hh)

theorem foldl_size (off : Nat) : ∀ (l : List Value) (q : Nat) (c : Array Value), ((l.zipIdx q).foldl (fun cs (p : Value × Nat) => cs.setIfInBounds (off + p.2) p.1) c).size = c.size := by
  intro l
  induction l with
  | nil => intro q c; rfl
  | cons v l ih => intro q c; simp only [List.zipIdx_cons, List.foldl_cons]; rw [ih]; simp
theorem foldl_get (off : Nat) : ∀ (l : List Value) (q : Nat) (c : Array Value) (i : Nat), off + q + l.length ≤ c.size →
    ((l.zipIdx q).foldl (fun cs (p : Value × Nat) => cs.setIfInBounds (off + p.2) p.1) c)[i]? = if off + q ≤ i ∧ i < off + q + l.length then l[i - (off + q)]? else c[i]? := by
  intro l
  induction l with
  | nil => intro q c i _; simp; omega
  | cons v l ih =>
    intro q c i h
    simp only [List.length_cons] at h
    simp only [List.zipIdx_cons, List.foldl_cons, List.length_cons]
    rw [ih (q + 1) _ i (by simp; omega)]
    by_cases h1 : i = off + q
    · subst h1
      rw [if_neg (by omega), if_pos (by omega), Nat.sub_self, List.getElem?_cons_zero, Array.getElem?_setIfInBounds_self_of_lt (by omega)]
    · by_cases h2 : off + (q + 1) ≤ i ∧ i < off + (q + 1) + l.length
      · rw [if_pos h2, if_pos (by omega), show i - (off + q) = (i - (off + (q + 1))) + 1 from by omega, List.getElem?_cons_succ]
      · rw [if_neg h2, if_neg (by omega), Array.getElem?_setIfInBounds_ne (fun e => h1 e.symm)]

theorem fill_one {place : Nat → Option (Nat × Nat)} {i off : Nat} {v : Value} {r : List (Nat × Value)} {f f' : Nat → Value} (hp : place i = some (off, s)) (hv : v.cells.size = s) (hle : off + s ≤ N)
    (hin : ∀ j, j < s → v.cells[j]? = some (f' (off + j))) (hout : ∀ j, j < N → (j < off ∨ off + s ≤ j) → f j = f' j) :
    Instr.fill place (CV N f) ((i, v) :: r) = Instr.fill place (CV N f') r := by
  simp only [Instr.fill, hp]
  rw [if_neg (by simp [hv]; omega)]
  have hz : v.cells.zipIdx.foldl (fun cs (x : Value × Nat) => cs.setIfInBounds (off + x.2) x.1) (CV N f) = CV N f' := by
    rw [← Array.foldl_toList, Array.toList_zipIdx]
    refine CV_eq (by rw [foldl_size]; simp) fun j hj => ?_
    rw [foldl_get off v.cells.toList 0 (CV N f) j (by simp; omega)]
    simp only [Nat.add_zero, Array.length_toList, hv]
    by_cases h1 : off ≤ j ∧ j < off + s
    · rw [if_pos h1, Array.getElem?_toList, hin (j - off) (by omega), show off + (j - off) = j from by omega]
    · rw [if_neg h1, CV_get hj, hout j hj (by omega)]
  rw [hz]

theorem Fill.run {fs : Array Field} (ht : P.underlying t = some (.struct fs)) {a : Act} (ha : AgV env a) {l : List (Nat × Operand)} {f f' : Nat → Value} (h : Fill P t N env l f f')
    {places : Array (Nat × Nat)} (hpl : ∀ (i : Nat) (fd : Field) (sz : Nat) (ag : Bool), fs[i]? = some fd → TyS P fd.type sz ag → places[i]? = some (fd.offset, sz)) :
    Instr.fill (places[·]?) (CV N f) (l.map fun p => (p.1, a.eval p.2)) = some (CV N f') := by
  induction h with
  | nil f => rfl
  | @one i off x v f f' l hf ho hx h1 h ih =>
    obtain ⟨fs', fd, e1, e2, e3, e4, _⟩ := hf
    rw [ht] at e1
    cases e1
    have hp := hpl i fd 1 false e2 e4
    rw [e3] at hp
    have hc : v.cells = #[v] := by cases v <;> first | rfl | simp [Value.oneCell'] at h1
    rw [List.map_cons, fill_one hp (by rw [ha.ev hx, hc]; rfl) (Nat.le_of_ble_eq_true ho) (f' := upd f off v)
      (fun j hj => by
        obtain rfl : j = 0 := by omega
        rw [ha.ev hx, hc]; simp [upd]) (fun j _ hh => by simp only [upd]; rw [if_neg (by omega)])]
    exact ih
  | @agg i off s x h f f' l hf ho hx hh ih =>
    obtain ⟨fs', fd, e1, e2, e3, e4, _⟩ := hf
    rw [ht] at e1
    cases e1
    have hp := hpl i fd s true e2 e4
    rw [e3] at hp
    rw [List.map_cons, fill_one hp (by rw [ha.ev hx, AG_cells]; simp) (Nat.le_of_ble_eq_true ho) (f' := updR f off s h)
      (fun j hj => by rw [ha.ev hx, AG_cells, CV_get hj]; simp only [updR]; rw [if_pos (by omega)]; congr 2; omega) (fun j _ hh => by simp only [updR]; rw [if_neg (by omega)])]
    exact ih

/-- Of each field of a struct type its size is told. -/
def FldsOk (P : Program) (t : TypeId) : Prop := ∃ fs, P.underlying t = some (.struct fs) ∧ fs.toList.all (fun f => (P.info? f.type).isSome) = true

theorem run_places : ∀ (fs : List Field), fs.all (fun f => (P.info? f.type).isSome) = true → ∀ w, ∃ pl : List (Nat × Nat),
    (fs.mapM fun (f : Field) => do pure (f.offset, ← Go.sizeOf f.type) : Sem (List (Nat × Nat))).run P w = .ok pl w ∧ ∀ (i : Nat) (fd : Field) (sz : Nat) (ag : Bool), fs[i]? = some fd → TyS P fd.type sz ag → pl[i]? = some (fd.offset, sz) := by
  intro fs
  induction fs with
  | nil => intro _ w; exact ⟨[], by simp, by simp⟩
  | cons f fs ih =>
    intro h w
    simp only [List.all_cons, Bool.and_eq_true] at h
    obtain ⟨pl, h1, h2⟩ := ih h.2 w
    obtain ⟨i0, hi0⟩ := Option.isSome_iff_exists.1 h.1
    refine ⟨(f.offset, i0.size) :: pl, ?_, ?_⟩
    · rw [List.mapM_cons]
      simp only [Sem.run_bind, Go.sizeOf, typeInfo, run_program, Result.andThen_ok, hi0, Sem.run_pure] at h1 ⊢
      rw [h1]
      rfl
    · intro i fd sz ag hi hty
      cases i with
      | zero =>
        simp only [List.getElem?_cons_zero, Option.some.injEq] at hi ⊢
        subst hi
        obtain ⟨i1, hi1, hi2⟩ := Option.map_eq_some_iff.1 hty.2
        rw [hi0] at hi1
        cases hi1
        rw [hi2]
      | succ i =>
        simp only [List.getElem?_cons_succ] at hi ⊢
        exact h2 i fd sz ag hi hty

theorem o_build {ps : Array (Nat × Operand)} {f0 f : Nat → Value} (hk : FldsOk P t) (hz : ZeroT P t (AG N f0)) (hf : Fill P t N env ps.toList f0 f) : OT P w0 env H ⟨d, .build t ps, ty, pos, af, g⟩ (Is (AG N f) H) :=
  OT.pure fun a w ha => by
    obtain ⟨fs, h1, h2⟩ := hk
    obtain ⟨pl, p1, p2⟩ := run_places fs.toList h2 w
    have hfill := hf.run h1 ha (places := pl.toArray) (fun i fd sz ag hi hty => by
      rw [List.getElem?_toArray]; exact p2 i fd sz ag (by simpa using hi) hty)
    have hm : (ps.map fun (p : Nat × Operand) => (p.1, a.eval p.2)).toList = ps.toList.map fun p => (p.1, a.eval p.2) := by simp
    have hpl : (fs.mapM fun (f : Field) => do pure (f.offset, ← Go.sizeOf f.type) : Sem (Array (Nat × Nat))).run P w = .ok pl.toArray w := by
      rw [Array.mapM_eq_mapM_toList, Sem.run_map, p1]
      rfl
    simp only [execOp, Instr.build, Sem.run_bind, hz.run, Result.andThen_ok, run_underlying h1, hpl, AG_cells, hm, hfill, Sem.run_pure]
    rfl

/-- The zero of an array, written as a literal. -/
theorem o_bldA {e : TypeId} {ag : Bool} {len : Nat} {f0 : Nat → Value} (he : ElmA P t len e s ag) (hz : ZeroT P t (AG N f0)) : OT P w0 env H ⟨d, .build t #[], ty, pos, af, g⟩ (Is (AG N f0) H) :=
  OT.pure fun _a w _ha => by
    simp [execOp, Instr.build, hz.run, run_underlying he.1, he.2.sizeOf, Instr.fill, AG]
    rfl

/-! ### Slices -/
/-- What lies at a slice's places, and how it may be cut. -/
theorem run_slice {a : Act} {w : World} {e : TypeId} {ag : Bool} {lo hi : Option Operand} {l h n c : Nat} {p : Option Addr} (he : Elm P t e s ag) (hx : a.eval x = .slice p n c)
    (hlo : ∀ o, lo = some o → ∃ k, a.eval o = .int k (l : Int)) (hlo' : lo = none → l = 0) (hhi : ∀ o, hi = some o → ∃ k, a.eval o = .int k (h : Int)) (hhi' : hi = none → h = n) (hlh : l ≤ h) (hhc : h ≤ c) :
    (execOp a.eval ⟨d, .slice t x lo hi none, ty, pos, af, g⟩).run P w = .ok (.value (.slice (if c = l then p else p.map (·.add (l * s))) (h - l) (c - l))) w := by
  have hb : (Instr.sliceBounds true n c (lo.map a.eval) (hi.map a.eval) none).run P w = .ok (l, h, c) w := by
    have h1 : ∀ o, hi = some o → (Instr.sliceBound (a.eval o) c .sliceAcap).run P w = .ok h w := by
      intro o ho
      obtain ⟨k, hk⟩ := hhi o ho
      simp [Instr.sliceBound, hk, asIntOf, show (0 : Int) ≤ (h : Int) ∧ (h : Int) ≤ (c : Int) from ⟨by omega, by omega⟩]
    have h2 : ∀ o, lo = some o → (Instr.sliceBound (a.eval o) h .sliceB).run P w = .ok l w := by
      intro o ho
      obtain ⟨k, hk⟩ := hlo o ho
      simp [Instr.sliceBound, hk, asIntOf, show (0 : Int) ≤ (l : Int) ∧ (l : Int) ≤ (h : Int) from ⟨by omega, by omega⟩]
    cases hlo0 : lo with
    | none =>
      have e1 := hlo' hlo0
      cases hhi0 : hi with
      | none => have e2 := hhi' hhi0; simp [Instr.sliceBounds, e1, e2]
      | some o2 => simp [Instr.sliceBounds, h1 o2 hhi0, e1]
    | some o1 =>
      cases hhi0 : hi with
      | none => have e2 := hhi' hhi0; subst e2; simp [Instr.sliceBounds, h2 o1 hlo0]
      | some o2 => simp [Instr.sliceBounds, h1 o2 hhi0, h2 o1 hlo0]
  simp only [execOp, Instr.sliceAt, Instr.slice, Option.map_none, Sem.run_bind, hx, run_underlying he.1, Result.andThen_ok, hb, he.2.sizeOf, Sem.run_pure]

theorem o_slice {e : TypeId} {ag : Bool} {lo hi : Option Operand} {l h n c : Nat} {p : Option Addr} (he : Elm P t e s ag) (hx : ev env x = some (.slice p n c))
    (hlo : ∀ o, lo = some o → ∃ k, ev env o = some (.int k (l : Int))) (hlo' : lo = none → l = 0) (hhi : ∀ o, hi = some o → ∃ k, ev env o = some (.int k (h : Int))) (hhi' : hi = none → h = n) (hlh : l ≤ h) (hhc : h ≤ c) :
    OT P w0 env H ⟨d, .slice t x lo hi none, ty, pos, af, g⟩ (Is (.slice (if c = l then p else p.map (·.add (l * s))) (h - l) (c - l)) H) :=
  OT.pure fun a w ha => run_slice he (ha.ev hx) (fun o ho => (hlo o ho).imp fun _ h => ha.ev h) hlo' (fun o ho => (hhi o ho).imp fun _ h => ha.ev h) hhi' hlh hhc
/-- x[:h] -/
theorem o_sliceH {e : TypeId} {ag : Bool} {o2 : Operand} {i : Int} {k : IntKind} {h n c q : Nat} (he : Elm P t e s ag) (hx : ev env x = some (.slice (some ⟨b, q, none⟩) n c)) (h2 : ev env o2 = some (.int k i)) (hi : i = (h : Int)) (hhc : h ≤ c) :
    OT P w0 env H ⟨d, .slice t x none (some o2) none, ty, pos, af, g⟩ (Is (.slice (some ⟨b, q, none⟩) h c) H) := by
  have := o_slice (w0 := w0) (H := H) (d := d) (ty := ty) (pos := pos) (af := af) (g := g) (lo := none) (hi := some o2) (l := 0) (h := h) he hx (fun o ho => by cases ho) (fun _ => rfl) (fun o ho => by cases ho; exact ⟨k, by rw [h2, hi]⟩) (fun h => by cases h) (Nat.zero_le _) hhc
  simpa [Addr.add] using this
/-- x[l:], not all of what it may hold -/
theorem o_sliceL {e : TypeId} {ag : Bool} {o1 : Operand} {i : Int} {k : IntKind} {l n c q : Nat} (he : Elm P t e s ag) (hx : ev env x = some (.slice (some ⟨b, q, none⟩) n c)) (h1 : ev env o1 = some (.int k i)) (hi : i = (l : Int)) (hl : l ≤ n) (hn : n ≤ c) :
    OT P w0 env H ⟨d, .slice t x (some o1) none none, ty, pos, af, g⟩ (Is (.slice (some ⟨b, if c = l then q else q + l * s, none⟩) (n - l) (c - l)) H) := by
  have := o_slice (w0 := w0) (H := H) (d := d) (ty := ty) (pos := pos) (af := af) (g := g) (lo := some o1) (hi := none) (l := l) (h := n) he hx (fun o ho => by cases ho; exact ⟨k, by rw [h1, hi]⟩) (fun h => by cases h) (fun o ho => by cases ho) (fun _ => rfl) hl hn
  have e2 : (if c = l then some (⟨b, q, none⟩ : Addr) else (some (⟨b, q, none⟩ : Addr)).map (·.add (l * s))) = some ⟨b, if c = l then q else q + l * s, none⟩ := by
    split <;> simp [Addr.add_lit]
  rw [e2] at this
  exact this
/-- x[l:h] -/
theorem o_sliceLH {e : TypeId} {ag : Bool} {o1 o2 : Operand} {i j : Int} {k k' : IntKind} {l h n c q : Nat} (he : Elm P t e s ag) (hx : ev env x = some (.slice (some ⟨b, q, none⟩) n c)) (h1 : ev env o1 = some (.int k i)) (h2 : ev env o2 = some (.int k' j)) (hi : i = (l : Int)) (hj : j = (h : Int)) (hl : l ≤ h) (hn : h ≤ c) :
    OT P w0 env H ⟨d, .slice t x (some o1) (some o2) none, ty, pos, af, g⟩ (Is (.slice (some ⟨b, if c = l then q else q + l * s, none⟩) (h - l) (c - l)) H) := by
  have := o_slice (w0 := w0) (H := H) (d := d) (ty := ty) (pos := pos) (af := af) (g := g) (lo := some o1) (hi := some o2) (l := l) (h := h) he hx (fun o ho => by cases ho; exact ⟨k, by rw [h1, hi]⟩) (fun h => by cases h) (fun o ho => by cases ho; exact ⟨k', by rw [h2, hj]⟩) (fun h => by cases h) hl hn
  have e2 : (if c = l then some (⟨b, q, none⟩ : Addr) else (some (⟨b, q, none⟩ : Addr)).map (·.add (l * s))) = some ⟨b, if c = l then q else q + l * s, none⟩ := by
    split <;> simp [Addr.add_lit]
  rw [e2] at this
  exact this
end
end Go.E
