/- The engine, part 4: memory. -/
import Derived.Test.YtjmfnohbeoiddaaE3
namespace Go.E
open Go

theorem cell_BK {w : World} {b o N : Nat} {F : Nat → Value} {T : TypeId} (h : w.heap[b]? = some (BK N F T)) (ho : o < N) : w.cell? ⟨b, o, none⟩ = some (F o) := by
  simp [World.cell?, h, BK, CV_get ho]

theorem cell_keep {w0 w : World} {H : GH} (hs : St w0 H w) {b o : Nat} {v : Value} (hc : w0.cell? ⟨b, o, none⟩ = some v) (hn : b ∉ keys H) : w.cell? ⟨b, o, none⟩ = some v := by
  have hlt := World.block_lt_of_cell? w0 _ hc
  rw [← hc]
  exact World.cell?_of_block (hs.keep b hlt hn)

section
variable {P : Program} {n : Nat} {w0 : World} {env : Env} {H : GH} {Q : Exit → Act → World → Prop} {ops : Array Oper} {rest : List Oper}
variable {d : Option Nat} {op : Op} {ty : TypeId} {pos : String} {af : Array Edge} {g : Option (Nat × Bool)}
variable {t : TypeId} {x y : Operand} {b o N s : Nat} {F : Nat → Value} {m : Nat → Int} {T : TypeId}

theorem run_load1 {a : Act} {w : World} {v : Value} {k : Nat} (hx : a.eval x = .pointer (some ⟨b, o, none⟩)) (ht : TyS P t k false) (hc : w.cell? ⟨b, o, none⟩ = some v) :
    (execOp a.eval ⟨d, .load t x, ty, pos, af, g⟩).run P w = .ok (.value v) w := by
  simp [execOp, hx, Instr.loadAt, Instr.sureAddr, loadVar, ht.isAgg, hc]

theorem o_ld {v : Value} {k : Nat} (hx : ev env x = some (.pointer (some ⟨b, o, none⟩))) (ht : TyS P t k false) (hm : (b, BK N F T) ∈ H) (ho : o < N) (hv : F o = v) :
    OT P w0 env H ⟨d, .load t x, ty, pos, af, g⟩ (Is v H) :=
  OT.val fun a w ha hs => ⟨v, w, H, run_load1 (ha.ev hx) ht (by rw [← hv]; exact cell_BK (hs.own _ _ hm) ho), hs, rfl, rfl⟩
theorem o_ldI {v : Int} {k : Nat} (hx : ev env x = some (.pointer (some ⟨b, o, none⟩))) (ht : TyS P t k false) (hm : (b, BK N (iv m) T) ∈ H) (ho : o < N) (hv : m o = v) :
    OT P w0 env H ⟨d, .load t x, ty, pos, af, g⟩ (Is (.int .i64 v) H) := o_ld hx ht hm ho (by rw [← hv]; rfl)
/-- A variable of one cell. -/
theorem o_ldV {v : Value} {k : Nat} (hx : ev env x = some (.pointer (some ⟨b, 0, none⟩))) (ht : TyS P t k false) (hm : (b, BK 1 (fun _ => v) T) ∈ H) :
    OT P w0 env H ⟨d, .load t x, ty, pos, af, g⟩ (Is v H) := o_ld hx ht hm (by omega) rfl
/-- Out of memory that was there before, and is not in the list. -/
theorem o_ld0 {v : Value} {k : Nat} (hx : ev env x = some (.pointer (some ⟨b, o, none⟩))) (ht : TyS P t k false) (hc : w0.cell? ⟨b, o, none⟩ = some v) (hn : b ∉ keys H) :
    OT P w0 env H ⟨d, .load t x, ty, pos, af, g⟩ (Is v H) :=
  OT.val fun _a w ha hs => ⟨v, w, H, run_load1 (ha.ev hx) ht (cell_keep hs hc hn), hs, rfl, rfl⟩

theorem run_loadA {a : Act} {w : World} {f : Nat → Value} (hx : a.eval x = .pointer (some ⟨b, o, none⟩)) (ht : TyS P t s true) (hc : ∀ i, i < s → w.cell? ⟨b, o + i, none⟩ = some (f i)) :
    (execOp a.eval ⟨d, .load t x, ty, pos, af, g⟩).run P w = .ok (.value (AG s f)) w := by
  have := run_loadCells (P := P) w ⟨b, o, none⟩ s f (fun j hj => by rw [Addr.add_lit]; exact hc j hj)
  simp [execOp, hx, Instr.loadAt, Instr.sureAddr, loadVar, ht.isAgg, ht.sizeOf, this, AG, CV]

/-- A whole variable. -/
theorem o_ldW (hx : ev env x = some (.pointer (some ⟨b, 0, none⟩))) (ht : TyS P t s true) (hm : (b, BK s F T) ∈ H) : OT P w0 env H ⟨d, .load t x, ty, pos, af, g⟩ (Is (AG s F) H) :=
  OT.val fun a w ha hs => ⟨_, w, H, run_loadA (ha.ev hx) ht (fun i hi => by rw [Nat.zero_add]; exact cell_BK (hs.own _ _ hm) hi), hs, rfl, rfl⟩
/-- Part of one. -/
theorem o_ldS {f : Nat → Value} (hx : ev env x = some (.pointer (some ⟨b, o, none⟩))) (ht : TyS P t s true) (hm : (b, BK N F T) ∈ H) (ho : o + s ≤ N) (hf : ∀ i, i < s → F (o + i) = f i) : OT P w0 env H ⟨d, .load t x, ty, pos, af, g⟩ (Is (AG s f) H) :=
  OT.val fun a w ha hs => ⟨_, w, H, run_loadA (ha.ev hx) ht (fun i hi => by rw [cell_BK (hs.own _ _ hm) (by omega), hf i hi]), hs, rfl, rfl⟩
theorem o_ldSI {f : Nat → Int} (hx : ev env x = some (.pointer (some ⟨b, o, none⟩))) (ht : TyS P t s true) (hm : (b, BK N (iv m) T) ∈ H) (ho : o + s ≤ N) (hf : ∀ i, i < s → m (o + i) = f i) : OT P w0 env H ⟨d, .load t x, ty, pos, af, g⟩ (Is (AI s f) H) :=
  o_ldS hx ht hm ho (fun i hi => by simp only [iv, hf i hi])
theorem o_ldS0 {f : Nat → Value} (hx : ev env x = some (.pointer (some ⟨b, o, none⟩))) (ht : TyS P t s true) (hc : ∀ i, i < s → w0.cell? ⟨b, o + i, none⟩ = some (f i)) (hn : b ∉ keys H) : OT P w0 env H ⟨d, .load t x, ty, pos, af, g⟩ (Is (AG s f) H) :=
  OT.val fun _a w ha hs => ⟨_, w, H, run_loadA (ha.ev hx) ht (fun i hi => cell_keep hs (hc i hi) hn), hs, rfl, rfl⟩

/-! ### Stores -/
theorem setRow_BK {w : World} {f' : Nat → Value} {c : Array Value} (hb : w.heap[b]? = some (BK N F T)) (hc : c = CV N f') : (w.setRow b c).heap[b]? = some (BK N f' T) := by
  rw [setRow_heap w b (CV N F) c T (0, 0) hb, hc]; rfl

theorem St.setRow {w : World} {H' : GH} {f' : Nat → Value} {c : Array Value} (hs : St w0 H w) (hm : (b, BK N F T) ∈ H) (hc : c = CV N f') (hu : Upd H b (BK N f' T) H') : St w0 H' (w.setRow b c) :=
  hs.upd hu (setRow_BK (hs.own _ _ hm) hc) (fun k hk => setRow_other w b k c hk) rfl rfl rfl (by simp)

theorem Upd.get {H H' : GH} {b : Nat} {o' : Obj} (h : Upd H b o' H') : ∃ o, (b, o) ∈ H := by
  induction h with
  | here b o o' t => exact ⟨o, List.mem_cons_self ..⟩
  | there x t t' b o' h ih => exact ih.imp fun _ h => List.mem_cons_of_mem _ h

theorem splice_CV {f : Nat → Value} {gs : List Value} {k : Nat → Value} (hl : o + gs.length ≤ N) (hin : ∀ i, i < gs.length → gs[i]? = some (k (o + i))) (hout : ∀ i, i < N → (i < o ∨ o + gs.length ≤ i) → f i = k i) :
    ((CV N f).toList.take o ++ gs ++ (CV N f).toList.drop (o + gs.length)).toArray = CV N k := by
  refine CV_eq (by simp; omega) fun i hi => ?_
  simp only [List.getElem?_toArray]
  by_cases h1 : i < o
  · rw [List.append_assoc, List.getElem?_append_left (by simp; omega), List.getElem?_take, if_pos h1]
    rw [Array.getElem?_toList, CV_get hi, hout i hi (.inl h1)]
  · by_cases h2 : i < o + gs.length
    · rw [List.getElem?_append_left (by simp; omega), List.getElem?_append_right (by simp; omega)]
      have hmin : (List.take o (CV N f).toList).length = o := by simp; omega
      rw [hmin, hin (i - o) (by omega)]
      congr 2; omega
    · rw [List.getElem?_append_right (by simp; omega)]
      have hlen : (List.take o (CV N f).toList ++ gs).length = o + gs.length := by simp; omega
      rw [hlen, List.getElem?_drop, Array.getElem?_toList]
      rw [CV_get (by omega)]
      rw [hout _ (by omega) (by omega)]
      congr 2; omega

theorem run_st {a : Act} {w : World} {v : Value} {f' : Nat → Value} (hx : a.eval x = .pointer (some ⟨b, o, none⟩)) (hy : a.eval y = v) (hsz : (P.info? t).map (·.size) = some s) (hvs : v.cells.size = s)
    (h1 : ∀ u ∈ v.cells.toList, u.oneCell' = true) (hb : w.heap[b]? = some (BK N F T)) (hl : o + s ≤ N) (hin : ∀ i, i < s → v.cells[i]? = some (f' (o + i))) (hout : ∀ i, i < N → (i < o ∨ o + s ≤ i) → F i = f' i) :
    ∃ c, c = CV N f' ∧ (execOp a.eval ⟨d, .store t x y, ty, pos, af, g⟩).run P w = .ok .skip (w.setRow b c) := by
  obtain ⟨i0, hi0, hi1⟩ := Option.map_eq_some_iff.1 hsz
  have hst := run_storeCells_at P b o T v.cells.toList 0 (CV N F) w hb (by simp; omega) h1
  simp only [Nat.add_zero] at hst
  refine ⟨_, splice_CV (N := N) (o := o) (f := F) (gs := v.cells.toList) (k := f') (by simp; omega) (fun i hi => by rw [Array.getElem?_toList]; exact hin i (by simpa [hvs] using hi)) (fun i hi hh => hout i hi (by simpa [hvs] using hh)), ?_⟩
  simp [execOp, hx, hy, Instr.storeAt, Instr.sureAddr, storeVar, Go.sizeOf, typeInfo, hi0, hi1, hvs, hst]

theorem o_st {H' : GH} {v : Value} (hx : ev env x = some (.pointer (some ⟨b, o, none⟩))) (hy : ev env y = some v) (ht : TyS P t 1 false) (h1 : v.oneCell' = true) (hm : (b, BK N F T) ∈ H) (ho : o < N)
    (hu : Upd H b (BK N (upd F o v) T) H') : OT P w0 env H ⟨none, .store t x y, ty, pos, af, g⟩ (Is undef H') :=
  OT.skip fun a w ha hs => by
    have hc : v.cells = #[v] := by cases v <;> first | rfl | simp [Value.oneCell'] at h1
    obtain ⟨c, hc', hr⟩ := run_st (d := none) (ty := ty) (pos := pos) (af := af) (g := g) (f' := upd F o v) (ha.ev hx) (ha.ev hy) ht.2 (by rw [hc]; rfl) (by rw [hc]; simpa using h1) (hs.own _ _ hm) (by omega)
      (fun i hi => by
        obtain rfl : i = 0 := by omega
        simp [hc, upd]) (fun i _ hh => by simp only [upd]; rw [if_neg (by omega)])
    exact ⟨_, H', hr, hs.setRow hm hc' hu, rfl, rfl⟩
theorem o_stV {H' : GH} {v : Value} (hx : ev env x = some (.pointer (some ⟨b, 0, none⟩))) (hy : ev env y = some v) (ht : TyS P t 1 false) (h1 : v.oneCell' = true) (hm : (b, BK 1 F T) ∈ H)
    (hu : Upd H b (BK 1 (fun _ => v) T) H') : OT P w0 env H ⟨none, .store t x y, ty, pos, af, g⟩ (Is undef H') :=
  o_st hx hy ht h1 hm (by omega) (by rw [BK_ext (g := fun _ => v) (fun i hi => by obtain rfl : i = 0 := (by omega); simp [upd])]; exact hu)
theorem o_stI {H' : GH} {v : Int} (hx : ev env x = some (.pointer (some ⟨b, o, none⟩))) (hy : ev env y = some (.int .i64 v)) (ht : TyS P t 1 false) (hm : (b, BK N (iv m) T) ∈ H) (ho : o < N)
    (hu : Upd H b (BK N (iv (updI m o v)) T) H') : OT P w0 env H ⟨none, .store t x y, ty, pos, af, g⟩ (Is undef H') :=
  o_st hx hy ht rfl hm ho (by rw [updI_iv]; exact hu)
/-- A struct into part of a block. -/
theorem o_stS {H' : GH} {f : Nat → Value} (hx : ev env x = some (.pointer (some ⟨b, o, none⟩))) (hy : ev env y = some (AG s f)) (ht : TyS P t s true) (h1 : ∀ i, i < s → (f i).oneCell' = true) (hm : (b, BK N F T) ∈ H) (ho : o + s ≤ N)
    (hu : Upd H b (BK N (updR F o s f) T) H') : OT P w0 env H ⟨none, .store t x y, ty, pos, af, g⟩ (Is undef H') :=
  OT.skip fun a w ha hs => by
    obtain ⟨c, hc', hr⟩ := run_st (d := none) (ty := ty) (pos := pos) (af := af) (g := g) (f' := updR F o s f) (ha.ev hx) (ha.ev hy) ht.2 (by rw [AG_cells]; simp)
      (fun u hu => by rw [AG_cells, CV] at hu; simp at hu; obtain ⟨i, hi, rfl⟩ := hu; exact h1 i hi) (hs.own _ _ hm) (by omega)
      (fun i hi => by rw [AG_cells, CV_get hi]; simp only [updR]; rw [if_pos (by omega)]; congr 2; omega) (fun i _ hh => by simp only [updR]; rw [if_neg (by omega)])
    exact ⟨_, H', hr, hs.setRow hm hc' hu, rfl, rfl⟩
theorem o_stSI {H' : GH} {f : Nat → Int} (hx : ev env x = some (.pointer (some ⟨b, o, none⟩))) (hy : ev env y = some (AI s f)) (ht : TyS P t s true) (hm : (b, BK N (iv m) T) ∈ H) (ho : o + s ≤ N)
    (hu : Upd H b (BK N (iv (updRI m o s f)) T) H') : OT P w0 env H ⟨none, .store t x y, ty, pos, af, g⟩ (Is undef H') :=
  o_stS hx hy ht (fun _ _ => rfl) hm ho (by rw [updRI_iv]; exact hu)
/-- A struct into a whole variable. -/
theorem o_stW {H' : GH} {f : Nat → Value} (hx : ev env x = some (.pointer (some ⟨b, 0, none⟩))) (hy : ev env y = some (AG s f)) (ht : TyS P t s true) (h1 : ∀ i, i < s → (f i).oneCell' = true) (hm : (b, BK s F T) ∈ H)
    (hu : Upd H b (BK s f T) H') : OT P w0 env H ⟨none, .store t x y, ty, pos, af, g⟩ (Is undef H') :=
  o_stS hx hy ht h1 hm (by omega) (by rw [BK_ext (g := f) (fun i hi => by simp only [updR]; rw [if_pos (by omega), Nat.sub_zero])]; exact hu)
theorem o_stWI {H' : GH} {f : Nat → Int} (hx : ev env x = some (.pointer (some ⟨b, 0, none⟩))) (hy : ev env y = some (AI s f)) (ht : TyS P t s true) (hm : (b, BK s F T) ∈ H)
    (hu : Upd H b (BK s (iv f) T) H') : OT P w0 env H ⟨none, .store t x y, ty, pos, af, g⟩ (Is undef H') :=
  o_stW hx hy ht (fun _ _ => rfl) hm hu

/-! ### New variables -/
def NewAt (w0 : World) (o : Obj) (H : GH) : Value → GH → Prop := fun v H' => ∃ b, w0.heap.size ≤ b ∧ v = .pointer (some ⟨b, 0, none⟩) ∧ H' = (b, o) :: H

theorem ot_new {o : Oper} {z : Obj} (hr : ∀ a w, AgV env a → (execOp a.eval o).run P w = .ok (.value (.pointer (some ⟨w.heap.size, 0, none⟩))) (w.alloc z)) : OT P w0 env H o (NewAt w0 z H) :=
  OT.val fun a w ha hs => ⟨_, _, _, hr a w ha, hs.alloc z, w.heap.size, hs.size, rfl, rfl⟩

theorem o_alloc {e : TypeId} {z : Value} {k : Nat} {f : Nat → Value} (hz : ZeroT P e z) (hc : z.cells = CV k f) : OT P w0 env H ⟨d, .alloc e, ty, pos, af, g⟩ (NewAt w0 (BK k f e) H) :=
  ot_new fun a w _ => by simp [execOp, Instr.alloc, hz.run, newVar, newRow, hc, BK]
theorem o_box {e : TypeId} {v : Value} {k : Nat} {f : Nat → Value} (hx : ev env x = some v) (hc : v.cells = CV k f) : OT P w0 env H ⟨d, .box e x, ty, pos, af, g⟩ (NewAt w0 (BK k f e) H) :=
  ot_new fun a w ha => by simp [execOp, ha.ev hx, Instr.box, newVar, newRow, hc, BK]
theorem o_boxA {e : TypeId} {k : Nat} {f : Nat → Value} (hx : ev env x = some (AG k f)) : OT P w0 env H ⟨d, .box e x, ty, pos, af, g⟩ (NewAt w0 (BK k f e) H) := o_box hx (AG_cells k f)
theorem cells_one {v : Value} (h : v.oneCell' = true) : v.cells = CV 1 (fun _ => v) := by cases v <;> first | rfl | simp [Value.oneCell'] at h
theorem o_box1 {e : TypeId} {v : Value} (hx : ev env x = some v) (h : v.oneCell' = true) : OT P w0 env H ⟨d, .box e x, ty, pos, af, g⟩ (NewAt w0 (BK 1 (fun _ => v) e) H) := o_box hx (cells_one h)

/-! ### Places -/
/-- Field f of struct type t: where it begins, and how many cells it has (not none). -/
def Fld (P : Program) (t : TypeId) (f off : Nat) (size : Nat) (ag : Bool) : Prop :=
  ∃ fs fd, P.underlying t = some (.struct fs) ∧ fs[f]? = some fd ∧ fd.offset = off ∧ TyS P fd.type size ag ∧ Nat.ble 1 size = true

theorem o_fa {f off : Nat} {ag : Bool} (hf : Fld P t f off s ag) (hx : ev env x = some (.pointer (some ⟨b, o, none⟩))) : OT P w0 env H ⟨d, .fieldAddr t x f, ty, pos, af, g⟩ (Is (.pointer (some ⟨b, o + off, none⟩)) H) :=
  OT.pure fun a w ha => by
    obtain ⟨fs, fd, h1, h2, h3, h4, h5⟩ := hf
    have : s ≠ 0 := by have := Nat.le_of_ble_eq_true h5; omega
    simp [execOp, ha.ev hx, Instr.fieldAt, run_underlying h1, h2, Instr.sureAddr, fieldPlace, h4.sizeOf, this, Addr.add_lit, h3]
theorem o_fa0 {f off : Nat} {ag : Bool} (hf : Fld P t f off s ag) (hx : ev env x = some (.pointer (some ⟨b, 0, none⟩))) : OT P w0 env H ⟨d, .fieldAddr t x f, ty, pos, af, g⟩ (Is (.pointer (some ⟨b, off, none⟩)) H) := by
  have := o_fa (P := P) (w0 := w0) (H := H) (d := d) (ty := ty) (pos := pos) (af := af) (g := g) hf hx
  rwa [Nat.zero_add] at this
theorem run_part {u : TypeId} {k s o : Nat} {ag : Bool} (ht : TyS P u s ag) {f : Nat → Value} (ho : o + s ≤ k) (hs : ag = false → s = 1) (w : World) :
    (part u (CV k f) o).run P w = .ok (if ag then AG s (fun i => f (o + i)) else f o) w := by
  cases ag
  · have : s = 1 := hs rfl
    simp [part, ht.isAgg, CV_get (show o < k by omega)]
  · simp [part, ht.isAgg, ht.sizeOf, CV_extract ho, AG]
theorem o_fd1 {f off k : Nat} {v : Value} (hf : Fld P t f off 1 false) (hx : ev env x = some (AG k F)) (ho : Nat.ble (off + 1) k = true) (hv : F off = v) : OT P w0 env H ⟨d, .field t x f, ty, pos, af, g⟩ (Is v H) :=
  OT.pure fun a w ha => by
    obtain ⟨fs, fd, h1, h2, h3, h4, h5⟩ := hf
    subst h3
    have := run_part h4 (f := F) (Nat.le_of_ble_eq_true ho) (fun _ => rfl) w
    simp [execOp, ha.ev hx, Instr.field, run_underlying h1, h2, AG, asAgg, this, hv]
theorem o_fd1I {f off k : Nat} {v : Int} (hf : Fld P t f off 1 false) (hx : ev env x = some (AI k m)) (ho : Nat.ble (off + 1) k = true) (hv : m off = v) : OT P w0 env H ⟨d, .field t x f, ty, pos, af, g⟩ (Is (.int .i64 v) H) :=
  o_fd1 hf hx ho (by rw [← hv]; rfl)
theorem o_fdA {f off k : Nat} {h : Nat → Value} (hf : Fld P t f off s true) (hx : ev env x = some (AG k F)) (ho : Nat.ble (off + s) k = true) (hv : ∀ i, i < s → F (off + i) = h i) : OT P w0 env H ⟨d, .field t x f, ty, pos, af, g⟩ (Is (AG s h) H) :=
  OT.pure fun a w ha => by
    obtain ⟨fs, fd, h1, h2, h3, h4, h5⟩ := hf
    subst h3
    have := run_part h4 (f := F) (Nat.le_of_ble_eq_true ho) (by simp) w
    rw [show AG s h = AG s (fun i => F (fd.offset + i)) from AG_ext fun i hi => (hv i hi).symm]
    simp [execOp, ha.ev hx, Instr.field, run_underlying h1, h2, asAgg, this, AG]
theorem o_fdAI {f off k : Nat} {h : Nat → Int} (hf : Fld P t f off s true) (hx : ev env x = some (AI k m)) (ho : Nat.ble (off + s) k = true) (hv : ∀ i, i < s → m (off + i) = h i) : OT P w0 env H ⟨d, .field t x f, ty, pos, af, g⟩ (Is (AI s h) H) :=
  o_fdA hf hx ho (fun i hi => by simp only [iv, hv i hi])

/-! ### Elements -/
def Elm (P : Program) (t e : TypeId) (size : Nat) (ag : Bool) : Prop := P.underlying t = some (.slice e) ∧ TyS P e size ag
def ElmA (P : Program) (t : TypeId) (len : Nat) (e : TypeId) (size : Nat) (ag : Bool) : Prop := P.underlying t = some (.array len e) ∧ TyS P e size ag
theorem o_ixs {e : TypeId} {ag : Bool} {k : IntKind} {i : Int} {j len cap : Nat} (he : Elm P t e s ag) (hx : ev env x = some (.slice (some ⟨b, o, none⟩) len cap)) (hy : ev env y = some (.int k i)) (h0 : 0 ≤ i ∧ i < len) (hj : i.toNat = j) :
    OT P w0 env H ⟨d, .indexAddr t x y, ty, pos, af, g⟩ (Is (.pointer (some ⟨b, o + j * s, none⟩)) H) :=
  OT.pure fun a w ha => by
    subst hj
    simp [execOp, ha.ev hx, ha.ev hy, Instr.indexAt, asIntOf, run_underlying he.1, he.2.sizeOf, h0, Addr.add_lit]
/-- An array behind a pointer. -/
theorem o_ixa {e : TypeId} {ag : Bool} {k : IntKind} {i : Int} {j len : Nat} (he : ElmA P t len e s ag) (hx : ev env x = some (.pointer (some ⟨b, o, none⟩))) (hy : ev env y = some (.int k i)) (h0 : 0 ≤ i ∧ i < len) (hj : i.toNat = j) :
    OT P w0 env H ⟨d, .indexAddr t x y, ty, pos, af, g⟩ (Is (.pointer (some ⟨b, o + j * s, none⟩)) H) :=
  OT.pure fun a w ha => by
    subst hj
    simp [execOp, ha.ev hx, ha.ev hy, Instr.indexAt, asIntOf, run_underlying he.1, he.2.sizeOf, h0, Addr.add_lit, Instr.sureAddr]
/-- An array by value. -/
theorem o_ix1 {e : TypeId} {k : IntKind} {i : Int} {j len q : Nat} {v : Value} (he : ElmA P t len e 1 false) (hx : ev env x = some (AG q F)) (hy : ev env y = some (.int k i)) (h0 : 0 ≤ i ∧ i < len) (hj : i.toNat = j) (hq : len ≤ q) (hv : F j = v) :
    OT P w0 env H ⟨d, .index t x y, ty, pos, af, g⟩ (Is v H) :=
  OT.pure fun a w ha => by
    subst hj
    have := run_part he.2 (f := F) (k := q) (o := i.toNat) (by omega) (fun _ => rfl) w
    simp [execOp, ha.ev hx, ha.ev hy, Instr.index, asIntOf, run_underlying he.1, he.2.sizeOf, h0, AG, this, hv]
theorem o_ixA {e : TypeId} {k : IntKind} {i : Int} {j len q : Nat} {h : Nat → Value} (he : ElmA P t len e s true) (hx : ev env x = some (AG q F)) (hy : ev env y = some (.int k i)) (h0 : 0 ≤ i ∧ i < len) (hj : i.toNat = j) (hq : len * s ≤ q) (hv : ∀ l, l < s → F (j * s + l) = h l) :
    OT P w0 env H ⟨d, .index t x y, ty, pos, af, g⟩ (Is (AG s h) H) :=
  OT.pure fun a w ha => by
    subst hj
    have hle : i.toNat * s + s ≤ q := by
      have h1 : i.toNat + 1 ≤ len := by omega
      have h2 := Nat.mul_le_mul_right s h1
      rw [Nat.add_mul, Nat.one_mul] at h2
      omega
    have := run_part he.2 (f := F) (k := q) (o := i.toNat * s) hle (by simp) w
    rw [show AG s h = AG s (fun l => F (i.toNat * s + l)) from AG_ext fun l hl => (hv l hl).symm]
    simp only [execOp, ha.ev hx, ha.ev hy, Instr.index, asIntOf, Sem.run_bind, Sem.run_pure, Result.andThen_ok, run_underlying he.1, AG, if_pos h0, he.2.sizeOf, this]
    rfl
theorem o_ixAI {e : TypeId} {k : IntKind} {i : Int} {j len q : Nat} {h : Nat → Int} (he : ElmA P t len e s true) (hx : ev env x = some (AI q m)) (hy : ev env y = some (.int k i)) (h0 : 0 ≤ i ∧ i < len) (hj : i.toNat = j) (hq : len * s ≤ q) (hv : ∀ l, l < s → m (j * s + l) = h l) :
    OT P w0 env H ⟨d, .index t x y, ty, pos, af, g⟩ (Is (AI s h) H) := o_ixA he hx hy h0 hj hq (fun l hl => by simp only [iv, hv l hl])
theorem o_len {e : TypeId} {ts : Array TypeId} {c : Option Addr} {len cap : Nat} (ht : ts = #[t]) (he : P.underlying t = some (.slice e)) {args : Array Operand} (hargs : evL env args.toList = some [.slice c len cap]) :
    OT P w0 env H ⟨d, .call ⟨.builtin .len, args, ts⟩, ty, pos, af, g⟩ (Is (.int .i64 len) H) :=
  OT.pure fun a w ha => by
    subst ht
    have e1 : args.map a.eval = #[.slice c len cap] := Array.toList_inj.1 (by simpa using evL_spec ha _ _ hargs)
    simp [execOp, resolve, invoke, builtin, e1, Builtin.len_, run_underlying he, goInt]
end
end Go.E
