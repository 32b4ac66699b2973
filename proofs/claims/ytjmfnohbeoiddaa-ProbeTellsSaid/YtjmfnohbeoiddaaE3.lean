/- The engine, part 3: operations without memory; blocks as functions; loads and stores. -/
import Derived.Test.YtjmfnohbeoiddaaE2
namespace Go.E
open Go

/-! ### Rows of cells as functions -/
def CV (n : Nat) (f : Nat → Value) : Array Value := ((List.range n).map f).toArray
def AG (n : Nat) (f : Nat → Value) : Value := .agg (CV n f)
def iv (m : Nat → Int) : Nat → Value := fun i => .int .i64 (m i)
abbrev AI (n : Nat) (m : Nat → Int) : Value := AG n (iv m)
def BK (n : Nat) (f : Nat → Value) (T : TypeId) : Obj := .cells (CV n f) T (0, 0)
def upd (f : Nat → Value) (o : Nat) (v : Value) : Nat → Value := fun i => if i = o then v else f i
def updI (m : Nat → Int) (o : Nat) (x : Int) : Nat → Int := fun i => if i = o then x else m i
def updR (f : Nat → Value) (o s : Nat) (g : Nat → Value) : Nat → Value := fun i => if o ≤ i ∧ i < o + s then g (i - o) else f i
def updRI (m : Nat → Int) (o s : Nat) (g : Nat → Int) : Nat → Int := fun i => if o ≤ i ∧ i < o + s then g (i - o) else m i

theorem updI_iv (m : Nat → Int) (o : Nat) (x : Int) : upd (iv m) o (.int .i64 x) = iv (updI m o x) := by
  funext i; simp only [upd, iv, updI]; split <;> rfl
theorem updRI_iv (m : Nat → Int) (o s : Nat) (g : Nat → Int) : updR (iv m) o s (iv g) = iv (updRI m o s g) := by
  funext i; simp only [updR, iv, updRI]; split <;> rfl

@[simp] theorem CV_size (n : Nat) (f : Nat → Value) : (CV n f).size = n := by simp [CV]
theorem CV_get {n : Nat} {f : Nat → Value} {i : Nat} (h : i < n) : (CV n f)[i]? = some (f i) := by simp [CV, h]
theorem CV_get_none {n : Nat} {f : Nat → Value} {i : Nat} (h : n ≤ i) : (CV n f)[i]? = none := by simp [CV, h]
theorem CV_ext {n : Nat} {f g : Nat → Value} (h : ∀ i, i < n → f i = g i) : CV n f = CV n g := by
  unfold CV; congr 1; exact List.map_congr_left fun i hi => h i (List.mem_range.1 hi)
theorem CV_eq {c : Array Value} {n : Nat} {f : Nat → Value} (hs : c.size = n) (h : ∀ i, i < n → c[i]? = some (f i)) : c = CV n f := by
  apply Array.ext_getElem?
  intro i
  by_cases hi : i < n
  · rw [h i hi, CV_get hi]
  · rw [CV_get_none (by omega), Array.getElem?_eq_none (by omega)]
theorem CV_of (c : Array Value) : c = CV c.size (fun i => c.getD i undef) := CV_eq rfl fun i hi => by simp [hi]
theorem AG_ext {n : Nat} {f g : Nat → Value} (h : ∀ i, i < n → f i = g i) : AG n f = AG n g := by unfold AG; rw [CV_ext h]
theorem AI_ext {n : Nat} {f g : Nat → Int} (h : ∀ i, i < n → f i = g i) : AI n f = AI n g := AG_ext fun i hi => by simp [iv, h i hi]
theorem BK_ext {n : Nat} {f g : Nat → Value} {T : TypeId} (h : ∀ i, i < n → f i = g i) : BK n f T = BK n g T := by unfold BK; rw [CV_ext h]
theorem BKI_ext {n : Nat} {f g : Nat → Int} {T : TypeId} (h : ∀ i, i < n → f i = g i) : BK n (iv f) T = BK n (iv g) T := BK_ext fun i hi => by simp [iv, h i hi]
theorem CV_inj {n : Nat} {f g : Nat → Value} (h : CV n f = CV n g) : ∀ i, i < n → f i = g i := fun i hi => by
  have := congrArg (fun c : Array Value => c[i]?) h
  simpa [CV_get hi] using this
theorem AI_inj {n : Nat} {f g : Nat → Int} (h : AI n f = AI n g) : ∀ i, i < n → f i = g i := fun i hi => by
  have := CV_inj (by injection h) i hi
  simpa [iv] using this
theorem CV_extract {n o s : Nat} {f : Nat → Value} (h : o + s ≤ n) : (CV n f).extract o (o + s) = CV s (fun i => f (o + i)) := by
  refine CV_eq (by simp; omega) fun i hi => ?_
  rw [Array.getElem?_extract]
  simp only [CV_size]
  rw [if_pos (by omega), CV_get (by omega)]
theorem AG_cells (n : Nat) (f : Nat → Value) : (AG n f).cells = CV n f := rfl

/-! ### Facts of types: closed, from the program's tables -/
def isAggD : TypeDesc → Bool
  | .struct _ | .array _ _ => true
  | _ => false
def TyS (P : Program) (t : TypeId) (n : Nat) (ag : Bool) : Prop := (P.underlying t).map isAggD = some ag ∧ (P.info? t).map (·.size) = some n
def ZeroT (P : Program) (t : TypeId) (z : Value) : Prop := (P.info? t).map (·.zero) = some (some z)

section
variable {P : Program} {n : Nat} {w0 : World} {env : Env} {H : GH} {Q : Exit → Act → World → Prop} {ops : Array Oper} {rest : List Oper}
variable {d : Option Nat} {op : Op} {ty : TypeId} {pos : String} {af : Array Edge} {g : Option (Nat × Bool)}

theorem TyS.sizeOf {t : TypeId} {k : Nat} {ag : Bool} (h : TyS P t k ag) (w : World) : (Go.sizeOf t).run P w = .ok k w := by
  obtain ⟨i, h1, h2⟩ := Option.map_eq_some_iff.1 h.2
  simp [Go.sizeOf, typeInfo, h1, h2]
theorem TyS.isAgg {t : TypeId} {k : Nat} {ag : Bool} (h : TyS P t k ag) (w : World) : (Go.isAgg t).run P w = .ok ag w := by
  obtain ⟨x, h1, h2⟩ := Option.map_eq_some_iff.1 h.1
  simp only [Go.isAgg, Sem.run_bind, run_underlying h1, Result.andThen_ok]
  cases x <;> simp_all [isAggD]
theorem ZeroT.run {t : TypeId} {z : Value} (h : ZeroT P t z) (w : World) : (zeroValue t).run P w = .ok z w := by
  obtain ⟨i, h1, h2⟩ := Option.map_eq_some_iff.1 h
  simp [zeroValue, typeInfo, h1, h2]

/-! ### Moves and arithmetic -/
theorem o_mv {x : Operand} {v : Value} (hx : ev env x = some v) : OT P w0 env H ⟨d, .move x, ty, pos, af, g⟩ (Is v H) :=
  OT.pure fun a w ha => by simp [execOp, ha.ev hx]
theorem o_as {x : Operand} {v : Value} (hx : ev env x = some v) : OT P w0 env H ⟨d, .assign x, ty, pos, af, g⟩ (Is v H) :=
  OT.pure fun a w ha => by simp [execOp, ha.ev hx]
theorem o_pick {c x y : Operand} {b : Bool} {v u : Value} (hc : ev env c = some (.bool b)) (hx : ev env x = some v) (hy : ev env y = some u) :
    OT P w0 env H ⟨d, .pick c x y, ty, pos, af, g⟩ (Is (if b then v else u) H) :=
  OT.pure fun a w ha => by simp [execOp, ha.ev hx, ha.ev hy, ha.ev hc, asBool]
theorem o_pick_t {c x y : Operand} {v : Value} (hc : ev env c = some (.bool true)) (hx : ev env x = some v) :
    OT P w0 env H ⟨d, .pick c x y, ty, pos, af, g⟩ (Is v H) :=
  OT.pure fun a w ha => by simp [execOp, ha.ev hx, ha.ev hc, asBool]
theorem o_pick_f {c x y : Operand} {v : Value} (hc : ev env c = some (.bool false)) (hy : ev env y = some v) :
    OT P w0 env H ⟨d, .pick c x y, ty, pos, af, g⟩ (Is v H) :=
  OT.pure fun a w ha => by simp [execOp, ha.ev hy, ha.ev hc, asBool]

theorem run_binint {bop : BinOp} {t yt : TypeId} {x y : Operand} {k : IntKind} {i j : Int} {v : Value} {a : Act} {w : World}
    (hx : a.eval x = .int k i) (hy : a.eval y = .int k j) (h : (binOp bop t (.int k i) (.int k j)).run P w = .ok v w) :
    (execOp a.eval ⟨d, .binOp bop t x y yt, ty, pos, af, g⟩).run P w = .ok (.value v) w := by
  have hg : (eqGuard bop t x y (.int k i) (.int k j)).run P w = .ok () w := by
    unfold eqGuard
    cases bop <;> simp
  simp only [execOp, hx, hy, Sem.run_bind, hg, h, Result.andThen_ok, Sem.run_pure]

abbrev inI64 (x : Int) : Prop := -9223372036854775808 ≤ x ∧ x ≤ 9223372036854775807
theorem wrap_id {x : Int} (h : inI64 x) : IntKind.i64.wrap x = x := IntWalk.i64_in x h

section
variable {t yt : TypeId} {x y : Operand} {k : IntKind} {i j : Int}
theorem o_add {z : Int} (hx : ev env x = some (.int .i64 i)) (hy : ev env y = some (.int .i64 j)) (hz : i + j = z) (hb : inI64 z) :
    OT P w0 env H ⟨d, .binOp .add t x y yt, ty, pos, af, g⟩ (Is (.int .i64 z) H) :=
  OT.pure fun a w ha => run_binint (ha.ev hx) (ha.ev hy) (by subst hz; simp [binOp, Op.intArith, wrap_id hb])
theorem o_sub {z : Int} (hx : ev env x = some (.int .i64 i)) (hy : ev env y = some (.int .i64 j)) (hz : i - j = z) (hb : inI64 z) :
    OT P w0 env H ⟨d, .binOp .sub t x y yt, ty, pos, af, g⟩ (Is (.int .i64 z) H) :=
  OT.pure fun a w ha => run_binint (ha.ev hx) (ha.ev hy) (by subst hz; simp [binOp, Op.intArith, wrap_id hb])
theorem o_mul {z : Int} (hx : ev env x = some (.int .i64 i)) (hy : ev env y = some (.int .i64 j)) (hz : i * j = z) (hb : inI64 z) :
    OT P w0 env H ⟨d, .binOp .mul t x y yt, ty, pos, af, g⟩ (Is (.int .i64 z) H) :=
  OT.pure fun a w ha => run_binint (ha.ev hx) (ha.ev hy) (by subst hz; simp [binOp, Op.intArith, wrap_id hb])
theorem o_addk (hx : ev env x = some (.int k i)) (hy : ev env y = some (.int k j)) :
    OT P w0 env H ⟨d, .binOp .add t x y yt, ty, pos, af, g⟩ (Is (.int k (k.wrap (i + j))) H) :=
  OT.pure fun a w ha => run_binint (ha.ev hx) (ha.ev hy) (by simp [binOp, Op.intArith])
theorem o_subk (hx : ev env x = some (.int k i)) (hy : ev env y = some (.int k j)) :
    OT P w0 env H ⟨d, .binOp .sub t x y yt, ty, pos, af, g⟩ (Is (.int k (k.wrap (i - j))) H) :=
  OT.pure fun a w ha => run_binint (ha.ev hx) (ha.ev hy) (by simp [binOp, Op.intArith])
theorem o_quo {z : Int} (hx : ev env x = some (.int .i64 i)) (hy : ev env y = some (.int .i64 j)) (hj : j ≠ 0) (hz : i.tdiv j = z) (hb : inI64 z) :
    OT P w0 env H ⟨d, .binOp .quo t x y yt, ty, pos, af, g⟩ (Is (.int .i64 z) H) :=
  OT.pure fun a w ha => run_binint (ha.ev hx) (ha.ev hy) (by subst hz; simp [binOp, Op.intDiv, hj, wrap_id hb])
theorem o_rem {z : Int} (hx : ev env x = some (.int k i)) (hy : ev env y = some (.int k j)) (hj : j ≠ 0) (hz : i.tmod j = z) :
    OT P w0 env H ⟨d, .binOp .rem t x y yt, ty, pos, af, g⟩ (Is (.int k z) H) :=
  OT.pure fun a w ha => run_binint (ha.ev hx) (ha.ev hy) (by subst hz; simp [binOp, Op.intDiv, hj])
theorem o_eql (hx : ev env x = some (.int k i)) (hy : ev env y = some (.int k j)) :
    OT P w0 env H ⟨d, .binOp .eql t x y yt, ty, pos, af, g⟩ (Is (.bool (decide (i = j))) H) :=
  OT.pure fun a w ha => run_binint (ha.ev hx) (ha.ev hy) (by simp [binOp, Op.intCmp]; rfl)
theorem o_neq (hx : ev env x = some (.int k i)) (hy : ev env y = some (.int k j)) :
    OT P w0 env H ⟨d, .binOp .neq t x y yt, ty, pos, af, g⟩ (Is (.bool (!decide (i = j))) H) :=
  OT.pure fun a w ha => run_binint (ha.ev hx) (ha.ev hy) (by simp [binOp, Op.intCmp]; rfl)
theorem o_lss (hx : ev env x = some (.int k i)) (hy : ev env y = some (.int k j)) :
    OT P w0 env H ⟨d, .binOp .lss t x y yt, ty, pos, af, g⟩ (Is (.bool (decide (i < j))) H) :=
  OT.pure fun a w ha => run_binint (ha.ev hx) (ha.ev hy) (by simp [binOp, Op.intCmp])
theorem o_leq (hx : ev env x = some (.int k i)) (hy : ev env y = some (.int k j)) :
    OT P w0 env H ⟨d, .binOp .leq t x y yt, ty, pos, af, g⟩ (Is (.bool (decide (i ≤ j))) H) :=
  OT.pure fun a w ha => run_binint (ha.ev hx) (ha.ev hy) (by simp [binOp, Op.intCmp])
theorem o_gtr (hx : ev env x = some (.int k i)) (hy : ev env y = some (.int k j)) :
    OT P w0 env H ⟨d, .binOp .gtr t x y yt, ty, pos, af, g⟩ (Is (.bool (decide (j < i))) H) :=
  OT.pure fun a w ha => run_binint (ha.ev hx) (ha.ev hy) (by simp [binOp, Op.intCmp])
theorem o_geq (hx : ev env x = some (.int k i)) (hy : ev env y = some (.int k j)) :
    OT P w0 env H ⟨d, .binOp .geq t x y yt, ty, pos, af, g⟩ (Is (.bool (decide (j ≤ i))) H) :=
  OT.pure fun a w ha => run_binint (ha.ev hx) (ha.ev hy) (by simp [binOp, Op.intCmp])
theorem o_not {b : Bool} (hx : ev env x = some (.bool b)) : OT P w0 env H ⟨d, .unOp .not t x, ty, pos, af, g⟩ (Is (.bool !b) H) :=
  OT.pure fun a w ha => by simp [execOp, ha.ev hx, Op.unary]
theorem o_neg {z : Int} (hx : ev env x = some (.int .i64 i)) (hz : -i = z) (hb : inI64 z) : OT P w0 env H ⟨d, .unOp .neg t x, ty, pos, af, g⟩ (Is (.int .i64 z) H) :=
  OT.pure fun a w ha => by subst hz; simp [execOp, ha.ev hx, Op.unary, Op.intArith, wrap_id hb]
theorem o_conv {s : TypeId} {k' : IntKind} {ds : TypeDesc} (hx : ev env x = some (.int k i)) (h1 : P.underlying s = some ds) (h2 : P.underlying t = some (.int k')) :
    OT P w0 env H ⟨d, .convert s t x, ty, pos, af, g⟩ (Is (.int k' (k'.wrap i)) H) :=
  OT.pure fun a w ha => by simp [execOp, ha.ev hx, convert, run_underlying h1, run_underlying h2, Conv.intToInt]
/-- A number that fits is as it was. -/
theorem o_conv64 {s : TypeId} {ds : TypeDesc} (hx : ev env x = some (.int k i)) (h1 : P.underlying s = some ds) (h2 : P.underlying t = some (.int .i64)) (hb : inI64 i) :
    OT P w0 env H ⟨d, .convert s t x, ty, pos, af, g⟩ (Is (.int .i64 i) H) :=
  OT.pure fun a w ha => by simp [execOp, ha.ev hx, convert, run_underlying h1, run_underlying h2, Conv.intToInt, wrap_id hb]
theorem o_ext {l : List Value} {v : Value} {m : Nat} (hx : ev env x = some (.tuple l.toArray)) (hv : l[m]? = some v) : OT P w0 env H ⟨d, .extract x m, ty, pos, af, g⟩ (Is v H) :=
  OT.pure fun a w ha => by simp [execOp, ha.ev hx, Instr.extract, hv]
theorem o_nilp {b : Addr} (hx : ev env x = some (.pointer (some b))) : OT P w0 env H ⟨d, .nilCheck x, ty, pos, af, g⟩ (Is (.pointer (some b)) H) :=
  OT.pure fun a w ha => by simp [execOp, ha.ev hx]
theorem o_mkf {fn : Fn} {fi ca : Array Operand} {v1 v2 : List Value} (h1 : evL env fi.toList = some v1) (h2 : evL env ca.toList = some v2) :
    OT P w0 env H ⟨d, .makeFunc fn fi ca, ty, pos, af, g⟩ (Is (.func fn v1.toArray v2.toArray) H) :=
  OT.pure fun a w ha => by
    have e1 : fi.map a.eval = v1.toArray := Array.toList_inj.1 (by simpa using evL_spec ha _ _ h1)
    have e2 : ca.map a.eval = v2.toArray := Array.toList_inj.1 (by simpa using evL_spec ha _ _ h2)
    simp [execOp, Instr.makeFunc, e1, e2]
theorem o_mki {v : Value} {ds : TypeDesc} (hx : ev env x = some v) (h1 : P.underlying t = some ds) (h2 : (match ds with | .interface _ => false | _ => true) = true) :
    OT P w0 env H ⟨d, .makeInterface t x, ty, pos, af, g⟩ (Is (.iface t v) H) :=
  OT.pure fun a w ha => by
    simp only [execOp, Instr.makeInterface, ha.ev hx, Sem.run_bind, run_underlying h1, Result.andThen_ok]
    cases ds <;> simp_all

/-! '==' and '!=' on bools, strings, pointers, errors against nil -/
theorem run_bineq {neg : Bool} {u v : Value} {r : Bool} {a : Act} {w : World} (hx : a.eval x = u) (hy : a.eval y = v) (hg : (eqGuard (if neg then .neq else .eql) t x y u v).run P w = .ok () w)
    (h : ∀ (bop : BinOp), (bop = .eql ∨ bop = .neq) → (binOp bop t u v).run P w = .ok (.bool (if bop = .eql then r else !r)) w) :
    (execOp a.eval ⟨d, .binOp (if neg then .neq else .eql) t x y yt, ty, pos, af, g⟩).run P w = .ok (.value (.bool (if neg then !r else r))) w := by
  simp only [execOp, hx, hy, Sem.run_bind, hg, Result.andThen_ok]
  cases neg
  · simp [h .eql (.inl rfl)]
  · simp [h .neq (.inr rfl)]
theorem equalIn_bool (ht : P.underlying t = some .bool) (b c : Bool) (w : World) : (Op.equal t (.bool b) (.bool c)).run P w = .ok (b == c) w := by
  show (Op.equalIn (9999 + 1) t (.bool b) (.bool c)).run P w = _
  rw [Op.equalIn]
  simp [run_underlying ht]
theorem o_eqlB {b c : Bool} (ht : P.underlying t = some .bool) (hx : ev env x = some (.bool b)) (hy : ev env y = some (.bool c)) :
    OT P w0 env H ⟨d, .binOp .eql t x y yt, ty, pos, af, g⟩ (Is (.bool (b == c)) H) :=
  OT.pure fun a w ha => by simp [execOp, ha.ev hx, ha.ev hy, eqGuard, binOp, equalIn_bool ht]
theorem o_neqB {b c : Bool} (ht : P.underlying t = some .bool) (hx : ev env x = some (.bool b)) (hy : ev env y = some (.bool c)) :
    OT P w0 env H ⟨d, .binOp .neq t x y yt, ty, pos, af, g⟩ (Is (.bool (!(b == c))) H) :=
  OT.pure fun a w ha => by simp [execOp, ha.ev hx, ha.ev hy, eqGuard, binOp, equalIn_bool ht]
end
end
end Go.E
