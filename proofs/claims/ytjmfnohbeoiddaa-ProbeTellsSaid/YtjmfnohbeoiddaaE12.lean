/- The engine, part 12: calls entered in place; loops taken apart round by round; results that lie in memory; blocks that are given; permuted lists of blocks. -/
import Derived.Test.YtjmfnohbeoiddaaE11
import Derived.LoopN
namespace Go.E
open Go

section
variable {P : Program} {n : Nat} {w0 : World} {env : Env} {H : GH} {Q : Exit → Act → World → Prop} {ops : Array Oper} {rest : List Oper}
variable {ty : TypeId} {pos : String} {af : Array Edge} {g : Option (Nat × Bool)}

/-! ### A loop, one round at a time -/
def XR (P : Program) (n : Nat) (w0 : World) (env : Env) (H : GH) (c : Code) (Q : Exit → Act → World → Prop) (N : Nat) : Prop :=
  ∀ a w, Ag n env a → St w0 H w → Code.rounds P c Q N a w
theorem xw_rounds (N : Nat) {c : Code} (h : XR P n w0 env H c Q N) : XW P n w0 env H (.loop c) Q := fun a w ha hs => wp_loop_rounds N (h a w ha hs)
theorem xr_succ {N : Nat} {c : Code} (h : XW P n w0 env H c (Exit.then (Code.rounds P c Q N) Q)) : XR P n w0 env H c Q (N + 1) := h
theorem xq_rounds {N : Nat} {c : Code} (h : XR P n w0 env H c Q N) : XQ n w0 env H .normal (Exit.then (Code.rounds P c Q N) Q) := h

/-! ### A call entered in place -/
theorem calls_in {f : FuncId} {fn : Func} {c : Code} {vs : List Value} {l : Env} {m : Nat} {w : World} {R : Value → GH → Prop} (hf : P.funcs[f]? = some fn) (hb : fn.body = some c) (hm : fn.ntmps = m) (hsz : Nat.ble vs.length m = true) (hl : LiveA vs l)
    (h : XW P m w0 l H c (bodyPost P fn (GoodEnd w0 R))) (hs : St w0 H w) : Calls P f vs.toArray w (GoodEnd w0 R) := by
  refine calls_of_wp hf hb (h _ w ⟨?_, rfl, ?_⟩ hs)
  · have := Nat.le_of_ble_eq_true hsz
    simp only [Array.size_append, Array.size_replicate, hm, List.size_toArray]
    omega
  · intro t v ht
    have h1 : vs.toArray[t]? = some v := by rw [List.getElem?_toArray]; exact hl.get t v ht
    have hlt := (Array.getElem?_eq_some_iff.1 h1).1
    simp only [Array.getD_eq_getD_getElem?]
    rw [Array.getElem?_append_left hlt, h1]
    rfl
theorem ot_enter {o : Oper} {f : FuncId} {fn : Func} {c : Code} {vs : List Value} {l : Env} {m : Nat} {R : Value → GH → Prop}
    (hrun : ∀ a w, AgV env a → (execOp a.eval o).run P w = .ok (.enter f vs.toArray) w)
    (hf : P.funcs[f]? = some fn) (hb : fn.body = some c) (hm : fn.ntmps = m) (hsz : Nat.ble vs.length m = true) (hl : LiveA vs l)
    (h : XW P m w0 l H c (bodyPost P fn (GoodEnd w0 R))) : OT P w0 env H o R := by
  intro a w ha hs
  unfold Oper.wp
  rw [hrun a w ha, Oper.upon_enter]
  refine Calls.mono (calls_in hf hb hm hsz hl h hs) ?_
  rintro e w' ⟨v, F, rfl, hst, hR⟩
  exact ⟨v, F, rfl, hst, hR⟩
/-- A function by its name. -/
theorem ot_in {d : Option Nat} {f : FuncId} {fn : Func} {c : Code} {vs : List Value} {l : Env} {m : Nat} {R : Value → GH → Prop} {args : Array Operand} {ts : Array TypeId} (hk : IsFn P f) (hargs : evL env args.toList = some vs)
    (hf : P.funcs[f]? = some fn) (hb : fn.body = some c) (hm : fn.ntmps = m) (hsz : Nat.ble vs.length m = true) (hl : LiveA vs l)
    (h : XW P m w0 l H c (bodyPost P fn (GoodEnd w0 R))) : OT P w0 env H ⟨d, .call ⟨.value (.func f), args, ts⟩, ty, pos, af, g⟩ R := by
  refine ot_enter (fun a w ha => ?_) hf hb hm hsz hl h
  cases d with
  | some d => exact run_call hk hargs a w ha
  | none =>
    have hm : args.map a.eval = vs.toArray := Array.toList_inj.1 (by simpa using evL_spec ha _ _ hargs)
    simp only [execOp, resolve, Sem.run_bind, Act.eval, Deferred.ofValue, Sem.run_pure, Result.andThen_ok, invoke, hm]
    simpa using run_callFunc hk vs.toArray w
/-- A closure. -/
theorem ot_inv {d : Option Nat} {f : FuncId} {fn : Func} {c : Code} {x : Operand} {first vs cap : List Value} {l : Env} {m : Nat} {R : Value → GH → Prop} {args : Array Operand} {ts : Array TypeId} (hx : ev env x = some (.func (.func f) first.toArray cap.toArray)) (hk : IsFn P f) (hargs : evL env args.toList = some vs)
    (hf : P.funcs[f]? = some fn) (hb : fn.body = some c) (hm : fn.ntmps = m) (hsz : Nat.ble (first ++ vs ++ cap).length m = true) (hl : LiveA (first ++ vs ++ cap) l)
    (h : XW P m w0 l H c (bodyPost P fn (GoodEnd w0 R))) : OT P w0 env H ⟨d, .call ⟨.value x, args, ts⟩, ty, pos, af, g⟩ R := by
  refine ot_enter (fun a w ha => ?_) hf hb hm hsz hl h
  have hm : args.map a.eval = vs.toArray := Array.toList_inj.1 (by simpa using evL_spec ha _ _ hargs)
  simp only [execOp, resolve, Sem.run_bind, ha.ev hx, Deferred.ofValue, Sem.run_pure, Result.andThen_ok, invoke, hm]
  have := run_callFunc hk (first ++ vs ++ cap).toArray w
  simpa using this
/-- One operation, whatever it may answer: what comes behind it stands in R. -/
theorem xoR {d : Nat} {op : Op} (hd : Nat.blt d n = true) (hw : Wt ops env g) (h : OT P w0 env H ⟨some d, op, ty, pos, af, g⟩ (fun v H' => XO P n w0 ((d, v) :: env) H' ops rest Q)) : XO P n w0 env H ops (⟨some d, op, ty, pos, af, g⟩ :: rest) Q :=
  xo hd hw h fun _ _ hr => hr
theorem xoR0 {op : Op} (hw : Wt ops env g) (h : OT P w0 env H ⟨none, op, ty, pos, af, g⟩ (fun _ H' => XO P n w0 env H' ops rest Q)) : XO P n w0 env H ops (⟨none, op, ty, pos, af, g⟩ :: rest) Q :=
  xo0 hw h fun _ _ hr => hr

/-! ### Results -/
inductive ResV (P : Program) (env : Env) (H : GH) : List ResultVar → List Value → Prop
  | nil : ResV P env H [] []
  | tmp {t : Nat} {v : Value} {l : List ResultVar} {vs : List Value} (h : lk t env = some v) (k : ResV P env H l vs) : ResV P env H (.tmp t :: l) (v :: vs)
  | cell {t b s : Nat} {ty T : TypeId} {F : Nat → Value} {l : List ResultVar} {vs : List Value} (h : lk t env = some (.pointer (some ⟨b, 0, none⟩))) (ht : TyS P ty s true) (hm : (b, BK s F T) ∈ H) (k : ResV P env H l vs) : ResV P env H (.cell t ty :: l) (AG s F :: vs)
  | cell1 {t b q : Nat} {ty T : TypeId} {v : Value} {l : List ResultVar} {vs : List Value} (h : lk t env = some (.pointer (some ⟨b, 0, none⟩))) (ht : TyS P ty q false) (hm : (b, BK 1 (fun _ => v) T) ∈ H) (k : ResV P env H l vs) : ResV P env H (.cell t ty :: l) (v :: vs)
theorem ResV.run {l : List ResultVar} {vs : List Value} (h : ResV P env H l vs) {a : Act} (ha : AgV env a) {w : World} (hs : St w0 H w) :
    (l.mapM (m := Sem) fun | .tmp t => pure (a.tmps.getD t undef) | .cell b t => do loadVar t (← asAddr (a.tmps.getD b undef))).run P w = .ok vs w := by
  induction h with
  | nil => simp
  | @tmp t v l vs h k ih =>
    simp [ha t v h, ih, -Array.getD_eq_getD_getElem?]
  | @cell t b s ty T F l vs h ht hm k ih =>
    have hlo := run_loadCells (P := P) w ⟨b, 0, none⟩ s F (fun j hj => by rw [Addr.add_lit, Nat.zero_add]; exact cell_BK (hs.own _ _ hm) hj)
    have hv : (loadVar ty ⟨b, 0, none⟩).run P w = .ok (AG s F) w := by
      simp [loadVar, ht.isAgg, ht.sizeOf, hlo, AG, CV]
    have hA : (asAddr (a.tmps.getD t undef)).run P w = .ok ⟨b, 0, none⟩ w := by rw [ha t _ h]; rfl
    simp [hA, hv, ih, -Array.getD_eq_getD_getElem?]
  | @cell1 t b q ty T v l vs h ht hm k ih =>
    have hc := cell_BK (hs.own _ _ hm) (show 0 < 1 by omega)
    have hv : (loadVar ty ⟨b, 0, none⟩).run P w = .ok v w := by
      simp [loadVar, ht.isAgg, hc]
    have hA : (asAddr (a.tmps.getD t undef)).run P w = .ok ⟨b, 0, none⟩ w := by rw [ha t _ h]; rfl
    simp [hA, hv, ih, -Array.getD_eq_getD_getElem?]
def tupV : List Value → Value
  | [v] => v
  | l => .tuple l.toArray
theorem con_retN {fn : Func} {w : World} {G : Value → GH → Prop} {e : Exit} (he : e = .ret ∨ e = .normal) {l : List ResultVar} {vs : List Value} {v : Value} (hr : fn.results = l.toArray) (h : ResV P env H l vs) (hv : tupV vs = v)
    (F : GH) (hF : ∀ w', St w H w' → St w F w') (hG : G v F) : XQ n w env H e (bodyPost P fn (GoodEnd w G)) := by
  intro a w' ha hs
  have hrun : (results fn a.tmps).run P w' = .ok v w' := by
    have h1 := h.run ha.get hs
    simp only [results, hr, List.mapM_toArray]
    subst hv
    simp [-Array.getD_eq_getD_getElem?]
    refine Eq.trans (congrArg (fun r => Result.andThen r fun a w' => Result.ok (if h : a.length = 1 then a[0] else Value.tuple a.toArray) w') h1) ?_
    match vs with
    | [] => rfl
    | [v] => rfl
    | v :: u :: r => rfl
  rcases he with rfl | rfl <;> exact ⟨ha.defers, _, hrun, _, F, rfl, hF w' hs, hG⟩
end
end Go.E
