/- Part 3 of the proof. -/
import Derived.Test.YtljklmlodfbdnaaGreatJ2
import Derived.Sort.OwnSortedInts
import Derived.Laws.IdiomCopy
import Derived.Shelf.Spec.SlicesInsert
import Derived.Shelf.Spec.SlicesInsertGrow
set_option maxHeartbeats 1000000
set_option maxRecDepth 100000
set_option linter.unusedVariables false
set_option linter.unusedSimpArgs false
set_option linter.unusedSectionVars false
set_option linter.unnecessarySimpa false
namespace Go.E
open Go
def gk (ops : Array Oper) (env : Env) : Option (Nat × Bool) → Bool
 | none=>true
 | some (j,w)=>match (ops[j]?).bind (·.dst) with
  | none=>false
  | some s=>match lk s env with
   | some v=>isWant v w
   | none=>false
def nk (ops : Array Oper) (env : Env) : Option (Nat × Bool) → Bool
 | none=>false
 | some (j,w)=>match (ops[j]?).bind (·.dst) with
  | none=>false
  | some s=>match lk s env with
   | some v=>!isWant v w
   | none=>false
theorem isWant_eq {v : Value} {w : Bool} (h : isWant v w=true) : v=.bool w := by
 cases v <;> simp_all [isWant]
theorem gk.wt {ops : Array Oper} {env : Env} {g : Option (Nat × Bool)} (h : gk ops env g=true) : Wt ops env g := by
 rcases g with _ | ⟨j,w⟩
 ·trivial
 ·unfold gk at h
  unfold Wt
  dsimp only at h ⊢
  cases hs : (ops[j]?).bind (·.dst) with
  | none=>rw [hs] at h; simp at h
  | some s =>
   rw [hs] at h
   cases hv : lk s env with
   | none=>simp [hv] at h
   | some v=>exact ⟨s,rfl,by rw [hv]; simp only [hv] at h; rw [isWant_eq h]⟩
theorem nk.wt {ops : Array Oper} {env : Env} {g : Option (Nat × Bool)} (h : nk ops env g=true) : WtNot ops env g := by
 rcases g with _ | ⟨j,w⟩
 ·simp [nk] at h
 ·unfold nk at h
  unfold WtNot
  dsimp only at h ⊢
  cases hs : (ops[j]?).bind (·.dst) with
  | none=>rw [hs] at h; simp at h
  | some s =>
   rw [hs] at h
   cases hv : lk s env with
   | none=>simp [hv] at h
   | some v=>exact ⟨s,v,rfl,hv,by simpa [hv] using h⟩
def sel (env : Env) : List Nat → Option Env
 | []=>some []
 | t::ks=>match lk t env,sel env ks with
  | some v,some l=>some ((t,v)::l)
  | _,_=>none
theorem sel.live {env : Env} : ∀ {ks : List Nat} {l : Env},sel env ks=some l → Live env l := by
 intro ks
 induction ks with
 | nil=>intro l h; cases h; exact ln
 | cons t ks ih =>
  intro l h
  unfold sel at h
  cases hv : lk t env with
  | none=>simp [hv] at h
  | some v =>
   cases hk : sel env ks with
   | none=>simp [hv,hk] at h
   | some k =>
    simp [hv,hk] at h
    subst h
    exact lc hv (ih hk)
theorem sel.keys {env : Env} : ∀ {ks : List Nat} {l : Env},sel env ks=some l → l.map (·.1)=ks := by
 intro ks
 induction ks with
 | nil=>intro l h; cases h; rfl
 | cons t ks ih =>
  intro l h
  unfold sel at h
  cases hv : lk t env with
  | none=>simp [hv] at h
  | some v =>
   cases hk : sel env ks with
   | none=>simp [hv,hk] at h
   | some k =>
    simp [hv,hk] at h
    subst h
    simp [ih hk]
theorem sl {env l : Env} (h : sel env (l.map (·.1))=some l) : Live env l := sel.live h
def okv (b : Bool) (o : Option Value) : Option Value := bif b then o else none
theorem okv.ok {b : Bool} {o : Option Value} {v : Value} (h : okv b o=some v) : b=true∧o=some v := by
 cases b
 ·cases h
 ·exact ⟨rfl,h⟩
def isB (o : Option Value) (w : Bool) : Bool := match o with
 | some v=>isWant v w
 | none=>false
theorem isB.eq {o : Option Value} {w : Bool} (h : isB o w=true) : o=some (.bool w) := by
 unfold isB at h
 split at h
 ·rw [isWant_eq h]
 ·cases h
def nth : List Value → Nat → Option Value
 | [],_=>none
 | v::_,0=>some v
 | _::l,n + 1=>nth l n
theorem nth_eq : ∀ (l : List Value) (n : Nat),nth l n=l[n]?
 | [],n=>by simp [nth]
 | v::l,0=>by simp [nth]
 | v::l,n + 1=>by simp [nth,nth_eq l n]
def ex1 : Option Value → Nat → Option Value
 | some (.tuple a),m=>nth a.toList m
 | _,_=>none
def np : Option Value → Option Value
 | some (.pointer (some b))=>some (.pointer (some b))
 | _=>none
theorem and2 {a b : Bool} (h : (a && b)=true) : a=true∧b=true := by simpa using h
section
variable {P : Program} {n : Nat} {w0 : World} {env : Env} {H : GH} {Q : Exit → Act → World → Prop} {ops : Array Oper} {rest : List Oper}
variable {d : Nat} {op : Op} {ty : TypeId} {pos : String} {af : Array Edge} {g : Option (Nat × Bool)} {x y z : Operand} {v : Value}
theorem xQ (hc : (Nat.blt d n && gk ops env g)=true) {H' : GH} (h : OT P w0 env H ⟨some d,op,ty,pos,af,g⟩ (Is v H')) (k : XO P n w0 ((d,v)::env) H' ops rest Q) : XO P n w0 env H ops (⟨some d,op,ty,pos,af,g⟩::rest) Q :=
 xq (and2 hc).1 (gk.wt (and2 hc).2) h k
theorem xZ (hc : gk ops env g=true) {H' : GH} (h : OT P w0 env H ⟨none,op,ty,pos,af,g⟩ (Is v H')) (k : XO P n w0 env H' ops rest Q) : XO P n w0 env H ops (⟨none,op,ty,pos,af,g⟩::rest) Q :=
 xq0 (gk.wt hc) h k
theorem xr (hc : (Nat.blt d n && gk ops env g)=true) {R : Value → GH → Prop} (h : OT P w0 env H ⟨some d,op,ty,pos,af,g⟩ R) (k : ∀ v H',R v H' → XO P n w0 ((d,v)::env) H' ops rest Q) : XO P n w0 env H ops (⟨some d,op,ty,pos,af,g⟩::rest) Q :=
 xo (and2 hc).1 (gk.wt (and2 hc).2) h k
theorem xY (hc : gk ops env g=true) {R : Value → GH → Prop} (h : OT P w0 env H ⟨none,op,ty,pos,af,g⟩ R) (k : ∀ v H',R v H' → XO P n w0 env H' ops rest Q) : XO P n w0 env H ops (⟨none,op,ty,pos,af,g⟩::rest) Q :=
 xo0 (gk.wt hc) h k
theorem vm (hx : okv (Nat.blt d n && gk ops env g) (ev env x)=some v) (k : XO P n w0 ((d,v)::env) H ops rest Q) : XO P n w0 env H ops (⟨some d,.move x,ty,pos,af,g⟩::rest) Q :=
 xQ (okv.ok hx).1 (o_mv (okv.ok hx).2) k
theorem va (hx : okv (Nat.blt d n && gk ops env g) (ev env x)=some v) (k : XO P n w0 ((d,v)::env) H ops rest Q) : XO P n w0 env H ops (⟨some d,.assign x,ty,pos,af,g⟩::rest) Q :=
 xQ (okv.ok hx).1 (o_as (okv.ok hx).2) k
theorem vs (hc : (Nat.blt d n && nk ops env g)=true) (k : XO P n w0 ((d,undef)::env) H ops rest Q) : XO P n w0 env H ops (⟨some d,op,ty,pos,af,g⟩::rest) Q :=
 xs (and2 hc).1 (nk.wt (and2 hc).2) k
theorem ve {m : Nat} (hx : okv (Nat.blt d n && gk ops env g) (ex1 (ev env x) m)=some v) (k : XO P n w0 ((d,v)::env) H ops rest Q) : XO P n w0 env H ops (⟨some d,.extract x m,ty,pos,af,g⟩::rest) Q := by
 obtain ⟨h1,h2⟩ := okv.ok hx
 cases he : ev env x with
 | none=>rw [he] at h2; cases h2
 | some u =>
  rw [he] at h2
  cases u <;> simp only [ex1,reduceCtorEq] at h2
  rename_i a
  exact xQ h1 (o_ext (l := a.toList) (by rw [he]) (by rw [← nth_eq]; exact h2)) k
theorem vp (hx : okv (Nat.blt d n && gk ops env g) (np (ev env x))=some v) (k : XO P n w0 ((d,v)::env) H ops rest Q) : XO P n w0 env H ops (⟨some d,.nilCheck x,ty,pos,af,g⟩::rest) Q := by
 obtain ⟨h1,h2⟩ := okv.ok hx
 unfold np at h2
 split at h2
 ·rename_i he
  cases h2
  exact xQ h1 (o_nilp he) k
 ·cases h2
theorem vt (hx : okv (Nat.blt d n && gk ops env g && isB (ev env z) true) (ev env x)=some v) (k : XO P n w0 ((d,v)::env) H ops rest Q) : XO P n w0 env H ops (⟨some d,.pick z x y,ty,pos,af,g⟩::rest) Q :=
 xQ (and2 (okv.ok hx).1).1 (o_pick_t (isB.eq (and2 (okv.ok hx).1).2) (okv.ok hx).2) k
theorem vf (hx : okv (Nat.blt d n && gk ops env g && isB (ev env z) false) (ev env y)=some v) (k : XO P n w0 ((d,v)::env) H ops rest Q) : XO P n w0 env H ops (⟨some d,.pick z x y,ty,pos,af,g⟩::rest) Q :=
 xQ (and2 (okv.ok hx).1).1 (o_pick_f (isB.eq (and2 (okv.ok hx).1).2) (okv.ok hx).2) k
theorem nS {y : Code} (h : XW P n w0 env H y Q) : XO P n w0 env H ops [] (Exit.then (y.wp P Q) Q) := xo_nil (xq_then h)
theorem nR {y : Code} {id : Nat} {l : List Oper} (h : XO P n w0 env H l.toArray l (Exit.then (y.wp P Q) Q)) : XO P n w0 env H ops [] (Exit.then ((Code.seq (.region id l.toArray false) y).wp P Q) Q) := xo_nil (xq_then (xw_seq (xw_region h)))
theorem wS {y : Code} {id : Nat} {l : List Oper} (h : XO P n w0 env H l.toArray l (Exit.then (y.wp P Q) Q)) : XW P n w0 env H (Code.seq (.region id l.toArray false) y) Q := xw_seq (xw_region h)
section
variable {s : Nat} {u w : Code} {p : Prop} [Decidable p] {A B : Prop} {b : Bool}
theorem wd (hs : lk s env=some (.bool (decide p))) (h : if p then A else B) (t : p → A → XW P n w0 ((s,.bool true)::env) H u Q) (f : ¬p → B → XW P n w0 ((s,.bool false)::env) H w Q) : XW P n w0 env H (.cond (.tmp s) u w) Q := by
 refine xw_bool s hs (fun e=>?_) (fun e=>?_)
 ·have hp := of_decide_eq_true e
  rw [if_pos hp] at h
  exact xw_cond_t (by simp [ev,lk]) rfl (t hp h)
 ·have hp := of_decide_eq_false e
  rw [if_neg hp] at h
  exact xw_cond_f (by simp [ev,lk]) rfl (f hp h)
theorem wd' (hs : lk s env=some (.bool (decide p))) (t : p → XW P n w0 ((s,.bool true)::env) H u Q) (f : ¬p → XW P n w0 ((s,.bool false)::env) H w Q) : XW P n w0 env H (.cond (.tmp s) u w) Q :=
 wd (A := True) (B := True) hs (by split <;> trivial) (fun h _=>t h) (fun h _=>f h)
theorem wn (hs : lk s env=some (.bool (!decide p))) (h : if p then A else B) (t : ¬p → B → XW P n w0 ((s,.bool true)::env) H u Q) (f : p → A → XW P n w0 ((s,.bool false)::env) H w Q) : XW P n w0 env H (.cond (.tmp s) u w) Q := by
 refine xw_bool s hs (fun e=>?_) (fun e=>?_)
 ·have hp := of_decide_eq_false (bnT e)
  rw [if_neg hp] at h
  exact xw_cond_t (by simp [ev,lk]) rfl (t hp h)
 ·have hp := of_decide_eq_true (bnF e)
  rw [if_pos hp] at h
  exact xw_cond_f (by simp [ev,lk]) rfl (f hp h)
theorem wb (hs : lk s env=some (.bool b)) (h : if b=true then A else B) (t : b=true → A → XW P n w0 ((s,.bool true)::env) H u Q) (f : ¬b=true → B → XW P n w0 ((s,.bool false)::env) H w Q) : XW P n w0 env H (.cond (.tmp s) u w) Q :=
 wd (p := b=true) (by rw [hs]; simp) h t f
theorem wc (hs : lk s env=some (.bool (!b))) (h : if b=true then A else B) (t : ¬b=true → B → XW P n w0 ((s,.bool true)::env) H u Q) (f : b=true → A → XW P n w0 ((s,.bool false)::env) H w Q) : XW P n w0 env H (.cond (.tmp s) u w) Q :=
 wn (p := b=true) (by rw [hs]; simp) h t f
theorem od (s : Nat) (hs : lk s env=some (.bool (decide p))) (h : if p then A else B) (t : p → A → XO P n w0 ((s,.bool true)::env) H ops rest Q) (f : ¬p → B → XO P n w0 ((s,.bool false)::env) H ops rest Q) : XO P n w0 env H ops rest Q :=
 xo_bool s hs (fun e=>t (of_decide_eq_true e) (by rwa [if_pos (of_decide_eq_true e)] at h)) (fun e=>f (of_decide_eq_false e) (by rwa [if_neg (of_decide_eq_false e)] at h))
theorem od' (s : Nat) (hs : lk s env=some (.bool (decide p))) (t : p → XO P n w0 ((s,.bool true)::env) H ops rest Q) (f : ¬p → XO P n w0 ((s,.bool false)::env) H ops rest Q) : XO P n w0 env H ops rest Q :=
 xo_bool s hs (fun e=>t (of_decide_eq_true e)) (fun e=>f (of_decide_eq_false e))
theorem on (s : Nat) (hs : lk s env=some (.bool (!decide p))) (h : if p then A else B) (t : ¬p → B → XO P n w0 ((s,.bool true)::env) H ops rest Q) (f : p → A → XO P n w0 ((s,.bool false)::env) H ops rest Q) : XO P n w0 env H ops rest Q :=
 xo_bool s hs (fun e=>t (of_decide_eq_false (bnT e)) (by rwa [if_neg (of_decide_eq_false (bnT e))] at h)) (fun e=>f (of_decide_eq_true (bnF e)) (by rwa [if_pos (of_decide_eq_true (bnF e))] at h))
theorem on' (s : Nat) (hs : lk s env=some (.bool (!decide p))) (t : ¬p → XO P n w0 ((s,.bool true)::env) H ops rest Q) (f : p → XO P n w0 ((s,.bool false)::env) H ops rest Q) : XO P n w0 env H ops rest Q :=
 xo_bool s hs (fun e=>t (of_decide_eq_false (bnT e))) (fun e=>f (of_decide_eq_true (bnF e)))
theorem ob (s : Nat) (hs : lk s env=some (.bool b)) (h : if b=true then A else B) (t : b=true → A → XO P n w0 ((s,.bool true)::env) H ops rest Q) (f : ¬b=true → B → XO P n w0 ((s,.bool false)::env) H ops rest Q) : XO P n w0 env H ops rest Q :=
 od (p := b=true) s (by rw [hs]; simp) h t f
theorem ob' (s : Nat) (hs : lk s env=some (.bool b)) (t : b=true → XO P n w0 ((s,.bool true)::env) H ops rest Q) (f : ¬b=true → XO P n w0 ((s,.bool false)::env) H ops rest Q) : XO P n w0 env H ops rest Q :=
 od' (p := b=true) s (by rw [hs]; simp) t f
theorem oc (s : Nat) (hs : lk s env=some (.bool (!b))) (h : if b=true then A else B) (t : ¬b=true → B → XO P n w0 ((s,.bool true)::env) H ops rest Q) (f : b=true → A → XO P n w0 ((s,.bool false)::env) H ops rest Q) : XO P n w0 env H ops rest Q :=
 on (p := b=true) s (by rw [hs]; simp) h t f
theorem oc' (s : Nat) (hs : lk s env=some (.bool (!b))) (t : ¬b=true → XO P n w0 ((s,.bool true)::env) H ops rest Q) (f : b=true → XO P n w0 ((s,.bool false)::env) H ops rest Q) : XO P n w0 env H ops rest Q :=
 on' (p := b=true) s (by rw [hs]; simp) t f
end
theorem wk {c : Code} (ks : List Nat) {k : Env} (hk : sel env ks=some k) (l : Env) (h1 : XW P n w0 env H c (CutQ n w0 (l++k) H)) (h2 : XQ n w0 (l++k) H .normal Q) : XW P n w0 env H c Q :=
 xw_cut k (sel.live hk) l h1 h2
theorem qk {s : Nat} {v v' : Value} {l : Env} (hs : lk s env=some v) (e : v=v') (hl : sel env (l.map (·.1))=some l) : XQ n w0 env H .normal (CutQ n w0 ((s,v')::l) H) :=
 xq_cut (lce hs e (sel.live hl)) (fun _ h=>h)
theorem xc {f : FuncId} {args : Array Operand} {ts : Array TypeId} {vs : List Value} (hc : (Nat.blt d n && gk ops env g)=true) (hf : IsFn P f) (hargs : evL env args.toList=some vs)
  (h : ∀ w,St w0 H w → Con P f vs.toArray w (Is v [])) (k : XO P n w0 ((d,v)::env) H ops rest Q) : XO P n w0 env H ops (⟨some d,.call ⟨.value (.func f),args,ts⟩,ty,pos,af,g⟩::rest) Q :=
 xcallq (and2 hc).1 (gk.wt (and2 hc).2) hf hargs h k
theorem sE {α : Sort _} {p : α → Prop} {a b : α} (h : b=a) (k : p a) : p b := h ▸ k
def en : Nat → List Value → Env
 | _,[]=>[]
 | i,v::l=>(i,v)::en (i + 1) l
theorem en.live : ∀ (l k : List Value),LiveA (k++l) (en k.length l) := by
 intro l
 induction l with
 | nil=>intro k; exact lan
 | cons v l ih =>
  intro k
  refine lac (by simp) ?_
  have := ih (k++[v])
  simpa using this
theorem ce {f : FuncId} {fn : Func} {c : Code} {args : List Value} {w : World} {G : Value → GH → Prop} (hf : P.funcs[f]? = some fn) (hb : fn.body=some c) (hn : fn.ntmps=n) (hsz : Nat.ble args.length n=true)
  (h : XW P n w (en 0 args) [] c (bodyPost P fn (GoodEnd w G))) : Con P f args.toArray w G :=
 con_enter (en 0 args) hf hb hn hsz (en.live args []) h
theorem xhs {C : GH} {c : Code} (h : Has w0 C) (H' : GH) (e : C=H') (k : XW P n w0 env H' c Q) : XW P n w0 env [] c Q := xw_has h (e ▸ k)
theorem oi {d : Option Nat} {f : FuncId} {fn : Func} {c : Code} {vs : List Value} {m : Nat} {R : Value → GH → Prop} {args : Array Operand} {ts : Array TypeId} (hk : IsFn P f) (hargs : evL env args.toList=some vs)
  (hf : P.funcs[f]? = some fn) (hb : fn.body=some c) (hm : fn.ntmps=m) (hsz : Nat.ble vs.length m=true) (h : XW P m w0 (en 0 vs) H c (bodyPost P fn (GoodEnd w0 R))) : OT P w0 env H ⟨d,.call ⟨.value (.func f),args,ts⟩,ty,pos,af,g⟩ R :=
 ot_in hk hargs hf hb hm hsz (en.live vs []) h
theorem xin {f : FuncId} {fn : Func} {c : Code} {vs : List Value} {m : Nat} {args : Array Operand} {ts : Array TypeId} (hc : (Nat.blt d n && gk ops env g)=true) (hk : IsFn P f) (hargs : evL env args.toList=some vs)
  (hf : P.funcs[f]? = some fn) (hb : fn.body=some c) (hm : fn.ntmps=m) (hsz : Nat.ble vs.length m=true) (h : XW P m w0 (en 0 vs) H c (bodyPost P fn (GoodEnd w0 fun v H' => XO P n w0 ((d,v)::env) H' ops rest Q))) : XO P n w0 env H ops (⟨some d,.call ⟨.value (.func f),args,ts⟩,ty,pos,af,g⟩::rest) Q :=
 xoR (and2 hc).1 (gk.wt (and2 hc).2) (oi hk hargs hf hb hm hsz h)
section
variable {fn : Func} {w : World} {G : Value → GH → Prop} {a b c : Nat} {u s : Value}
theorem rZ (hr : fn.results=#[]) (hG : G (.tuple #[]) H) : XQ n w env H .normal (bodyPost P fn (GoodEnd w G)) := con_ret0 (.inr rfl) hr H (fun _ h=>h) hG
theorem rZ' (hr : fn.results=#[]) (hG : G (.tuple #[]) H) : XQ n w env H .ret (bodyPost P fn (GoodEnd w G)) := con_ret0 (.inl rfl) hr H (fun _ h=>h) hG
theorem rO (hr : fn.results=#[.tmp a]) (hv : lk a env=some v) (hG : G v H) : XQ n w env H .ret (bodyPost P fn (GoodEnd w G)) := con_ret1 (.inl rfl) hr hv H (fun _ h=>h) hG
theorem rT (hr : fn.results=#[.tmp a,.tmp b]) (hv : lk a env=some v) (hu : lk b env=some u) (hG : G (.tuple #[v,u]) H) : XQ n w env H .ret (bodyPost P fn (GoodEnd w G)) := con_ret2 (.inl rfl) hr hv hu H (fun _ h=>h) hG
theorem yA (hr : fn.results=#[.tmp a]) (hv : lk a env=some v) (F : GH) (hF : ∀ w',St w H w' → St w F w') (hG : G v F) : XQ n w env H .ret (bodyPost P fn (GoodEnd w G)) := con_ret1 (.inl rfl) hr hv F hF hG
theorem yB (hr : fn.results=#[.tmp a,.tmp b]) (hv : lk a env=some v) (hu : lk b env=some u) (F : GH) (hF : ∀ w',St w H w' → St w F w') (hG : G (.tuple #[v,u]) F) : XQ n w env H .ret (bodyPost P fn (GoodEnd w G)) := con_ret2 (.inl rfl) hr hv hu F hF hG
end
inductive On : List Value → Prop
 | n : On []
 | r {v : Value} {l : List Value} (k : On l) (h : v.oneCell' = true) : On (v::l)
theorem oN : On [] := .n
theorem oA {x : Value} {l : List Value} (h : x.oneCell' = true) (k : On l) : On (x::l) := .r k h
theorem On.get {l : List Value} (h : On l) : ∀ i,i < l.length → (cl l i).oneCell' = true := by
 induction h with
 | n=>intro i hi; simp at hi
 | r k h ih =>
  intro i hi
  cases i with
  | zero=>exact h
  | succ i=>exact ih i (by simpa using hi)
theorem o_stD {b s : Nat} {T t : TypeId} {F : Nat → Value} {l : List Value} {H' : GH} (hx : ev env x=some (.pointer (some ⟨b,0,none⟩))) (hy : ev env y=some (AG s (cl l))) (ht : TyS P t s true) (hl : l.length=s) (h1 : On l) (hm : (b,BK s F T) ∈ H)
  (hu : Upd H b (BK s (cl l) T) H') : OT P w0 env H ⟨none,.store t x y,ty,pos,af,g⟩ (Is undef H') :=
 o_stW hx hy ht (fun i hi=>h1.get i (hl ▸ hi)) hm hu
inductive Put : List Value → Nat → Value → List Value → Prop
 | h (u v : Value) (l : List Value) : Put (u::l) 0 v (v::l)
 | t {u v : Value} {l l' : List Value} {i : Nat} (k : Put l i v l') : Put (u::l) (i + 1) v (u::l')
theorem pH {u v : Value} {l : List Value} : Put (u::l) 0 v (v::l) := .h u v l
theorem pT {u v : Value} {l l' : List Value} {i : Nat} (k : Put l i v l') : Put (u::l) (i + 1) v (u::l') := .t k
theorem Put.set {l l' : List Value} {i : Nat} {v : Value} (h : Put l i v l') : l.set i v=l' ∧ i < l.length := by
 induction h with
 | h=>simp
 | t k ih=>simp [ih.1,ih.2]
theorem o_stP {b o N : Nat} {T t : TypeId} {l l' : List Value} {H' : GH} (hx : ev env x=some (.pointer (some ⟨b,o,none⟩))) (hy : ev env y=some v) (ht : TyS P t 1 false) (h1 : v.oneCell' = true) (hm : (b,BK N (cl l) T) ∈ H) (hN : l.length=N) (hp : Put l o v l')
  (hu : Upd H b (BK N (cl l') T) H') : OT P w0 env H ⟨none,.store t x y,ty,pos,af,g⟩ (Is undef H') :=
 o_stC hx hy ht h1 hm hN (hN ▸ hp.set.2) hp.set.1 hu
end
section
variable {P : Program} {n : Nat} {w0 : World} {ops : Array Oper} {KS : List Nat} {env0 env : Env} {dn : List Nat} {H RS : GH} {Q : Exit → Act → World → Prop}
def rdy (ops : Array Oper) (dn : List Nat) (env : Env) (i : Nat) (ks : List Nat) : Option (Oper × Nat × Env) :=
 match ops[i]? with
 | none=>none
 | some o=>match o.dst with
  | none=>none
  | some d=>match sel env ks with
   | none=>none
   | some l=>bif !dn.contains i && gk ops l o.guard then some (o,d,l) else none
theorem rdy.ok {i : Nat} {ks : List Nat} {o : Oper} {d : Nat} {l : Env} (h : rdy ops dn env i ks=some (o,d,l)) : ops[i]? = some o∧o.dst=some d∧dn.contains i=false∧sel env ks=some l∧gk ops l o.guard=true := by
 unfold rdy at h
 split at h
 ·cases h
 ·rename_i o' ho
  split at h
  ·cases h
  ·rename_i d' hd
   split at h
   ·cases h
   ·rename_i l' hl
    cases hb : (!dn.contains i && gk ops l' o'.guard) with
    | false=>rw [hb] at h; cases h
    | true =>
     rw [hb] at h
     cases h
     have := and2 hb
     exact ⟨ho,hd,by simpa using this.1,hl,this.2⟩
theorem xb (hok : RegOK n ops=true) (i : Nat) (ks : List Nat) {o : Oper} {d : Nat} {l : Env} {v : Value} (hr : rdy ops dn env i ks=some (o,d,l)) (hs : slotsOK ops dn i ks=true)
  (ht : ∀ H',(∀ k ∈ keys H',k ∈ KS∨w0.heap.size≤k) → OT P w0 l H' o (Is v H')) (k : XD P n w0 ops KS env0 (i::dn) ((d,v)::env) H RS Q) : XD P n w0 ops KS env0 dn env H RS Q :=
 xd_b hok i l [] rsN (rdy.ok hr).1 (rdy.ok hr).2.1 (rdy.ok hr).2.2.1 (sel.live (rdy.ok hr).2.2.2.1) (by rw [(sel.keys (rdy.ok hr).2.2.2.1)]; exact hs) (gk.wt (rdy.ok hr).2.2.2.2) (fun H' _ hK=>ht H' hK) k
theorem xbr (hok : RegOK n ops=true) (i : Nat) (ks : List Nat) (rs : GH) (hR : ∀ x ∈ rs,x ∈ H) {o : Oper} {d : Nat} {l : Env} {v : Value} (hr : rdy ops dn env i ks=some (o,d,l)) (hs : slotsOK ops dn i ks=true)
  (ht : ∀ H',(∀ x ∈ rs,x ∈ H') → (∀ k ∈ keys H',k ∈ KS∨w0.heap.size≤k) → OT P w0 l H' o (Is v H')) (k : XD P n w0 ops KS env0 (i::dn) ((d,v)::env) H (rs++RS) Q) : XD P n w0 ops KS env0 dn env H RS Q :=
 xd_b hok i l rs hR (rdy.ok hr).1 (rdy.ok hr).2.1 (rdy.ok hr).2.2.1 (sel.live (rdy.ok hr).2.2.2.1) (by rw [(sel.keys (rdy.ok hr).2.2.2.1)]; exact hs) (gk.wt (rdy.ok hr).2.2.2.2) ht k
def rdn (ops : Array Oper) (dn : List Nat) (env : Env) (i : Nat) (ks : List Nat) : Option (Oper × Nat × Env) :=
 match ops[i]? with
 | none=>none
 | some o=>match o.dst with
  | none=>none
  | some d=>match sel env ks with
   | none=>none
   | some l=>bif !dn.contains i && nk ops l o.guard then some (o,d,l) else none
theorem rdn.ok {i : Nat} {ks : List Nat} {o : Oper} {d : Nat} {l : Env} (h : rdn ops dn env i ks=some (o,d,l)) : ops[i]? = some o∧o.dst=some d∧dn.contains i=false∧sel env ks=some l∧nk ops l o.guard=true := by
 unfold rdn at h
 split at h
 ·cases h
 ·rename_i o' ho
  split at h
  ·cases h
  ·rename_i d' hd
   split at h
   ·cases h
   ·rename_i l' hl
    cases hb : (!dn.contains i && nk ops l' o'.guard) with
    | false=>rw [hb] at h; cases h
    | true =>
     rw [hb] at h
     cases h
     have := and2 hb
     exact ⟨ho,hd,by simpa using this.1,hl,this.2⟩
theorem xbs (hok : RegOK n ops=true) (i : Nat) (ks : List Nat) {o : Oper} {d : Nat} {l : Env} (hr : rdn ops dn env i ks=some (o,d,l)) (hs : slotsOK ops dn i ks=true)
  (k : XD P n w0 ops KS env0 (i::dn) ((d,undef)::env) H RS Q) : XD P n w0 ops KS env0 dn env H RS Q :=
 xd_skip hok i l (rdn.ok hr).1 (rdn.ok hr).2.1 (rdn.ok hr).2.2.1 (sel.live (rdn.ok hr).2.2.2.1) (by rw [(sel.keys (rdn.ok hr).2.2.2.1)]; exact hs) (nk.wt (rdn.ok hr).2.2.2.2) k
section
variable {s : Nat} {p : Prop} [Decidable p] {A B : Prop} {b : Bool}
theorem dd' (s : Nat) (hs : lk s env=some (.bool (decide p))) (t : p → XD P n w0 ops KS env0 dn ((s,.bool true)::env) H RS Q) (f : ¬p → XD P n w0 ops KS env0 dn ((s,.bool false)::env) H RS Q) : XD P n w0 ops KS env0 dn env H RS Q :=
 xd_bool s hs (fun e=>t (of_decide_eq_true e)) (fun e=>f (of_decide_eq_false e))
theorem de (s : Nat) (hs : lk s env=some (.bool (!decide p))) (h : if p then A else B) (t : ¬p → B → XD P n w0 ops KS env0 dn ((s,.bool true)::env) H RS Q) (f : p → A → XD P n w0 ops KS env0 dn ((s,.bool false)::env) H RS Q) : XD P n w0 ops KS env0 dn env H RS Q :=
 xd_bool s hs (fun e=>t (of_decide_eq_false (bnT e)) (by rwa [if_neg (of_decide_eq_false (bnT e))] at h)) (fun e=>f (of_decide_eq_true (bnF e)) (by rwa [if_pos (of_decide_eq_true (bnF e))] at h))
theorem de' (s : Nat) (hs : lk s env=some (.bool (!decide p))) (t : ¬p → XD P n w0 ops KS env0 dn ((s,.bool true)::env) H RS Q) (f : p → XD P n w0 ops KS env0 dn ((s,.bool false)::env) H RS Q) : XD P n w0 ops KS env0 dn env H RS Q :=
 xd_bool s hs (fun e=>t (of_decide_eq_false (bnT e))) (fun e=>f (of_decide_eq_true (bnF e)))
theorem db' (s : Nat) (hs : lk s env=some (.bool b)) (t : b=true → XD P n w0 ops KS env0 dn ((s,.bool true)::env) H RS Q) (f : ¬b=true → XD P n w0 ops KS env0 dn ((s,.bool false)::env) H RS Q) : XD P n w0 ops KS env0 dn env H RS Q :=
 dd' (p := b=true) s (by rw [hs]; simp) t f
theorem dc (s : Nat) (hs : lk s env=some (.bool (!b))) (h : if b=true then A else B) (t : ¬b=true → B → XD P n w0 ops KS env0 dn ((s,.bool true)::env) H RS Q) (f : b=true → A → XD P n w0 ops KS env0 dn ((s,.bool false)::env) H RS Q) : XD P n w0 ops KS env0 dn env H RS Q :=
 de (p := b=true) s (by rw [hs]; simp) h t f
end
end
section
variable {w0 w' : World} {H B : GH} {α : Type} {T : TypeId} {s : Nat} {c : α → Nat → Value} {l : List α}
theorem M1 {p : Nat → Prop} (h0 : p 0) : ∀ i,i < 1 → p i := m_step h0 m_zero
theorem litS (k : Nat) {b N : Nat} {F : Nat → Value} (hs : St w0 H w') (hm : (b,BK N F T) ∈ H) (hl : k=l.length) (hk : (Nat.ble (k * s) N && Nat.ble k 1000000)=true) (hF : ∀ i,i < k * s → F i=eG s c l i) : SL w' s c (.slice (some ⟨b,0,none⟩) k k) l :=
 SL.lit hs hm hl (Nat.le_of_ble_eq_true (and2 hk).1) (Nat.le_trans (Nat.le_of_ble_eq_true (and2 hk).2) (by decide)) hF
theorem litO (k : Nat) {b N : Nat} {F : Nat → Value} (hm : (b,BK N F T) ∈ B) (hl : k=l.length) (hk : (Nat.ble (k * s) N && Nat.ble k 1000000)=true) (hF : ∀ i,i < k * s → F i=eG s c l i) : OJ T s c B (.slice (some ⟨b,0,none⟩) k k) l :=
 OJ.lit hm hl (Nat.le_of_ble_eq_true (and2 hk).1) (Nat.le_trans (Nat.le_of_ble_eq_true (and2 hk).2) (by decide)) hF
end
theorem dT {p : Prop} [Decidable p] (h : p) : decide p=true := decide_eq_true h
theorem dF {p : Prop} [Decidable p] (h : ¬p) : decide p=false := decide_eq_false h
theorem nT1 {p : Prop} [Decidable p] (h : ¬p) : (!decide p)=true := by simp [h]
theorem nF1 {p : Prop} [Decidable p] (h : p) : (!decide p)=false := by simp [h]
theorem nG2 {b : Bool} (h : b=false) : (!b)=true := by simp [h]
theorem nF2 {b : Bool} (h : b=true) : (!b)=false := by simp [h]
theorem bF {b : Bool} (h : ¬b=true) : b=false := by simpa using h
end Go.E
namespace Go.E
open Go
def inn_S (n0 : Int) (low1 : Int) (high2 : Int) (r : Bool) : Prop :=
 r=((decide (low1≤n0)) && (decide (n0≤high2)))
def inn_F (n0 : Int) (low1 : Int) (high2 : Int) : Bool :=
 (decide (low1≤n0)) && (decide (n0≤high2))
theorem inn_ok (n0 : Int) (low1 : Int) (high2 : Int) : inn_S n0 low1 high2 (inn_F n0 low1 high2) := by
 obtain ⟨r,hr⟩ : ∃ r,r=inn_F n0 low1 high2 := ⟨_,rfl⟩
 rw [← hr]
 unfold inn_F at hr
 unfold inn_S
 exact hr
def shard_S (n0 : Int) (r : Bool) : Prop :=
 r=((inn_F n0 1 64))
def shard_F (n0 : Int) : Bool :=
 (inn_F n0 1 64)
theorem shard_ok (n0 : Int) : shard_S n0 (shard_F n0) := by
 obtain ⟨r,hr⟩ : ∃ r,r=shard_F n0 := ⟨_,rfl⟩
 rw [← hr]
 unfold shard_F at hr
 unfold shard_S
 exact hr
def tx_S (n0 : Int) (r : Bool) : Prop :=
 r=((inn_F n0 1 1048576))
def tx_F (n0 : Int) : Bool :=
 (inn_F n0 1 1048576)
theorem tx_ok (n0 : Int) : tx_S n0 (tx_F n0) := by
 obtain ⟨r,hr⟩ : ∃ r,r=tx_F n0 := ⟨_,rfl⟩
 rw [← hr]
 unfold tx_F at hr
 unfold tx_S
 exact hr
def ends_S (m0 : NI) (r : Bool) : Prop :=
 if m0 0=11 then
  if m0 1=0 then
   r=((decide (m0 1=0)) && ((shard_F (m0 2))))
  else
   r=(((shard_F (m0 1))) && (decide (m0 2=0)))
 else
  if ((decide (m0 0=1)) || ((decide (m0 0=4)) || ((decide (m0 0=6)) || (decide (m0 0=8)))))=true then
   r=((decide (m0 1=0)) && ((shard_F (m0 2))))
  else
   r=(((shard_F (m0 1))) && (decide (m0 2=0)))
def ends_F (m0 : NI) : Bool :=
 if m0 0=11 then
  if m0 1=0 then
   (decide (m0 1=0)) && ((shard_F (m0 2)))
  else
   ((shard_F (m0 1))) && (decide (m0 2=0))
 else
  if ((decide (m0 0=1)) || ((decide (m0 0=4)) || ((decide (m0 0=6)) || (decide (m0 0=8)))))=true then
   (decide (m0 1=0)) && ((shard_F (m0 2)))
  else
   ((shard_F (m0 1))) && (decide (m0 2=0))
theorem ends_ok (m0 : NI) : ends_S m0 (ends_F m0) := by
 obtain ⟨r,hr⟩ : ∃ r,r=ends_F m0 := ⟨_,rfl⟩
 rw [← hr]
 unfold ends_F at hr
 unfold ends_S
 by_cases hp1 : m0 0=11
 ·rw [if_pos hp1] at hr ⊢
  by_cases hp2 : m0 1=0
  ·rw [if_pos hp2] at hr ⊢
   exact hr
  ·rw [if_neg hp2] at hr ⊢
   exact hr
 ·rw [if_neg hp1] at hr ⊢
  by_cases hp3 : ((decide (m0 0=1)) || ((decide (m0 0=4)) || ((decide (m0 0=6)) || (decide (m0 0=8)))))=true
  ·rw [if_pos hp3] at hr ⊢
   exact hr
  ·rw [if_neg hp3] at hr ⊢
   exact hr
def resOk_S (r0 : NI) (r : Bool) : Prop :=
 r=((((decide (1≤r0 0)) && (decide (r0 0≤250))) && (decide (0≤r0 1))) && (decide (r0 1≤250)))
def resOk_F (r0 : NI) : Bool :=
 (((decide (1≤r0 0)) && (decide (r0 0≤250))) && (decide (0≤r0 1))) && (decide (r0 1≤250))
theorem resOk_ok (r0 : NI) : resOk_S r0 (resOk_F r0) := by
 obtain ⟨r,hr⟩ : ∃ r,r=resOk_F r0 := ⟨_,rfl⟩
 rw [← hr]
 unfold resOk_F at hr
 unfold resOk_S
 exact hr
def path_l2 (m0 : NI) (x25 : Int) (x50 : Int) (o : (Int) ⊕ ((Unit) ⊕ (Unit))) : Prop :=
 if x50 < (x25.toNat : Int) then
  (0≤x50∧x50 < (x25.toNat : Nat))∧(
  if m0 (12 + (x50.toNat * 2))=m0 (12 + (x25.toNat * 2)) then
   o=(.inr (.inr ()))
  else
   (inI64 (x50 + 1))∧(
   o=(.inl (x50 + 1))))
 else
  o=(.inr (.inl ()))
def path_k2a (x25 : Int) (o : (Int) ⊕ ((Unit) ⊕ (Unit))) : Prop :=
 (inI64 (x25 + 1))∧(
 o=(.inl (x25 + 1)))
def path_k2b (o : (Int) ⊕ ((Unit) ⊕ (Unit))) : Prop :=
 o=(.inr (.inr ()))
def path_l1 (m0 : NI) (x25 : Int) (o : (Int) ⊕ ((Unit) ⊕ (Unit))) : Prop :=
 if x25 < 8 then
  (0≤x25∧x25 < 8)∧(
  if m0 11≤x25 then
   if ((eqN 2 (fun i=>(fun i=>m0 (12 + i)) ((x25.toNat * 2) + i)) (fun _=>0)))=true then
    (inI64 (x25 + 1))∧(
    o=(.inl (x25 + 1)))
   else
    o=(.inr (.inr ()))
  else
   if ((!((tx_F (m0 (12 + (x25.toNat * 2)))))) || (!((inn_F (m0 (12 + ((x25.toNat * 2) + 1))) 1 1048576))))=true then
    o=(.inr (.inr ()))
   else
    (0≤x25∧x25≤8)∧(
    ∃ x : (Unit) ⊕ (Unit),Wh (fun (s : Int) (o : (Int) ⊕ ((Unit) ⊕ (Unit)))=>path_l2 m0 x25 s o) (0 : Int) x∧(match x with | .inl _=>path_k2a x25 o | .inr _=>path_k2b o)))
 else
  o=(.inr (.inl ()))
def path_k1a (r : Bool) : Prop :=
 r=(true)
def path_k1b (r : Bool) : Prop :=
 r=(false)
def path_S (m0 : NI) (r : Bool) : Prop :=
 if (((!((inn_F (m0 11) 1 8))) || (!((tx_F (m0 9))))) || (!((inn_F (m0 10) 0 1048576))))=true then
  r=(false)
 else
  ∃ x : (Unit) ⊕ (Unit),Wh (fun (s : Int) (o : (Int) ⊕ ((Unit) ⊕ (Unit)))=>path_l1 m0 s o) (0 : Int) x∧(match x with | .inl _=>path_k1a r | .inr _=>path_k1b r)
end Go.E
namespace Go.E
open Go
theorem imin {k : Nat} (h : k < 9000000000) : inI64 ((k : Int) + 1) := ⟨by omega,by omega⟩
def newF (m : Nat → Int) (i : Nat) (k : Nat) : Bool := !decide (m (12 + k * 2)=m (12 + i * 2))
def stepF (m : Nat → Int) (i : Nat) : Bool :=
 if m 11≤i then eqN 2 (fun j=>m (12 + (i * 2 + j))) (fun _=>0)
 else tx_F (m (12 + i * 2)) && inn_F (m (12 + (i * 2 + 1))) 1 1048576 && (List.range i).all (newF m i)
def path_F (m : Nat → Int) : Bool := inn_F (m 11) 1 8 && tx_F (m 9) && inn_F (m 10) 0 1048576 && (List.range 8).all (stepF m)
theorem path_l2_wh (m : Nat → Int) (i : Nat) (hi : i < 8) : Wh (fun (s : Int) (o : Int ⊕ (Unit ⊕ Unit))=>path_l2 m (i : Int) s o) 0 (if (List.range i).all (newF m i)=true then .inl () else .inr ()) := by
 refine Wh.all i (newF m i) _ _ (fun k hk hp=>?_) (fun k hk hp=>?_) ?_
 ·unfold path_l2
  rw [if_pos (by simp; exact hk)]
  refine ⟨by simp; exact hk,?_⟩
  simp only [newF,Bool.not_eq_true',decide_eq_false_iff_not] at hp
  rw [if_neg (by simpa using hp)]
  exact ⟨imin (by omega),rfl⟩
 ·unfold path_l2
  rw [if_pos (by simp; exact hk)]
  refine ⟨by simp; exact hk,?_⟩
  simp only [newF,Bool.not_eq_false',decide_eq_true_eq] at hp
  rw [if_pos (by simpa using hp)]
 ·unfold path_l2
  rw [if_neg (by simp)]
theorem path_l1_wh (m : Nat → Int) : Wh (fun (s : Int) (o : Int ⊕ (Unit ⊕ Unit))=>path_l1 m s o) 0 (if (List.range 8).all (stepF m)=true then .inl () else .inr ()) := by
 have key : ∀ k : Nat,k < 8 → path_l1 m k (if stepF m k=true then .inl ((k : Int) + 1) else .inr (.inr ())) := by
  intro k hk
  unfold path_l1
  rw [if_pos (by omega)]
  refine ⟨by omega,?_⟩
  unfold stepF
  by_cases h1 : m 11≤k
  ·rw [if_pos h1,if_pos h1]
   simp only [Int.toNat_natCast]
   by_cases h2 : eqN 2 (fun j=>m (12 + (k * 2 + j))) (fun _=>0)=true
   ·rw [if_pos h2,if_pos h2]; exact ⟨imin (by omega),rfl⟩
   ·rw [if_neg h2,if_neg h2]
  ·rw [if_neg h1,if_neg h1]
   simp only [Int.toNat_natCast]
   by_cases h2 : tx_F (m (12 + k * 2))=true
   ·by_cases h3 : inn_F (m (12 + (k * 2 + 1))) 1 1048576=true
    ·rw [if_neg (by simp [h2,h3])]
     refine ⟨by omega,_,path_l2_wh m k hk,?_⟩
     by_cases h4 : (List.range k).all (newF m k)=true
     ·rw [if_pos h4,h2,h3,h4]
      exact ⟨imin (by omega),rfl⟩
     ·rw [if_neg h4,if_neg (by simp only [h2,h3,Bool.true_and]; exact h4)]
      rfl
    ·rw [if_pos (by simp [h3]),if_neg (by simp [h3])]
   ·rw [if_pos (by simp [h2]),if_neg (by simp [h2])]
 refine Wh.all 8 (stepF m) _ _ (fun k hk hp=>?_) (fun k hk hp=>?_) ?_
 ·have := key k hk; rwa [if_pos hp] at this
 ·have := key k hk; rwa [if_neg (by simp [hp])] at this
 ·unfold path_l1
  rw [if_neg (by omega)]
theorem path_ok (m : Nat → Int) : path_S m (path_F m) := by
 unfold path_S path_F
 by_cases h : ((!inn_F (m 11) 1 8) || (!tx_F (m 9)) || (!inn_F (m 10) 0 1048576))=true
 ·rw [if_pos h]
  have : (inn_F (m 11) 1 8 && tx_F (m 9) && inn_F (m 10) 0 1048576)=false := by
   revert h; cases inn_F (m 11) 1 8 <;> cases tx_F (m 9) <;> cases inn_F (m 10) 0 1048576 <;> simp
  rw [this]; rfl
 ·rw [if_neg h]
  have : (inn_F (m 11) 1 8 && tx_F (m 9) && inn_F (m 10) 0 1048576)=true := by
   revert h; cases inn_F (m 11) 1 8 <;> cases tx_F (m 9) <;> cases inn_F (m 10) 0 1048576 <;> simp
  rw [this,Bool.true_and]
  refine ⟨_,path_l1_wh m,?_⟩
  by_cases h1 : (List.range 8).all (stepF m)=true
  ·rw [if_pos h1,h1]; rfl
  ·rw [if_neg h1]; simp only [Bool.not_eq_true] at h1; rw [h1]; rfl
end Go.E
namespace Go.E
open Go
def may_S (m0 : NI) (r : Bool × NI) : Prop :=
 if ((decide (m0 0=1)) || (decide (m0 0=2)))=true then
  r=((((((resOk_F (fun i=>m0 (5 + i)))) && ((inn_F (m0 7) 1 4))) && ((inn_F (m0 4) 1 1048576))) && ((tx_F (m0 3))),(updI (updI (updI (updRI m0 5 2 (fun _=>0)) 7 0) 4 0) 3 0)))
 else
  if m0 0=3 then
   r=((((((inn_F (m0 4) 1 1048576)) && ((inn_F (m0 8) 1 15))) && ((inn_F 0 0 1))) && ((tx_F (m0 3))),(updI (updI (updI (updI m0 4 0) 8 0) 8 0) 3 0)))
  else
   if ((decide (m0 0=5)) || (decide (m0 0=6)))=true then
    r=((((inn_F (m0 8) 0 1)) && ((tx_F (m0 3))),(updI (updI m0 8 0) 3 0)))
   else
    if ((decide (m0 0=4)) || ((decide (m0 0=7)) || ((decide (m0 0=8)) || (decide (m0 0=9)))))=true then
     r=(((tx_F (m0 3)),(updI m0 3 0)))
    else
     if m0 0=10 then
      r=(((((tx_F (m0 3))) && ((tx_F (m0 9)))) && (decide (m0 9 < m0 3)),(updI (updI m0 3 0) 9 0)))
     else
      if m0 0=11 then
       r=(((path_F m0),(updRI (updI (updI (updI m0 11 0) 9 0) 10 0) 12 16 (fun _=>0))))
      else
       r=((false,m0))
def may_F (m0 : NI) : Bool × NI :=
 if ((decide (m0 0=1)) || (decide (m0 0=2)))=true then
  (((((resOk_F (fun i=>m0 (5 + i)))) && ((inn_F (m0 7) 1 4))) && ((inn_F (m0 4) 1 1048576))) && ((tx_F (m0 3))),(updI (updI (updI (updRI m0 5 2 (fun _=>0)) 7 0) 4 0) 3 0))
 else
  if m0 0=3 then
   (((((inn_F (m0 4) 1 1048576)) && ((inn_F (m0 8) 1 15))) && ((inn_F 0 0 1))) && ((tx_F (m0 3))),(updI (updI (updI (updI m0 4 0) 8 0) 8 0) 3 0))
  else
   if ((decide (m0 0=5)) || (decide (m0 0=6)))=true then
    (((inn_F (m0 8) 0 1)) && ((tx_F (m0 3))),(updI (updI m0 8 0) 3 0))
   else
    if ((decide (m0 0=4)) || ((decide (m0 0=7)) || ((decide (m0 0=8)) || (decide (m0 0=9)))))=true then
     ((tx_F (m0 3)),(updI m0 3 0))
    else
     if m0 0=10 then
      ((((tx_F (m0 3))) && ((tx_F (m0 9)))) && (decide (m0 9 < m0 3)),(updI (updI m0 3 0) 9 0))
     else
      if m0 0=11 then
       ((path_F m0),(updRI (updI (updI (updI m0 11 0) 9 0) 10 0) 12 16 (fun _=>0)))
      else
       (false,m0)
theorem may_ok (m0 : NI) : may_S m0 (may_F m0) := by
 obtain ⟨r,hr⟩ : ∃ r,r=may_F m0 := ⟨_,rfl⟩
 rw [← hr]
 unfold may_F at hr
 unfold may_S
 by_cases hp4 : ((decide (m0 0=1)) || (decide (m0 0=2)))=true
 ·rw [if_pos hp4] at hr ⊢
  exact hr
 ·rw [if_neg hp4] at hr ⊢
  by_cases hp5 : m0 0=3
  ·rw [if_pos hp5] at hr ⊢
   exact hr
  ·rw [if_neg hp5] at hr ⊢
   by_cases hp6 : ((decide (m0 0=5)) || (decide (m0 0=6)))=true
   ·rw [if_pos hp6] at hr ⊢
    exact hr
   ·rw [if_neg hp6] at hr ⊢
    by_cases hp7 : ((decide (m0 0=4)) || ((decide (m0 0=7)) || ((decide (m0 0=8)) || (decide (m0 0=9)))))=true
    ·rw [if_pos hp7] at hr ⊢
     exact hr
    ·rw [if_neg hp7] at hr ⊢
     by_cases hp8 : m0 0=10
     ·rw [if_pos hp8] at hr ⊢
      exact hr
     ·rw [if_neg hp8] at hr ⊢
      by_cases hp9 : m0 0=11
      ·rw [if_pos hp9] at hr ⊢
       exact hr
      ·rw [if_neg hp9] at hr ⊢
       exact hr
def msgOk_S (m0 : NI) (r : Int) : Prop :=
 if ((ends_F m0))=true then
  if ((may_F m0).1)=true then
   if ((eqN 28 ((may_F m0).2) (updI (updI (updI (fun _=>0) 0 (m0 0)) 1 (m0 1)) 2 (m0 2))))=true then
    r=(0)
   else
    r=(5)
  else
   r=(5)
 else
  r=(5)
def msgOk_F (m0 : NI) : Int :=
 if ((ends_F m0))=true then
  if ((may_F m0).1)=true then
   if ((eqN 28 ((may_F m0).2) (updI (updI (updI (fun _=>0) 0 (m0 0)) 1 (m0 1)) 2 (m0 2))))=true then
    0
   else
    5
  else
   5
 else
  5
theorem msgOk_ok (m0 : NI) : msgOk_S m0 (msgOk_F m0) := by
 obtain ⟨r,hr⟩ : ∃ r,r=msgOk_F m0 := ⟨_,rfl⟩
 rw [← hr]
 unfold msgOk_F at hr
 unfold msgOk_S
 by_cases hp10 : ((ends_F m0))=true
 ·rw [if_pos hp10] at hr ⊢
  by_cases hp11 : ((may_F m0).1)=true
  ·rw [if_pos hp11] at hr ⊢
   by_cases hp12 : ((eqN 28 ((may_F m0).2) (updI (updI (updI (fun _=>0) 0 (m0 0)) 1 (m0 1)) 2 (m0 2))))=true
   ·rw [if_pos hp12] at hr ⊢
    exact hr
   ·rw [if_neg hp12] at hr ⊢
    exact hr
  ·rw [if_neg hp11] at hr ⊢
   exact hr
 ·rw [if_neg hp10] at hr ⊢
  exact hr
end Go.E
namespace Go.E
open Go
theorem all28 {p : Nat → Prop} : (∀ i,i < 28 → p i) ↔ (p 0∧p 1∧p 2∧p 3∧p 4∧p 5∧p 6∧p 7∧p 8∧p 9∧p 10∧p 11∧p 12∧p 13∧p 14∧p 15∧p 16∧p 17∧p 18∧p 19∧p 20∧p 21∧p 22∧p 23∧p 24∧p 25∧p 26∧p 27) :=
 ⟨fun h=>⟨h 0 (by omega),h 1 (by omega),h 2 (by omega),h 3 (by omega),h 4 (by omega),h 5 (by omega),h 6 (by omega),h 7 (by omega),h 8 (by omega),h 9 (by omega),h 10 (by omega),h 11 (by omega),h 12 (by omega),h 13 (by omega),h 14 (by omega),h 15 (by omega),h 16 (by omega),h 17 (by omega),h 18 (by omega),h 19 (by omega),h 20 (by omega),h 21 (by omega),h 22 (by omega),h 23 (by omega),h 24 (by omega),h 25 (by omega),h 26 (by omega),h 27 (by omega)⟩,fun ⟨h0,h1,h2,h3,h4,h5,h6,h7,h8,h9,h10,h11,h12,h13,h14,h15,h16,h17,h18,h19,h20,h21,h22,h23,h24,h25,h26,h27⟩ i hi=>match i,hi with | 0,_=>h0 | 1,_=>h1 | 2,_=>h2 | 3,_=>h3 | 4,_=>h4 | 5,_=>h5 | 6,_=>h6 | 7,_=>h7 | 8,_=>h8 | 9,_=>h9 | 10,_=>h10 | 11,_=>h11 | 12,_=>h12 | 13,_=>h13 | 14,_=>h14 | 15,_=>h15 | 16,_=>h16 | 17,_=>h17 | 18,_=>h18 | 19,_=>h19 | 20,_=>h20 | 21,_=>h21 | 22,_=>h22 | 23,_=>h23 | 24,_=>h24 | 25,_=>h25 | 26,_=>h26 | 27,_=>h27 | q + 28,h=>absurd h (by omega)⟩
theorem ends_eq (m : Nat → Int) : ends_F m=endsB m := by
 unfold ends_F endsB shB shard_F
 have hin : ∀ a b c,inn_F a b c=inB a b c := fun a b c=>rfl
 simp only [hin]
 by_cases h1 : m 0=11
 ·rw [if_pos h1,if_pos h1]
  by_cases h2 : m 1=0
  ·rw [if_pos h2,if_pos h2]; simp [h2]
  ·rw [if_neg h2,if_neg h2]
 ·rw [if_neg h1,if_neg h1]
  by_cases h2 : m 0=1∨m 0=4∨m 0=6∨m 0=8
  ·rw [if_pos h2,if_pos (by simpa using h2)]
  ·rw [if_neg h2,if_neg (by simpa using h2)]
theorem newF_eq (m : Nat → Int) (i : Nat) : newF m i=fun k=>!decide (m (12 + k * 2 + 0)=m (12 + (i * 2 + 0))) := by
 funext k; simp [newF]
theorem step_eq (m : Nat → Int) (i : Nat) : stepF m i=stepB m i := by
 unfold stepF stepB newB txB tx_F
 rw [eqN2,newF_eq]
 rfl
theorem path_eq (m : Nat → Int) : path_F m=pathB m := by
 unfold path_F pathB
 rw [show stepF m=stepB m from funext (step_eq m)]
 rfl
theorem res_eq (m : Nat → Int) : resOk_F (fun i=>m (5 + i))=resB (m 5) (m 6) := by
 simp [resOk_F,resB,inB,Bool.and_assoc]
theorem may_eq (m : Nat → Int) : may_F m=(mayB m,mayZ m) := by
 unfold may_F mayB mayZ
 have hin : ∀ a b c,inn_F a b c=inB a b c := fun a b c=>rfl
 have htx : ∀ a,tx_F a=txB a := fun a=>rfl
 have h01 : inB 0 0 1=true := rfl
 simp only [hin,htx,path_eq,res_eq]
 by_cases h1 : m 0=1∨m 0=2
 ·rw [if_pos (by simpa using h1),if_pos h1,if_pos h1]
 ·rw [if_neg (by simpa using h1),if_neg h1,if_neg h1]
  by_cases h2 : m 0=3
  ·rw [if_pos h2,if_pos h2,if_pos h2,h01,Bool.and_true]
  ·rw [if_neg h2,if_neg h2,if_neg h2]
   by_cases h3 : m 0=5∨m 0=6
   ·rw [if_pos (by simpa using h3),if_pos h3,if_pos h3]
   ·rw [if_neg (by simpa using h3),if_neg h3,if_neg h3]
    by_cases h4 : m 0=4∨m 0=7∨m 0=8∨m 0=9
    ·rw [if_pos (by simpa using h4),if_pos h4,if_pos h4]
    ·rw [if_neg (by simpa using h4),if_neg h4,if_neg h4]
     by_cases h5 : m 0=10
     ·rw [if_pos h5,if_pos h5,if_pos h5]
     ·rw [if_neg h5,if_neg h5,if_neg h5]
      by_cases h6 : m 0=11
      ·rw [if_pos h6,if_pos h6,if_pos h6]
      ·rw [if_neg h6,if_neg h6,if_neg h6]
theorem msgOk_eq (m : Nat → Int) : msgOk_F m=if okB m=true then 0 else 5 := by
 unfold msgOk_F okB
 rw [may_eq,ends_eq]
 simp only
 show (if endsB m=true then if mayB m=true then if eqN 28 (mayZ m) (headM m)=true then 0 else 5 else 5 else 5)=_
 cases endsB m <;> cases mayB m <;> cases eqN 28 (mayZ m) (headM m) <;> rfl
theorem msgOk_0 (m : Nat → Int) : msgOk_F m=0 ↔ okB m=true := by
 rw [msgOk_eq]; cases okB m <;> simp
end Go.E
namespace Go.E
open Go
end Go.E
namespace Go.E
open Go
def errIs_F (a b : Int) : Bool := decide (a=b)
def errIs_P (_ b : Int) : Prop := b ≠ 0
def code_l1 (e0 : Int) (i3 : Int) (o : (Int) ⊕ ((Unit) ⊕ (Int))) : Prop :=
 if i3≤15 then
  (i3 ≠ 0)∧(
  (errIs_P e0 i3)∧(
  if ((errIs_F e0 i3))=true then
   o=(.inr (.inr i3))
  else
   (inI64 (i3 + 1))∧(
   o=(.inl (i3 + 1)))))
 else
  o=(.inr (.inl ()))
def code_k1a (r : Int) : Prop :=
 r=((-1))
def code_k1b (x2 : Int) (r : Int) : Prop :=
 r=(x2)
def code_S (e0 : Int) (r : Int) : Prop :=
 if e0=0 then
  r=(0)
 else
  ∃ x : (Unit) ⊕ (Int),Wh (fun (s : Int) (o : (Int) ⊕ ((Unit) ⊕ (Int)))=>code_l1 e0 s o) (1 : Int) x∧(match x with | .inl _=>code_k1a r | .inr x2=>code_k1b x2 r)
end Go.E
namespace Go.E
open Go
def code_F (e : Int) : Int := if 0≤e∧e≤15 then e else -1
theorem code_ok (e : Int) : code_S e (code_F e) := by
 unfold code_S
 refine ite_intro (fun h=>?_) (fun h=>?_)
 ·subst h; rfl
 ·by_cases hr : 1≤e∧e≤15
  ·refine ⟨.inr e,?_,?_⟩
   ·have := Wh.upto (f := fun (s : Int) (o : Int ⊕ (Unit ⊕ Int))=>code_l1 e s o) (fun k=>(k : Int) + 1) (e.toNat - 1) (r := .inr e) ?_ ?_
    ·simpa using this
    ·intro k hk
     unfold code_l1
     rw [if_pos (by omega)]
     refine ⟨by omega,by unfold errIs_P; omega,?_⟩
     rw [if_neg (by simp [errIs_F]; omega)]
     exact ⟨⟨by omega,by omega⟩,by congr 2⟩
    ·unfold code_l1
     have e1 : ((e.toNat - 1 : Nat) : Int) + 1=e := by omega
     simp only [e1]
     rw [if_pos (by omega)]
     refine ⟨by omega,by unfold errIs_P; omega,?_⟩
     rw [if_pos (by simp [errIs_F])]
     trivial
   ·show code_F e=e
    unfold code_F; rw [if_pos (by omega)]
  ·refine ⟨.inl (),?_,?_⟩
   ·have := Wh.upto (f := fun (s : Int) (o : Int ⊕ (Unit ⊕ Int))=>code_l1 e s o) (fun k=>(k : Int) + 1) 15 (r := .inl ()) ?_ ?_
    ·simpa using this
    ·intro k hk
     unfold code_l1
     rw [if_pos (by omega)]
     refine ⟨by omega,by unfold errIs_P; omega,?_⟩
     rw [if_neg (by simp [errIs_F]; omega)]
     exact ⟨⟨by omega,by omega⟩,by congr 2⟩
    ·unfold code_l1
     rw [if_neg (by omega)]
   ·show code_F e=-1
    unfold code_F; rw [if_neg (by omega)]
end Go.E
namespace Go.E
open Go
section
variable {α : Type}
def Uniq (d : List (Int × α)) : Prop := (d.map (·.1)).Nodup
theorem mhas_mem {d : List (Int × α)} {k : Int} : mhas ieq d k=true ↔ k ∈ d.map (·.1) := by
 induction d with
 | nil=>simp [mhas,mfind]
 | cons p d ih =>
  unfold mhas at ih ⊢
  simp only [mfind,List.map_cons,List.mem_cons]
  by_cases h : k=p.1
  ·simp [ieq,h]
  ·have : ieq k p.1=false := by simp [ieq,h]
   rw [this]
   simp [h,ih]
theorem keys_mset (d : List (Int × α)) (k : Int) (v : α) : (mset ieq d k v).map (·.1)=if k ∈ d.map (·.1) then d.map (·.1) else d.map (·.1)++[k] := by
 induction d with
 | nil=>simp [mset]
 | cons p d ih =>
  simp only [mset]
  by_cases h : k=p.1
  ·simp [ieq,h]
  ·have h' : ieq k p.1=false := by simp [ieq,h]
   rw [h']
   simp only [Bool.false_eq_true,if_false,List.map_cons,ih,List.mem_cons,h,false_or]
   split <;> simp
theorem uniq_mset {d : List (Int × α)} (h : Uniq d) (k : Int) (v : α) : Uniq (mset ieq d k v) := by
 unfold Uniq at h ⊢
 rw [keys_mset]
 split
 ·exact h
 ·rename_i hk
  exact List.nodup_append.2 ⟨h,by simp,fun a ha b hb=>by simp only [List.mem_singleton] at hb; subst hb; exact fun e=>hk (e ▸ ha)⟩
theorem mem_skeys {d : List (Int × α)} {k : Int} : k ∈ skeys d ↔ mhas ieq d k=true := by
 unfold skeys
 rw [List.mem_mergeSort,mhas_mem]
theorem len_skeys (d : List (Int × α)) : (skeys d).length=d.length := by
 unfold skeys
 rw [List.length_mergeSort,List.length_map]
theorem sorted_lt {l : List Int} (h : l.Pairwise (fun a b=>a≤b)) (hn : l.Nodup) : l.Pairwise (fun a b=>a < b) := by
 refine (List.Pairwise.and h hn).imp ?_
 rintro a b ⟨h1,h2⟩
 omega
theorem rising_skeys {d : List (Int × α)} (h : Uniq d) : (skeys d).Pairwise (fun a b=>a < b) := by
 refine sorted_lt ?_ ?_
 ·have := List.pairwise_mergeSort (le := leI) (fun a b c h1 h2=>by simp only [leI,decide_eq_true_eq] at *; omega) (fun a b=>by simp only [leI,Bool.or_eq_true,decide_eq_true_eq]; omega) (d.map (·.1))
  exact this.imp fun h=>by simpa [leI] using h
 ·exact (List.mergeSort_perm _ _).nodup_iff.2 h
theorem rising_ext {l l' : List Int} (h : l.Pairwise (fun a b=>a < b)) (h' : l'.Pairwise (fun a b=>a < b)) (hm : ∀ x,x ∈ l ↔ x ∈ l') : l=l' := by
 have n : ∀ {l : List Int},l.Pairwise (fun a b=>a < b) → l.Nodup := fun h=>h.imp fun h=>by omega
 refine List.Perm.eq_of_pairwise (le := fun a b=>a < b) (fun a b _ _ h1 h2=>by omega) h h' ?_
 exact (List.perm_ext_iff_of_nodup (n h) (n h')).2 hm
theorem skeys_eq {d : List (Int × α)} (hu : Uniq d) {l : List Int} (hl : l.Pairwise (fun a b=>a < b)) (h : ∀ x,x ∈ l ↔ mhas ieq d x=true) : skeys d=l :=
 rising_ext (rising_skeys hu) hl fun x=>by rw [mem_skeys,h]
end
theorem map_take {α β : Type} [Inhabited α] (l : List α) (f : α → β) (k : Nat) (hk : k < l.length) : (l.take (k + 1)).map f=(l.take k).map f++[f (l[k]!)] := by
 rw [List.take_add_one,List.getElem?_eq_getElem hk,List.map_append,getElem!_pos l k hk]
 rfl
theorem take_len {α : Type} (l : List α) : l.take l.length=l := List.take_of_length_le (Nat.le_refl _)
end Go.E
namespace Go.E
open Go
def insI (x : Int) : List Int → List Int
 | []=>[x]
 | y::r=>if y < x then y::insI x r else if y=x then y::r else x::y::r
def rising_F (l : List Int) : List Int := l.foldl (fun out x=>insI x out) []
theorem mem_insI {x y : Int} {l : List Int} : y ∈ insI x l ↔ y=x∨y ∈ l := by
 induction l with
 | nil=>simp [insI]
 | cons z l ih =>
  unfold insI
  split
  ·simp only [List.mem_cons,ih]
   constructor
   ·rintro (h | h | h)
    ·exact .inr (.inl h)
    ·exact .inl h
    ·exact .inr (.inr h)
   ·rintro (h | h | h)
    ·exact .inr (.inl h)
    ·exact .inl h
    ·exact .inr (.inr h)
  ·split
   ·rename_i h1 h2
    simp only [List.mem_cons]
    constructor
    ·exact .inr
    ·rintro (h | h)
     ·exact .inl (by omega)
     ·exact h
   ·simp only [List.mem_cons]
theorem rising_insI {x : Int} {l : List Int} (h : l.Pairwise fun a b=>a < b) : (insI x l).Pairwise fun a b=>a < b := by
 induction l with
 | nil=>simp [insI]
 | cons z l ih =>
  have hz := List.pairwise_cons.1 h
  unfold insI
  split
  ·rename_i h1
   refine List.pairwise_cons.2 ⟨fun y hy=>?_,ih hz.2⟩
   rcases mem_insI.1 hy with rfl | hy
   ·exact h1
   ·exact hz.1 y hy
  ·split
   ·exact h
   ·rename_i h1 h2
    refine List.pairwise_cons.2 ⟨fun y hy=>?_,h⟩
    rcases List.mem_cons.1 hy with rfl | hy
    ·omega
    ·have := hz.1 y hy; omega
theorem mem_rising {x : Int} {l : List Int} : x ∈ rising_F l ↔ x ∈ l := by
 have key : ∀ (l out : List Int),x ∈ l.foldl (fun out x=>insI x out) out ↔ x ∈ out∨x ∈ l := by
  intro l
  induction l with
  | nil=>intro out; simp
  | cons y l ih =>
   intro out
   rw [List.foldl_cons,ih,mem_insI,List.mem_cons]
   constructor
   ·rintro ((h | h) | h)
    ·exact .inr (.inl h)
    ·exact .inl h
    ·exact .inr (.inr h)
   ·rintro (h | h | h)
    ·exact .inl (.inr h)
    ·exact .inl (.inl h)
    ·exact .inr h
 unfold rising_F
 rw [key]
 simp
def spot (x : Int) : List Int → Nat
 | []=>0
 | y::r=>if y < x then spot x r + 1 else 0
theorem spot_le (x : Int) (l : List Int) : spot x l≤l.length := by
 induction l with
 | nil=>simp [spot]
 | cons y r ih=>unfold spot; split <;> simp; omega
theorem spot_lt {x : Int} {l : List Int} {k : Nat} (h : k < spot x l) : l[k]! < x := by
 induction l generalizing k with
 | nil=>simp [spot] at h
 | cons y r ih =>
  unfold spot at h
  split at h
  ·cases k with
   | zero=>simpa
   | succ k=>simpa using ih (by omega)
  ·omega
theorem spot_at {x : Int} {l : List Int} (h : spot x l < l.length) : ¬ l[spot x l]! < x := by
 induction l with
 | nil=>simp at h
 | cons y r ih =>
  unfold spot at h ⊢
  split
  ·rename_i hy
   rw [if_pos hy] at h
   simp only [List.length_cons] at h
   simpa using ih (by omega)
  ·rename_i hy
   simpa using hy
theorem insI_spot (x : Int) (l : List Int) : insI x l=if spot x l < l.length∧l[spot x l]! = x then l else l.take (spot x l)++[x]++l.drop (spot x l) := by
 induction l with
 | nil=>simp [insI,spot]
 | cons y r ih =>
  unfold insI spot
  by_cases h : y < x
  ·rw [if_pos h,if_pos h,ih]
   simp only [List.length_cons,Nat.add_lt_add_iff_right,List.take_succ_cons,List.drop_succ_cons]
   have : (y::r)[spot x r + 1]! = r[spot x r]! := by simp
   rw [this]
   split <;> simp
  ·rw [if_neg h,if_neg h]
   by_cases h2 : y=x
   ·rw [if_pos h2,if_pos ⟨by simp,by simpa using h2⟩]
   ·rw [if_neg h2,if_neg (fun h=>h2 (by simpa using h.2))]
    simp
def hasI_F (s : List Int) (v : Int) : Bool := decide (v ∈ s)
def hasI_P (s : List Int) (_ : Int) : Prop := s.length≤1000000000
theorem any_has (s : List Int) (v : Int) : s.any (fun x=>decide (v=x))=hasI_F s v := by
 unfold hasI_F
 rw [Bool.eq_iff_iff,List.any_eq_true,decide_eq_true_eq]
 constructor
 ·rintro ⟨x,hx,h⟩
  rw [decide_eq_true_eq] at h
  rw [h]; exact hx
 ·exact fun h=>⟨v,h,by simp⟩
def ends2 (l : LM) : List Int := l.flatMap fun e=>[e 0,e 2]
end Go.E
namespace Go.E
open Go Go.Proofs Go.Shelf Go.RowKit Go.Sort
section
variable {P : Program} {ρm : Ren}
theorem con_sort (LM : SlLaysM.n5 P ρm) {w : World} {v : Value} {B : GH} {T : TypeId} {l : List Int} (hJ : OJ T 1 ic B v l) (hB : ∀ b o,(b,o) ∈ B → w.heap[b]? = some o) (hnd : (keys B).Nodup) (hl : l.length≤1000000000000) :
  Con P (ρm.f 5) #[v] w (fun u F=>u=.tuple #[]∧OJ T 1 ic F v (l.mergeSort leI)∧Cov w B F) := by
 have hst : St w B w := ⟨rfl,rfl,rfl,Nat.le_refl _,hB,hnd,fun _ _ _=>rfl⟩
 have hJ' := hJ
 rcases hJ with ⟨rfl,rfl⟩ | ⟨b,o,cap,N,F,hm,rfl,h1,h2,h3,h4⟩
 ·refine Calls.mono (AnyM.slices_Sort_int_none LM none 0 w) ?_
  rintro e w' ⟨rfl,rfl⟩
  exact ⟨_,B,rfl,hst,rfl,by simpa using hJ',Cov.refl _⟩
 ·have hb := hB _ _ hm
  have hbs : b < w.heap.size := (Array.getElem?_eq_some_iff.1 hb).1
  have hH : Holds (Value.int .i64) w b o l.toArray := by
   intro j hj
   have hj' : j < l.length := by simpa using hj
   refine ⟨?_,by simp [World.frozen?,hb,BK]⟩
   rw [cell_BK hb (by omega),h4 j (by omega),eG_one hj',getElem!_pos l.toArray j hj]
   rfl
  refine Calls.mono (AnyM.slices_Sort_int LM b o cap l w hH hbs (by omega)) ?_
  rintro e w' ⟨rfl,n,os,rfl⟩
  have hls : (l.mergeSort leI).length=l.length := List.length_mergeSort _
  generalize hd : (l.mergeSort fun x y=>decide (x≤y))=s
  have hs : l.mergeSort leI=s := hd
  rw [hs] at hls
  have hnew : (grow (putRow (Value.int .i64) (Sort.ahead w n) b o s.toArray) os).heap[b]? = some (.cells (putCells (Value.int .i64) o s.toArray (CV N F)) T (0,0)) := by
   rw [heap_grow_old _ _ (by simpa using hbs)]
   simp [putRow,mapBlock,Sort.ahead,Array.getElem?_modify,hb,onCells,BK]
  have hsz : (putCells (Value.int .i64) o s.toArray (CV N F)).size=N := by simp [putCells]
  have hget : ∀ i,i < s.length → (putCells (Value.int .i64) o s.toArray (CV N F)).getD (o + i) undef=eG 1 ic s i := by
   intro i hi
   have hoi : o + i < N := by omega
   rw [eG_one hi,Array.getD_eq_getD_getElem?]
   simp [putCells,CV_get hoi,hoi,hi,ic]
  obtain ⟨B',hB'⟩ := Upd.ex (BK N (fun i=>(putCells (Value.int .i64) o s.toArray (CV N F)).getD i undef) T) hm
  have hBK : (grow (putRow (Value.int .i64) (Sort.ahead w n) b o s.toArray) os).heap[b]? = some (BK N (fun i=>(putCells (Value.int .i64) o s.toArray (CV N F)).getD i undef) T) := by
   rw [hnew]
   unfold BK
   have := CV_of (putCells (Value.int .i64) o s.toArray (CV N F))
   rw [hsz] at this
   rw [← this]
  have hold : ∀ k,k < w.heap.size → k ≠ b → (grow (putRow (Value.int .i64) (Sort.ahead w n) b o s.toArray) os).heap[k]? = w.heap[k]? := by
   intro k hk hne
   rw [heap_grow_old _ _ (by simpa using hk)]
   have : b ≠ k := fun e=>hne e.symm
   simp [putRow,mapBlock,Sort.ahead,Array.getElem?_modify,this]
  refine ⟨_,B',rfl,⟨rfl,rfl,rfl,by simp,fun k x hk=>?_,by rw [hB'.keys]; exact hnd,fun k hk hnk=>hold k hk fun e=>hnk (by rw [hB'.keys,e]; exact hB'.mem)⟩,rfl,?_,Cov.upd hB'⟩
  ·rcases hB'.spec hnd k x hk with ⟨rfl,rfl⟩ | ⟨hne,hk⟩
   ·exact hBK
   ·have hx := hB _ _ hk
    rw [hold k (Array.getElem?_eq_some_iff.1 hx).1 hne]
    exact hx
  ·exact .inr ⟨b,o,cap,N,_,hB'.isin,by rw [hls],by omega,by omega,h3,fun i hi=>by rw [hget i (by omega)]⟩
def sortL (l : List Int) : List Int := l.mergeSort leI
def sortP (l : List Int) : Prop := l.length≤1000000000000
theorem con_sortG (LM : SlLaysM.n5 P ρm) {w : World} {v : Value} {B : GH} {T : TypeId} {l : List Int} (hJ : OJ T 1 ic B v l) (hB : Has w (cat [B])) (hl : sortP l) :
  Con P (ρm.f 5) #[v] w (CatG fun u Ls=>Cov w (cat [B]) (cat Ls)∧u=.tuple #[]∧∃ C,Ls=[C]∧OJ T 1 ic C v (sortL l)∧Cov w B C) := by
 have e : cat [B]=B := by simp [cat]
 rw [e] at hB ⊢
 refine (con_sort LM hJ hB.1 hB.2 hl).mono fun u F ⟨h1,h2,h3⟩=>⟨[F],by simp [cat],?_,h1,F,rfl,h2,h3⟩
 show Cov w B (cat [F])
 simpa [cat] using h3
end
end Go.E
namespace Go.E
open Go
def row (F : Nat → Value) (o : Nat) (vs : List Value) : Nat → Value := fun k=>if o≤k∧k < o + vs.length then vs.getD (k - o) undef else F k
structure Same (b : Nat) (w w' : World) : Prop where
 os : w'.os=w.os
 tape : w'.tape=w.tape
 output : w'.output=w.output
 size : w'.heap.size=w.heap.size
 other : ∀ k,k ≠ b → w'.heap[k]? = w.heap[k]?
theorem Same.refl (b : Nat) (w : World) : Same b w w := ⟨rfl,rfl,rfl,rfl,fun _ _=>rfl⟩
theorem Same.trans {b : Nat} {u v w : World} (h : Same b u v) (k : Same b v w) : Same b u w :=
 ⟨k.os.trans h.os,k.tape.trans h.tape,k.output.trans h.output,k.size.trans h.size,fun i hi=>(k.other i hi).trans (h.other i hi)⟩
theorem same_setCell (w : World) (b o : Nat) (v : Value) : Same b w (w.setCell ⟨b,o,none⟩ v) := by
 refine ⟨rfl,rfl,rfl,by simp [World.setCell],fun k hk=>?_⟩
 have : b ≠ k := fun e=>hk e.symm
 simp [World.setCell,Array.getElem?_modify,this]
theorem setCell_BK {w : World} {b o N : Nat} {F : Nat → Value} {T : TypeId} {v : Value} (h : w.heap[b]? = some (BK N F T)) (ho : o < N) : (w.setCell ⟨b,o,none⟩ v).heap[b]? = some (BK N (upd F o v) T) := by
 have e : (CV N F).setIfInBounds o v=CV N (upd F o v) := by
  refine CV_eq (by simp) fun i hi=>?_
  rw [Array.getElem?_setIfInBounds]
  by_cases hio : o=i
  ·subst hio
   simp [ho,upd]
  ·rw [if_neg hio,CV_get hi]
   simp only [upd]
   rw [if_neg (fun e=>hio e.symm)]
 simp only [World.setCell,Array.getElem?_modify,h,BK]
 simp [e]
theorem setCells_BK : ∀ (vs : List Value) {w : World} {b o N : Nat} {F : Nat → Value} {T : TypeId},w.heap[b]? = some (BK N F T) → o + vs.length≤N → (w.setCells b o vs).heap[b]? = some (BK N (row F o vs) T)∧Same b w (w.setCells b o vs)
 | [],w,b,o,N,F,T,h,_=>⟨by
   rw [show World.setCells w b o []=w from rfl,h]
   refine congrArg some (BK_ext fun i hi=>?_)
   unfold row
   rw [if_neg (by simp)],Same.refl b w⟩
 | v::vs,w,b,o,N,F,T,h,ho=>by
  simp only [List.length_cons] at ho
  obtain ⟨h1,h2⟩ := setCells_BK vs (setCell_BK (v := v) (o := o) h (by omega)) (o := o + 1) (by omega)
  refine ⟨?_,(same_setCell w b o v).trans h2⟩
  show ((w.setCell ⟨b,o,none⟩ v).setCells b (o + 1) vs).heap[b]? = _
  rw [h1]
  refine congrArg some (BK_ext fun i hi=>?_)
  unfold row
  simp only [List.length_cons]
  by_cases h3 : o + 1≤i∧i < o + 1 + vs.length
  ·rw [if_pos h3,if_pos (by omega),show i - o=(i - (o + 1)) + 1 by omega]
   simp
  ·rw [if_neg h3]
   by_cases h4 : i=o
   ·subst h4
    rw [if_pos (by omega)]
    simp [upd]
   ·rw [if_neg (by omega)]
    simp only [upd]
    rw [if_neg h4]
end Go.E
namespace Go.E
open Go Go.Proofs Go.Shelf Go.RowKit
section
variable {P : Program} {ρ : Ren}
def insL1 (l : List Int) (i : Nat) (x : Int) : List Int := l.take i++[x]++l.drop i
theorem insL1_len {l : List Int} {i : Nat} {x : Int} (hi : i≤l.length) : (insL1 l i x).length=l.length + 1 := by
 unfold insL1; simp; omega
theorem eG_insL1 {l : List Int} {i : Nat} {x : Int} (hi : i≤l.length) {k : Nat} (hk : k < l.length + 1) :
  eG 1 ic (insL1 l i x) k=if k < i then .int .i64 (l.getD k 0) else if k=i then .int .i64 x else .int .i64 (l.getD (k - 1) 0) := by
 have hlen := insL1_len (x := x) hi
 rw [eG_one (show k < (insL1 l i x).length by omega)]
 show Value.int .i64 ((insL1 l i x)[k]'(by omega))=_
 have e : (insL1 l i x)[k]'(by omega)=if k < i then l.getD k 0 else if k=i then x else l.getD (k - 1) 0 := by
  unfold insL1
  by_cases h1 : k < i
  ·rw [if_pos h1,List.getElem_append_left (by simp; omega),List.getElem_append_left (by simp; omega),List.getElem_take,List.getD_eq_getElem?_getD,List.getElem?_eq_getElem (by omega)]
   rfl
  ·rw [if_neg h1]
   by_cases h2 : k=i
   ·subst h2
    rw [if_pos rfl,List.getElem_append_left (by simp; omega),List.getElem_append_right (by simp; omega)]
    simp
   ·rw [if_neg h2,List.getElem_append_right (by simp; omega),List.getElem_drop,List.getD_eq_getElem?_getD,List.getElem?_eq_getElem (by omega)]
    simp only [Option.getD_some]
    congr 1
    simp
    omega
 rw [e]
 split
 ·rfl
 ·split <;> rfl
theorem new_row {w w' : World} {B : GH} {T : TypeId} {l' : List Int} {C : Array Value} {n : Nat} (hB : Has w B) (os : w'.os=w.os) (tape : w'.tape=w.tape) (out : w'.output=w.output) (hs : w.heap.size≤w'.heap.size)
  (hn : w'.heap[w.heap.size]? = some (.cells C T (0,0))) (ho : ∀ k,k < w.heap.size → w'.heap[k]? = w.heap[k]?) (hc : C.size=n) (hl : l'.length≤n) (hm : n≤maxLen) (hg : ∀ k,k < l'.length → C[k]? = some (eG 1 ic l' k)) :
  ∃ F,St w F w' ∧ OJ T 1 ic F (.slice (some ⟨w.heap.size,0,none⟩) l'.length n) l' ∧ Cov w B F := by
 have hlt : ∀ k,k ∈ keys B → k < w.heap.size := fun k hk=>by
  obtain ⟨⟨b,o⟩,hm,rfl⟩ := List.mem_map.1 hk
  exact (Array.getElem?_eq_some_iff.1 (hB.1 b o hm)).1
 have hBK : w'.heap[w.heap.size]? = some (BK n (fun k=>C.getD k undef) T) := by
  rw [hn]
  unfold BK
  have := CV_of C
  rw [hc] at this
  rw [← this]
 refine ⟨(w.heap.size,BK n (fun k=>C.getD k undef) T)::B,⟨os,tape,out,hs,fun b o hm=>?_,?_,fun k hk _=>ho k hk⟩,?_,?_⟩
 ·rcases List.mem_cons.1 hm with e | hm
  ·cases e; exact hBK
  ·have hx := hB.1 b o hm
   rw [ho b (Array.getElem?_eq_some_iff.1 hx).1]; exact hx
 ·rw [keys_cons]
  exact List.nodup_cons.2 ⟨fun hh=>Nat.lt_irrefl _ (hlt _ hh),hB.2⟩
 ·refine .inr ⟨w.heap.size,0,n,n,_,List.mem_cons_self,rfl,hl,by omega,hm,fun k hk=>?_⟩
  rw [Nat.zero_add,Array.getD_eq_getD_getElem?,hg k (by omega)]
  rfl
 ·refine ⟨fun k hk=>?_,fun k hk=>?_⟩
  ·rw [keys_cons] at hk
   rcases List.mem_cons.1 hk with rfl | hk
   ·exact .inr (Nat.le_refl _)
   ·exact .inl hk
  ·rw [keys_cons]; exact List.mem_cons_of_mem _ hk
theorem same_row {w w' : World} {B : GH} {T : TypeId} {l' : List Int} {b o cap N : Nat} {F F' : Nat → Value} (hB : Has w B) (hm : (b,BK N F T) ∈ B) (os : w'.os=w.os) (tape : w'.tape=w.tape) (out : w'.output=w.output) (hs : w'.heap.size=w.heap.size)
  (hn : w'.heap[b]? = some (BK N F' T)) (ho : ∀ k,k ≠ b → w'.heap[k]? = w.heap[k]?) (hl : l'.length≤cap) (hN : o + cap * 1≤N) (hc : cap≤maxLen) (hg : ∀ k,k < l'.length → F' (o + k)=eG 1 ic l' k) :
  ∃ B',St w B' w' ∧ OJ T 1 ic B' (.slice (some ⟨b,o,none⟩) l'.length cap) l' ∧ Cov w B B' := by
 obtain ⟨B',hB'⟩ := Upd.ex (BK N F' T) hm
 have hst : St w B w := ⟨rfl,rfl,rfl,Nat.le_refl _,hB.1,hB.2,fun _ _ _=>rfl⟩
 exact ⟨B',hst.upd hB' hn ho os tape out hs,.inr ⟨b,o,cap,N,F',hB'.isin,rfl,hl,hN,hc,fun k hk=>hg k (by omega)⟩,Cov.upd hB'⟩
theorem zero_size (n : Nat) : (Builtin.zeroCells (Value.int .i64 0).cells n).size=n := by
 simp [Builtin.zeroCells,Value.cells]
theorem heap_dalloc (w : World) (o : Obj) : (w.drew.alloc o).heap=w.heap.push o := rfl
theorem con_insert (L : Lays2.n21 P ρ) {w : World} {v : Value} {B : GH} {l : List Int} {i : Nat} {x : Int} {vb : Nat} {T' : TypeId} (hJ : OJ (ρ.t 3) 1 ic B v l) (hB : Has w B) (hvb : w.heap[vb]? = some (BK 1 (fun _=>.int .i64 x) T')) (hne : vb ∉ keys B) (hi : i≤l.length) (hl : l.length≤1000000000000) :
  Con P (ρ.f 21) #[v,.int .i64 i,.slice (some ⟨vb,0,none⟩) 1 1] w (fun u F=>OJ (ρ.t 3) 1 ic F u (insL1 l i x)∧Cov w B F) := by
 have hlen := insL1_len (x := x) hi
 have hvs : ∀ j u,[Value.int .i64 x][j]? = some u → w.cell? ⟨vb,0 + j,none⟩=some u := by
  intro j u hj
  cases j with
  | zero =>
   simp only [List.getElem?_cons_zero,Option.some.injEq] at hj
   rw [← hj]
   exact cell_BK hvb (by omega)
  | succ j=>simp at hj
 have h1v : ∀ u ∈ [Value.int .i64 x],u.oneCell' = true := fun u hu=>by rw [List.mem_singleton.1 hu]; rfl
 have hmax : l.length + 1≤maxLen := by simp [maxLen]; omega
 have endNew : ∀ {base : Option Addr} {c : Nat},i=l.length → l.length≤c → c < l.length + 1 → (base=none → l.length=0) → (∀ a,base=some a → ∀ j u,(l.map (Value.int .i64))[j]? = some u → w.cell? (a.add j)=some u) →
   Con P (ρ.f 21) #[.slice base l.length c,.int .i64 i,.slice (some ⟨vb,0,none⟩) 1 1] w (fun u F=>OJ (ρ.t 3) 1 ic F u (insL1 l i x)∧Cov w B F) := by
  intro base c he hc1 hc2 hnil hcs
  subst he
  refine Calls.mono (Any2.slices_Insert_int_end_grow L base l.length c vb 0 1 1 (l.map (Value.int .i64)) [Value.int .i64 x] w (by omega) hc1 hc2 (by omega) (by simp) rfl hnil hcs hvs h1v) ?_
  rintro e w' ⟨rfl,rfl⟩
  have hge := grownCap_ge w (l.length + 1) c (ρ.t 3)
  have hle := grownCap_le_maxLen w (l.length + 1) c (ρ.t 3) hmax
  generalize grownCap w (l.length + 1) c (ρ.t 3)=cap at hge hle ⊢
  obtain ⟨F,h1,h2,h3⟩ := new_row (w := w) (w' := w.drew.alloc (.cells ((l.map (Value.int .i64)++[Value.int .i64 x]).toArray++Builtin.zeroCells (Value.int .i64 0).cells (cap - (l.length + 1))) (ρ.t 3))) (T := ρ.t 3) (l' := insL1 l l.length x) (n := cap) hB rfl rfl rfl (by rw [heap_dalloc,Array.size_push]; omega) (by rw [heap_dalloc,Array.getElem?_push,if_pos rfl]) (fun k hk=>by rw [heap_dalloc,Array.getElem?_push,if_neg (by omega)]) (by rw [Array.size_append,zero_size]; simp; omega) (by omega) hle (fun k hk=>by
   rw [hlen] at hk
   rw [eG_insL1 hi hk,Array.getElem?_append_left (by simp; omega)]
   by_cases h1 : k < l.length
   ·rw [if_pos h1]
    simp [List.getElem?_append_left,h1]
   ·rw [if_neg h1,if_pos (by omega),show k=l.length by omega]
    simp)
  rw [hlen] at h2
  exact ⟨_,F,rfl,h1,h2,h3⟩
 rcases hJ with ⟨rfl,rfl⟩ | ⟨b,o,cap,N,F,hm,rfl,h1,h2,h3,h4⟩
 ·exact endNew (by simpa using hi) (Nat.le_refl _) (by simp) (fun _=>rfl) (fun a ha=>by cases ha)
 ·have hb := hB.1 _ _ hm
  have hbs : b < w.heap.size := (Array.getElem?_eq_some_iff.1 hb).1
  have hcs : ∀ j u,(l.map (Value.int .i64))[j]? = some u → w.cell? ⟨b,o + j,none⟩=some u := by
   intro j u hj
   rw [List.getElem?_map] at hj
   obtain ⟨z,hz,rfl⟩ := Option.map_eq_some_iff.1 hj
   obtain ⟨hjl,rfl⟩ := List.getElem?_eq_some_iff.1 hz
   rw [cell_BK hb (by omega),h4 j (by omega),eG_one hjl]
   rfl
  by_cases hroom : l.length + 1≤cap
  ·by_cases hie : i=l.length
   ·subst hie
    refine Calls.mono (Any2.slices_Insert_int_end_room L b o l.length cap vb 0 1 1 [Value.int .i64 x] w (by omega) hroom (by simp [maxLen] at h3; omega) rfl (fun j hj=>by rw [cell_BK hb (by omega)]; rfl) (fun j hj=>by simp [World.frozen?,hb,BK]) hvs h1v) ?_
    rintro e w' ⟨rfl,rfl⟩
    obtain ⟨g1,g2⟩ := setCells_BK [Value.int .i64 x] (o := o + l.length) hb (by simp; omega)
    obtain ⟨B',s1,s2,s3⟩ := same_row (l' := insL1 l l.length x) (o := o) (cap := cap) hB hm g2.os g2.tape g2.output g2.size g1 g2.other (by omega) h2 h3 (fun k hk=>by
     rw [hlen] at hk
     rw [eG_insL1 hi hk]
     unfold row
     simp only [List.length_singleton]
     by_cases hk2 : k < l.length
     ·rw [if_neg (by omega),if_pos hk2,h4 k (by omega),eG_one hk2,List.getD_eq_getElem?_getD,List.getElem?_eq_getElem hk2]
      rfl
     ·rw [if_pos (by omega),if_neg hk2,if_pos (by omega),show o + k - (o + l.length)=0 by omega]
      rfl)
    rw [hlen] at s2
    exact ⟨_,B',rfl,s1,s2,s3⟩
   ·have hil : i < l.length := by omega
    have hbk : b ∈ keys B := List.mem_map.2 ⟨_,hm,rfl⟩
    refine Calls.mono (Any2.slices_Insert_int_shift L b o l.length cap i vb 0 1 1 (l.map (Value.int .i64)) [Value.int .i64 x] w hil (by omega) hroom (by simp [maxLen] at h3; omega) (fun e=>hne (e ▸ hbk)) (by simp) rfl hcs (fun j hj=>by rw [cell_BK hb (by omega)]; rfl) (fun j hj=>by simp [World.frozen?,hb,BK]) hvs
     (fun u hu=>by obtain ⟨z,_,rfl⟩ := List.mem_map.1 hu; rfl) h1v T' (ρ.t 3) 1 N (by simp [World.shape?,hvb,BK]) (by simp [World.shape?,hb,BK]) (by omega) (by simp [World.frozen?,hvb,BK]) (by simp [World.frozen?,hvb,BK])) ?_
    rintro e w' ⟨rfl,rfl⟩
    obtain ⟨g1,g2⟩ := setCells_BK ((l.map (Value.int .i64)).drop i) (w := w.drew) (o := o + (i + 1)) (show w.drew.heap[b]? = _ from hb) (by simp; omega)
    obtain ⟨k1,k2⟩ := setCells_BK [Value.int .i64 x] (o := o + i) g1 (by simp; omega)
    have g := g2.trans k2
    obtain ⟨B',s1,s2,s3⟩ := same_row (l' := insL1 l i x) (o := o) (cap := cap) hB hm g.os g.tape g.output g.size k1 g.other (by omega) h2 h3 (fun k hk=>by
     rw [hlen] at hk
     rw [eG_insL1 hi hk]
     unfold row
     simp only [List.length_singleton,List.length_drop,List.length_map]
     by_cases hk2 : k < i
     ·rw [if_neg (by omega),if_neg (by omega),if_pos hk2,h4 k (by omega),eG_one (by omega),List.getD_eq_getElem?_getD,List.getElem?_eq_getElem (show k < l.length by omega)]
      rfl
     ·by_cases hk3 : k=i
      ·subst hk3
       rw [if_pos (by omega),if_neg hk2,if_pos rfl,Nat.sub_self]
       rfl
      ·rw [if_neg (by omega),if_pos (by omega),if_neg hk2,if_neg hk3,show o + k - (o + (i + 1))=k - (i + 1) by omega,List.getD_eq_getElem?_getD,List.getElem?_drop,show i + (k - (i + 1))=k - 1 by omega,List.getElem?_map,List.getD_eq_getElem?_getD,List.getElem?_eq_getElem (show k - 1 < l.length by omega)]
       rfl)
    rw [hlen] at s2
    exact ⟨_,B',rfl,s1,s2,s3⟩
  ·by_cases hie : i=l.length
   ·exact endNew hie h1 (by omega) (fun h=>by cases h) (fun a ha j u hj=>by
     cases ha
     rw [Addr.add_lit]
     exact hcs j u hj)
   ·have hil : i < l.length := by omega
    refine Calls.mono (Any2.slices_Insert_int_grow L b o l.length cap i vb 0 1 1 (l.map (Value.int .i64)) [Value.int .i64 x] w hil (by omega) h1 (by omega) (by omega) (by simp) rfl hcs hvs (fun u hu=>by obtain ⟨z,_,rfl⟩ := List.mem_map.1 hu; rfl) h1v) ?_
    rintro e w' ⟨rfl,rfl⟩
    have hge := grownCap_ge w (l.length + 1) cap (ρ.t 3)
    have hle := grownCap_le_maxLen w (l.length + 1) cap (ρ.t 3) hmax
    generalize grownCap w (l.length + 1) cap (ρ.t 3)=cp at hge hle ⊢
    generalize hA : (((l.map (Value.int .i64)).take i).toArray++Builtin.zeroCells (Value.int .i64 0).cells (l.length + 1 - i)++Builtin.zeroCells (Value.int .i64 0).cells (cp - (l.length + 1)))=A
    have hAs : A.size=cp := by
     rw [← hA,Array.size_append,Array.size_append,zero_size,zero_size]
     simp
     omega
    have g0 : (w.alloc (.cells A (ρ.t 3))).drew.heap[w.heap.size]? = some (BK cp (fun k=>A.getD k undef) (ρ.t 3)) := by
     show (w.heap.push _)[w.heap.size]? = _
     rw [Array.getElem?_push,if_pos rfl]
     have := CV_of A
     rw [hAs] at this
     unfold BK
     rw [← this]
    obtain ⟨g1,g2⟩ := setCells_BK [Value.int .i64 x] (o := i) g0 (by simp; omega)
    obtain ⟨k1,k2⟩ := setCells_BK ((l.map (Value.int .i64)).drop i) (w := ((w.alloc (.cells A (ρ.t 3))).drew.setCells w.heap.size i [Value.int .i64 x]).drew) (o := i + 1) (show ((w.alloc (.cells A (ρ.t 3))).drew.setCells w.heap.size i [Value.int .i64 x]).drew.heap[w.heap.size]? = _ from g1) (by simp; omega)
    obtain ⟨F2,s1,s2,s3⟩ := new_row (l' := insL1 l i x) (T := ρ.t 3) (n := cp) hB (k2.os.trans g2.os) (k2.tape.trans g2.tape) (k2.output.trans g2.output)
     (by
      have e1 := k2.size.trans g2.size
      rw [e1]
      show w.heap.size≤(w.heap.push _).size
      rw [Array.size_push]; omega) k1 (fun k hk=>by
      rw [k2.other k (by omega)]
      show ((w.alloc (.cells A (ρ.t 3))).drew.setCells w.heap.size i [Value.int .i64 x]).heap[k]? = _
      rw [g2.other k (by omega)]
      show (w.heap.push _)[k]? = _
      rw [Array.getElem?_push,if_neg (by omega)]) (by simp) (by omega) hle (fun k hk=>by
      rw [hlen] at hk
      rw [eG_insL1 hi hk,CV_get (by omega)]
      unfold row
      simp only [List.length_singleton,List.length_drop,List.length_map]
      by_cases hk2 : k < i
      ·rw [if_neg (by omega),if_neg (by omega),if_pos hk2,← hA,Array.getD_eq_getD_getElem?,Array.getElem?_append_left (by simp; omega),Array.getElem?_append_left (by simp; omega)]
       simp [List.getElem?_take,hk2,List.getElem?_eq_getElem (show k < l.length by omega)]
      ·by_cases hk3 : k=i
       ·subst hk3
        rw [if_neg (by omega),if_pos (by omega),if_neg hk2,if_pos rfl,Nat.sub_self]
        rfl
       ·rw [if_pos (by omega),if_neg hk2,if_neg hk3,List.getD_eq_getElem?_getD,List.getElem?_drop,show i + (k - (i + 1))=k - 1 by omega,List.getElem?_map,List.getD_eq_getElem?_getD,List.getElem?_eq_getElem (show k - 1 < l.length by omega)]
        rfl)
    rw [hlen] at s2
    exact ⟨_,F2,rfl,s1,s2,s3⟩
theorem con_insertG (L : Lays2.n21 P ρ) {w : World} {v : Value} {B : GH} {l : List Int} {i x : Int} {vb : Nat} {T' : TypeId} (hJ : OJ (ρ.t 3) 1 ic B v l) (hB : Has w (cat [B])) (hvb : w.heap[vb]? = some (BK 1 (fun _=>.int .i64 x) T')) (hne : vb ∉ keys B) (h0 : 0≤i∧i≤l.length) (hl : sortP l) :
  Con P (ρ.f 21) #[v,.int .i64 i,.slice (some ⟨vb,0,none⟩) 1 1] w (CatG fun u Ls=>Cov w (cat [B]) (cat Ls)∧∃ C,Ls=[C]∧OJ (ρ.t 3) 1 ic C u (insL1 l i.toNat x)∧Cov w B C) := by
 have e : cat [B]=B := by simp [cat]
 rw [e] at hB ⊢
 have := con_insert L (i := i.toNat) (x := x) hJ hB hvb hne (by omega) hl
 rw [show ((i.toNat : Nat) : Int)=i by omega] at this
 refine this.mono fun u F ⟨h1,h2⟩=>⟨[F],by simp [cat],?_,F,rfl,h1,h2⟩
 show Cov w B (cat [F])
 simpa [cat] using h2
theorem con_insertR (L : Lays2.n21 P ρ) {w0 w : World} {v : Value} {B : GH} {Rs : List GH} {l : List Int} {i x : Int} {vb : Nat} {T' : TypeId} {G : Nat → Value} (hJ : OJ (ρ.t 3) 1 ic B v l) (hw : St w0 (cat ([B]++Rs)) w) (hm : (vb,BK 1 G T') ∈ cat Rs) (hG : G 0=.int .i64 x) (h0 : 0≤i∧i≤l.length) (hl : sortP l) :
  Con P (ρ.f 21) #[v,.int .i64 i,.slice (some ⟨vb,0,none⟩) 1 1] w (CatG fun u Ls=>Cov w (cat [B]) (cat Ls)∧∃ C,Ls=[C]∧OJ (ρ.t 3) 1 ic C u (insL1 l i.toNat x)∧Cov w B C) := by
 have e : cat ([B]++Rs)=B++cat Rs := by simp [cat]
 have hw' := hw
 rw [e] at hw'
 have h1 := hw'.own _ _ (List.mem_append_right B hm)
 rw [BK_ext (g := fun _=>.int .i64 x) (fun k hk=>by rw [show k=0 by omega]; exact hG)] at h1
 refine con_insertG L hJ hw.hasC h1 ?_ h0 hl
 have := hw'.nd
 rw [keys_append] at this
 intro hh
 exact (List.nodup_append.1 this).2.2 _ hh _ (List.mem_map.2 ⟨_,hm,rfl⟩) rfl
end
end Go.E
namespace Go.E
open Go
def cloneI_S (s0 : (List Int)) (r : (List Int)) : Prop :=
 (s0=[] → (
  r=([])))∧(
  ((0 + s0.length) * 8≤140737488355328)∧(
  r=(([]++s0))))
def cloneG_S (s0 : LM) (r : LM) : Prop :=
 (s0=[] → (
  r=([])))∧(
  ((0 + s0.length) * 40≤140737488355328)∧(
  r=(([]++s0))))
def cloneE_S (s0 : LM) (r : LM) : Prop :=
 (s0=[] → (
  r=([])))∧(
  ((0 + s0.length) * 56≤140737488355328)∧(
  r=(([]++s0))))
def tfree_S (t0Tx : Int) (t0State : Int) (t0Reason : Int) (t0Seq : Int) (t0Open : Bool) (t0Shard : Int) (t0At : NI) (t0Mode : Int) (t0Touched : (List Int)) (t0Votes : (List Int)) (t0Acks : (List Int)) (t0Got : LM) (r : Int) : Prop :=
 if t0State=1 then
  if (t0Open)=true then
   r=(8)
  else
   r=(0)
 else
  r=(11)
def tfree_F (t0Tx : Int) (t0State : Int) (t0Reason : Int) (t0Seq : Int) (t0Open : Bool) (t0Shard : Int) (t0At : NI) (t0Mode : Int) (t0Touched : (List Int)) (t0Votes : (List Int)) (t0Acks : (List Int)) (t0Got : LM) : Int :=
 if t0State=1 then
  if (t0Open)=true then
   8
  else
   0
 else
  11
theorem tfree_ok (t0Tx : Int) (t0State : Int) (t0Reason : Int) (t0Seq : Int) (t0Open : Bool) (t0Shard : Int) (t0At : NI) (t0Mode : Int) (t0Touched : (List Int)) (t0Votes : (List Int)) (t0Acks : (List Int)) (t0Got : LM) : tfree_S t0Tx t0State t0Reason t0Seq t0Open t0Shard t0At t0Mode t0Touched t0Votes t0Acks t0Got (tfree_F t0Tx t0State t0Reason t0Seq t0Open t0Shard t0At t0Mode t0Touched t0Votes t0Acks t0Got) := by
 obtain ⟨r,hr⟩ : ∃ r,r=tfree_F t0Tx t0State t0Reason t0Seq t0Open t0Shard t0At t0Mode t0Touched t0Votes t0Acks t0Got := ⟨_,rfl⟩
 rw [← hr]
 unfold tfree_F at hr
 unfold tfree_S
 by_cases hp13 : t0State=1
 ·rw [if_pos hp13] at hr ⊢
  by_cases hp14 : (t0Open)=true
  ·rw [if_pos hp14] at hr ⊢
   exact hr
  ·rw [if_neg hp14] at hr ⊢
   exact hr
 ·rw [if_neg hp13] at hr ⊢
  exact hr
def tlock_S (t0Tx : Int) (t0State : Int) (t0Reason : Int) (t0Seq : Int) (t0Open : Bool) (t0Shard : Int) (t0At : NI) (t0Mode : Int) (t0Touched : (List Int)) (t0Votes : (List Int)) (t0Acks : (List Int)) (t0Got : LM) (r : NI) : Prop :=
 r=((updI (updRI (updI (updI (updI (updI (fun _=>0) 0 1) 2 t0Shard) 3 t0Tx) 4 t0Seq) 5 2 t0At) 7 t0Mode))
def tlock_F (t0Tx : Int) (t0State : Int) (t0Reason : Int) (t0Seq : Int) (t0Open : Bool) (t0Shard : Int) (t0At : NI) (t0Mode : Int) (t0Touched : (List Int)) (t0Votes : (List Int)) (t0Acks : (List Int)) (t0Got : LM) : NI :=
 (updI (updRI (updI (updI (updI (updI (fun _=>0) 0 1) 2 t0Shard) 3 t0Tx) 4 t0Seq) 5 2 t0At) 7 t0Mode)
theorem tlock_ok (t0Tx : Int) (t0State : Int) (t0Reason : Int) (t0Seq : Int) (t0Open : Bool) (t0Shard : Int) (t0At : NI) (t0Mode : Int) (t0Touched : (List Int)) (t0Votes : (List Int)) (t0Acks : (List Int)) (t0Got : LM) : tlock_S t0Tx t0State t0Reason t0Seq t0Open t0Shard t0At t0Mode t0Touched t0Votes t0Acks t0Got (tlock_F t0Tx t0State t0Reason t0Seq t0Open t0Shard t0At t0Mode t0Touched t0Votes t0Acks t0Got) := by
 obtain ⟨r,hr⟩ : ∃ r,r=tlock_F t0Tx t0State t0Reason t0Seq t0Open t0Shard t0At t0Mode t0Touched t0Votes t0Acks t0Got := ⟨_,rfl⟩
 rw [← hr]
 unfold tlock_F at hr
 unfold tlock_S
 exact hr
def tto_l1 (t0Tx : Int) (kind1 : Int) (code2 : Int) (shards3 : (List Int)) (out9 : LM) (x14 : Int) (o : (LM × Int) ⊕ (LM)) : Prop :=
 if x14 < (shards3.length : Int) then
  (0≤x14∧x14 < shards3.length)∧(
  ((out9.length + 1) * 224≤140737488355328)∧(
  (inI64 (x14 + 1))∧(
  o=(.inl ((out9++[(updI (updI (updI (updI (fun _=>0) 0 kind1) 2 (shards3[x14.toNat]!)) 3 t0Tx) 8 code2)]),x14 + 1)))))
 else
  o=(.inr out9)
def tto_k1a (out9 : LM) (r : LM) : Prop :=
 r=(out9)
def tto_S (t0Tx : Int) (t0State : Int) (t0Reason : Int) (t0Seq : Int) (t0Open : Bool) (t0Shard : Int) (t0At : NI) (t0Mode : Int) (t0Touched : (List Int)) (t0Votes : (List Int)) (t0Acks : (List Int)) (t0Got : LM) (kind1 : Int) (code2 : Int) (shards3 : (List Int)) (r : LM) : Prop :=
 ∃ x : LM,Wh (fun (s : LM × Int) (o : (LM × Int) ⊕ (LM))=>tto_l1 t0Tx kind1 code2 shards3 s.1 s.2 o) (([],0) : LM × Int) x∧tto_k1a x r
def hasI_l1 (s0 : (List Int)) (v1 : Int) (x8 : Int) (o : (Int) ⊕ ((Unit) ⊕ (Int))) : Prop :=
 if x8 < (s0.length : Int) then
  (0≤x8∧x8 < s0.length)∧(
  if v1=s0[x8.toNat]! then
   o=(.inr (.inr x8))
  else
   (inI64 (x8 + 1))∧(
   o=(.inl (x8 + 1))))
 else
  o=(.inr (.inl ()))
def hasI_k1a (r : Bool) : Prop :=
 r=(false)
def hasI_k1b (x4 : Int) (r : Bool) : Prop :=
 r=(decide (0≤x4))
def hasI_S (s0 : (List Int)) (v1 : Int) (r : Bool) : Prop :=
 ∃ x : (Unit) ⊕ (Int),Wh (fun (s : Int) (o : (Int) ⊕ ((Unit) ⊕ (Int)))=>hasI_l1 s0 v1 s o) (0 : Int) x∧(match x with | .inl _=>hasI_k1a r | .inr x4=>hasI_k1b x4 r)
def sNaN_S (x0 : Int) (r : Bool) : Prop :=
 r=(!(decide (x0=x0)))
def sNaN_F (x0 : Int) : Bool :=
 !(decide (x0=x0))
theorem sNaN_ok (x0 : Int) : sNaN_S x0 (sNaN_F x0) := by
 obtain ⟨r,hr⟩ : ∃ r,r=sNaN_F x0 := ⟨_,rfl⟩
 rw [← hr]
 unfold sNaN_F at hr
 unfold sNaN_S
 exact hr
def cNaN_S (x0 : Int) (r : Bool) : Prop :=
 r=(!(decide (x0=x0)))
def cNaN_F (x0 : Int) : Bool :=
 !(decide (x0=x0))
theorem cNaN_ok (x0 : Int) : cNaN_S x0 (cNaN_F x0) := by
 obtain ⟨r,hr⟩ : ∃ r,r=cNaN_F x0 := ⟨_,rfl⟩
 rw [← hr]
 unfold cNaN_F at hr
 unfold cNaN_S
 exact hr
def less_S (x0 : Int) (y1 : Int) (r : Bool) : Prop :=
 r=((((cNaN_F x0)) && (!((cNaN_F y1)))) || (decide (x0 < y1)))
def less_F (x0 : Int) (y1 : Int) : Bool :=
 (((cNaN_F x0)) && (!((cNaN_F y1)))) || (decide (x0 < y1))
theorem less_ok (x0 : Int) (y1 : Int) : less_S x0 y1 (less_F x0 y1) := by
 obtain ⟨r,hr⟩ : ∃ r,r=less_F x0 y1 := ⟨_,rfl⟩
 rw [← hr]
 unfold less_F at hr
 unfold less_S
 exact hr
def search_l1 (x0 : (List Int)) (target1 : Int) (i7 : Int) (j8 : Int) (o : (Int × Int) ⊕ (Int)) : Prop :=
 if i7 < j8 then
  (inI64 (i7 + j8))∧(
  (0≤IntKind.i64.wrap ((IntKind.u64.wrap (i7 + j8)) / 2)∧IntKind.i64.wrap ((IntKind.u64.wrap (i7 + j8)) / 2) < x0.length)∧(
  (
   if ((less_F (x0[(IntKind.i64.wrap ((IntKind.u64.wrap (i7 + j8)) / 2)).toNat]!) target1))=true then
    (inI64 ((IntKind.i64.wrap ((IntKind.u64.wrap (i7 + j8)) / 2)) + 1))∧(
    True)
   else
    True)∧(
  o=(.inl ((if ((less_F (x0[(IntKind.i64.wrap ((IntKind.u64.wrap (i7 + j8)) / 2)).toNat]!) target1))=true then (IntKind.i64.wrap ((IntKind.u64.wrap (i7 + j8)) / 2)) + 1 else i7),(if ((less_F (x0[(IntKind.i64.wrap ((IntKind.u64.wrap (i7 + j8)) / 2)).toNat]!) target1))=true then j8 else IntKind.i64.wrap ((IntKind.u64.wrap (i7 + j8)) / 2)))))))
 else
  o=(.inr i7)
def search_k1a (x0 : (List Int)) (target1 : Int) (i7 : Int) (r : Int × Bool) : Prop :=
 (((decide (i7 < (x0.length : Int)))=true) → 0≤i7∧i7 < x0.length)∧(((decide (i7 < (x0.length : Int)))=true) → ((decide (x0[i7.toNat]! = target1))=false) → 0≤i7∧i7 < x0.length)∧(
 r=((i7,(decide (i7 < (x0.length : Int))) && ((decide (x0[i7.toNat]! = target1)) || (((sNaN_F (x0[i7.toNat]!))) && ((sNaN_F target1)))))))
def search_S (x0 : (List Int)) (target1 : Int) (r : Int × Bool) : Prop :=
 ∃ x : Int,Wh (fun (s : Int × Int) (o : (Int × Int) ⊕ (Int))=>search_l1 x0 target1 s.1 s.2 o) ((0,(x0.length : Int)) : Int × Int) x∧search_k1a x0 target1 x r
def cof_l1 (c0 : NI) (tx1 : Int) (whose6 : Int) (x16 : Int) (o : (Int × Int) ⊕ (Int)) : Prop :=
 if x16 < 9 then
  (0≤x16∧x16 < 9)∧(
  if ((decide (x16=0)) || (decide (tx1 < 1)))=true then
   (inI64 (x16 + 1))∧(
   o=(.inl (whose6,x16 + 1)))
  else
   if c0 (1 + (x16.toNat * 3))=tx1 then
    o=(.inr x16)
   else
    (inI64 (x16 + 1))∧(
    o=(.inl (whose6,x16 + 1))))
 else
  o=(.inr whose6)
def cof_k1a (whose6 : Int) (r : Int × Int) : Prop :=
 if whose6=0 then
  r=((0,10))
 else
  r=((whose6,0))
def cof_S (c0 : NI) (tx1 : Int) (r : Int × Int) : Prop :=
 ∃ x : Int,Wh (fun (s : Int × Int) (o : (Int × Int) ⊕ (Int))=>cof_l1 c0 tx1 s.1 s.2 o) ((0,0) : Int × Int) x∧cof_k1a x r
def isP_S (m0 : NI) (r : Bool) : Prop :=
 r=((decide (m0 0=11)) && (decide ((msgOk_F m0)=0)))
def isP_F (m0 : NI) : Bool :=
 (decide (m0 0=11)) && (decide ((msgOk_F m0)=0))
theorem isP_ok (m0 : NI) : isP_S m0 (isP_F m0) := by
 obtain ⟨r,hr⟩ : ∃ r,r=isP_F m0 := ⟨_,rfl⟩
 rw [← hr]
 unfold isP_F at hr
 unfold isP_S
 exact hr
def onward_S (shard0 : Int) (m1 : NI) (r : NI × Int) : Prop :=
 if ((isP_F m1))=true then
  if ((isP_F (updI (updI m1 1 0) 2 shard0)))=true then
   r=(((updI (updI m1 1 0) 2 shard0),0))
  else
   r=(((fun _=>0),1))
 else
  r=(((fun _=>0),5))
def onward_F (shard0 : Int) (m1 : NI) : NI × Int :=
 if ((isP_F m1))=true then
  if ((isP_F (updI (updI m1 1 0) 2 shard0)))=true then
   ((updI (updI m1 1 0) 2 shard0),0)
  else
   ((fun _=>0),1)
 else
  ((fun _=>0),5)
theorem onward_ok (shard0 : Int) (m1 : NI) : onward_S shard0 m1 (onward_F shard0 m1) := by
 obtain ⟨r,hr⟩ : ∃ r,r=onward_F shard0 m1 := ⟨_,rfl⟩
 rw [← hr]
 unfold onward_F at hr
 unfold onward_S
 by_cases hp15 : ((isP_F m1))=true
 ·rw [if_pos hp15] at hr ⊢
  by_cases hp16 : ((isP_F (updI (updI m1 1 0) 2 shard0)))=true
  ·rw [if_pos hp16] at hr ⊢
   exact hr
  ·rw [if_neg hp16] at hr ⊢
   exact hr
 ·rw [if_neg hp15] at hr ⊢
  exact hr
def victim_l1 (m0 : NI) (n4 : Int) (x14 : Int) (o : (Int × Int) ⊕ (Int)) : Prop :=
 if x14 < ((m0 11).toNat : Int) then
  (0≤x14∧x14 < ((m0 11).toNat : Nat))∧(
  (inI64 (x14 + 1))∧(
  o=(.inl ((if n4 < (m0 (12 + (x14.toNat * 2))) then (m0 (12 + (x14.toNat * 2))) else n4),x14 + 1))))
 else
  o=(.inr n4)
def victim_k1a (n4 : Int) (r : Int × Int) : Prop :=
 r=((n4,0))
def victim_S (m0 : NI) (r : Int × Int) : Prop :=
 if ((isP_F m0))=true then
  (0≤m0 11∧m0 11≤8)∧(
  ∃ x : Int,Wh (fun (s : Int × Int) (o : (Int × Int) ⊕ (Int))=>victim_l1 m0 s.1 s.2 o) ((0,0) : Int × Int) x∧victim_k1a x r)
 else
  r=((0,5))
def back_S (m0 : NI) (r : Bool) : Prop :=
 if ((!((isP_F m0))) || (!(decide (m0 9=m0 12))))=true then
  r=(false)
 else
  if m0 10=0 then
   r=(true)
  else
   if m0 10=m0 13 then
    r=(true)
   else
    r=(false)
def back_F (m0 : NI) : Bool :=
 if ((!((isP_F m0))) || (!(decide (m0 9=m0 12))))=true then
  false
 else
  if m0 10=0 then
   true
  else
   if m0 10=m0 13 then
    true
   else
    false
theorem back_ok (m0 : NI) : back_S m0 (back_F m0) := by
 obtain ⟨r,hr⟩ : ∃ r,r=back_F m0 := ⟨_,rfl⟩
 rw [← hr]
 unfold back_F at hr
 unfold back_S
 by_cases hp17 : ((!((isP_F m0))) || (!(decide (m0 9=m0 12))))=true
 ·rw [if_pos hp17] at hr ⊢
  exact hr
 ·rw [if_neg hp17] at hr ⊢
  by_cases hp18 : m0 10=0
  ·rw [if_pos hp18] at hr ⊢
   exact hr
  ·rw [if_neg hp18] at hr ⊢
   by_cases hp19 : m0 10=m0 13
   ·rw [if_pos hp19] at hr ⊢
    exact hr
   ·rw [if_neg hp19] at hr ⊢
    exact hr
def live_l2 (m0 : NI) (open1 : LM) (x8 : Int) (x8a : Int) (o : (Int) ⊕ ((Unit) ⊕ (Int))) : Prop :=
 if x8a < (open1.length : Int) then
  (0≤x8a∧x8a < open1.length)∧(
  if ((eqN 2 (fun i=>m0 ((12 + (x8.toNat * 2)) + i)) (open1[x8a.toNat]!)))=true then
   o=(.inr (.inr x8a))
  else
   (inI64 (x8a + 1))∧(
   o=(.inl (x8a + 1))))
 else
  o=(.inr (.inl ()))
def live_k2a (x8 : Int) (o : (Int) ⊕ ((Unit) ⊕ (Int))) : Prop :=
 o=(.inr (.inr x8))
def live_k2b (x8 : Int) (x4 : Int) (o : (Int) ⊕ ((Unit) ⊕ (Int))) : Prop :=
 if 0≤x4 then
  (inI64 (x8 + 1))∧(
  o=(.inl (x8 + 1)))
 else
  o=(.inr (.inr x8))
def live_l1 (m0 : NI) (open1 : LM) (x8 : Int) (o : (Int) ⊕ ((Unit) ⊕ (Int))) : Prop :=
 if x8 < ((m0 11).toNat : Int) then
  (0≤x8∧x8 < ((m0 11).toNat : Nat))∧(
  ∃ x : (Unit) ⊕ (Int),Wh (fun (s : Int) (o : (Int) ⊕ ((Unit) ⊕ (Int)))=>live_l2 m0 open1 x8 s o) (0 : Int) x∧(match x with | .inl _=>live_k2a x8 o | .inr x4=>live_k2b x8 x4 o))
 else
  o=(.inr (.inl ()))
def live_k1a (r : Bool) : Prop :=
 r=(true)
def live_k1b (x4 : Int) (r : Bool) : Prop :=
 r=(!(decide (0≤x4)))
def live_S (m0 : NI) (open1 : LM) (r : Bool) : Prop :=
 if ((isP_F m0))=true then
  (0≤m0 11∧m0 11≤8)∧(
  ∃ x : (Unit) ⊕ (Int),Wh (fun (s : Int) (o : (Int) ⊕ ((Unit) ⊕ (Int)))=>live_l1 m0 open1 s o) (0 : Int) x∧(match x with | .inl _=>live_k1a r | .inr x4=>live_k1b x4 r))
 else
  r=(false)
def resShard_S (r0 : NI) (n1 : Int) (r : Int × Int) : Prop :=
 if ((resOk_F r0))=true then
  if ((decide (n1 < 1)) || (decide (64 < n1)))=true then
   r=((0,2))
  else
   (inI64 ((r0 0) - 1))∧(
   (n1 ≠ 0)∧(
   (inI64 ((((r0 0) - 1).tmod n1) + 1))∧(
   r=(((((r0 0) - 1).tmod n1) + 1,0)))))
 else
  r=((0,1))
def resShard_F (r0 : NI) (n1 : Int) : Int × Int :=
 if ((resOk_F r0))=true then
  if ((decide (n1 < 1)) || (decide (64 < n1)))=true then
   (0,2)
  else
   ((((r0 0) - 1).tmod n1) + 1,0)
 else
  (0,1)
def resShard_P (r0 : NI) (n1 : Int) : Prop :=
 if ((resOk_F r0))=true then
  if ((decide (n1 < 1)) || (decide (64 < n1)))=true then
   True
  else
   (inI64 ((r0 0) - 1))∧(
   (n1 ≠ 0)∧(
   (inI64 ((((r0 0) - 1).tmod n1) + 1))∧(
   True)))
 else
  True
theorem resShard_ok (r0 : NI) (n1 : Int) (hP : resShard_P r0 n1) : resShard_S r0 n1 (resShard_F r0 n1) := by
 obtain ⟨r,hr⟩ : ∃ r,r=resShard_F r0 n1 := ⟨_,rfl⟩
 rw [← hr]
 unfold resShard_F at hr
 unfold resShard_S
 unfold resShard_P at hP
 by_cases hp20 : ((resOk_F r0))=true
 ·rw [if_pos hp20] at hr hP ⊢
  by_cases hp21 : ((decide (n1 < 1)) || (decide (64 < n1)))=true
  ·rw [if_pos hp21] at hr hP ⊢
   exact hr
  ·rw [if_neg hp21] at hr hP ⊢
   obtain ⟨hq0,hP⟩ := hP
   refine ⟨hq0,?_⟩
   obtain ⟨hq0,hP⟩ := hP
   refine ⟨hq0,?_⟩
   obtain ⟨hq0,hP⟩ := hP
   refine ⟨hq0,?_⟩
   exact hr
 ·rw [if_neg hp20] at hr hP ⊢
  exact hr
end Go.E
namespace Go.E
open Go
def cloneI_F (s : List Int) : List Int := s
def cloneI_P (s : List Int) : Prop := s.length≤1000000000
theorem cloneI_ok (s : List Int) (h : cloneI_P s) : cloneI_S s (cloneI_F s) := by
 unfold cloneI_P at h
 exact ⟨fun e=>e,by omega,rfl⟩
def cloneG_F (s : LM) : LM := s
def cloneG_P (s : LM) : Prop := s.length≤1000000000
theorem cloneG_ok (s : LM) (h : cloneG_P s) : cloneG_S s (cloneG_F s) := by
 unfold cloneG_P at h
 exact ⟨fun e=>e,by omega,rfl⟩
def toMsg (tx kind code s : Int) : Nat → Int := updI (updI (updI (updI (fun _=>0) 0 kind) 2 s) 3 tx) 8 code
def tto_F (tx _st _re _sq : Int) (_op : Bool) (_sh : Int) (_at : Nat → Int) (_mo : Int) (_to _vo _ac : List Int) (_go : LM) (kind code : Int) (shards : List Int) : LM := shards.map (toMsg tx kind code)
def tto_P (_tx _st _re _sq : Int) (_op : Bool) (_sh : Int) (_at : Nat → Int) (_mo : Int) (_to _vo _ac : List Int) (_go : LM) (_kind _code : Int) (shards : List Int) : Prop := shards.length≤1000000
theorem tto_ok (tx st re sq : Int) (op : Bool) (sh : Int) (at_ : Nat → Int) (mo : Int) (to_ vo ac : List Int) (go : LM) (kind code : Int) (shards : List Int) (h : tto_P tx st re sq op sh at_ mo to_ vo ac go kind code shards) :
  tto_S tx st re sq op sh at_ mo to_ vo ac go kind code shards (tto_F tx st re sq op sh at_ mo to_ vo ac go kind code shards) := by
 unfold tto_P at h
 unfold tto_S
 refine ⟨shards.map (toMsg tx kind code),?_,rfl⟩
 have := Wh.upto (f := fun (s : LM × Int) (o : (LM × Int) ⊕ (LM))=>tto_l1 tx kind code shards s.1 s.2 o) (fun k : Nat=>((shards.take k).map (toMsg tx kind code),(k : Int))) shards.length (r := shards.map (toMsg tx kind code)) (fun k hk=>by
   dsimp only
   unfold tto_l1
   rw [if_pos (by omega),Int.toNat_natCast,map_take _ _ _ hk]
   exact ⟨⟨by omega,by omega⟩,by simp; omega,⟨by omega,by omega⟩,rfl⟩) (by
   dsimp only
   unfold tto_l1
   rw [if_neg (by omega),take_len])
 simpa using this
theorem hasI_ok (s : List Int) (v : Int) (h : hasI_P s v) : hasI_S s v (hasI_F s v) := by
 unfold hasI_P at h
 unfold hasI_S
 obtain ⟨r,hr,h2⟩ := Wh.find (f := fun (t : Int) (o : (Int) ⊕ ((Unit) ⊕ (Int)))=>hasI_l1 s v t o) s.length (fun k=>decide (v=s[k]!)) (.inl ()) (fun k=>.inr (k : Int)) (fun k hk hp=>by
   unfold hasI_l1
   rw [if_pos (by omega),Int.toNat_natCast,if_neg (by simpa using hp)]
   exact ⟨⟨by omega,by omega⟩,step1 (by omega),rfl⟩) (fun k hk hp=>by
   unfold hasI_l1
   rw [if_pos (by omega),Int.toNat_natCast,if_pos (by simpa using hp)]
   exact ⟨⟨by omega,by omega⟩,rfl⟩) (by
   unfold hasI_l1
   rw [if_neg (by omega)])
 refine ⟨r,hr,?_⟩
 rw [any_range s fun x=>decide (v=x),any_has] at h2
 rcases h2 with ⟨rfl,h2⟩ | ⟨k,hk,rfl,h2⟩
 ·rw [h2]; rfl
 ·rw [h2]
  show hasI_k1b (k : Int) true
  unfold hasI_k1b
  rw [decide_eq_true (by omega)]
theorem less_eq (a b : Int) : less_F a b=decide (a < b) := by simp [less_F,cNaN_F]
theorem getk {l : List Int} {k : Nat} (h : k < l.length) : l[k]! = l[k] := by simp [h]
theorem spot_iff {x : Int} {l : List Int} (hs : l.Pairwise fun a b=>a < b) {k : Nat} (hk : k < l.length) : l[k]! < x ↔ k < spot x l := by
 refine ⟨fun h=>?_,spot_lt⟩
 by_cases hc : k < spot x l
 ·exact hc
 ·exfalso
  have h1 := spot_at (x := x) (l := l) (by omega)
  rcases Nat.eq_or_lt_of_le (Nat.le_of_not_lt hc) with e | e
  ·rw [e] at h1; exact h1 h
  ·have h2 := List.pairwise_iff_getElem.1 hs _ _ (by omega) hk e
   rw [getk hk] at h
   rw [getk (by omega)] at h1
   omega
def search_F (l : List Int) (x : Int) : Int × Bool := ((spot x l : Int),decide (spot x l < l.length) && decide (l[spot x l]! = x))
def search_P (l : List Int) (_ : Int) : Prop := l.Pairwise (fun a b=>a < b)∧l.length≤1000000000
theorem half_wrap {i j : Int} (h0 : 0≤i) (h1 : i≤j) (h2 : j≤1000000000) : IntKind.i64.wrap (IntKind.u64.wrap (i + j) / 2)=(i + j) / 2 := by
 have e : IntKind.u64.wrap (i + j)=i + j := by
  simp only [IntKind.wrap,IntKind.bits]
  have : (i + j) % 2 ^ 64=i + j := Int.emod_eq_of_lt (by omega) (by omega)
  simp [IntKind.signed]
  omega
 rw [e]
 exact wrap_id ⟨by omega,by omega⟩
theorem search_ok (l : List Int) (x : Int) (h : search_P l x) : search_S l x (search_F l x) := by
 obtain ⟨hs,hn⟩ := h
 unfold search_S
 have hle := spot_le x l
 obtain ⟨r,hr,rfl⟩ := Wh.by (f := fun (s : Int × Int) (o : (Int × Int) ⊕ (Int))=>search_l1 l x s.1 s.2 o) (fun s=>0≤s.1∧s.1≤(spot x l : Int)∧(spot x l : Int)≤s.2∧s.2≤l.length) (fun s=>(s.2 - s.1).toNat) (fun r=>r=(spot x l : Int)) (s := ((0,(l.length : Int)) : Int × Int)) ⟨by simp,by simp,by simp; omega,by simp⟩ (by
  rintro ⟨i,j⟩ ⟨h0,h1,h2,h3⟩
  dsimp only at h0 h1 h2 h3
  by_cases hij : i < j
  ·left
   dsimp only
   have hw := half_wrap h0 (Int.le_of_lt hij) (by omega)
   have hm : i≤(i + j) / 2∧(i + j) / 2 < j := by omega
   have hb : ((i + j) / 2).toNat < l.length := by omega
   have hi := spot_iff (x := x) hs hb
   by_cases hc : l[((i + j) / 2).toNat]! < x
   ·have hc' := hi.1 hc
    refine ⟨((i + j) / 2 + 1,j),?_,⟨by dsimp only; omega,by dsimp only; omega,h2,h3⟩,by dsimp only; omega⟩
    unfold search_l1
    rw [if_pos hij,hw,less_eq,decide_eq_true hc,if_pos rfl,if_pos rfl,if_pos rfl]
    exact ⟨⟨by omega,by omega⟩,⟨by omega,by omega⟩,⟨⟨by omega,by omega⟩,trivial⟩,rfl⟩
   ·have hc' : ¬ ((i + j) / 2).toNat < spot x l := fun hh=>hc (hi.2 hh)
    refine ⟨(i,(i + j) / 2),?_,⟨h0,h1,by dsimp only; omega,by dsimp only; omega⟩,by dsimp only; omega⟩
    unfold search_l1
    rw [if_pos hij,hw,less_eq,decide_eq_false hc,if_neg (by decide),if_neg (by decide),if_neg (by decide)]
    exact ⟨⟨by omega,by omega⟩,⟨by omega,by omega⟩,trivial,rfl⟩
  ·right
   dsimp only
   refine ⟨i,?_,by omega⟩
   unfold search_l1
   rw [if_neg hij])
 refine ⟨_,hr,?_⟩
 unfold search_k1a search_F
 rw [Int.toNat_natCast]
 refine ⟨fun h=>⟨by omega,by simpa using h⟩,fun h _=>⟨by omega,by simpa using h⟩,?_⟩
 rw [show decide ((spot x l : Int) < (l.length : Int))=decide (spot x l < l.length) from decide_eq_decide.2 (by omega)]
 simp [sNaN_F]
theorem search_le (l : List Int) (x : Int) : 0≤(search_F l x).1∧(search_F l x).1≤(l.length : Int) := by
 have := spot_le x l
 exact ⟨by simp [search_F],by simp [search_F]; omega⟩
theorem with_eq (l : List Int) (x : Int) : (if (search_F l x).2=true then l else insL1 (cloneI_F l) ((search_F l x).1).toNat x)=insI x l := by
 rw [insI_spot]
 unfold search_F insL1 cloneI_F
 rw [Int.toNat_natCast]
 by_cases h : spot x l < l.length∧l[spot x l]! = x
 ·rw [if_pos h,if_pos (by rw [decide_eq_true h.1,decide_eq_true h.2]; rfl)]
 ·rw [if_neg h,if_neg (by rw [Bool.and_eq_true,decide_eq_true_eq,decide_eq_true_eq]; exact h)]
end Go.E
namespace Go.E
open Go
def hitC (c : Nat → Int) (tx : Int) (j : Nat) : Bool := decide (0 < j) && decide (1≤tx) && decide (c (1 + j * 3)=tx)
def cofI (c : Nat → Int) (tx : Int) : Int := ((List.range 9).find? (hitC c tx)).elim 0 fun j=>(j : Int)
def cof_F (c : Nat → Int) (tx : Int) : Int × Int := if cofI c tx=0 then (0,10) else (cofI c tx,0)
theorem find_at {n : Nat} {p : Nat → Bool} {i : Nat} (hi : i < n) (h : p i=true) (hn : ∀ j,j < i → p j=false) : (List.range n).find? p=some i :=
 List.find?_range_eq_some.2 ⟨h,List.mem_range.2 hi,fun j hj=>by rw [hn j hj]; rfl⟩
theorem find_no {n : Nat} {p : Nat → Bool} (hn : ∀ j,j < n → p j=false) : (List.range n).find? p=none :=
 List.find?_eq_none.2 fun j hj=>by rw [hn j (List.mem_range.1 hj)]; decide
theorem cof_ok (c : Nat → Int) (tx : Int) : cof_S c tx (cof_F c tx) := by
 unfold cof_S
 refine (Wh.by (f := fun (s : Int × Int) (o : (Int × Int) ⊕ (Int))=>cof_l1 c tx s.1 s.2 o) (s := ((0,0) : Int × Int)) (fun s=>s.1=0∧0≤s.2∧s.2≤9∧∀ j : Nat,(j : Int) < s.2 → hitC c tx j=false) (fun s=>(9 - s.2).toNat) (fun r=>r=cofI c tx) ⟨rfl,by omega,by omega,fun j hj=>by omega⟩ ?_).elim fun r hr=>⟨r,hr.1,?_⟩
 ·rintro ⟨w,x⟩ ⟨rfl,x0,x1,hno⟩
  simp only at x0 x1 hno
  by_cases hx : x < 9
  ·have hin : inI64 (x + 1) := ⟨by omega,by omega⟩
   have hx' : (x.toNat : Int)=x := by omega
   by_cases hh : hitC c tx x.toNat=true
   ·refine .inr ⟨x,?_,?_⟩
    ·show cof_l1 c tx 0 x _
     unfold cof_l1
     unfold hitC at hh
     simp only [Bool.and_eq_true,decide_eq_true_eq] at hh
     rw [if_pos hx,if_neg (by simp only [Bool.or_eq_true,decide_eq_true_eq]; omega),if_pos hh.2]
     exact ⟨⟨x0,hx⟩,rfl⟩
    ·unfold cofI
     rw [find_at (i := x.toNat) (by omega) hh fun j hj=>hno j (by omega)]
     exact hx'.symm
   ·refine .inl ⟨(0,x + 1),?_,⟨rfl,by simp only; omega,by simp only; omega,fun j hj=>?_⟩,by simp only; omega⟩
    ·show cof_l1 c tx 0 x _
     unfold cof_l1
     rw [if_pos hx]
     refine ⟨⟨x0,hx⟩,ite_intro (fun h=>⟨hin,rfl⟩) fun h=>?_⟩
     simp only [Bool.or_eq_true,decide_eq_true_eq] at h
     rw [if_neg (fun e=>hh (by unfold hitC; simp only [Bool.and_eq_true,decide_eq_true_eq]; exact ⟨⟨by omega,by omega⟩,e⟩))]
     exact ⟨hin,rfl⟩
    ·simp only at hj
     by_cases hjx : (j : Int) < x
     ·exact hno j hjx
     ·rw [show j=x.toNat by omega]
      simpa using hh
  ·refine .inr ⟨0,?_,?_⟩
   ·show cof_l1 c tx 0 x _
    unfold cof_l1
    rw [if_neg hx]
   ·unfold cofI
    rw [find_no fun j hj=>hno j (by omega)]
    rfl
 ·rw [hr.2]
  unfold cof_k1a cof_F
  split <;> rfl
theorem cofI_spec (c : Nat → Int) (tx : Int) : (cofI c tx=0∧∀ j : Nat,1≤j → j≤8 → 1≤tx → c (1 + j * 3) ≠ tx)∨∃ j : Nat,cofI c tx=j∧1≤j∧j≤8∧1≤tx∧c (1 + j * 3)=tx := by
 unfold cofI
 cases h : (List.range 9).find? (hitC c tx) with
 | none =>
  refine .inl ⟨rfl,fun j h1 h2 h3 h4=>?_⟩
  have := List.find?_eq_none.1 h j (List.mem_range.2 (by omega))
  exact this (by unfold hitC; simp only [Bool.and_eq_true,decide_eq_true_eq]; exact ⟨⟨by omega,h3⟩,h4⟩)
 | some j =>
  obtain ⟨h1,h2,_⟩ := List.find?_range_eq_some.1 h
  have h2 := List.mem_range.1 h2
  unfold hitC at h1
  simp only [Bool.and_eq_true,decide_eq_true_eq] at h1
  exact .inr ⟨j,rfl,by omega,by omega,h1.1.2,h1.2⟩
end Go.E
namespace Go.E
open Go
theorem isP_iff (m : Nat → Int) : isP_F m=true ↔ m 0=11∧okB m=true := by
 unfold isP_F
 rw [Bool.and_eq_true,decide_eq_true_eq,decide_eq_true_eq,msgOk_0]
theorem isP_path {m : Nat → Int} (h : isP_F m=true) : pathB m=true := by
 obtain ⟨h0,h1⟩ := (isP_iff m).1 h
 unfold okB at h1
 simp only [Bool.and_eq_true] at h1
 have := h1.1.2
 unfold mayB at this
 rw [if_neg (by omega),if_neg (by omega),if_neg (by omega),if_neg (by omega),if_neg (by omega),if_pos h0] at this
 exact this
theorem isP_n {m : Nat → Int} (h : isP_F m=true) : 1≤m 11∧m 11≤8 := by
 have := isP_path h
 unfold pathB inB at this
 simp only [Bool.and_eq_true,decide_eq_true_eq] at this
 exact this.1.1.1
def vicF (m : Nat → Int) : Nat → Int
 | 0=>0
 | k + 1=>if vicF m k < m (12 + k * 2) then m (12 + k * 2) else vicF m k
def victim_F (m : Nat → Int) : Int × Int := if isP_F m=true then (vicF m (m 11).toNat,0) else (0,5)
theorem victim_ok (m : Nat → Int) : victim_S m (victim_F m) := by
 unfold victim_S victim_F
 by_cases h : isP_F m=true
 ·rw [if_pos h,if_pos h]
  have hn := isP_n h
  refine ⟨⟨by omega,by omega⟩,vicF m (m 11).toNat,?_,rfl⟩
  refine Wh.upto (fun k : Nat=>((vicF m k,(k : Int)) : Int × Int)) (m 11).toNat (fun k hk=>?_) ?_
  ·unfold victim_l1
   simp only
   rw [if_pos (by omega)]
   exact ⟨⟨by omega,by omega⟩,step1 (by omega),rfl⟩
  ·show victim_l1 m _ _ _
   unfold victim_l1
   rw [if_neg (by omega)]
 ·rw [if_neg h,if_neg h]
def stepE (m : Nat → Int) (i : Nat) : Nat → Int := fun j=>m (12 + i * 2 + j)
def thereB (l : LM) (s : Nat → Int) : Bool := l.any fun x=>eqN 2 s x
def live_F (m : Nat → Int) (l : LM) : Bool := isP_F m && (List.range (m 11).toNat).all fun i=>thereB l (stepE m i)
def live_P (m : Nat → Int) (l : LM) : Prop := l.length < 9000000000000000000
theorem live_ok (m : Nat → Int) (l : LM) (hl : live_P m l) : live_S m l (live_F m l) := by
 unfold live_P at hl
 unfold live_S live_F
 by_cases h : isP_F m=true
 ·rw [if_pos h,h,Bool.true_and]
  have hn := isP_n h
  have inner : ∀ x : Nat,∃ r,Wh (fun (s : Int) (o : Int ⊕ (Unit ⊕ Int))=>live_l2 m l (x : Int) s o) 0 r∧((r=.inl ()∧thereB l (stepE m x)=false)∨∃ k : Int,0≤k∧r=.inr k∧thereB l (stepE m x)=true) := by
   intro x
   refine (Wh.find (f := fun (s : Int) (o : Int ⊕ (Unit ⊕ Int))=>live_l2 m l (x : Int) s o) l.length (fun k=>eqN 2 (stepE m x) (l[k]!)) (.inl ()) (fun k=>.inr (k : Int)) ?_ ?_ ?_).elim fun r hr=>?_
   ·intro k hk hp
    unfold live_l2
    rw [if_pos (by omega)]
    refine ⟨⟨by omega,by omega⟩,?_⟩
    rw [if_neg]
    ·exact ⟨step1 (by omega),rfl⟩
    ·intro hh
     rw [Int.toNat_natCast,Int.toNat_natCast] at hh
     have : eqN 2 (stepE m x) (l[k]!)=true := hh
     rw [hp] at this; cases this
   ·intro k hk hp
    unfold live_l2
    rw [if_pos (by omega)]
    refine ⟨⟨by omega,by omega⟩,?_⟩
    rw [if_pos]
    rw [Int.toNat_natCast,Int.toNat_natCast]
    exact hp
   ·unfold live_l2
    rw [if_neg (by omega)]
   ·obtain ⟨h1,h2⟩ := hr
    refine ⟨r,h1,?_⟩
    rw [any_range l fun y=>eqN 2 (stepE m x) y] at h2
    rcases h2 with ⟨h2,h3⟩ | ⟨k,h2,h3,h4⟩
    ·exact .inl ⟨h2,h3⟩
    ·exact .inr ⟨k,by omega,h3,h4⟩
  have round : ∀ k : Nat,(k : Int) < 9000000000000000000 → ∀ (r : Unit ⊕ Int),((r=.inl ()∧thereB l (stepE m k)=false)∨∃ q : Int,0≤q∧r=.inr q∧thereB l (stepE m k)=true) → ∀ o : Int ⊕ (Unit ⊕ Int),
    (thereB l (stepE m k)=true → o=.inl ((k : Int) + 1)) → (thereB l (stepE m k)=false → o=.inr (.inr (k : Int))) → (match r with | .inl _=>live_k2a (k : Int) o | .inr x4=>live_k2b (k : Int) x4 o) := by
   intro k hk r hr o h1 h2
   rcases hr with ⟨rfl,h3⟩ | ⟨q,hq,rfl,h3⟩
   ·exact h2 h3
   ·show live_k2b (k : Int) q o
    unfold live_k2b
    rw [if_pos hq]
    exact ⟨⟨by omega,by omega⟩,h1 h3⟩
  refine (Wh.find (f := fun (s : Int) (o : Int ⊕ (Unit ⊕ Int))=>live_l1 m l s o) (m 11).toNat (fun k=>!thereB l (stepE m k)) (.inl ()) (fun k=>.inr (k : Int)) ?_ ?_ ?_).elim fun r hr=>?_
  ·intro k hk hp
   unfold live_l1
   rw [if_pos (by omega)]
   obtain ⟨r,h1,h2⟩ := inner k
   exact ⟨⟨by omega,by omega⟩,r,h1,round k (by omega) r h2 _ (fun _=>rfl) fun hf=>by simp only [hf,Bool.not_false] at hp; cases hp⟩
  ·intro k hk hp
   unfold live_l1
   rw [if_pos (by omega)]
   obtain ⟨r,h1,h2⟩ := inner k
   exact ⟨⟨by omega,by omega⟩,r,h1,round k (by omega) r h2 _ (fun hf=>by simp only [hf,Bool.not_true] at hp; cases hp) fun _=>rfl⟩
  ·unfold live_l1
   rw [if_neg (by omega)]
  ·obtain ⟨h1,h2⟩ := hr
   refine ⟨⟨by omega,by omega⟩,r,h1,?_⟩
   rcases h2 with ⟨rfl,h3⟩ | ⟨k,hk,rfl,h3⟩
   ·show _=true
    rw [← Bool.not_eq_false,List.all_eq_not_any_not,h3]; simp
   ·show _=(!decide (0≤(k : Int)))
    rw [List.all_eq_not_any_not,h3]; simp
 ·rw [if_neg h]
  have : isP_F m=false := by simpa using h
  rw [this,Bool.false_and]
end Go.E
namespace Go.E
def cloneE_F (s : LM) : LM := s
def cloneE_P (s : LM) : Prop := s.length≤1000000000
theorem cloneE_ok (s : LM) (h : cloneE_P s) : cloneE_S s (cloneE_F s) := by
 unfold cloneE_P at h
 exact ⟨fun e=>e,by omega,rfl⟩
end Go.E
namespace Go.E
open Go
def own_S (t0Tx : Int) (t0State : Int) (t0Reason : Int) (t0Seq : Int) (t0Open : Bool) (t0Shard : Int) (t0At : NI) (t0Mode : Int) (t0Touched : (List Int)) (t0Votes : (List Int)) (t0Acks : (List Int)) (t0Got : LM) (r : UT) : Prop :=
 (cloneI_P t0Touched)∧(
 (cloneI_P t0Votes)∧(
 (cloneI_P t0Acks)∧(
 (cloneG_P t0Got)∧(
 r=((t0Tx,t0State,t0Reason,t0Seq,t0Open,t0Shard,t0At,t0Mode,(cloneI_F t0Touched),(cloneI_F t0Votes),(cloneI_F t0Acks),(cloneG_F t0Got)))))))
def own_F (t0Tx : Int) (t0State : Int) (t0Reason : Int) (t0Seq : Int) (t0Open : Bool) (t0Shard : Int) (t0At : NI) (t0Mode : Int) (t0Touched : (List Int)) (t0Votes : (List Int)) (t0Acks : (List Int)) (t0Got : LM) : UT :=
 (t0Tx,t0State,t0Reason,t0Seq,t0Open,t0Shard,t0At,t0Mode,(cloneI_F t0Touched),(cloneI_F t0Votes),(cloneI_F t0Acks),(cloneG_F t0Got))
def own_P (t0Tx : Int) (t0State : Int) (t0Reason : Int) (t0Seq : Int) (t0Open : Bool) (t0Shard : Int) (t0At : NI) (t0Mode : Int) (t0Touched : (List Int)) (t0Votes : (List Int)) (t0Acks : (List Int)) (t0Got : LM) : Prop :=
 (cloneI_P t0Touched)∧(
 (cloneI_P t0Votes)∧(
 (cloneI_P t0Acks)∧(
 (cloneG_P t0Got)∧(
 True))))
theorem own_ok (t0Tx : Int) (t0State : Int) (t0Reason : Int) (t0Seq : Int) (t0Open : Bool) (t0Shard : Int) (t0At : NI) (t0Mode : Int) (t0Touched : (List Int)) (t0Votes : (List Int)) (t0Acks : (List Int)) (t0Got : LM) (hP : own_P t0Tx t0State t0Reason t0Seq t0Open t0Shard t0At t0Mode t0Touched t0Votes t0Acks t0Got) : own_S t0Tx t0State t0Reason t0Seq t0Open t0Shard t0At t0Mode t0Touched t0Votes t0Acks t0Got (own_F t0Tx t0State t0Reason t0Seq t0Open t0Shard t0At t0Mode t0Touched t0Votes t0Acks t0Got) := by
 obtain ⟨r,hr⟩ : ∃ r,r=own_F t0Tx t0State t0Reason t0Seq t0Open t0Shard t0At t0Mode t0Touched t0Votes t0Acks t0Got := ⟨_,rfl⟩
 rw [← hr]
 unfold own_F at hr
 unfold own_S
 unfold own_P at hP
 obtain ⟨hq0,hP⟩ := hP
 refine ⟨hq0,?_⟩
 obtain ⟨hq0,hP⟩ := hP
 refine ⟨hq0,?_⟩
 obtain ⟨hq0,hP⟩ := hP
 refine ⟨hq0,?_⟩
 obtain ⟨hq0,hP⟩ := hP
 refine ⟨hq0,?_⟩
 exact hr
def tform_S (t0Tx : Int) (t0State : Int) (t0Reason : Int) (t0Seq : Int) (t0Open : Bool) (t0Shard : Int) (t0At : NI) (t0Mode : Int) (t0Touched : (List Int)) (t0Votes : (List Int)) (t0Acks : (List Int)) (t0Got : LM) (m1 : NI) (kinds2 : (List Int)) (r : Int) : Prop :=
 (hasI_P kinds2 (m1 0))∧(
 if (((!((hasI_F kinds2 (m1 0)))) || (!(decide ((msgOk_F m1)=0)))) || (!(decide (m1 3=t0Tx))))=true then
  r=(5)
 else
  r=(0))
def tform_F (t0Tx : Int) (t0State : Int) (t0Reason : Int) (t0Seq : Int) (t0Open : Bool) (t0Shard : Int) (t0At : NI) (t0Mode : Int) (t0Touched : (List Int)) (t0Votes : (List Int)) (t0Acks : (List Int)) (t0Got : LM) (m1 : NI) (kinds2 : (List Int)) : Int :=
 if (((!((hasI_F kinds2 (m1 0)))) || (!(decide ((msgOk_F m1)=0)))) || (!(decide (m1 3=t0Tx))))=true then
  5
 else
  0
def tform_P (t0Tx : Int) (t0State : Int) (t0Reason : Int) (t0Seq : Int) (t0Open : Bool) (t0Shard : Int) (t0At : NI) (t0Mode : Int) (t0Touched : (List Int)) (t0Votes : (List Int)) (t0Acks : (List Int)) (t0Got : LM) (m1 : NI) (kinds2 : (List Int)) : Prop :=
 (hasI_P kinds2 (m1 0))∧(
 if (((!((hasI_F kinds2 (m1 0)))) || (!(decide ((msgOk_F m1)=0)))) || (!(decide (m1 3=t0Tx))))=true then
  True
 else
  True)
theorem tform_ok (t0Tx : Int) (t0State : Int) (t0Reason : Int) (t0Seq : Int) (t0Open : Bool) (t0Shard : Int) (t0At : NI) (t0Mode : Int) (t0Touched : (List Int)) (t0Votes : (List Int)) (t0Acks : (List Int)) (t0Got : LM) (m1 : NI) (kinds2 : (List Int)) (hP : tform_P t0Tx t0State t0Reason t0Seq t0Open t0Shard t0At t0Mode t0Touched t0Votes t0Acks t0Got m1 kinds2) : tform_S t0Tx t0State t0Reason t0Seq t0Open t0Shard t0At t0Mode t0Touched t0Votes t0Acks t0Got m1 kinds2 (tform_F t0Tx t0State t0Reason t0Seq t0Open t0Shard t0At t0Mode t0Touched t0Votes t0Acks t0Got m1 kinds2) := by
 obtain ⟨r,hr⟩ : ∃ r,r=tform_F t0Tx t0State t0Reason t0Seq t0Open t0Shard t0At t0Mode t0Touched t0Votes t0Acks t0Got m1 kinds2 := ⟨_,rfl⟩
 rw [← hr]
 unfold tform_F at hr
 unfold tform_S
 unfold tform_P at hP
 obtain ⟨hq0,hP⟩ := hP
 refine ⟨hq0,?_⟩
 by_cases hp22 : (((!((hasI_F kinds2 (m1 0)))) || (!(decide ((msgOk_F m1)=0)))) || (!(decide (m1 3=t0Tx))))=true
 ·rw [if_pos hp22] at hr hP ⊢
  exact hr
 ·rw [if_neg hp22] at hr hP ⊢
  exact hr
def tfrom_S (t0Tx : Int) (t0State : Int) (t0Reason : Int) (t0Seq : Int) (t0Open : Bool) (t0Shard : Int) (t0At : NI) (t0Mode : Int) (t0Touched : (List Int)) (t0Votes : (List Int)) (t0Acks : (List Int)) (t0Got : LM) (m1 : NI) (kind2 : Int) (ready3 : Bool) (r : Int) : Prop :=
 (tform_P t0Tx t0State t0Reason t0Seq t0Open t0Shard t0At t0Mode t0Touched t0Votes t0Acks t0Got m1 ([kind2]))∧(
 if (tform_F t0Tx t0State t0Reason t0Seq t0Open t0Shard t0At t0Mode t0Touched t0Votes t0Acks t0Got m1 ([kind2]))=0 then
  if (ready3)=true then
   (hasI_P t0Touched (m1 1))∧(
   if ((hasI_F t0Touched (m1 1)))=true then
    r=(0)
   else
    r=(10))
  else
   r=(11)
 else
  r=((tform_F t0Tx t0State t0Reason t0Seq t0Open t0Shard t0At t0Mode t0Touched t0Votes t0Acks t0Got m1 ([kind2]))))
def tfrom_F (t0Tx : Int) (t0State : Int) (t0Reason : Int) (t0Seq : Int) (t0Open : Bool) (t0Shard : Int) (t0At : NI) (t0Mode : Int) (t0Touched : (List Int)) (t0Votes : (List Int)) (t0Acks : (List Int)) (t0Got : LM) (m1 : NI) (kind2 : Int) (ready3 : Bool) : Int :=
 if (tform_F t0Tx t0State t0Reason t0Seq t0Open t0Shard t0At t0Mode t0Touched t0Votes t0Acks t0Got m1 ([kind2]))=0 then
  if (ready3)=true then
   if ((hasI_F t0Touched (m1 1)))=true then
    0
   else
    10
  else
   11
 else
  (tform_F t0Tx t0State t0Reason t0Seq t0Open t0Shard t0At t0Mode t0Touched t0Votes t0Acks t0Got m1 ([kind2]))
def tfrom_P (t0Tx : Int) (t0State : Int) (t0Reason : Int) (t0Seq : Int) (t0Open : Bool) (t0Shard : Int) (t0At : NI) (t0Mode : Int) (t0Touched : (List Int)) (t0Votes : (List Int)) (t0Acks : (List Int)) (t0Got : LM) (m1 : NI) (kind2 : Int) (ready3 : Bool) : Prop :=
 (tform_P t0Tx t0State t0Reason t0Seq t0Open t0Shard t0At t0Mode t0Touched t0Votes t0Acks t0Got m1 ([kind2]))∧(
 if (tform_F t0Tx t0State t0Reason t0Seq t0Open t0Shard t0At t0Mode t0Touched t0Votes t0Acks t0Got m1 ([kind2]))=0 then
  if (ready3)=true then
   (hasI_P t0Touched (m1 1))∧(
   if ((hasI_F t0Touched (m1 1)))=true then
    True
   else
    True)
  else
   True
 else
  True)
theorem tfrom_ok (t0Tx : Int) (t0State : Int) (t0Reason : Int) (t0Seq : Int) (t0Open : Bool) (t0Shard : Int) (t0At : NI) (t0Mode : Int) (t0Touched : (List Int)) (t0Votes : (List Int)) (t0Acks : (List Int)) (t0Got : LM) (m1 : NI) (kind2 : Int) (ready3 : Bool) (hP : tfrom_P t0Tx t0State t0Reason t0Seq t0Open t0Shard t0At t0Mode t0Touched t0Votes t0Acks t0Got m1 kind2 ready3) : tfrom_S t0Tx t0State t0Reason t0Seq t0Open t0Shard t0At t0Mode t0Touched t0Votes t0Acks t0Got m1 kind2 ready3 (tfrom_F t0Tx t0State t0Reason t0Seq t0Open t0Shard t0At t0Mode t0Touched t0Votes t0Acks t0Got m1 kind2 ready3) := by
 obtain ⟨r,hr⟩ : ∃ r,r=tfrom_F t0Tx t0State t0Reason t0Seq t0Open t0Shard t0At t0Mode t0Touched t0Votes t0Acks t0Got m1 kind2 ready3 := ⟨_,rfl⟩
 rw [← hr]
 unfold tfrom_F at hr
 unfold tfrom_S
 unfold tfrom_P at hP
 obtain ⟨hq0,hP⟩ := hP
 refine ⟨hq0,?_⟩
 by_cases hp23 : (tform_F t0Tx t0State t0Reason t0Seq t0Open t0Shard t0At t0Mode t0Touched t0Votes t0Acks t0Got m1 ([kind2]))=0
 ·rw [if_pos hp23] at hr hP ⊢
  by_cases hp24 : (ready3)=true
  ·rw [if_pos hp24] at hr hP ⊢
   obtain ⟨hq0,hP⟩ := hP
   refine ⟨hq0,?_⟩
   by_cases hp25 : ((hasI_F t0Touched (m1 1)))=true
   ·rw [if_pos hp25] at hr hP ⊢
    exact hr
   ·rw [if_neg hp25] at hr hP ⊢
    exact hr
  ·rw [if_neg hp24] at hr hP ⊢
   exact hr
 ·rw [if_neg hp23] at hr hP ⊢
  exact hr
def tdecision_S (t0Tx : Int) (t0State : Int) (t0Reason : Int) (t0Seq : Int) (t0Open : Bool) (t0Shard : Int) (t0At : NI) (t0Mode : Int) (t0Touched : (List Int)) (t0Votes : (List Int)) (t0Acks : (List Int)) (t0Got : LM) (shards1 : (List Int)) (r : LM) : Prop :=
 (tto_P t0Tx t0State t0Reason t0Seq t0Open t0Shard t0At t0Mode t0Touched t0Votes t0Acks t0Got 6 (if t0State=3 then 1 else 0) shards1)∧(
 r=((tto_F t0Tx t0State t0Reason t0Seq t0Open t0Shard t0At t0Mode t0Touched t0Votes t0Acks t0Got 6 (if t0State=3 then 1 else 0) shards1)))
def tdecision_F (t0Tx : Int) (t0State : Int) (t0Reason : Int) (t0Seq : Int) (t0Open : Bool) (t0Shard : Int) (t0At : NI) (t0Mode : Int) (t0Touched : (List Int)) (t0Votes : (List Int)) (t0Acks : (List Int)) (t0Got : LM) (shards1 : (List Int)) : LM :=
 (tto_F t0Tx t0State t0Reason t0Seq t0Open t0Shard t0At t0Mode t0Touched t0Votes t0Acks t0Got 6 (if t0State=3 then 1 else 0) shards1)
def tdecision_P (t0Tx : Int) (t0State : Int) (t0Reason : Int) (t0Seq : Int) (t0Open : Bool) (t0Shard : Int) (t0At : NI) (t0Mode : Int) (t0Touched : (List Int)) (t0Votes : (List Int)) (t0Acks : (List Int)) (t0Got : LM) (shards1 : (List Int)) : Prop :=
 (tto_P t0Tx t0State t0Reason t0Seq t0Open t0Shard t0At t0Mode t0Touched t0Votes t0Acks t0Got 6 (if t0State=3 then 1 else 0) shards1)∧(
 True)
theorem tdecision_ok (t0Tx : Int) (t0State : Int) (t0Reason : Int) (t0Seq : Int) (t0Open : Bool) (t0Shard : Int) (t0At : NI) (t0Mode : Int) (t0Touched : (List Int)) (t0Votes : (List Int)) (t0Acks : (List Int)) (t0Got : LM) (shards1 : (List Int)) (hP : tdecision_P t0Tx t0State t0Reason t0Seq t0Open t0Shard t0At t0Mode t0Touched t0Votes t0Acks t0Got shards1) : tdecision_S t0Tx t0State t0Reason t0Seq t0Open t0Shard t0At t0Mode t0Touched t0Votes t0Acks t0Got shards1 (tdecision_F t0Tx t0State t0Reason t0Seq t0Open t0Shard t0At t0Mode t0Touched t0Votes t0Acks t0Got shards1) := by
 obtain ⟨r,hr⟩ : ∃ r,r=tdecision_F t0Tx t0State t0Reason t0Seq t0Open t0Shard t0At t0Mode t0Touched t0Votes t0Acks t0Got shards1 := ⟨_,rfl⟩
 rw [← hr]
 unfold tdecision_F at hr
 unfold tdecision_S
 unfold tdecision_P at hP
 obtain ⟨hq0,hP⟩ := hP
 refine ⟨hq0,?_⟩
 exact hr
def tleft_l1 (t0Touched : (List Int)) (but1 : (List Int)) (x8 : Int) (o : (Int) ⊕ ((Unit) ⊕ (Int))) : Prop :=
 if x8 < ((cloneI_F t0Touched).length : Int) then
  (0≤x8∧x8 < (cloneI_F t0Touched).length)∧(
  (hasI_P but1 ((cloneI_F t0Touched)[x8.toNat]!))∧(
  if ((hasI_F but1 ((cloneI_F t0Touched)[x8.toNat]!)))=true then
   o=(.inr (.inr x8))
  else
   (inI64 (x8 + 1))∧(
   o=(.inl (x8 + 1)))))
 else
  o=(.inr (.inl ()))
def tleft_k1a (t0Touched : (List Int)) (r : (List Int)) : Prop :=
 r=((cloneI_F t0Touched))
def tleft_l2 (but1 : (List Int)) (s0 : (List Int)) (i5 : Int) (j6 : Int) (o : ((List Int) × Int × Int) ⊕ ((List Int) × Int)) : Prop :=
 if j6 < (s0.length : Int) then
  (0≤j6∧j6 < s0.length)∧(
  (hasI_P but1 (s0[j6.toNat]!))∧(
  if ((hasI_F but1 (s0[j6.toNat]!)))=true then
   (inI64 (j6 + 1))∧(
   o=(.inl (s0,i5,j6 + 1)))
  else
   (0≤i5∧i5 < s0.length)∧(
   (inI64 (i5 + 1))∧(
   (inI64 (j6 + 1))∧(
   o=(.inl (s0.set (i5.toNat) (s0[j6.toNat]!),i5 + 1,j6 + 1)))))))
 else
  o=(.inr (s0,i5))
def tleft_k2a (s0 : (List Int)) (i5 : Int) (r : (List Int)) : Prop :=
 (0≤i5∧i5≤s0.length)∧(
 (0≤i5∧i5≤(s0.take i5.toNat++List.replicate (s0.length - i5.toNat) 0).length)∧(
 r=(((s0.take i5.toNat++List.replicate (s0.length - i5.toNat) 0).take i5.toNat).drop 0)))
def tleft_k1b (t0Touched : (List Int)) (but1 : (List Int)) (x4 : Int) (r : (List Int)) : Prop :=
 if x4=(-1) then
  r=((cloneI_F t0Touched))
 else
  (inI64 (x4 + 1))∧(
  ∃ x : (List Int) × Int,Wh (fun (s : (List Int) × Int × Int) (o : ((List Int) × Int × Int) ⊕ ((List Int) × Int))=>tleft_l2 but1 s.1 s.2.1 s.2.2 o) (((cloneI_F t0Touched),x4,x4 + 1) : (List Int) × Int × Int) x∧tleft_k2a x.1 x.2 r)
def tleft_S (t0Tx : Int) (t0State : Int) (t0Reason : Int) (t0Seq : Int) (t0Open : Bool) (t0Shard : Int) (t0At : NI) (t0Mode : Int) (t0Touched : (List Int)) (t0Votes : (List Int)) (t0Acks : (List Int)) (t0Got : LM) (but1 : (List Int)) (r : (List Int)) : Prop :=
 (cloneI_P t0Touched)∧(
 ∃ x : (Unit) ⊕ (Int),Wh (fun (s : Int) (o : (Int) ⊕ ((Unit) ⊕ (Int)))=>tleft_l1 t0Touched but1 s o) (0 : Int) x∧(match x with | .inl _=>tleft_k1a t0Touched r | .inr x4=>tleft_k1b t0Touched but1 x4 r))
def tdecided_S (t0Tx : Int) (t0State : Int) (t0Reason : Int) (t0Seq : Int) (t0Open : Bool) (t0Shard : Int) (t0At : NI) (t0Mode : Int) (t0Touched : (List Int)) (t0Votes : (List Int)) (t0Acks : (List Int)) (t0Got : LM) (r : Bool) : Prop :=
 if t0State=3 then
  r=(true)
 else
  if t0State=4 then
   r=(true)
  else
   r=(false)
def tdecided_F (t0Tx : Int) (t0State : Int) (t0Reason : Int) (t0Seq : Int) (t0Open : Bool) (t0Shard : Int) (t0At : NI) (t0Mode : Int) (t0Touched : (List Int)) (t0Votes : (List Int)) (t0Acks : (List Int)) (t0Got : LM) : Bool :=
 if t0State=3 then
  true
 else
  if t0State=4 then
   true
  else
   false
theorem tdecided_ok (t0Tx : Int) (t0State : Int) (t0Reason : Int) (t0Seq : Int) (t0Open : Bool) (t0Shard : Int) (t0At : NI) (t0Mode : Int) (t0Touched : (List Int)) (t0Votes : (List Int)) (t0Acks : (List Int)) (t0Got : LM) : tdecided_S t0Tx t0State t0Reason t0Seq t0Open t0Shard t0At t0Mode t0Touched t0Votes t0Acks t0Got (tdecided_F t0Tx t0State t0Reason t0Seq t0Open t0Shard t0At t0Mode t0Touched t0Votes t0Acks t0Got) := by
 obtain ⟨r,hr⟩ : ∃ r,r=tdecided_F t0Tx t0State t0Reason t0Seq t0Open t0Shard t0At t0Mode t0Touched t0Votes t0Acks t0Got := ⟨_,rfl⟩
 rw [← hr]
 unfold tdecided_F at hr
 unfold tdecided_S
 by_cases hp26 : t0State=3
 ·rw [if_pos hp26] at hr ⊢
  exact hr
 ·rw [if_neg hp26] at hr ⊢
  by_cases hp27 : t0State=4
  ·rw [if_pos hp27] at hr ⊢
   exact hr
  ·rw [if_neg hp27] at hr ⊢
   exact hr
def tnew_S (tx0 : Int) (r : UT × Int) : Prop :=
 if ((decide (tx0 < 1)) || (decide (1048576 < tx0)))=true then
  r=(((0,0,0,0,false,0,(fun _=>0),0,[],[],[],[]),1))
 else
  r=(((tx0,1,0,0,false,0,(fun _=>0),0,[],[],[],[]),0))
def tnew_F (tx0 : Int) : UT × Int :=
 if ((decide (tx0 < 1)) || (decide (1048576 < tx0)))=true then
  ((0,0,0,0,false,0,(fun _=>0),0,[],[],[],[]),1)
 else
  ((tx0,1,0,0,false,0,(fun _=>0),0,[],[],[],[]),0)
theorem tnew_ok (tx0 : Int) : tnew_S tx0 (tnew_F tx0) := by
 obtain ⟨r,hr⟩ : ∃ r,r=tnew_F tx0 := ⟨_,rfl⟩
 rw [← hr]
 unfold tnew_F at hr
 unfold tnew_S
 by_cases hp28 : ((decide (tx0 < 1)) || (decide (1048576 < tx0)))=true
 ·rw [if_pos hp28] at hr ⊢
  exact hr
 ·rw [if_neg hp28] at hr ⊢
  exact hr
def cbegin_S (c0 : NI) (id1 : Int) (tx2 : Int) (r : Int × NI) : Prop :=
 if ((decide (id1 < 1)) || (decide (c0 0 < id1)))=true then
  r=((10,c0))
 else
  (0≤id1∧id1 < 9)∧(
  if ((decide (tx2 < 1)) || (decide (1048576 < tx2)))=true then
   r=((1,c0))
  else
   if ((nz (c0 ((1 + (id1.toNat * 3)) + 2))))=true then
    r=((11,c0))
   else
    if c0 (1 + (id1.toNat * 3))=0 then
     (errIs_P ((cof_F c0 tx2).2) 10)∧(
     if ((errIs_F ((cof_F c0 tx2).2) 10))=true then
      r=((0,(updI c0 (1 + (id1.toNat * 3)) tx2)))
     else
      r=((15,c0)))
    else
     r=((8,c0)))
def cbegin_F (c0 : NI) (id1 : Int) (tx2 : Int) : Int × NI :=
 if ((decide (id1 < 1)) || (decide (c0 0 < id1)))=true then
  (10,c0)
 else
  if ((decide (tx2 < 1)) || (decide (1048576 < tx2)))=true then
   (1,c0)
  else
   if ((nz (c0 ((1 + (id1.toNat * 3)) + 2))))=true then
    (11,c0)
   else
    if c0 (1 + (id1.toNat * 3))=0 then
     if ((errIs_F ((cof_F c0 tx2).2) 10))=true then
      (0,(updI c0 (1 + (id1.toNat * 3)) tx2))
     else
      (15,c0)
    else
     (8,c0)
def cbegin_P (c0 : NI) (id1 : Int) (tx2 : Int) : Prop :=
 if ((decide (id1 < 1)) || (decide (c0 0 < id1)))=true then
  True
 else
  (0≤id1∧id1 < 9)∧(
  if ((decide (tx2 < 1)) || (decide (1048576 < tx2)))=true then
   True
  else
   if ((nz (c0 ((1 + (id1.toNat * 3)) + 2))))=true then
    True
   else
    if c0 (1 + (id1.toNat * 3))=0 then
     (errIs_P ((cof_F c0 tx2).2) 10)∧(
     if ((errIs_F ((cof_F c0 tx2).2) 10))=true then
      True
     else
      True)
    else
     True)
theorem cbegin_ok (c0 : NI) (id1 : Int) (tx2 : Int) (hP : cbegin_P c0 id1 tx2) : cbegin_S c0 id1 tx2 (cbegin_F c0 id1 tx2) := by
 obtain ⟨r,hr⟩ : ∃ r,r=cbegin_F c0 id1 tx2 := ⟨_,rfl⟩
 rw [← hr]
 unfold cbegin_F at hr
 unfold cbegin_S
 unfold cbegin_P at hP
 by_cases hp29 : ((decide (id1 < 1)) || (decide (c0 0 < id1)))=true
 ·rw [if_pos hp29] at hr hP ⊢
  exact hr
 ·rw [if_neg hp29] at hr hP ⊢
  obtain ⟨hq0,hP⟩ := hP
  refine ⟨hq0,?_⟩
  by_cases hp30 : ((decide (tx2 < 1)) || (decide (1048576 < tx2)))=true
  ·rw [if_pos hp30] at hr hP ⊢
   exact hr
  ·rw [if_neg hp30] at hr hP ⊢
   by_cases hp31 : ((nz (c0 ((1 + (id1.toNat * 3)) + 2))))=true
   ·rw [if_pos hp31] at hr hP ⊢
    exact hr
   ·rw [if_neg hp31] at hr hP ⊢
    by_cases hp32 : c0 (1 + (id1.toNat * 3))=0
    ·rw [if_pos hp32] at hr hP ⊢
     obtain ⟨hq0,hP⟩ := hP
     refine ⟨hq0,?_⟩
     by_cases hp33 : ((errIs_F ((cof_F c0 tx2).2) 10))=true
     ·rw [if_pos hp33] at hr hP ⊢
      exact hr
     ·rw [if_neg hp33] at hr hP ⊢
      exact hr
    ·rw [if_neg hp32] at hr hP ⊢
     exact hr
def cend_S (c0 : NI) (tx1 : Int) (r : Int × NI) : Prop :=
 if (cof_F c0 tx1).2=0 then
  (0≤(cof_F c0 tx1).1∧(cof_F c0 tx1).1 < 9)∧(
  r=((0,(updI c0 (1 + (((cof_F c0 tx1).1).toNat * 3)) 0))))
 else
  r=(((cof_F c0 tx1).2,c0))
def cend_F (c0 : NI) (tx1 : Int) : Int × NI :=
 if (cof_F c0 tx1).2=0 then
  (0,(updI c0 (1 + (((cof_F c0 tx1).1).toNat * 3)) 0))
 else
  ((cof_F c0 tx1).2,c0)
def cend_P (c0 : NI) (tx1 : Int) : Prop :=
 if (cof_F c0 tx1).2=0 then
  (0≤(cof_F c0 tx1).1∧(cof_F c0 tx1).1 < 9)∧(
  True)
 else
  True
theorem cend_ok (c0 : NI) (tx1 : Int) (hP : cend_P c0 tx1) : cend_S c0 tx1 (cend_F c0 tx1) := by
 obtain ⟨r,hr⟩ : ∃ r,r=cend_F c0 tx1 := ⟨_,rfl⟩
 rw [← hr]
 unfold cend_F at hr
 unfold cend_S
 unfold cend_P at hP
 by_cases hp34 : (cof_F c0 tx1).2=0
 ·rw [if_pos hp34] at hr hP ⊢
  obtain ⟨hq0,hP⟩ := hP
  refine ⟨hq0,?_⟩
  exact hr
 ·rw [if_neg hp34] at hr hP ⊢
  exact hr
def cnow_S (c0 : NI) (id1 : Int) (r : Int × Int) : Prop :=
 if ((decide (id1 < 1)) || (decide (c0 0 < id1)))=true then
  r=((0,10))
 else
  (0≤id1∧id1 < 9)∧(
  if c0 (1 + (id1.toNat * 3))=0 then
   r=((0,10))
  else
   r=((c0 (1 + (id1.toNat * 3)),0)))
def cnow_F (c0 : NI) (id1 : Int) : Int × Int :=
 if ((decide (id1 < 1)) || (decide (c0 0 < id1)))=true then
  (0,10)
 else
  if c0 (1 + (id1.toNat * 3))=0 then
   (0,10)
  else
   (c0 (1 + (id1.toNat * 3)),0)
def cnow_P (c0 : NI) (id1 : Int) : Prop :=
 if ((decide (id1 < 1)) || (decide (c0 0 < id1)))=true then
  True
 else
  (0≤id1∧id1 < 9)∧(
  if c0 (1 + (id1.toNat * 3))=0 then
   True
  else
   True)
theorem cnow_ok (c0 : NI) (id1 : Int) (hP : cnow_P c0 id1) : cnow_S c0 id1 (cnow_F c0 id1) := by
 obtain ⟨r,hr⟩ : ∃ r,r=cnow_F c0 id1 := ⟨_,rfl⟩
 rw [← hr]
 unfold cnow_F at hr
 unfold cnow_S
 unfold cnow_P at hP
 by_cases hp35 : ((decide (id1 < 1)) || (decide (c0 0 < id1)))=true
 ·rw [if_pos hp35] at hr hP ⊢
  exact hr
 ·rw [if_neg hp35] at hr hP ⊢
  obtain ⟨hq0,hP⟩ := hP
  refine ⟨hq0,?_⟩
  by_cases hp36 : c0 (1 + (id1.toNat * 3))=0
  ·rw [if_pos hp36] at hr hP ⊢
   exact hr
  ·rw [if_neg hp36] at hr hP ⊢
   exact hr
def ccrash_S (c0 : NI) (id1 : Int) (now2 : Int) (r : Int × NI) : Prop :=
 if ((decide (id1 < 1)) || (decide (c0 0 < id1)))=true then
  r=((10,c0))
 else
  (0≤id1∧id1 < 9)∧(
  if ((decide (now2 < 0)) || (decide (1099511627776 < now2)))=true then
   r=((1,c0))
  else
   if ((nz (c0 ((1 + (id1.toNat * 3)) + 2))))=true then
    r=((11,c0))
   else
    r=((0,(updI (updI c0 ((1 + (id1.toNat * 3)) + 2) (bI true)) ((1 + (id1.toNat * 3)) + 1) now2))))
def ccrash_F (c0 : NI) (id1 : Int) (now2 : Int) : Int × NI :=
 if ((decide (id1 < 1)) || (decide (c0 0 < id1)))=true then
  (10,c0)
 else
  if ((decide (now2 < 0)) || (decide (1099511627776 < now2)))=true then
   (1,c0)
  else
   if ((nz (c0 ((1 + (id1.toNat * 3)) + 2))))=true then
    (11,c0)
   else
    (0,(updI (updI c0 ((1 + (id1.toNat * 3)) + 2) (bI true)) ((1 + (id1.toNat * 3)) + 1) now2))
def ccrash_P (c0 : NI) (id1 : Int) (now2 : Int) : Prop :=
 if ((decide (id1 < 1)) || (decide (c0 0 < id1)))=true then
  True
 else
  (0≤id1∧id1 < 9)∧(
  if ((decide (now2 < 0)) || (decide (1099511627776 < now2)))=true then
   True
  else
   if ((nz (c0 ((1 + (id1.toNat * 3)) + 2))))=true then
    True
   else
    True)
theorem ccrash_ok (c0 : NI) (id1 : Int) (now2 : Int) (hP : ccrash_P c0 id1 now2) : ccrash_S c0 id1 now2 (ccrash_F c0 id1 now2) := by
 obtain ⟨r,hr⟩ : ∃ r,r=ccrash_F c0 id1 now2 := ⟨_,rfl⟩
 rw [← hr]
 unfold ccrash_F at hr
 unfold ccrash_S
 unfold ccrash_P at hP
 by_cases hp37 : ((decide (id1 < 1)) || (decide (c0 0 < id1)))=true
 ·rw [if_pos hp37] at hr hP ⊢
  exact hr
 ·rw [if_neg hp37] at hr hP ⊢
  obtain ⟨hq0,hP⟩ := hP
  refine ⟨hq0,?_⟩
  by_cases hp38 : ((decide (now2 < 0)) || (decide (1099511627776 < now2)))=true
  ·rw [if_pos hp38] at hr hP ⊢
   exact hr
  ·rw [if_neg hp38] at hr hP ⊢
   by_cases hp39 : ((nz (c0 ((1 + (id1.toNat * 3)) + 2))))=true
   ·rw [if_pos hp39] at hr hP ⊢
    exact hr
   ·rw [if_neg hp39] at hr hP ⊢
    exact hr
def calive_S (c0 : NI) (id1 : Int) (r : Bool) : Prop :=
 if ((decide (id1 < 1)) || (decide (c0 0 < id1)))=true then
  r=(false)
 else
  (0≤id1∧id1 < 9)∧(
  r=(!((nz (c0 ((1 + (id1.toNat * 3)) + 2))))))
def calive_F (c0 : NI) (id1 : Int) : Bool :=
 if ((decide (id1 < 1)) || (decide (c0 0 < id1)))=true then
  false
 else
  !((nz (c0 ((1 + (id1.toNat * 3)) + 2))))
def calive_P (c0 : NI) (id1 : Int) : Prop :=
 if ((decide (id1 < 1)) || (decide (c0 0 < id1)))=true then
  True
 else
  (0≤id1∧id1 < 9)∧(
  True)
theorem calive_ok (c0 : NI) (id1 : Int) (hP : calive_P c0 id1) : calive_S c0 id1 (calive_F c0 id1) := by
 obtain ⟨r,hr⟩ : ∃ r,r=calive_F c0 id1 := ⟨_,rfl⟩
 rw [← hr]
 unfold calive_F at hr
 unfold calive_S
 unfold calive_P at hP
 by_cases hp40 : ((decide (id1 < 1)) || (decide (c0 0 < id1)))=true
 ·rw [if_pos hp40] at hr hP ⊢
  exact hr
 ·rw [if_neg hp40] at hr hP ⊢
  obtain ⟨hq0,hP⟩ := hP
  refine ⟨hq0,?_⟩
  exact hr
def clost_l1 (c0 : NI) (now1 : Int) (span2 : Int) (out7 : (List Int)) (x28 : Int) (o : ((List Int) × Int) ⊕ ((List Int))) : Prop :=
 if x28 < 9 then
  (0≤x28∧x28 < 9)∧(
  (((((nz (c0 (1 + ((x28.toNat * 3) + 2))))) && (!(decide (c0 (1 + (x28.toNat * 3))=0))))=true) → inI64 (now1 - (c0 (1 + ((x28.toNat * 3) + 1)))))∧(
  if ((((nz (c0 (1 + ((x28.toNat * 3) + 2))))) && (!(decide (c0 (1 + (x28.toNat * 3))=0)))) && (decide (span2≤now1 - (c0 (1 + ((x28.toNat * 3) + 1))))))=true then
   ((out7.length + 1) * 8≤140737488355328)∧(
   (inI64 (x28 + 1))∧(
   o=(.inl ((out7++[c0 (1 + (x28.toNat * 3))]),x28 + 1))))
  else
   (inI64 (x28 + 1))∧(
   o=(.inl (out7,x28 + 1)))))
 else
  o=(.inr out7)
def clost_k1a (out7 : (List Int)) (r : (List Int)) : Prop :=
 (sortP out7)∧(
 r=((sortL out7)))
def clost_S (c0 : NI) (now1 : Int) (span2 : Int) (r : (List Int)) : Prop :=
 if (((decide (now1 < 0)) || (decide (1099511627776 < now1))) || (decide (span2 < 0)))=true then
  r=([])
 else
  ∃ x : (List Int),Wh (fun (s : (List Int) × Int) (o : ((List Int) × Int) ⊕ ((List Int)))=>clost_l1 c0 now1 span2 s.1 s.2 o) (([],0) : (List Int) × Int) x∧clost_k1a x r
end Go.E
namespace Go.E
open Go
def leftL (l but : List Int) : List Int := l.filter fun x=>!hasI_F but x
def tleft_F (_tx _st _re _sq : Int) (_op : Bool) (_sh : Int) (_at : Nat → Int) (_mo : Int) (to_ _vo _ac : List Int) (_go : LM) (but : List Int) : List Int := leftL to_ but
def tleft_P (_tx _st _re _sq : Int) (_op : Bool) (_sh : Int) (_at : Nat → Int) (_mo : Int) (to_ _vo _ac : List Int) (_go : LM) (but : List Int) : Prop := to_.length≤1000000000∧but.length≤1000000000
theorem take_succ! (l : List Int) {k : Nat} (h : k < l.length) : l.take (k + 1)=l.take k++[l[k]!] := by
 rw [List.take_add_one,List.getElem?_eq_getElem h,getk h]; rfl
theorem leftL_take (l but : List Int) {k : Nat} (h : k < l.length) : leftL (l.take (k + 1)) but=leftL (l.take k) but++if hasI_F but (l[k]!)=true then [] else [l[k]!] := by
 unfold leftL
 rw [take_succ! l h,List.filter_append]
 generalize l[k]! = x
 congr 1
 by_cases hc : hasI_F but x=true
 ·rw [if_pos hc,List.filter_cons_of_neg (by rw [hc]; decide)]; rfl
 ·rw [if_neg hc,List.filter_cons_of_pos (by simpa using hc)]; rfl
theorem tleft_ok (tx st re sq : Int) (op : Bool) (sh : Int) (at_ : Nat → Int) (mo : Int) (to_ vo ac : List Int) (go : LM) (but : List Int) (h : tleft_P tx st re sq op sh at_ mo to_ vo ac go but) :
  tleft_S tx st re sq op sh at_ mo to_ vo ac go but (tleft_F tx st re sq op sh at_ mo to_ vo ac go but) := by
 obtain ⟨hl,hb⟩ := h
 unfold tleft_S tleft_F
 refine ⟨hl,?_⟩
 have hcl : cloneI_F to_=to_ := rfl
 obtain ⟨r,hr,h2⟩ := Wh.by (f := fun (s : Int) (o : (Int) ⊕ ((Unit) ⊕ (Int)))=>tleft_l1 to_ but s o) (fun s=>∃ k : Nat,s=(k : Int)∧k≤to_.length∧leftL (to_.take k) but=to_.take k) (fun s=>to_.length - s.toNat)
   (fun r=>(r=.inl ()∧leftL to_ but=to_)∨∃ k : Nat,r=.inr (k : Int)∧k < to_.length∧leftL (to_.take k) but=to_.take k∧hasI_F but (to_[k]!)=true) (s := (0 : Int)) ⟨0,rfl,by simp,by simp [leftL]⟩ (by
  rintro s ⟨k,rfl,hk,hL⟩
  by_cases hlt : k < to_.length
  ·by_cases hc : hasI_F but (to_[k]!)=true
   ·right
    refine ⟨.inr (k : Int),?_,.inr ⟨k,rfl,hlt,hL,hc⟩⟩
    unfold tleft_l1
    rw [hcl,Int.toNat_natCast,if_pos (by omega),if_pos hc]
    exact ⟨⟨by omega,by omega⟩,hb,rfl⟩
   ·left
    refine ⟨((k : Int) + 1),?_,⟨k + 1,by simp,hlt,by rw [leftL_take _ _ hlt,hL,if_neg hc,take_succ! _ hlt]⟩,by omega⟩
    unfold tleft_l1
    rw [hcl,Int.toNat_natCast,if_pos (by omega),if_neg hc]
    exact ⟨⟨by omega,by omega⟩,hb,step1 (by omega),rfl⟩
  ·right
   refine ⟨.inl (),?_,.inl ⟨rfl,by rw [List.take_of_length_le (by omega)] at hL; exact hL⟩⟩
   unfold tleft_l1
   rw [hcl,if_neg (by omega)])
 refine ⟨r,hr,?_⟩
 rcases h2 with ⟨rfl,h2⟩ | ⟨k,rfl,hk,hL,hc⟩
 ·show tleft_k1a to_ (leftL to_ but)
  unfold tleft_k1a
  rw [h2,hcl]
 ·show tleft_k1b to_ but (k : Int) (leftL to_ but)
  unfold tleft_k1b
  rw [if_neg (by omega),hcl]
  refine ⟨step1 (by omega),?_⟩
  obtain ⟨x,hx,h3⟩ := Wh.by (f := fun (s : (List Int) × Int × Int) (o : ((List Int) × Int × Int) ⊕ ((List Int) × Int))=>tleft_l2 but s.1 s.2.1 s.2.2 o) (fun s=>∃ i j : Nat,s.2.1=(i : Int)∧s.2.2=(j : Int)∧i < j∧j≤to_.length∧s.1.length=to_.length∧s.1.take i=leftL (to_.take j) but∧∀ q,j≤q → q < to_.length → s.1[q]! = to_[q]!) (fun s=>to_.length - s.2.2.toNat)
    (fun x=>∃ i : Nat,x.2=(i : Int)∧i≤x.1.length∧x.1.take i=leftL to_ but) (s := ((to_,(k : Int),(k : Int) + 1) : (List Int) × Int × Int)) ⟨k,k + 1,rfl,by simp,by omega,hk,rfl,by rw [leftL_take _ _ hk,hL,if_pos hc]; simp,fun _ _ _=>rfl⟩ (by
   rintro ⟨s,i',j'⟩ ⟨i,j,h1,h2,hij,hj,hsl,ht,hq⟩
   dsimp only at h1 h2 hsl ht hq
   subst h1
   subst h2
   by_cases hlt : j < to_.length
   ·left
    have e := hq j (Nat.le_refl _) hlt
    by_cases hcj : hasI_F but (to_[j]!)=true
    ·refine ⟨(s,(i : Int),(j : Int) + 1),?_,⟨i,j + 1,rfl,by simp,by omega,hlt,hsl,by rw [leftL_take _ _ hlt,if_pos hcj,List.append_nil]; exact ht,fun q h1 h2=>hq q (by omega) h2⟩,by dsimp only; omega⟩
     dsimp only
     unfold tleft_l2
     rw [Int.toNat_natCast,Int.toNat_natCast,if_pos (by omega),e,if_pos hcj]
     exact ⟨⟨by omega,by omega⟩,hb,step1 (by omega),rfl⟩
    ·refine ⟨(s.set i (to_[j]!),(i : Int) + 1,(j : Int) + 1),?_,⟨i + 1,j + 1,by simp,by simp,by omega,hlt,by simpa using hsl,?_,fun q h1 h2=>?_⟩,by dsimp only; omega⟩
     ·dsimp only
      unfold tleft_l2
      rw [Int.toNat_natCast,Int.toNat_natCast,if_pos (by omega),e,if_neg hcj]
      exact ⟨⟨by omega,by omega⟩,hb,⟨by omega,by omega⟩,step1 (by omega),step1 (by omega),rfl⟩
     ·dsimp only
      rw [leftL_take _ _ hlt,if_neg hcj,← ht,take_succ! _ (by simp; omega),List.take_set_of_le (Nat.le_refl _),getk (by simp; omega),List.getElem_set_self]
     ·dsimp only
      rw [getk (by simp; omega),List.getElem_set_ne (by omega),← getk (by omega),hq q (by omega) h2]
   ·right
    refine ⟨(s,(i : Int)),?_,i,rfl,by dsimp only; omega,?_⟩
    ·dsimp only
     unfold tleft_l2
     rw [if_neg (by omega)]
    ·dsimp only
     rw [ht,List.take_of_length_le (by omega)])
  refine ⟨x,hx,?_⟩
  obtain ⟨s,i'⟩ := x
  obtain ⟨i,h1,h2,h3⟩ := h3
  dsimp only at h1 h2 h3
  subst h1
  dsimp only
  unfold tleft_k2a
  rw [Int.toNat_natCast]
  refine ⟨⟨by omega,by omega⟩,⟨by omega,by simp; omega⟩,?_⟩
  rw [← h3,List.drop_zero,List.take_append_of_le_length (by simp; omega),List.take_take,Nat.min_self]
end Go.E
namespace Go.E
open Go
def insS (x : Int) : List Int → List Int
 | []=>[x]
 | y::r=>if x≤y then x::y::r else y::insS x r
def isort (l : List Int) : List Int := l.foldr insS []
theorem perm_insS (x : Int) (l : List Int) : (insS x l).Perm (x::l) := by
 induction l with
 | nil=>exact .refl _
 | cons y l ih =>
  unfold insS
  split
  ·exact .refl _
  ·exact (List.Perm.cons y ih).trans (List.Perm.swap x y l)
theorem perm_isort (l : List Int) : (isort l).Perm l := by
 induction l with
 | nil=>exact .refl _
 | cons x l ih=>exact (perm_insS x _).trans (ih.cons x)
theorem sorted_insS {x : Int} {l : List Int} (h : l.Pairwise fun a b=>a≤b) : (insS x l).Pairwise fun a b=>a≤b := by
 induction l with
 | nil=>simp [insS]
 | cons y l ih =>
  have hy := List.pairwise_cons.1 h
  unfold insS
  split
  ·rename_i hxy
   refine List.pairwise_cons.2 ⟨fun z hz=>?_,h⟩
   rcases List.mem_cons.1 hz with rfl | hz
   ·exact hxy
   ·have := hy.1 z hz; omega
  ·rename_i hxy
   refine List.pairwise_cons.2 ⟨fun z hz=>?_,ih hy.2⟩
   rcases List.mem_cons.1 ((perm_insS x l).mem_iff.1 hz) with rfl | hz
   ·omega
   ·exact hy.1 z hz
theorem sorted_isort (l : List Int) : (isort l).Pairwise fun a b=>a≤b := by
 induction l with
 | nil=>exact .nil
 | cons x l ih=>exact sorted_insS ih
theorem sortL_eq (l : List Int) : sortL l=isort l := by
 have hs : (sortL l).Pairwise (fun a b=>a≤b) := by
  have := List.pairwise_mergeSort (le := leI) (fun a b c h1 h2=>by simp only [leI,decide_eq_true_eq] at *; omega) (fun a b=>by simp only [leI,Bool.or_eq_true,decide_eq_true_eq]; omega) l
  exact this.imp fun h=>by simpa [leI] using h
 exact List.Perm.eq_of_pairwise (le := fun a b=>a≤b) (fun a b _ _ h1 h2=>by omega) hs (sorted_isort l) ((List.mergeSort_perm _ _).trans (perm_isort l).symm)
theorem len_isort (l : List Int) : (isort l).length=l.length := (perm_isort l).length_eq
def lostB (c : Nat → Int) (now span : Int) (j : Nat) : Bool := ((nz (c (1 + (j * 3 + 2)))) && (!(decide (c (1 + j * 3)=0)))) && (decide (span≤now - c (1 + (j * 3 + 1))))
def lostL (c : Nat → Int) (now span : Int) (k : Nat) : List Int := ((List.range k).filter (lostB c now span)).map fun j=>c (1 + j * 3)
def badT (now span : Int) : Bool := ((decide (now < 0)) || (decide (1099511627776 < now))) || (decide (span < 0))
def clost_F (c : Nat → Int) (now span : Int) : List Int := if badT now span=true then [] else isort (lostL c now span 9)
def clost_P (c : Nat → Int) (_ _ : Int) : Prop := ∀ j,j < 9 → 0≤c (1 + (j * 3 + 1))∧c (1 + (j * 3 + 1))≤1099511627776
theorem lostL_len (c : Nat → Int) (now span : Int) (k : Nat) : (lostL c now span k).length≤k := by
 unfold lostL
 rw [List.length_map]
 exact Nat.le_trans (List.length_filter_le _ _) (by simp)
theorem lostL_succ (c : Nat → Int) (now span : Int) (k : Nat) : lostL c now span (k + 1)=lostL c now span k++(if lostB c now span k=true then [c (1 + k * 3)] else []) := by
 unfold lostL
 rw [List.range_succ,List.filter_append,List.map_append]
 congr 1
 by_cases h : lostB c now span k=true <;> simp [h]
theorem clost_ok (c : Nat → Int) (now span : Int) (h : clost_P c now span) : clost_S c now span (clost_F c now span) := by
 unfold clost_S clost_F
 refine ite_intro (fun h1=>?_) fun h1=>?_
 ·rw [if_pos (c := badT now span=true) h1]
 ·rw [if_neg (c := badT now span=true) h1]
  simp only [Bool.or_eq_true,decide_eq_true_eq,not_or,Int.not_lt] at h1
  refine ⟨lostL c now span 9,?_,?_⟩
  ·have := Wh.upto (f := fun (s : (List Int) × Int) (o : ((List Int) × Int) ⊕ ((List Int)))=>clost_l1 c now span s.1 s.2 o) (fun k : Nat=>(lostL c now span k,(k : Int))) 9 (r := lostL c now span 9) (fun k hk=>by
    have hb := lostL_len c now span k
    have hc := h k hk
    dsimp only
    unfold clost_l1
    rw [if_pos (by omega),Int.toNat_natCast,lostL_succ]
    refine ⟨⟨by omega,by omega⟩,fun _=>⟨by omega,by omega⟩,ite_intro (fun h2=>?_) fun h2=>?_⟩
    ·rw [if_pos (c := lostB c now span k=true) h2]
     exact ⟨by omega,⟨by omega,by omega⟩,rfl⟩
    ·rw [if_neg (c := lostB c now span k=true) h2,List.append_nil]
     exact ⟨⟨by omega,by omega⟩,rfl⟩) (by
    dsimp only
    unfold clost_l1
    rw [if_neg (by omega)])
   simpa [lostL] using this
  ·unfold clost_k1a
   have := lostL_len c now span 9
   exact ⟨by unfold sortP; omega,(sortL_eq _).symm⟩
end Go.E
namespace Go.E
open Go
def task_S (t0Tx : Int) (t0State : Int) (t0Reason : Int) (t0Seq : Int) (t0Open : Bool) (t0Shard : Int) (t0At : NI) (t0Mode : Int) (t0Touched : (List Int)) (t0Votes : (List Int)) (t0Acks : (List Int)) (t0Got : LM) (shard1 : Int) (at2 : NI) (m3 : Int) (r : UT × LM × Int) : Prop :=
 if (((((decide (shard1 < 1)) || (decide (64 < shard1))) || (!((resOk_F at2)))) || (decide (m3 < 1))) || (decide (4 < m3)))=true then
  (own_P t0Tx t0State t0Reason t0Seq t0Open t0Shard t0At t0Mode t0Touched t0Votes t0Acks t0Got)∧(
  r=(((t0Tx,t0State,t0Reason,t0Seq,t0Open,t0Shard,t0At,t0Mode,t0Touched,t0Votes,t0Acks,t0Got),[],1)))
 else
  if (tfree_F t0Tx t0State t0Reason t0Seq t0Open t0Shard t0At t0Mode t0Touched t0Votes t0Acks t0Got)=0 then
   if t0Seq=1048576 then
    (own_P t0Tx t0State t0Reason t0Seq t0Open t0Shard t0At t0Mode t0Touched t0Votes t0Acks t0Got)∧(
    r=(((t0Tx,t0State,t0Reason,t0Seq,t0Open,t0Shard,t0At,t0Mode,t0Touched,t0Votes,t0Acks,t0Got),[],6)))
   else
    (own_P t0Tx t0State t0Reason t0Seq t0Open t0Shard t0At t0Mode t0Touched t0Votes t0Acks t0Got)∧(
    (inI64 (t0Seq + 1))∧(
    (search_P t0Touched shard1)∧(
    if ((search_F t0Touched shard1).2)=true then
     r=(((t0Tx,t0State,t0Reason,t0Seq + 1,true,shard1,at2,m3,t0Touched,t0Votes,t0Acks,t0Got),[(tlock_F t0Tx t0State t0Reason (t0Seq + 1) true shard1 at2 m3 t0Touched t0Votes t0Acks t0Got)],0))
    else
     (cloneI_P t0Touched)∧(
     (0≤(search_F t0Touched shard1).1∧(search_F t0Touched shard1).1≤((cloneI_F t0Touched).length : Int))∧(
     (sortP (cloneI_F t0Touched))∧(
     r=(((t0Tx,t0State,t0Reason,t0Seq + 1,true,shard1,at2,m3,(insL1 (cloneI_F t0Touched) ((search_F t0Touched shard1).1).toNat shard1),t0Votes,t0Acks,t0Got),[(tlock_F t0Tx t0State t0Reason (t0Seq + 1) true shard1 at2 m3 (insL1 (cloneI_F t0Touched) ((search_F t0Touched shard1).1).toNat shard1) t0Votes t0Acks t0Got)],0))))))))
  else
   (own_P t0Tx t0State t0Reason t0Seq t0Open t0Shard t0At t0Mode t0Touched t0Votes t0Acks t0Got)∧(
   r=(((t0Tx,t0State,t0Reason,t0Seq,t0Open,t0Shard,t0At,t0Mode,t0Touched,t0Votes,t0Acks,t0Got),[],(tfree_F t0Tx t0State t0Reason t0Seq t0Open t0Shard t0At t0Mode t0Touched t0Votes t0Acks t0Got))))
def task_F (t0Tx : Int) (t0State : Int) (t0Reason : Int) (t0Seq : Int) (t0Open : Bool) (t0Shard : Int) (t0At : NI) (t0Mode : Int) (t0Touched : (List Int)) (t0Votes : (List Int)) (t0Acks : (List Int)) (t0Got : LM) (shard1 : Int) (at2 : NI) (m3 : Int) : UT × LM × Int :=
 if (((((decide (shard1 < 1)) || (decide (64 < shard1))) || (!((resOk_F at2)))) || (decide (m3 < 1))) || (decide (4 < m3)))=true then
  ((t0Tx,t0State,t0Reason,t0Seq,t0Open,t0Shard,t0At,t0Mode,t0Touched,t0Votes,t0Acks,t0Got),[],1)
 else
  if (tfree_F t0Tx t0State t0Reason t0Seq t0Open t0Shard t0At t0Mode t0Touched t0Votes t0Acks t0Got)=0 then
   if t0Seq=1048576 then
    ((t0Tx,t0State,t0Reason,t0Seq,t0Open,t0Shard,t0At,t0Mode,t0Touched,t0Votes,t0Acks,t0Got),[],6)
   else
    if ((search_F t0Touched shard1).2)=true then
     ((t0Tx,t0State,t0Reason,t0Seq + 1,true,shard1,at2,m3,t0Touched,t0Votes,t0Acks,t0Got),[(tlock_F t0Tx t0State t0Reason (t0Seq + 1) true shard1 at2 m3 t0Touched t0Votes t0Acks t0Got)],0)
    else
     ((t0Tx,t0State,t0Reason,t0Seq + 1,true,shard1,at2,m3,(insL1 (cloneI_F t0Touched) ((search_F t0Touched shard1).1).toNat shard1),t0Votes,t0Acks,t0Got),[(tlock_F t0Tx t0State t0Reason (t0Seq + 1) true shard1 at2 m3 (insL1 (cloneI_F t0Touched) ((search_F t0Touched shard1).1).toNat shard1) t0Votes t0Acks t0Got)],0)
  else
   ((t0Tx,t0State,t0Reason,t0Seq,t0Open,t0Shard,t0At,t0Mode,t0Touched,t0Votes,t0Acks,t0Got),[],(tfree_F t0Tx t0State t0Reason t0Seq t0Open t0Shard t0At t0Mode t0Touched t0Votes t0Acks t0Got))
def task_P (t0Tx : Int) (t0State : Int) (t0Reason : Int) (t0Seq : Int) (t0Open : Bool) (t0Shard : Int) (t0At : NI) (t0Mode : Int) (t0Touched : (List Int)) (t0Votes : (List Int)) (t0Acks : (List Int)) (t0Got : LM) (shard1 : Int) (at2 : NI) (m3 : Int) : Prop :=
 if (((((decide (shard1 < 1)) || (decide (64 < shard1))) || (!((resOk_F at2)))) || (decide (m3 < 1))) || (decide (4 < m3)))=true then
  (own_P t0Tx t0State t0Reason t0Seq t0Open t0Shard t0At t0Mode t0Touched t0Votes t0Acks t0Got)∧(
  True)
 else
  if (tfree_F t0Tx t0State t0Reason t0Seq t0Open t0Shard t0At t0Mode t0Touched t0Votes t0Acks t0Got)=0 then
   if t0Seq=1048576 then
    (own_P t0Tx t0State t0Reason t0Seq t0Open t0Shard t0At t0Mode t0Touched t0Votes t0Acks t0Got)∧(
    True)
   else
    (own_P t0Tx t0State t0Reason t0Seq t0Open t0Shard t0At t0Mode t0Touched t0Votes t0Acks t0Got)∧(
    (inI64 (t0Seq + 1))∧(
    (search_P t0Touched shard1)∧(
    if ((search_F t0Touched shard1).2)=true then
     True
    else
     (cloneI_P t0Touched)∧(
     (0≤(search_F t0Touched shard1).1∧(search_F t0Touched shard1).1≤((cloneI_F t0Touched).length : Int))∧(
     (sortP (cloneI_F t0Touched))∧(
     True))))))
  else
   (own_P t0Tx t0State t0Reason t0Seq t0Open t0Shard t0At t0Mode t0Touched t0Votes t0Acks t0Got)∧(
   True)
theorem task_ok (t0Tx : Int) (t0State : Int) (t0Reason : Int) (t0Seq : Int) (t0Open : Bool) (t0Shard : Int) (t0At : NI) (t0Mode : Int) (t0Touched : (List Int)) (t0Votes : (List Int)) (t0Acks : (List Int)) (t0Got : LM) (shard1 : Int) (at2 : NI) (m3 : Int) (hP : task_P t0Tx t0State t0Reason t0Seq t0Open t0Shard t0At t0Mode t0Touched t0Votes t0Acks t0Got shard1 at2 m3) : task_S t0Tx t0State t0Reason t0Seq t0Open t0Shard t0At t0Mode t0Touched t0Votes t0Acks t0Got shard1 at2 m3 (task_F t0Tx t0State t0Reason t0Seq t0Open t0Shard t0At t0Mode t0Touched t0Votes t0Acks t0Got shard1 at2 m3) := by
 obtain ⟨r,hr⟩ : ∃ r,r=task_F t0Tx t0State t0Reason t0Seq t0Open t0Shard t0At t0Mode t0Touched t0Votes t0Acks t0Got shard1 at2 m3 := ⟨_,rfl⟩
 rw [← hr]
 unfold task_F at hr
 unfold task_S
 unfold task_P at hP
 by_cases hp41 : (((((decide (shard1 < 1)) || (decide (64 < shard1))) || (!((resOk_F at2)))) || (decide (m3 < 1))) || (decide (4 < m3)))=true
 ·rw [if_pos hp41] at hr hP ⊢
  obtain ⟨hq0,hP⟩ := hP
  refine ⟨hq0,?_⟩
  exact hr
 ·rw [if_neg hp41] at hr hP ⊢
  by_cases hp42 : (tfree_F t0Tx t0State t0Reason t0Seq t0Open t0Shard t0At t0Mode t0Touched t0Votes t0Acks t0Got)=0
  ·rw [if_pos hp42] at hr hP ⊢
   by_cases hp43 : t0Seq=1048576
   ·rw [if_pos hp43] at hr hP ⊢
    obtain ⟨hq0,hP⟩ := hP
    refine ⟨hq0,?_⟩
    exact hr
   ·rw [if_neg hp43] at hr hP ⊢
    obtain ⟨hq0,hP⟩ := hP
    refine ⟨hq0,?_⟩
    obtain ⟨hq0,hP⟩ := hP
    refine ⟨hq0,?_⟩
    obtain ⟨hq0,hP⟩ := hP
    refine ⟨hq0,?_⟩
    by_cases hp44 : ((search_F t0Touched shard1).2)=true
    ·rw [if_pos hp44] at hr hP ⊢
     exact hr
    ·rw [if_neg hp44] at hr hP ⊢
     obtain ⟨hq0,hP⟩ := hP
     refine ⟨hq0,?_⟩
     obtain ⟨hq0,hP⟩ := hP
     refine ⟨hq0,?_⟩
     obtain ⟨hq0,hP⟩ := hP
     refine ⟨hq0,?_⟩
     exact hr
  ·rw [if_neg hp42] at hr hP ⊢
   obtain ⟨hq0,hP⟩ := hP
   refine ⟨hq0,?_⟩
   exact hr
def tanswered_S (t0Tx : Int) (t0State : Int) (t0Reason : Int) (t0Seq : Int) (t0Open : Bool) (t0Shard : Int) (t0At : NI) (t0Mode : Int) (t0Touched : (List Int)) (t0Votes : (List Int)) (t0Acks : (List Int)) (t0Got : LM) (m1 : NI) (r : UT × Int) : Prop :=
 (own_P t0Tx t0State t0Reason t0Seq t0Open t0Shard t0At t0Mode t0Touched t0Votes t0Acks t0Got)∧(
 (tform_P t0Tx t0State t0Reason t0Seq t0Open t0Shard t0At t0Mode t0Touched t0Votes t0Acks t0Got m1 ([2,3]))∧(
 if (tform_F t0Tx t0State t0Reason t0Seq t0Open t0Shard t0At t0Mode t0Touched t0Votes t0Acks t0Got m1 ([2,3]))=0 then
  if t0State=1 then
   if ((((!(t0Open)) || (!(decide (m1 4=t0Seq)))) || (!(decide (m1 1=t0Shard)))) || ((decide (m1 0=2)) && (!((eqN 2 (fun i=>m1 (5 + i)) t0At)))))=true then
    r=(((t0Tx,t0State,t0Reason,t0Seq,t0Open,t0Shard,t0At,t0Mode,t0Touched,t0Votes,t0Acks,t0Got),14))
   else
    if m1 0=2 then
     ((t0Got.length + 1) * 40≤140737488355328)∧(
     r=(((t0Tx,t0State,t0Reason,t0Seq,false,t0Shard,t0At,t0Mode,t0Touched,t0Votes,t0Acks,(t0Got++[(updI (updRI (updI (updI (fun _=>0) 0 (m1 3)) 1 (m1 4)) 2 2 (fun i=>m1 (5 + i))) 4 (m1 7))])),0)))
    else
     r=(((t0Tx,t0State,t0Reason,t0Seq,false,t0Shard,t0At,t0Mode,t0Touched,t0Votes,t0Acks,t0Got),0))
  else
   r=(((t0Tx,t0State,t0Reason,t0Seq,t0Open,t0Shard,t0At,t0Mode,t0Touched,t0Votes,t0Acks,t0Got),11))
 else
  r=(((t0Tx,t0State,t0Reason,t0Seq,t0Open,t0Shard,t0At,t0Mode,t0Touched,t0Votes,t0Acks,t0Got),(tform_F t0Tx t0State t0Reason t0Seq t0Open t0Shard t0At t0Mode t0Touched t0Votes t0Acks t0Got m1 ([2,3]))))))
def tanswered_F (t0Tx : Int) (t0State : Int) (t0Reason : Int) (t0Seq : Int) (t0Open : Bool) (t0Shard : Int) (t0At : NI) (t0Mode : Int) (t0Touched : (List Int)) (t0Votes : (List Int)) (t0Acks : (List Int)) (t0Got : LM) (m1 : NI) : UT × Int :=
 if (tform_F t0Tx t0State t0Reason t0Seq t0Open t0Shard t0At t0Mode t0Touched t0Votes t0Acks t0Got m1 ([2,3]))=0 then
  if t0State=1 then
   if ((((!(t0Open)) || (!(decide (m1 4=t0Seq)))) || (!(decide (m1 1=t0Shard)))) || ((decide (m1 0=2)) && (!((eqN 2 (fun i=>m1 (5 + i)) t0At)))))=true then
    ((t0Tx,t0State,t0Reason,t0Seq,t0Open,t0Shard,t0At,t0Mode,t0Touched,t0Votes,t0Acks,t0Got),14)
   else
    if m1 0=2 then
     ((t0Tx,t0State,t0Reason,t0Seq,false,t0Shard,t0At,t0Mode,t0Touched,t0Votes,t0Acks,(t0Got++[(updI (updRI (updI (updI (fun _=>0) 0 (m1 3)) 1 (m1 4)) 2 2 (fun i=>m1 (5 + i))) 4 (m1 7))])),0)
    else
     ((t0Tx,t0State,t0Reason,t0Seq,false,t0Shard,t0At,t0Mode,t0Touched,t0Votes,t0Acks,t0Got),0)
  else
   ((t0Tx,t0State,t0Reason,t0Seq,t0Open,t0Shard,t0At,t0Mode,t0Touched,t0Votes,t0Acks,t0Got),11)
 else
  ((t0Tx,t0State,t0Reason,t0Seq,t0Open,t0Shard,t0At,t0Mode,t0Touched,t0Votes,t0Acks,t0Got),(tform_F t0Tx t0State t0Reason t0Seq t0Open t0Shard t0At t0Mode t0Touched t0Votes t0Acks t0Got m1 ([2,3])))
def tanswered_P (t0Tx : Int) (t0State : Int) (t0Reason : Int) (t0Seq : Int) (t0Open : Bool) (t0Shard : Int) (t0At : NI) (t0Mode : Int) (t0Touched : (List Int)) (t0Votes : (List Int)) (t0Acks : (List Int)) (t0Got : LM) (m1 : NI) : Prop :=
 (own_P t0Tx t0State t0Reason t0Seq t0Open t0Shard t0At t0Mode t0Touched t0Votes t0Acks t0Got)∧(
 (tform_P t0Tx t0State t0Reason t0Seq t0Open t0Shard t0At t0Mode t0Touched t0Votes t0Acks t0Got m1 ([2,3]))∧(
 if (tform_F t0Tx t0State t0Reason t0Seq t0Open t0Shard t0At t0Mode t0Touched t0Votes t0Acks t0Got m1 ([2,3]))=0 then
  if t0State=1 then
   if ((((!(t0Open)) || (!(decide (m1 4=t0Seq)))) || (!(decide (m1 1=t0Shard)))) || ((decide (m1 0=2)) && (!((eqN 2 (fun i=>m1 (5 + i)) t0At)))))=true then
    True
   else
    if m1 0=2 then
     ((t0Got.length + 1) * 40≤140737488355328)∧(
     True)
    else
     True
  else
   True
 else
  True))
theorem tanswered_ok (t0Tx : Int) (t0State : Int) (t0Reason : Int) (t0Seq : Int) (t0Open : Bool) (t0Shard : Int) (t0At : NI) (t0Mode : Int) (t0Touched : (List Int)) (t0Votes : (List Int)) (t0Acks : (List Int)) (t0Got : LM) (m1 : NI) (hP : tanswered_P t0Tx t0State t0Reason t0Seq t0Open t0Shard t0At t0Mode t0Touched t0Votes t0Acks t0Got m1) : tanswered_S t0Tx t0State t0Reason t0Seq t0Open t0Shard t0At t0Mode t0Touched t0Votes t0Acks t0Got m1 (tanswered_F t0Tx t0State t0Reason t0Seq t0Open t0Shard t0At t0Mode t0Touched t0Votes t0Acks t0Got m1) := by
 obtain ⟨r,hr⟩ : ∃ r,r=tanswered_F t0Tx t0State t0Reason t0Seq t0Open t0Shard t0At t0Mode t0Touched t0Votes t0Acks t0Got m1 := ⟨_,rfl⟩
 rw [← hr]
 unfold tanswered_F at hr
 unfold tanswered_S
 unfold tanswered_P at hP
 obtain ⟨hq0,hP⟩ := hP
 refine ⟨hq0,?_⟩
 obtain ⟨hq0,hP⟩ := hP
 refine ⟨hq0,?_⟩
 by_cases hp45 : (tform_F t0Tx t0State t0Reason t0Seq t0Open t0Shard t0At t0Mode t0Touched t0Votes t0Acks t0Got m1 ([2,3]))=0
 ·rw [if_pos hp45] at hr hP ⊢
  by_cases hp46 : t0State=1
  ·rw [if_pos hp46] at hr hP ⊢
   by_cases hp47 : ((((!(t0Open)) || (!(decide (m1 4=t0Seq)))) || (!(decide (m1 1=t0Shard)))) || ((decide (m1 0=2)) && (!((eqN 2 (fun i=>m1 (5 + i)) t0At)))))=true
   ·rw [if_pos hp47] at hr hP ⊢
    exact hr
   ·rw [if_neg hp47] at hr hP ⊢
    by_cases hp48 : m1 0=2
    ·rw [if_pos hp48] at hr hP ⊢
     obtain ⟨hq0,hP⟩ := hP
     refine ⟨hq0,?_⟩
     exact hr
    ·rw [if_neg hp48] at hr hP ⊢
     exact hr
  ·rw [if_neg hp46] at hr hP ⊢
   exact hr
 ·rw [if_neg hp45] at hr hP ⊢
  exact hr
end Go.E
namespace Go.E
open Go
def tfinish_S (t0Tx : Int) (t0State : Int) (t0Reason : Int) (t0Seq : Int) (t0Open : Bool) (t0Shard : Int) (t0At : NI) (t0Mode : Int) (t0Touched : (List Int)) (t0Votes : (List Int)) (t0Acks : (List Int)) (t0Got : LM) (r : UT × LM × Int) : Prop :=
 (own_P t0Tx t0State t0Reason t0Seq t0Open t0Shard t0At t0Mode t0Touched t0Votes t0Acks t0Got)∧(
 if (tfree_F t0Tx t0State t0Reason t0Seq t0Open t0Shard t0At t0Mode t0Touched t0Votes t0Acks t0Got)=0 then
  if (t0Touched.length : Int)=0 then
   (tdecision_P t0Tx 3 0 t0Seq false t0Shard t0At t0Mode t0Touched t0Votes t0Acks t0Got t0Touched)∧(
   r=(((t0Tx,3,0,t0Seq,false,t0Shard,t0At,t0Mode,t0Touched,t0Votes,t0Acks,t0Got),(tdecision_F t0Tx 3 0 t0Seq false t0Shard t0At t0Mode t0Touched t0Votes t0Acks t0Got t0Touched),0)))
  else
   (tto_P t0Tx 2 t0Reason t0Seq t0Open t0Shard t0At t0Mode t0Touched t0Votes t0Acks t0Got 4 0 t0Touched)∧(
   r=(((t0Tx,2,t0Reason,t0Seq,t0Open,t0Shard,t0At,t0Mode,t0Touched,t0Votes,t0Acks,t0Got),(tto_F t0Tx 2 t0Reason t0Seq t0Open t0Shard t0At t0Mode t0Touched t0Votes t0Acks t0Got 4 0 t0Touched),0)))
 else
  r=(((t0Tx,t0State,t0Reason,t0Seq,t0Open,t0Shard,t0At,t0Mode,t0Touched,t0Votes,t0Acks,t0Got),[],(tfree_F t0Tx t0State t0Reason t0Seq t0Open t0Shard t0At t0Mode t0Touched t0Votes t0Acks t0Got))))
def tfinish_F (t0Tx : Int) (t0State : Int) (t0Reason : Int) (t0Seq : Int) (t0Open : Bool) (t0Shard : Int) (t0At : NI) (t0Mode : Int) (t0Touched : (List Int)) (t0Votes : (List Int)) (t0Acks : (List Int)) (t0Got : LM) : UT × LM × Int :=
 if (tfree_F t0Tx t0State t0Reason t0Seq t0Open t0Shard t0At t0Mode t0Touched t0Votes t0Acks t0Got)=0 then
  if (t0Touched.length : Int)=0 then
   ((t0Tx,3,0,t0Seq,false,t0Shard,t0At,t0Mode,t0Touched,t0Votes,t0Acks,t0Got),(tdecision_F t0Tx 3 0 t0Seq false t0Shard t0At t0Mode t0Touched t0Votes t0Acks t0Got t0Touched),0)
  else
   ((t0Tx,2,t0Reason,t0Seq,t0Open,t0Shard,t0At,t0Mode,t0Touched,t0Votes,t0Acks,t0Got),(tto_F t0Tx 2 t0Reason t0Seq t0Open t0Shard t0At t0Mode t0Touched t0Votes t0Acks t0Got 4 0 t0Touched),0)
 else
  ((t0Tx,t0State,t0Reason,t0Seq,t0Open,t0Shard,t0At,t0Mode,t0Touched,t0Votes,t0Acks,t0Got),[],(tfree_F t0Tx t0State t0Reason t0Seq t0Open t0Shard t0At t0Mode t0Touched t0Votes t0Acks t0Got))
def tfinish_P (t0Tx : Int) (t0State : Int) (t0Reason : Int) (t0Seq : Int) (t0Open : Bool) (t0Shard : Int) (t0At : NI) (t0Mode : Int) (t0Touched : (List Int)) (t0Votes : (List Int)) (t0Acks : (List Int)) (t0Got : LM) : Prop :=
 (own_P t0Tx t0State t0Reason t0Seq t0Open t0Shard t0At t0Mode t0Touched t0Votes t0Acks t0Got)∧(
 if (tfree_F t0Tx t0State t0Reason t0Seq t0Open t0Shard t0At t0Mode t0Touched t0Votes t0Acks t0Got)=0 then
  if (t0Touched.length : Int)=0 then
   (tdecision_P t0Tx 3 0 t0Seq false t0Shard t0At t0Mode t0Touched t0Votes t0Acks t0Got t0Touched)∧(
   True)
  else
   (tto_P t0Tx 2 t0Reason t0Seq t0Open t0Shard t0At t0Mode t0Touched t0Votes t0Acks t0Got 4 0 t0Touched)∧(
   True)
 else
  True)
theorem tfinish_ok (t0Tx : Int) (t0State : Int) (t0Reason : Int) (t0Seq : Int) (t0Open : Bool) (t0Shard : Int) (t0At : NI) (t0Mode : Int) (t0Touched : (List Int)) (t0Votes : (List Int)) (t0Acks : (List Int)) (t0Got : LM) (hP : tfinish_P t0Tx t0State t0Reason t0Seq t0Open t0Shard t0At t0Mode t0Touched t0Votes t0Acks t0Got) : tfinish_S t0Tx t0State t0Reason t0Seq t0Open t0Shard t0At t0Mode t0Touched t0Votes t0Acks t0Got (tfinish_F t0Tx t0State t0Reason t0Seq t0Open t0Shard t0At t0Mode t0Touched t0Votes t0Acks t0Got) := by
 obtain ⟨r,hr⟩ : ∃ r,r=tfinish_F t0Tx t0State t0Reason t0Seq t0Open t0Shard t0At t0Mode t0Touched t0Votes t0Acks t0Got := ⟨_,rfl⟩
 rw [← hr]
 unfold tfinish_F at hr
 unfold tfinish_S
 unfold tfinish_P at hP
 obtain ⟨hq0,hP⟩ := hP
 refine ⟨hq0,?_⟩
 by_cases hp49 : (tfree_F t0Tx t0State t0Reason t0Seq t0Open t0Shard t0At t0Mode t0Touched t0Votes t0Acks t0Got)=0
 ·rw [if_pos hp49] at hr hP ⊢
  by_cases hp50 : (t0Touched.length : Int)=0
  ·rw [if_pos hp50] at hr hP ⊢
   obtain ⟨hq0,hP⟩ := hP
   refine ⟨hq0,?_⟩
   exact hr
  ·rw [if_neg hp50] at hr hP ⊢
   obtain ⟨hq0,hP⟩ := hP
   refine ⟨hq0,?_⟩
   exact hr
 ·rw [if_neg hp49] at hr hP ⊢
  exact hr
def tvote_S (t0Tx : Int) (t0State : Int) (t0Reason : Int) (t0Seq : Int) (t0Open : Bool) (t0Shard : Int) (t0At : NI) (t0Mode : Int) (t0Touched : (List Int)) (t0Votes : (List Int)) (t0Acks : (List Int)) (t0Got : LM) (m1 : NI) (r : UT × LM × Int) : Prop :=
 (own_P t0Tx t0State t0Reason t0Seq t0Open t0Shard t0At t0Mode t0Touched t0Votes t0Acks t0Got)∧(
 (tfrom_P t0Tx t0State t0Reason t0Seq t0Open t0Shard t0At t0Mode t0Touched t0Votes t0Acks t0Got m1 5 (decide (t0State=2)))∧(
 if (tfrom_F t0Tx t0State t0Reason t0Seq t0Open t0Shard t0At t0Mode t0Touched t0Votes t0Acks t0Got m1 5 (decide (t0State=2)))=0 then
  if m1 8=0 then
   (tdecision_P t0Tx 4 2 t0Seq false t0Shard t0At t0Mode t0Touched t0Votes t0Acks t0Got t0Touched)∧(
   r=(((t0Tx,4,2,t0Seq,false,t0Shard,t0At,t0Mode,t0Touched,t0Votes,t0Acks,t0Got),(tdecision_F t0Tx 4 2 t0Seq false t0Shard t0At t0Mode t0Touched t0Votes t0Acks t0Got t0Touched),0)))
  else
   (search_P t0Votes (m1 1))∧(
   if ((search_F t0Votes (m1 1)).2)=true then
    if (t0Votes.length : Int) < (t0Touched.length : Int) then
     r=(((t0Tx,t0State,t0Reason,t0Seq,t0Open,t0Shard,t0At,t0Mode,t0Touched,t0Votes,t0Acks,t0Got),[],0))
    else
     (tdecision_P t0Tx 3 0 t0Seq false t0Shard t0At t0Mode t0Touched t0Votes t0Acks t0Got t0Touched)∧(
     r=(((t0Tx,3,0,t0Seq,false,t0Shard,t0At,t0Mode,t0Touched,t0Votes,t0Acks,t0Got),(tdecision_F t0Tx 3 0 t0Seq false t0Shard t0At t0Mode t0Touched t0Votes t0Acks t0Got t0Touched),0)))
   else
    (cloneI_P t0Votes)∧(
    (0≤(search_F t0Votes (m1 1)).1∧(search_F t0Votes (m1 1)).1≤((cloneI_F t0Votes).length : Int))∧(
    (sortP (cloneI_F t0Votes))∧(
    if ((insL1 (cloneI_F t0Votes) ((search_F t0Votes (m1 1)).1).toNat (m1 1)).length : Int) < (t0Touched.length : Int) then
     r=(((t0Tx,t0State,t0Reason,t0Seq,t0Open,t0Shard,t0At,t0Mode,t0Touched,(insL1 (cloneI_F t0Votes) ((search_F t0Votes (m1 1)).1).toNat (m1 1)),t0Acks,t0Got),[],0))
    else
     (tdecision_P t0Tx 3 0 t0Seq false t0Shard t0At t0Mode t0Touched (insL1 (cloneI_F t0Votes) ((search_F t0Votes (m1 1)).1).toNat (m1 1)) t0Acks t0Got t0Touched)∧(
     r=(((t0Tx,3,0,t0Seq,false,t0Shard,t0At,t0Mode,t0Touched,(insL1 (cloneI_F t0Votes) ((search_F t0Votes (m1 1)).1).toNat (m1 1)),t0Acks,t0Got),(tdecision_F t0Tx 3 0 t0Seq false t0Shard t0At t0Mode t0Touched (insL1 (cloneI_F t0Votes) ((search_F t0Votes (m1 1)).1).toNat (m1 1)) t0Acks t0Got t0Touched),0)))))))
 else
  r=(((t0Tx,t0State,t0Reason,t0Seq,t0Open,t0Shard,t0At,t0Mode,t0Touched,t0Votes,t0Acks,t0Got),[],(tfrom_F t0Tx t0State t0Reason t0Seq t0Open t0Shard t0At t0Mode t0Touched t0Votes t0Acks t0Got m1 5 (decide (t0State=2)))))))
def tvote_F (t0Tx : Int) (t0State : Int) (t0Reason : Int) (t0Seq : Int) (t0Open : Bool) (t0Shard : Int) (t0At : NI) (t0Mode : Int) (t0Touched : (List Int)) (t0Votes : (List Int)) (t0Acks : (List Int)) (t0Got : LM) (m1 : NI) : UT × LM × Int :=
 if (tfrom_F t0Tx t0State t0Reason t0Seq t0Open t0Shard t0At t0Mode t0Touched t0Votes t0Acks t0Got m1 5 (decide (t0State=2)))=0 then
  if m1 8=0 then
   ((t0Tx,4,2,t0Seq,false,t0Shard,t0At,t0Mode,t0Touched,t0Votes,t0Acks,t0Got),(tdecision_F t0Tx 4 2 t0Seq false t0Shard t0At t0Mode t0Touched t0Votes t0Acks t0Got t0Touched),0)
  else
   if ((search_F t0Votes (m1 1)).2)=true then
    if (t0Votes.length : Int) < (t0Touched.length : Int) then
     ((t0Tx,t0State,t0Reason,t0Seq,t0Open,t0Shard,t0At,t0Mode,t0Touched,t0Votes,t0Acks,t0Got),[],0)
    else
     ((t0Tx,3,0,t0Seq,false,t0Shard,t0At,t0Mode,t0Touched,t0Votes,t0Acks,t0Got),(tdecision_F t0Tx 3 0 t0Seq false t0Shard t0At t0Mode t0Touched t0Votes t0Acks t0Got t0Touched),0)
   else
    if ((insL1 (cloneI_F t0Votes) ((search_F t0Votes (m1 1)).1).toNat (m1 1)).length : Int) < (t0Touched.length : Int) then
     ((t0Tx,t0State,t0Reason,t0Seq,t0Open,t0Shard,t0At,t0Mode,t0Touched,(insL1 (cloneI_F t0Votes) ((search_F t0Votes (m1 1)).1).toNat (m1 1)),t0Acks,t0Got),[],0)
    else
     ((t0Tx,3,0,t0Seq,false,t0Shard,t0At,t0Mode,t0Touched,(insL1 (cloneI_F t0Votes) ((search_F t0Votes (m1 1)).1).toNat (m1 1)),t0Acks,t0Got),(tdecision_F t0Tx 3 0 t0Seq false t0Shard t0At t0Mode t0Touched (insL1 (cloneI_F t0Votes) ((search_F t0Votes (m1 1)).1).toNat (m1 1)) t0Acks t0Got t0Touched),0)
 else
  ((t0Tx,t0State,t0Reason,t0Seq,t0Open,t0Shard,t0At,t0Mode,t0Touched,t0Votes,t0Acks,t0Got),[],(tfrom_F t0Tx t0State t0Reason t0Seq t0Open t0Shard t0At t0Mode t0Touched t0Votes t0Acks t0Got m1 5 (decide (t0State=2))))
def tvote_P (t0Tx : Int) (t0State : Int) (t0Reason : Int) (t0Seq : Int) (t0Open : Bool) (t0Shard : Int) (t0At : NI) (t0Mode : Int) (t0Touched : (List Int)) (t0Votes : (List Int)) (t0Acks : (List Int)) (t0Got : LM) (m1 : NI) : Prop :=
 (own_P t0Tx t0State t0Reason t0Seq t0Open t0Shard t0At t0Mode t0Touched t0Votes t0Acks t0Got)∧(
 (tfrom_P t0Tx t0State t0Reason t0Seq t0Open t0Shard t0At t0Mode t0Touched t0Votes t0Acks t0Got m1 5 (decide (t0State=2)))∧(
 if (tfrom_F t0Tx t0State t0Reason t0Seq t0Open t0Shard t0At t0Mode t0Touched t0Votes t0Acks t0Got m1 5 (decide (t0State=2)))=0 then
  if m1 8=0 then
   (tdecision_P t0Tx 4 2 t0Seq false t0Shard t0At t0Mode t0Touched t0Votes t0Acks t0Got t0Touched)∧(
   True)
  else
   (search_P t0Votes (m1 1))∧(
   if ((search_F t0Votes (m1 1)).2)=true then
    if (t0Votes.length : Int) < (t0Touched.length : Int) then
     True
    else
     (tdecision_P t0Tx 3 0 t0Seq false t0Shard t0At t0Mode t0Touched t0Votes t0Acks t0Got t0Touched)∧(
     True)
   else
    (cloneI_P t0Votes)∧(
    (0≤(search_F t0Votes (m1 1)).1∧(search_F t0Votes (m1 1)).1≤((cloneI_F t0Votes).length : Int))∧(
    (sortP (cloneI_F t0Votes))∧(
    if ((insL1 (cloneI_F t0Votes) ((search_F t0Votes (m1 1)).1).toNat (m1 1)).length : Int) < (t0Touched.length : Int) then
     True
    else
     (tdecision_P t0Tx 3 0 t0Seq false t0Shard t0At t0Mode t0Touched (insL1 (cloneI_F t0Votes) ((search_F t0Votes (m1 1)).1).toNat (m1 1)) t0Acks t0Got t0Touched)∧(
     True)))))
 else
  True))
theorem tvote_ok (t0Tx : Int) (t0State : Int) (t0Reason : Int) (t0Seq : Int) (t0Open : Bool) (t0Shard : Int) (t0At : NI) (t0Mode : Int) (t0Touched : (List Int)) (t0Votes : (List Int)) (t0Acks : (List Int)) (t0Got : LM) (m1 : NI) (hP : tvote_P t0Tx t0State t0Reason t0Seq t0Open t0Shard t0At t0Mode t0Touched t0Votes t0Acks t0Got m1) : tvote_S t0Tx t0State t0Reason t0Seq t0Open t0Shard t0At t0Mode t0Touched t0Votes t0Acks t0Got m1 (tvote_F t0Tx t0State t0Reason t0Seq t0Open t0Shard t0At t0Mode t0Touched t0Votes t0Acks t0Got m1) := by
 obtain ⟨r,hr⟩ : ∃ r,r=tvote_F t0Tx t0State t0Reason t0Seq t0Open t0Shard t0At t0Mode t0Touched t0Votes t0Acks t0Got m1 := ⟨_,rfl⟩
 rw [← hr]
 unfold tvote_F at hr
 unfold tvote_S
 unfold tvote_P at hP
 obtain ⟨hq0,hP⟩ := hP
 refine ⟨hq0,?_⟩
 obtain ⟨hq0,hP⟩ := hP
 refine ⟨hq0,?_⟩
 by_cases hp51 : (tfrom_F t0Tx t0State t0Reason t0Seq t0Open t0Shard t0At t0Mode t0Touched t0Votes t0Acks t0Got m1 5 (decide (t0State=2)))=0
 ·rw [if_pos hp51] at hr hP ⊢
  by_cases hp52 : m1 8=0
  ·rw [if_pos hp52] at hr hP ⊢
   obtain ⟨hq0,hP⟩ := hP
   refine ⟨hq0,?_⟩
   exact hr
  ·rw [if_neg hp52] at hr hP ⊢
   obtain ⟨hq0,hP⟩ := hP
   refine ⟨hq0,?_⟩
   by_cases hp53 : ((search_F t0Votes (m1 1)).2)=true
   ·rw [if_pos hp53] at hr hP ⊢
    by_cases hp54 : (t0Votes.length : Int) < (t0Touched.length : Int)
    ·rw [if_pos hp54] at hr hP ⊢
     exact hr
    ·rw [if_neg hp54] at hr hP ⊢
     obtain ⟨hq0,hP⟩ := hP
     refine ⟨hq0,?_⟩
     exact hr
   ·rw [if_neg hp53] at hr hP ⊢
    obtain ⟨hq0,hP⟩ := hP
    refine ⟨hq0,?_⟩
    obtain ⟨hq0,hP⟩ := hP
    refine ⟨hq0,?_⟩
    obtain ⟨hq0,hP⟩ := hP
    refine ⟨hq0,?_⟩
    by_cases hp55 : ((insL1 (cloneI_F t0Votes) ((search_F t0Votes (m1 1)).1).toNat (m1 1)).length : Int) < (t0Touched.length : Int)
    ·rw [if_pos hp55] at hr hP ⊢
     exact hr
    ·rw [if_neg hp55] at hr hP ⊢
     obtain ⟨hq0,hP⟩ := hP
     refine ⟨hq0,?_⟩
     exact hr
 ·rw [if_neg hp51] at hr hP ⊢
  exact hr
def tabort_S (t0Tx : Int) (t0State : Int) (t0Reason : Int) (t0Seq : Int) (t0Open : Bool) (t0Shard : Int) (t0At : NI) (t0Mode : Int) (t0Touched : (List Int)) (t0Votes : (List Int)) (t0Acks : (List Int)) (t0Got : LM) (reason1 : Int) (r : UT × LM × Int) : Prop :=
 (own_P t0Tx t0State t0Reason t0Seq t0Open t0Shard t0At t0Mode t0Touched t0Votes t0Acks t0Got)∧(
 if ((decide (reason1 < 1)) || (decide (5 < reason1)))=true then
  r=(((t0Tx,t0State,t0Reason,t0Seq,t0Open,t0Shard,t0At,t0Mode,t0Touched,t0Votes,t0Acks,t0Got),[],1))
 else
  if ((tdecided_F t0Tx t0State t0Reason t0Seq t0Open t0Shard t0At t0Mode t0Touched t0Votes t0Acks t0Got))=true then
   r=(((t0Tx,t0State,t0Reason,t0Seq,t0Open,t0Shard,t0At,t0Mode,t0Touched,t0Votes,t0Acks,t0Got),[],15))
  else
   (tdecision_P t0Tx 4 reason1 t0Seq false t0Shard t0At t0Mode t0Touched t0Votes t0Acks t0Got t0Touched)∧(
   r=(((t0Tx,4,reason1,t0Seq,false,t0Shard,t0At,t0Mode,t0Touched,t0Votes,t0Acks,t0Got),(tdecision_F t0Tx 4 reason1 t0Seq false t0Shard t0At t0Mode t0Touched t0Votes t0Acks t0Got t0Touched),0))))
def tabort_F (t0Tx : Int) (t0State : Int) (t0Reason : Int) (t0Seq : Int) (t0Open : Bool) (t0Shard : Int) (t0At : NI) (t0Mode : Int) (t0Touched : (List Int)) (t0Votes : (List Int)) (t0Acks : (List Int)) (t0Got : LM) (reason1 : Int) : UT × LM × Int :=
 if ((decide (reason1 < 1)) || (decide (5 < reason1)))=true then
  ((t0Tx,t0State,t0Reason,t0Seq,t0Open,t0Shard,t0At,t0Mode,t0Touched,t0Votes,t0Acks,t0Got),[],1)
 else
  if ((tdecided_F t0Tx t0State t0Reason t0Seq t0Open t0Shard t0At t0Mode t0Touched t0Votes t0Acks t0Got))=true then
   ((t0Tx,t0State,t0Reason,t0Seq,t0Open,t0Shard,t0At,t0Mode,t0Touched,t0Votes,t0Acks,t0Got),[],15)
  else
   ((t0Tx,4,reason1,t0Seq,false,t0Shard,t0At,t0Mode,t0Touched,t0Votes,t0Acks,t0Got),(tdecision_F t0Tx 4 reason1 t0Seq false t0Shard t0At t0Mode t0Touched t0Votes t0Acks t0Got t0Touched),0)
def tabort_P (t0Tx : Int) (t0State : Int) (t0Reason : Int) (t0Seq : Int) (t0Open : Bool) (t0Shard : Int) (t0At : NI) (t0Mode : Int) (t0Touched : (List Int)) (t0Votes : (List Int)) (t0Acks : (List Int)) (t0Got : LM) (reason1 : Int) : Prop :=
 (own_P t0Tx t0State t0Reason t0Seq t0Open t0Shard t0At t0Mode t0Touched t0Votes t0Acks t0Got)∧(
 if ((decide (reason1 < 1)) || (decide (5 < reason1)))=true then
  True
 else
  if ((tdecided_F t0Tx t0State t0Reason t0Seq t0Open t0Shard t0At t0Mode t0Touched t0Votes t0Acks t0Got))=true then
   True
  else
   (tdecision_P t0Tx 4 reason1 t0Seq false t0Shard t0At t0Mode t0Touched t0Votes t0Acks t0Got t0Touched)∧(
   True))
theorem tabort_ok (t0Tx : Int) (t0State : Int) (t0Reason : Int) (t0Seq : Int) (t0Open : Bool) (t0Shard : Int) (t0At : NI) (t0Mode : Int) (t0Touched : (List Int)) (t0Votes : (List Int)) (t0Acks : (List Int)) (t0Got : LM) (reason1 : Int) (hP : tabort_P t0Tx t0State t0Reason t0Seq t0Open t0Shard t0At t0Mode t0Touched t0Votes t0Acks t0Got reason1) : tabort_S t0Tx t0State t0Reason t0Seq t0Open t0Shard t0At t0Mode t0Touched t0Votes t0Acks t0Got reason1 (tabort_F t0Tx t0State t0Reason t0Seq t0Open t0Shard t0At t0Mode t0Touched t0Votes t0Acks t0Got reason1) := by
 obtain ⟨r,hr⟩ : ∃ r,r=tabort_F t0Tx t0State t0Reason t0Seq t0Open t0Shard t0At t0Mode t0Touched t0Votes t0Acks t0Got reason1 := ⟨_,rfl⟩
 rw [← hr]
 unfold tabort_F at hr
 unfold tabort_S
 unfold tabort_P at hP
 obtain ⟨hq0,hP⟩ := hP
 refine ⟨hq0,?_⟩
 by_cases hp56 : ((decide (reason1 < 1)) || (decide (5 < reason1)))=true
 ·rw [if_pos hp56] at hr hP ⊢
  exact hr
 ·rw [if_neg hp56] at hr hP ⊢
  by_cases hp57 : ((tdecided_F t0Tx t0State t0Reason t0Seq t0Open t0Shard t0At t0Mode t0Touched t0Votes t0Acks t0Got))=true
  ·rw [if_pos hp57] at hr hP ⊢
   exact hr
  ·rw [if_neg hp57] at hr hP ⊢
   obtain ⟨hq0,hP⟩ := hP
   refine ⟨hq0,?_⟩
   exact hr
def tack_S (t0Tx : Int) (t0State : Int) (t0Reason : Int) (t0Seq : Int) (t0Open : Bool) (t0Shard : Int) (t0At : NI) (t0Mode : Int) (t0Touched : (List Int)) (t0Votes : (List Int)) (t0Acks : (List Int)) (t0Got : LM) (m1 : NI) (r : UT × Int) : Prop :=
 (own_P t0Tx t0State t0Reason t0Seq t0Open t0Shard t0At t0Mode t0Touched t0Votes t0Acks t0Got)∧(
 (tfrom_P t0Tx t0State t0Reason t0Seq t0Open t0Shard t0At t0Mode t0Touched t0Votes t0Acks t0Got m1 7 (tdecided_F t0Tx t0State t0Reason t0Seq t0Open t0Shard t0At t0Mode t0Touched t0Votes t0Acks t0Got))∧(
 if (tfrom_F t0Tx t0State t0Reason t0Seq t0Open t0Shard t0At t0Mode t0Touched t0Votes t0Acks t0Got m1 7 (tdecided_F t0Tx t0State t0Reason t0Seq t0Open t0Shard t0At t0Mode t0Touched t0Votes t0Acks t0Got))=0 then
  (search_P t0Acks (m1 1))∧(
  if ((search_F t0Acks (m1 1)).2)=true then
   r=(((t0Tx,t0State,t0Reason,t0Seq,t0Open,t0Shard,t0At,t0Mode,t0Touched,t0Votes,t0Acks,t0Got),0))
  else
   (cloneI_P t0Acks)∧(
   (0≤(search_F t0Acks (m1 1)).1∧(search_F t0Acks (m1 1)).1≤((cloneI_F t0Acks).length : Int))∧(
   (sortP (cloneI_F t0Acks))∧(
   r=(((t0Tx,t0State,t0Reason,t0Seq,t0Open,t0Shard,t0At,t0Mode,t0Touched,t0Votes,(insL1 (cloneI_F t0Acks) ((search_F t0Acks (m1 1)).1).toNat (m1 1)),t0Got),0))))))
 else
  r=(((t0Tx,t0State,t0Reason,t0Seq,t0Open,t0Shard,t0At,t0Mode,t0Touched,t0Votes,t0Acks,t0Got),(tfrom_F t0Tx t0State t0Reason t0Seq t0Open t0Shard t0At t0Mode t0Touched t0Votes t0Acks t0Got m1 7 (tdecided_F t0Tx t0State t0Reason t0Seq t0Open t0Shard t0At t0Mode t0Touched t0Votes t0Acks t0Got))))))
def tack_F (t0Tx : Int) (t0State : Int) (t0Reason : Int) (t0Seq : Int) (t0Open : Bool) (t0Shard : Int) (t0At : NI) (t0Mode : Int) (t0Touched : (List Int)) (t0Votes : (List Int)) (t0Acks : (List Int)) (t0Got : LM) (m1 : NI) : UT × Int :=
 if (tfrom_F t0Tx t0State t0Reason t0Seq t0Open t0Shard t0At t0Mode t0Touched t0Votes t0Acks t0Got m1 7 (tdecided_F t0Tx t0State t0Reason t0Seq t0Open t0Shard t0At t0Mode t0Touched t0Votes t0Acks t0Got))=0 then
  if ((search_F t0Acks (m1 1)).2)=true then
   ((t0Tx,t0State,t0Reason,t0Seq,t0Open,t0Shard,t0At,t0Mode,t0Touched,t0Votes,t0Acks,t0Got),0)
  else
   ((t0Tx,t0State,t0Reason,t0Seq,t0Open,t0Shard,t0At,t0Mode,t0Touched,t0Votes,(insL1 (cloneI_F t0Acks) ((search_F t0Acks (m1 1)).1).toNat (m1 1)),t0Got),0)
 else
  ((t0Tx,t0State,t0Reason,t0Seq,t0Open,t0Shard,t0At,t0Mode,t0Touched,t0Votes,t0Acks,t0Got),(tfrom_F t0Tx t0State t0Reason t0Seq t0Open t0Shard t0At t0Mode t0Touched t0Votes t0Acks t0Got m1 7 (tdecided_F t0Tx t0State t0Reason t0Seq t0Open t0Shard t0At t0Mode t0Touched t0Votes t0Acks t0Got)))
def tack_P (t0Tx : Int) (t0State : Int) (t0Reason : Int) (t0Seq : Int) (t0Open : Bool) (t0Shard : Int) (t0At : NI) (t0Mode : Int) (t0Touched : (List Int)) (t0Votes : (List Int)) (t0Acks : (List Int)) (t0Got : LM) (m1 : NI) : Prop :=
 (own_P t0Tx t0State t0Reason t0Seq t0Open t0Shard t0At t0Mode t0Touched t0Votes t0Acks t0Got)∧(
 (tfrom_P t0Tx t0State t0Reason t0Seq t0Open t0Shard t0At t0Mode t0Touched t0Votes t0Acks t0Got m1 7 (tdecided_F t0Tx t0State t0Reason t0Seq t0Open t0Shard t0At t0Mode t0Touched t0Votes t0Acks t0Got))∧(
 if (tfrom_F t0Tx t0State t0Reason t0Seq t0Open t0Shard t0At t0Mode t0Touched t0Votes t0Acks t0Got m1 7 (tdecided_F t0Tx t0State t0Reason t0Seq t0Open t0Shard t0At t0Mode t0Touched t0Votes t0Acks t0Got))=0 then
  (search_P t0Acks (m1 1))∧(
  if ((search_F t0Acks (m1 1)).2)=true then
   True
  else
   (cloneI_P t0Acks)∧(
   (0≤(search_F t0Acks (m1 1)).1∧(search_F t0Acks (m1 1)).1≤((cloneI_F t0Acks).length : Int))∧(
   (sortP (cloneI_F t0Acks))∧(
   True))))
 else
  True))
theorem tack_ok (t0Tx : Int) (t0State : Int) (t0Reason : Int) (t0Seq : Int) (t0Open : Bool) (t0Shard : Int) (t0At : NI) (t0Mode : Int) (t0Touched : (List Int)) (t0Votes : (List Int)) (t0Acks : (List Int)) (t0Got : LM) (m1 : NI) (hP : tack_P t0Tx t0State t0Reason t0Seq t0Open t0Shard t0At t0Mode t0Touched t0Votes t0Acks t0Got m1) : tack_S t0Tx t0State t0Reason t0Seq t0Open t0Shard t0At t0Mode t0Touched t0Votes t0Acks t0Got m1 (tack_F t0Tx t0State t0Reason t0Seq t0Open t0Shard t0At t0Mode t0Touched t0Votes t0Acks t0Got m1) := by
 obtain ⟨r,hr⟩ : ∃ r,r=tack_F t0Tx t0State t0Reason t0Seq t0Open t0Shard t0At t0Mode t0Touched t0Votes t0Acks t0Got m1 := ⟨_,rfl⟩
 rw [← hr]
 unfold tack_F at hr
 unfold tack_S
 unfold tack_P at hP
 obtain ⟨hq0,hP⟩ := hP
 refine ⟨hq0,?_⟩
 obtain ⟨hq0,hP⟩ := hP
 refine ⟨hq0,?_⟩
 by_cases hp58 : (tfrom_F t0Tx t0State t0Reason t0Seq t0Open t0Shard t0At t0Mode t0Touched t0Votes t0Acks t0Got m1 7 (tdecided_F t0Tx t0State t0Reason t0Seq t0Open t0Shard t0At t0Mode t0Touched t0Votes t0Acks t0Got))=0
 ·rw [if_pos hp58] at hr hP ⊢
  obtain ⟨hq0,hP⟩ := hP
  refine ⟨hq0,?_⟩
  by_cases hp59 : ((search_F t0Acks (m1 1)).2)=true
  ·rw [if_pos hp59] at hr hP ⊢
   exact hr
  ·rw [if_neg hp59] at hr hP ⊢
   obtain ⟨hq0,hP⟩ := hP
   refine ⟨hq0,?_⟩
   obtain ⟨hq0,hP⟩ := hP
   refine ⟨hq0,?_⟩
   obtain ⟨hq0,hP⟩ := hP
   refine ⟨hq0,?_⟩
   exact hr
 ·rw [if_neg hp58] at hr hP ⊢
  exact hr
def tagain_S (t0Tx : Int) (t0State : Int) (t0Reason : Int) (t0Seq : Int) (t0Open : Bool) (t0Shard : Int) (t0At : NI) (t0Mode : Int) (t0Touched : (List Int)) (t0Votes : (List Int)) (t0Acks : (List Int)) (t0Got : LM) (alive1 : Bool) (r : LM) : Prop :=
 if t0State=1 then
  if (t0Open)=true then
   ((0 + 1) * 224≤140737488355328)∧(
   if (alive1)=true then
    (tto_P t0Tx t0State t0Reason t0Seq t0Open t0Shard t0At t0Mode t0Touched t0Votes t0Acks t0Got 8 0 t0Touched)∧(
    ((([]++[(tlock_F t0Tx t0State t0Reason t0Seq t0Open t0Shard t0At t0Mode t0Touched t0Votes t0Acks t0Got)]).length + (tto_F t0Tx t0State t0Reason t0Seq t0Open t0Shard t0At t0Mode t0Touched t0Votes t0Acks t0Got 8 0 t0Touched).length) * 224≤140737488355328)∧(
    r=((([]++[(tlock_F t0Tx t0State t0Reason t0Seq t0Open t0Shard t0At t0Mode t0Touched t0Votes t0Acks t0Got)])++(tto_F t0Tx t0State t0Reason t0Seq t0Open t0Shard t0At t0Mode t0Touched t0Votes t0Acks t0Got 8 0 t0Touched)))))
   else
    r=(([]++[(tlock_F t0Tx t0State t0Reason t0Seq t0Open t0Shard t0At t0Mode t0Touched t0Votes t0Acks t0Got)])))
  else
   if (alive1)=true then
    (tto_P t0Tx t0State t0Reason t0Seq t0Open t0Shard t0At t0Mode t0Touched t0Votes t0Acks t0Got 8 0 t0Touched)∧(
    ((0 + (tto_F t0Tx t0State t0Reason t0Seq t0Open t0Shard t0At t0Mode t0Touched t0Votes t0Acks t0Got 8 0 t0Touched).length) * 224≤140737488355328)∧(
    r=(([]++(tto_F t0Tx t0State t0Reason t0Seq t0Open t0Shard t0At t0Mode t0Touched t0Votes t0Acks t0Got 8 0 t0Touched)))))
   else
    r=([])
 else
  if t0State=2 then
   (tleft_P t0Tx t0State t0Reason t0Seq t0Open t0Shard t0At t0Mode t0Touched t0Votes t0Acks t0Got t0Votes)∧(
   (tto_P t0Tx t0State t0Reason t0Seq t0Open t0Shard t0At t0Mode t0Touched t0Votes t0Acks t0Got 4 0 (tleft_F t0Tx t0State t0Reason t0Seq t0Open t0Shard t0At t0Mode t0Touched t0Votes t0Acks t0Got t0Votes))∧(
   r=((tto_F t0Tx t0State t0Reason t0Seq t0Open t0Shard t0At t0Mode t0Touched t0Votes t0Acks t0Got 4 0 (tleft_F t0Tx t0State t0Reason t0Seq t0Open t0Shard t0At t0Mode t0Touched t0Votes t0Acks t0Got t0Votes)))))
  else
   if t0State=3 then
    (tleft_P t0Tx t0State t0Reason t0Seq t0Open t0Shard t0At t0Mode t0Touched t0Votes t0Acks t0Got t0Acks)∧(
    (tdecision_P t0Tx t0State t0Reason t0Seq t0Open t0Shard t0At t0Mode t0Touched t0Votes t0Acks t0Got (tleft_F t0Tx t0State t0Reason t0Seq t0Open t0Shard t0At t0Mode t0Touched t0Votes t0Acks t0Got t0Acks))∧(
    r=((tdecision_F t0Tx t0State t0Reason t0Seq t0Open t0Shard t0At t0Mode t0Touched t0Votes t0Acks t0Got (tleft_F t0Tx t0State t0Reason t0Seq t0Open t0Shard t0At t0Mode t0Touched t0Votes t0Acks t0Got t0Acks)))))
   else
    if t0State=4 then
     (tleft_P t0Tx t0State t0Reason t0Seq t0Open t0Shard t0At t0Mode t0Touched t0Votes t0Acks t0Got t0Acks)∧(
     (tdecision_P t0Tx t0State t0Reason t0Seq t0Open t0Shard t0At t0Mode t0Touched t0Votes t0Acks t0Got (tleft_F t0Tx t0State t0Reason t0Seq t0Open t0Shard t0At t0Mode t0Touched t0Votes t0Acks t0Got t0Acks))∧(
     r=((tdecision_F t0Tx t0State t0Reason t0Seq t0Open t0Shard t0At t0Mode t0Touched t0Votes t0Acks t0Got (tleft_F t0Tx t0State t0Reason t0Seq t0Open t0Shard t0At t0Mode t0Touched t0Votes t0Acks t0Got t0Acks)))))
    else
     r=([])
def tagain_F (t0Tx : Int) (t0State : Int) (t0Reason : Int) (t0Seq : Int) (t0Open : Bool) (t0Shard : Int) (t0At : NI) (t0Mode : Int) (t0Touched : (List Int)) (t0Votes : (List Int)) (t0Acks : (List Int)) (t0Got : LM) (alive1 : Bool) : LM :=
 if t0State=1 then
  if (t0Open)=true then
   if (alive1)=true then
    (([]++[(tlock_F t0Tx t0State t0Reason t0Seq t0Open t0Shard t0At t0Mode t0Touched t0Votes t0Acks t0Got)])++(tto_F t0Tx t0State t0Reason t0Seq t0Open t0Shard t0At t0Mode t0Touched t0Votes t0Acks t0Got 8 0 t0Touched))
   else
    ([]++[(tlock_F t0Tx t0State t0Reason t0Seq t0Open t0Shard t0At t0Mode t0Touched t0Votes t0Acks t0Got)])
  else
   if (alive1)=true then
    ([]++(tto_F t0Tx t0State t0Reason t0Seq t0Open t0Shard t0At t0Mode t0Touched t0Votes t0Acks t0Got 8 0 t0Touched))
   else
    []
 else
  if t0State=2 then
   (tto_F t0Tx t0State t0Reason t0Seq t0Open t0Shard t0At t0Mode t0Touched t0Votes t0Acks t0Got 4 0 (tleft_F t0Tx t0State t0Reason t0Seq t0Open t0Shard t0At t0Mode t0Touched t0Votes t0Acks t0Got t0Votes))
  else
   if t0State=3 then
    (tdecision_F t0Tx t0State t0Reason t0Seq t0Open t0Shard t0At t0Mode t0Touched t0Votes t0Acks t0Got (tleft_F t0Tx t0State t0Reason t0Seq t0Open t0Shard t0At t0Mode t0Touched t0Votes t0Acks t0Got t0Acks))
   else
    if t0State=4 then
     (tdecision_F t0Tx t0State t0Reason t0Seq t0Open t0Shard t0At t0Mode t0Touched t0Votes t0Acks t0Got (tleft_F t0Tx t0State t0Reason t0Seq t0Open t0Shard t0At t0Mode t0Touched t0Votes t0Acks t0Got t0Acks))
    else
     []
def tagain_P (t0Tx : Int) (t0State : Int) (t0Reason : Int) (t0Seq : Int) (t0Open : Bool) (t0Shard : Int) (t0At : NI) (t0Mode : Int) (t0Touched : (List Int)) (t0Votes : (List Int)) (t0Acks : (List Int)) (t0Got : LM) (alive1 : Bool) : Prop :=
 if t0State=1 then
  if (t0Open)=true then
   ((0 + 1) * 224≤140737488355328)∧(
   if (alive1)=true then
    (tto_P t0Tx t0State t0Reason t0Seq t0Open t0Shard t0At t0Mode t0Touched t0Votes t0Acks t0Got 8 0 t0Touched)∧(
    ((([]++[(tlock_F t0Tx t0State t0Reason t0Seq t0Open t0Shard t0At t0Mode t0Touched t0Votes t0Acks t0Got)]).length + (tto_F t0Tx t0State t0Reason t0Seq t0Open t0Shard t0At t0Mode t0Touched t0Votes t0Acks t0Got 8 0 t0Touched).length) * 224≤140737488355328)∧(
    True))
   else
    True)
  else
   if (alive1)=true then
    (tto_P t0Tx t0State t0Reason t0Seq t0Open t0Shard t0At t0Mode t0Touched t0Votes t0Acks t0Got 8 0 t0Touched)∧(
    ((0 + (tto_F t0Tx t0State t0Reason t0Seq t0Open t0Shard t0At t0Mode t0Touched t0Votes t0Acks t0Got 8 0 t0Touched).length) * 224≤140737488355328)∧(
    True))
   else
    True
 else
  if t0State=2 then
   (tleft_P t0Tx t0State t0Reason t0Seq t0Open t0Shard t0At t0Mode t0Touched t0Votes t0Acks t0Got t0Votes)∧(
   (tto_P t0Tx t0State t0Reason t0Seq t0Open t0Shard t0At t0Mode t0Touched t0Votes t0Acks t0Got 4 0 (tleft_F t0Tx t0State t0Reason t0Seq t0Open t0Shard t0At t0Mode t0Touched t0Votes t0Acks t0Got t0Votes))∧(
   True))
  else
   if t0State=3 then
    (tleft_P t0Tx t0State t0Reason t0Seq t0Open t0Shard t0At t0Mode t0Touched t0Votes t0Acks t0Got t0Acks)∧(
    (tdecision_P t0Tx t0State t0Reason t0Seq t0Open t0Shard t0At t0Mode t0Touched t0Votes t0Acks t0Got (tleft_F t0Tx t0State t0Reason t0Seq t0Open t0Shard t0At t0Mode t0Touched t0Votes t0Acks t0Got t0Acks))∧(
    True))
   else
    if t0State=4 then
     (tleft_P t0Tx t0State t0Reason t0Seq t0Open t0Shard t0At t0Mode t0Touched t0Votes t0Acks t0Got t0Acks)∧(
     (tdecision_P t0Tx t0State t0Reason t0Seq t0Open t0Shard t0At t0Mode t0Touched t0Votes t0Acks t0Got (tleft_F t0Tx t0State t0Reason t0Seq t0Open t0Shard t0At t0Mode t0Touched t0Votes t0Acks t0Got t0Acks))∧(
     True))
    else
     True
theorem tagain_ok (t0Tx : Int) (t0State : Int) (t0Reason : Int) (t0Seq : Int) (t0Open : Bool) (t0Shard : Int) (t0At : NI) (t0Mode : Int) (t0Touched : (List Int)) (t0Votes : (List Int)) (t0Acks : (List Int)) (t0Got : LM) (alive1 : Bool) (hP : tagain_P t0Tx t0State t0Reason t0Seq t0Open t0Shard t0At t0Mode t0Touched t0Votes t0Acks t0Got alive1) : tagain_S t0Tx t0State t0Reason t0Seq t0Open t0Shard t0At t0Mode t0Touched t0Votes t0Acks t0Got alive1 (tagain_F t0Tx t0State t0Reason t0Seq t0Open t0Shard t0At t0Mode t0Touched t0Votes t0Acks t0Got alive1) := by
 obtain ⟨r,hr⟩ : ∃ r,r=tagain_F t0Tx t0State t0Reason t0Seq t0Open t0Shard t0At t0Mode t0Touched t0Votes t0Acks t0Got alive1 := ⟨_,rfl⟩
 rw [← hr]
 unfold tagain_F at hr
 unfold tagain_S
 unfold tagain_P at hP
 by_cases hp60 : t0State=1
 ·rw [if_pos hp60] at hr hP ⊢
  by_cases hp61 : (t0Open)=true
  ·rw [if_pos hp61] at hr hP ⊢
   obtain ⟨hq0,hP⟩ := hP
   refine ⟨hq0,?_⟩
   by_cases hp62 : (alive1)=true
   ·rw [if_pos hp62] at hr hP ⊢
    obtain ⟨hq0,hP⟩ := hP
    refine ⟨hq0,?_⟩
    obtain ⟨hq0,hP⟩ := hP
    refine ⟨hq0,?_⟩
    exact hr
   ·rw [if_neg hp62] at hr hP ⊢
    exact hr
  ·rw [if_neg hp61] at hr hP ⊢
   by_cases hp63 : (alive1)=true
   ·rw [if_pos hp63] at hr hP ⊢
    obtain ⟨hq0,hP⟩ := hP
    refine ⟨hq0,?_⟩
    obtain ⟨hq0,hP⟩ := hP
    refine ⟨hq0,?_⟩
    exact hr
   ·rw [if_neg hp63] at hr hP ⊢
    exact hr
 ·rw [if_neg hp60] at hr hP ⊢
  by_cases hp64 : t0State=2
  ·rw [if_pos hp64] at hr hP ⊢
   obtain ⟨hq0,hP⟩ := hP
   refine ⟨hq0,?_⟩
   obtain ⟨hq0,hP⟩ := hP
   refine ⟨hq0,?_⟩
   exact hr
  ·rw [if_neg hp64] at hr hP ⊢
   by_cases hp65 : t0State=3
   ·rw [if_pos hp65] at hr hP ⊢
    obtain ⟨hq0,hP⟩ := hP
    refine ⟨hq0,?_⟩
    obtain ⟨hq0,hP⟩ := hP
    refine ⟨hq0,?_⟩
    exact hr
   ·rw [if_neg hp65] at hr hP ⊢
    by_cases hp66 : t0State=4
    ·rw [if_pos hp66] at hr hP ⊢
     obtain ⟨hq0,hP⟩ := hP
     refine ⟨hq0,?_⟩
     obtain ⟨hq0,hP⟩ := hP
     refine ⟨hq0,?_⟩
     exact hr
    ·rw [if_neg hp66] at hr hP ⊢
     exact hr
end Go.E
namespace Go.E
open Go
def Adj (l : LM) (a b : Int) : Prop := ∃ e ∈ l,e 0=a∧e 2=b
inductive Rt (l : LM) : Int → Int → Prop
 | one {a b : Int} : Adj l a b → Rt l a b
 | more {a b c : Int} : Rt l a b → Adj l b c → Rt l a c
theorem Rt.trans {l : LM} {a b c : Int} (h : Rt l a b) (k : Rt l b c) : Rt l a c := by
 induction k with
 | one e=>exact .more h e
 | more _ e ih=>exact .more ih e
theorem Rt.first {l : LM} {a b : Int} (h : Rt l a b) : ∃ c,Adj l a c∧(c=b∨Rt l c b) := by
 induction h with
 | one e=>exact ⟨_,e,.inl rfl⟩
 | more h e ih =>
  obtain ⟨c,h1,h2⟩ := ih
  refine ⟨c,h1,.inr ?_⟩
  rcases h2 with rfl | h2
  ·exact .one e
  ·exact .more h2 e
theorem Rt.mono {l m : LM} (hs : ∀ e ∈ l,e ∈ m) {a b : Int} (h : Rt l a b) : Rt m a b := by
 induction h with
 | one e=>obtain ⟨e,h1,h2⟩ := e; exact .one ⟨e,hs e h1,h2⟩
 | more _ e ih=>obtain ⟨e,h1,h2⟩ := e; exact .more ih ⟨e,hs e h1,h2⟩
def nodesL (l : LM) : List Int := rising_F (ends2 l)
theorem mem_nodesL {l : LM} {x : Int} : x ∈ nodesL l ↔ ∃ e ∈ l,x=e 0∨x=e 2 := by
 unfold nodesL ends2
 rw [mem_rising,List.mem_flatMap]
 simp
theorem Adj.left {l : LM} {a b : Int} (h : Adj l a b) : a ∈ nodesL l := by
 obtain ⟨e,h1,h2,_⟩ := h
 exact mem_nodesL.2 ⟨e,h1,.inl h2.symm⟩
theorem Adj.right {l : LM} {a b : Int} (h : Adj l a b) : b ∈ nodesL l := by
 obtain ⟨e,h1,_,h2⟩ := h
 exact mem_nodesL.2 ⟨e,h1,.inr h2.symm⟩
theorem Rt.right {l : LM} {a b : Int} (h : Rt l a b) : b ∈ nodesL l := by
 cases h with
 | one e=>exact e.right
 | more _ e=>exact e.right
theorem Rt.left {l : LM} {a b : Int} (h : Rt l a b) : a ∈ nodesL l := by
 obtain ⟨c,h1,_⟩ := h.first
 exact h1.left
theorem nodup_len : ∀ {l m : List Int},l.Nodup → (∀ x ∈ l,x ∈ m) → l.length≤m.length
 | [],m,_,_=>Nat.zero_le _
 | x::r,m,h,hs=>by
  rw [List.nodup_cons] at h
  have hx := hs x List.mem_cons_self
  have : r.length≤(m.erase x).length := nodup_len h.2 fun y hy=>by
   have hne : y ≠ x := fun e=>h.1 (e ▸ hy)
   exact (List.mem_erase_of_ne hne).2 (hs y (List.mem_cons_of_mem _ hy))
  rw [List.length_erase_of_mem hx] at this
  have := List.length_pos_of_mem hx
  simp only [List.length_cons]
  omega
theorem rising_nodup {l : List Int} (h : l.Pairwise fun a b=>a < b) : l.Nodup := h.imp fun h=>by omega
end Go.E
