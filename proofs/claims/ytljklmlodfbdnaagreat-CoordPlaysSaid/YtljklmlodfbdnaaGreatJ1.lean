/- Part 1 of the proof. -/
import Derived.WalkKit
import Derived.ChangeKeysEq
set_option maxHeartbeats 1000000
set_option maxRecDepth 100000
set_option linter.unusedVariables false
set_option linter.unusedSimpArgs false
set_option linter.unusedSectionVars false
set_option linter.unnecessarySimpa false
namespace Go.E
theorem Aa {p:Prop} (h:p:=by omega):p:=h
theorem Ab {p:Prop} (h:p:=by decide):p:=h
theorem Ac {p:Prop} (h:p:=by kernel_rfl):p:=h
theorem Ad {p:Prop} (h:p:=by simp):p:=h
theorem Ae.{u} {c:Prop} {h:Decidable c} (hc:c) {α:Sort u} {t e:α}:ite c t e=t:=if_pos hc
theorem Af.{u} {c:Prop} {h:Decidable c} (hnc:¬c) {α:Sort u} {t e:α}:ite c t e=e:=if_neg hnc
open Go
abbrev NI:=Nat->Int
abbrev LM:=List (Nat->Int)
abbrev UT:=Int×Int×Int×Int×Bool×Int×(Nat->Int)×Int×(List Int)×(List Int)×(List Int)×LM
abbrev UM:=List (Int×UT)
abbrev iI (x:Int):Value:=.int .i64 x
abbrev HH:=List (Nat×Value)
abbrev GH:=List (Nat×Obj)
def lk (t:Nat):HH->Option Value
 | []=>none
 | (s,v)::e=>bif Nat.beq s t then some v else lk t e
def ev (env:HH):Operand->Option Value
 | .tmp t=>lk t env
 | .const v=>some v
 | .global g=>some (.pointer (some ⟨g,0,none⟩))
 | .func f=>some (.func (.func f) #[] #[])
def keys (H:GH):List Nat:=H.map (·.1)
@[simp] theorem keys_nil:keys []=[]:=rfl
@[simp] theorem keys_cons (b:Nat) (o:Obj) (H:GH):keys ((b,o)::H)=b::keys H:=rfl
theorem K0 {H:GH} {b:Nat} {o:Obj} (h:(b,o)∈H):b∈keys H:=List.mem_map.2 ⟨(b,o),h,rfl⟩
theorem YM {H:GH} {b:Nat} (h:b∈keys H):∃ o,(b,o)∈H:=by
 obtain⟨⟨b',o⟩,h1,h2⟩:=List.mem_map.1 h
 exact⟨o,by subst h2;exact h1⟩
structure St (w0:World) (H:GH) (w:World):Prop where
 os:w.os=w0.os
 tape:w.tape=w0.tape
 out:w.output=w0.output
 size:w0.heap.size<=w.heap.size
 own:∀ b o,(b,o)∈H->w.heap[b]? = some o
 nd:(keys H).Nodup
 keep:∀ k,k<w0.heap.size->k∉keys H->w.heap[k]? = w0.heap[k]?
theorem St.refl (w:World):St w [] w:=
 ⟨rfl,rfl,rfl,Nat.le_refl _,(fun _ _ h=>absurd h Ad),List.nodup_nil,(fun _ _ _=>rfl)⟩
theorem St.lt {w0 w:World} {H:GH} (h:St w0 H w) {b:Nat} {o:Obj} (hb:(b,o)∈H):b<w.heap.size:=
 (Array.getElem?_eq_some_iff.1 (h.own b o hb)).1
theorem St.klt {w0 w:World} {H:GH} (h:St w0 H w) {b:Nat} (hb:b∈keys H):b<w.heap.size:=by
 obtain⟨o,ho⟩:=YM hb
 exact h.lt ho
theorem St.drew {w0 w:World} {H:GH} (h:St w0 H w):St w0 H w.drew:=⟨h.os,h.tape,h.out,h.size,h.own,h.nd,h.keep⟩
theorem St.take {w0 w:World} {H:GH} (h:St w0 H w) {b:Nat} {o:Obj} (hb:w0.heap[b]? = some o) (hn:b∉keys H):St w0 ((b,o)::H) w:=by
 have hlt:=(Array.getElem?_eq_some_iff.1 hb).1
 refine⟨h.os,h.tape,h.out,h.size,?_,List.nodup_cons.2 ⟨hn,h.nd⟩,fun k hk hkn=>h.keep k hk (fun hh=>hkn (List.mem_cons_of_mem _ hh))⟩
 intro b' o' hm
 rcases List.mem_cons.1 hm with hm | hm
 .cases hm
  rw[h.keep b hlt hn];exact hb
 .exact h.own _ _ hm
theorem St.alloc {w0 w:World} {H:GH} (h:St w0 H w) (o:Obj):St w0 ((w.heap.size,o)::H) (w.alloc o):=by
 have hn:w.heap.size∉keys H:=fun hh=>Nat.lt_irrefl _ (h.klt hh)
 refine⟨h.os,h.tape,h.out,Nat.le_trans h.size Ad,?_,List.nodup_cons.2 ⟨hn,h.nd⟩,?_⟩
 .intro b' o' hm
  rcases List.mem_cons.1 hm with hm | hm
  .cases hm
   show(w.heap.push _)[w.heap.size]? = _
   rw[Array.getElem?_push,Ae rfl]
  .have:=h.lt hm
   simp only[World.alloc]
   rw[Array.getElem?_push,Af Aa]
   exact h.own _ _ hm
 .intro k hk hkn
  have:=h.size
  simp only[World.alloc]
  rw[Array.getElem?_push,Af Aa]
  exact h.keep k hk (fun hh=>hkn (List.mem_cons_of_mem _ hh))
inductive Upd:GH->Nat->Obj->GH->Prop
 | here (b:Nat) (o o':Obj) (t:GH):Upd ((b,o)::t) b o' ((b,o')::t)
 | there (x:Nat×Obj) (t t':GH) (b:Nat) (o':Obj) (h:Upd t b o' t'):Upd (x::t) b o' (x::t')
theorem Upd.keys {H H':GH} {b:Nat} {o':Obj} (h:Upd H b o' H'):keys H'=keys H:=by
 induction h with
 | here=>rfl
 | there x t t' b o' h ih=>simp only[E.keys,List.map_cons] at *;rw[ih]
theorem Upd.mem {H H':GH} {b:Nat} {o':Obj} (h:Upd H b o' H'):b∈E.keys H:=by
 induction h with
 | here=>simp
 | there x t t' b o' h ih=>exact List.mem_cons_of_mem _ ih
theorem Upd.spec {H H':GH} {b:Nat} {o':Obj} (h:Upd H b o' H'):(E.keys H).Nodup->∀ k o,(k,o)∈H'->(k=b/\o=o')∨(k≠b/\(k,o)∈H):=by
 induction h with
 | here b o o' t=>
  intro hn k u hm
  simp only[keys_cons,List.nodup_cons] at hn
  rcases List.mem_cons.1 hm with hm | hm
  .cases hm;exact .inl ⟨rfl,rfl⟩
  .exact .inr ⟨fun e=>hn.1 (e▸K0 hm),List.mem_cons_of_mem _ hm⟩
 | there x t t' b o' h ih=>
  intro hn k u hm
  obtain⟨xb,xo⟩:=x
  simp only[keys_cons,List.nodup_cons] at hn
  rcases List.mem_cons.1 hm with hm | hm
  .cases hm
   exact .inr ⟨fun e=>hn.1 (e▸h.mem),List.mem_cons_self ..⟩
  .rcases ih hn.2 k u hm with h1 | ⟨h1,h2⟩
   .exact .inl h1
   .exact .inr ⟨h1,List.mem_cons_of_mem _ h2⟩
theorem St.upd {w0 w w':World} {H H':GH} {b:Nat} {o':Obj} (h:St w0 H w) (hu:Upd H b o' H') (hb:w'.heap[b]? = some o') (hk:∀ k,k≠b->w'.heap[k]? = w.heap[k]?) (ho:w'.os=w.os) (ht:w'.tape=w.tape) (hout:w'.output=w.output) (hs:w'.heap.size=w.heap.size):St w0 H' w':=by
 refine⟨ho.trans h.os,ht.trans h.tape,hout.trans h.out,by rw[hs];exact h.size,?_,by rw[hu.keys];exact h.nd,?_⟩
 .intro k o hm
  rcases hu.spec h.nd k o hm with ⟨rfl,rfl⟩ | ⟨h1,h2⟩
  .exact hb
  .rw[hk k h1];exact h.own _ _ h2
 .intro k hlt hn
  rw[hu.keys] at hn
  rw[hk k (fun e=>hn (e▸hu.mem))]
  exact h.keep k hlt hn
theorem St.drop {w0 w:World} {H H':GH} (h:St w0 H w) (hs:∀ b o,(b,o)∈H'->(b,o)∈H) (hn:(keys H').Nodup) (hk:∀ b o,(b,o)∈H->b∈keys H'∨w0.heap.size<=b∨w0.heap[b]? = some o):St w0 H' w:=by
 refine⟨h.os,h.tape,h.out,h.size,fun b o hm=>h.own _ _ (hs _ _ hm),hn,?_⟩
 intro k hlt hkn
 by_cases hm:k∈keys H
 .obtain⟨o,ho⟩:=YM hm
  rcases hk k o ho with h1 | h1 | h1
  .exact absurd h1 hkn
  .omega
  .rw[h.own _ _ ho,h1]
 .exact h.keep k hlt hm
theorem St.trans {w0 w w':World} {H F:GH} (h:St w0 H w) (k:St w F w') {H':GH} (hn:(keys H').Nodup) (hm:∀ b o,(b,o)∈H'->(b,o)∈F∨((b,o)∈H/\b∉keys F)) (hF:∀ b,b∈keys F->b<w0.heap.size->b∈keys H') (hH:∀ b,b∈keys H->b<w0.heap.size->b∈keys H'):St w0 H' w':=by
 refine⟨k.os.trans h.os,k.tape.trans h.tape,k.out.trans h.out,Nat.le_trans h.size k.size,?_,hn,?_⟩
 .intro b o hb
  rcases hm b o hb with h1 | ⟨h1,h2⟩
  .exact k.own _ _ h1
  .rw[k.keep b (h.lt h1) h2];exact h.own _ _ h1
 .intro b hlt hnb
  rw[k.keep b (Nat.lt_of_lt_of_le hlt h.size) (fun hf=>hnb (hF b hf hlt))]
  exact h.keep b hlt (fun hh=>hnb (hH b hh hlt))
def AgV (env:HH) (a:Act):Prop:=∀ t v,lk t env=some v->a.tmps.getD t undef=v
structure Ag (n:Nat) (env:HH) (a:Act):Prop where
 size:a.tmps.size=n
 defers:a.defers=[]
 get:AgV env a
theorem AgV.ev {env:HH} {a:Act} (h:AgV env a) {x:Operand} {v:Value} (hx:ev env x=some v):a.eval x=v:=by
 cases x with
 | tmp t=>exact h t v hx
 | const u=>simpa [E.ev,Act.eval] using hx
 | global g=>simpa [E.ev,Act.eval] using hx
 | func f=>simpa [E.ev,Act.eval] using hx
theorem Mh (t s:Nat) (v:Value) (env:HH):lk t ((s,v)::env)=if s=t then some v else lk t env:=by
 by_cases h:s=t
 .subst h;simp[lk]
 .have:Nat.beq s t=false:=by
   cases hb:Nat.beq s t
   .rfl
   .exact absurd (Nat.eq_of_beq_eq_true hb) h
  simp[lk,this,h]
theorem Ag.put {n:Nat} {env:HH} {a:Act} (h:Ag n env a) {d:Nat} (hd:d<n) (v:Value):Ag n ((d,v)::env) (a.put (some d) v):=by
 refine⟨by simp[Act.put,h.size],by simp[Act.put,h.defers],?_⟩
 intro t u ht
 rw[Mh] at ht
 by_cases hdt:d=t
 .rw[Ae hdt] at ht
  cases ht
  subst hdt
  have hlt:d<a.tmps.size:=by rw[h.size];exact hd
  simp[Act.put,hlt]
 .rw[Af hdt] at ht
  have:=h.get t u ht
  simp only[Act.put,Array.getD_eq_getD_getElem?] at *
  rw[Array.getElem?_setIfInBounds_ne hdt]
  exact this
def Live:HH->HH->Prop
 | _,[]=>True
 | env,(t,v)::l=>lk t env=some v/\Live env l
theorem ln {env:HH}:Live env []:=trivial
theorem lc {env l:HH} {t:Nat} {v:Value} (h:lk t env=some v) (k:Live env l):Live env ((t,v)::l):=⟨h,k⟩
theorem Live.get {env l:HH} (h:Live env l):∀ t v,lk t l=some v->lk t env=some v:=by
 induction l with
 | nil=>intro t v ht;cases ht
 | cons x l ih=>
  obtain⟨s,u⟩:=x
  intro t v ht
  rw[Mh] at ht
  by_cases hs:s=t
  .rw[Ae hs] at ht
   cases ht
   subst hs
   exact h.1
  .rw[Af hs] at ht
   exact ih h.2 t v ht
theorem Ag.live {n:Nat} {env l:HH} {a:Act} (h:Ag n env a) (hl:Live env l):Ag n l a:=⟨h.size,h.defers,fun t v ht=>h.get t v (hl.get t v ht)⟩
def XW (P:Program) (n:Nat) (w0:World) (env:HH) (H:GH) (c:Code) (Q:Exit->Act->World->Prop):Prop:=
 ∀ a w,Ag n env a->St w0 H w->c.wp P Q a w
def XQ (n:Nat) (w0:World) (env:HH) (H:GH) (e:Exit) (Q:Exit->Act->World->Prop):Prop:=
 ∀ a w,Ag n env a->St w0 H w->Q e a w
def XO (P:Program) (n:Nat) (w0:World) (env:HH) (H:GH) (ops:Array Oper) (l:List Oper) (Q:Exit->Act->World->Prop):Prop:=
 ∀ a w,Ag n env a->St w0 H w->wpList P ops Q l a w
def OT (P:Program) (w0:World) (env:HH) (H:GH) (o:Oper) (R:Value->GH->Prop):Prop:=
 ∀ a w,AgV env a->St w0 H w->o.wp P a w (fun a' w'=>∃ v H',a'=a.put o.dst v/\St w0 H' w'/\R v H') (fun _ _ _=>False)
def Is (v:Value) (H:GH):Value->GH->Prop:=fun v' H'=>v'=v/\H'=H
section
variable {P:Program} {n:Nat} {w0:World} {env:HH} {H:GH} {Q:Exit->Act->World->Prop}
theorem I3 {o:Oper} {a:Act} {w:World} {K K':Act->World->Prop} {Q Q':Exit->Act->World->Prop} (h:∀ a w,K a w->K' a w) (hq:∀ e a w,Q e a w->Q' e a w) (hh:o.wp P a w K Q):o.wp P a w K' Q':=by
 unfold Oper.wp at *
 generalize (execOp a.eval o).run P w=r at *
 cases r with
 | ok x w'=>
  cases x <;> simp only[Oper.upon] at hh ⊢
  case value=>exact h _ _ hh
  case skip=>exact h _ _ hh
  case defer=>exact h _ _ hh
  case enter f args=>
   refine Calls.mono hh fun e w'' he=>?_
   cases e with
   | returned u=>exact h _ _ he
   | panicked c=>exact hq _ _ _ he
   | outgrown=>exact⟨he.choose,he.choose_spec.choose,hq _ _ _ he.choose_spec.choose_spec⟩
  case row=>exact Rows.mono hh (fun _ _ he=>h _ _ he)
 | halt x w'=>cases x <;> simp only[Oper.upon] at hh ⊢ <;> exact hq _ _ _ hh
theorem Gu {x y:Code} (h:XW P n w0 env H x (Exit.then (y.wp P Q) Q)):XW P n w0 env H (.seq x y) Q:=
 fun a w ha hs=>wp_seq (h a w ha hs)
theorem Gt {y:Code} (h:XW P n w0 env H y Q):XQ n w0 env H .normal (Exit.then (y.wp P Q) Q):=h
theorem Gs {y:Act->World->Prop} {i:Nat} (h:XQ n w0 env H (.exit i) Q):XQ n w0 env H (.exit i) (Exit.then y Q):=h
theorem Gx {y:Act->World->Prop} (h:XQ n w0 env H .ret Q):XQ n w0 env H .ret (Exit.then y Q):=h
theorem GY (h:XQ n w0 env H .normal Q):XW P n w0 env H .skip Q:=fun a w ha hs=>wp_skip (h a w ha hs)
theorem GJ {i:Nat} (h:XQ n w0 env H (.exit i) Q):XW P n w0 env H (.exit i) Q:=fun a w ha hs=>wp_exit (h a w ha hs)
theorem Hl (h:XQ n w0 env H .ret Q):XW P n w0 env H .ret Q:=fun a w ha hs=>wp_ret (h a w ha hs)
theorem AcW {l:Nat} (h:XQ n w0 env H .normal Q):XW P n w0 env H (.label l) Q:=fun a w ha hs=>wp_label (h a w ha hs)
theorem Gz {i:Nat} {c:Code} (h:XW P n w0 env H c (Exit.inBlock i Q)):XW P n w0 env H (.block i c) Q:=fun a w ha hs=>wp_block (h a w ha hs)
theorem GZ (i:Nat) (h:XQ n w0 env H .normal Q):XQ n w0 env H .normal (Exit.inBlock i Q):=h
theorem GB {i:Nat} (h:XQ n w0 env H .ret Q):XQ n w0 env H .ret (Exit.inBlock i Q):=h
theorem GD {i:Nat} (h:XQ n w0 env H .normal Q):XQ n w0 env H (.exit i) (Exit.inBlock i Q):=by
 intro a w ha hs;simp only[Exit.inBlock,if_true];exact h a w ha hs
theorem Gy {i j:Nat} (hij:Nat.beq i j=false) (h:XQ n w0 env H (.exit i) Q):XQ n w0 env H (.exit i) (Exit.inBlock j Q):=by
 have:i≠j:=fun e=>by subst e;simp at hij
 intro a w ha hs;simp only[Exit.inBlock,Af this];exact h a w ha hs
theorem AaA {c:Operand} {x y:Code} {t:Bool} (hc:ev env c=some (.bool t)) (ht:t=true->XW P n w0 env H x Q) (hf:t=false->XW P n w0 env H y Q) :
  XW P n w0 env H (.cond c x y) Q:=fun a w ha hs=>by
 cases t
 .exact wp_cond (ha.get.ev hc) (hf rfl a w ha hs)
 .exact wp_cond (ha.get.ev hc) (ht rfl a w ha hs)
theorem GQ {c:Operand} {x y:Code} {t:Bool} (hc:ev env c=some (.bool t)) (ht:t=true) (h:XW P n w0 env H x Q):XW P n w0 env H (.cond c x y) Q:=
 AaA hc (fun _=>h) (fun e=>by rw[ht] at e;cases e)
theorem GW {c:Operand} {x y:Code} {t:Bool} (hc:ev env c=some (.bool t)) (ht:t=false) (h:XW P n w0 env H y Q):XW P n w0 env H (.cond c x y) Q:=
 AaA hc (fun e=>by rw[ht] at e;cases e) (fun _=>h)
theorem AhI {e:Exit} {H':GH} (hh:∀ w,St w0 H w->St w0 H' w) (h:XQ n w0 env H' e Q):XQ n w0 env H e Q:=fun a w ha hs=>h a w ha (hh w hs)
theorem G0 {ops:Array Oper} {r:List Oper} (H':GH) (hh:∀ w,St w0 H w->St w0 H' w) (h:XO P n w0 env H' ops r Q):XO P n w0 env H ops r Q:=fun a w ha hs=>h a w ha (hh w hs)
end
end Go.E
namespace Go.E
open Go
def Wt (ops:Array Oper) (env:HH):Option (Nat×Bool)->Prop
 | none=>True
 | some (j,want)=>∃ s,(ops[j]?).bind (·.dst)=some s/\lk s env=some (.bool want)
def Q1:Value->Bool->Bool
 | .bool b,w=>b == w
 | _,_=>false
def WtNot (ops:Array Oper) (env:HH):Option (Nat×Bool)->Prop
 | none=>False
 | some (j,want)=>∃ s v,(ops[j]?).bind (·.dst)=some s/\lk s env=some v/\Q1 v want=false
theorem getD_some {a:Act} {s:Nat} {v:Value} (h:a.tmps.getD s undef=v) (hv:v≠undef):a.tmps[s]? = some v:=by
 rcases Nat.lt_or_ge s a.tmps.size with hlt | hge
 .rw[Array.getD_eq_getD_getElem?,Array.getElem?_eq_getElem hlt] at h
  rw[Array.getElem?_eq_getElem hlt]
  simpa using h
 .rw[Array.getD_eq_getD_getElem?,Array.getElem?_eq_none hge] at h
  exact absurd h.symm (by simpa using hv)
theorem Zg {ops:Array Oper} {env:HH} {a:Act} (ha:AgV env a) {j s:Nat} {b:Bool} (hs:(ops[j]?).bind (·.dst)=some s) (hl:lk s env=some (.bool b)) :
  yielded ops a.tmps j=some b:=by
 have:=getD_some (ha s _ hl) (by simp[undef])
 simp[yielded,hs,this]
theorem Wt.wanted {ops:Array Oper} {env:HH} {a:Act} {o:Oper} (ha:AgV env a) (h:Wt ops env o.guard):Region.wanted o (yielded ops a.tmps)=true:=by
 unfold Region.wanted
 cases hg:o.guard with
 | none=>rfl
 | some x=>
  obtain⟨j,want⟩:=x
  rw[hg] at h
  obtain⟨s,h1,h2⟩:=h
  simp[Zg ha h1 h2]
theorem WtNot.wanted {ops:Array Oper} {env:HH} {a:Act} {o:Oper} (ha:AgV env a) (h:WtNot ops env o.guard):Region.wanted o (yielded ops a.tmps)=false:=by
 unfold Region.wanted
 cases hg:o.guard with
 | none=>rw[hg] at h;exact h.elim
 | some x=>
  obtain⟨j,want⟩:=x
  rw[hg] at h
  obtain⟨s,v,h1,h2,h3⟩:=h
  have hv:=ha s v h2
  show(yielded ops a.tmps j == some want)=false
  unfold yielded
  rw[h1]
  simp only[Option.bind_some]
  rw[Array.getD_eq_getD_getElem?] at hv
  cases ht:a.tmps[s]? with
  | none=>rfl
  | some u=>
   rw[ht] at hv
   simp only[Option.getD_some] at hv
   subst hv
   cases u <;> first | rfl | (simpa [Q1] using h3)
section
variable {P:Program} {n:Nat} {w0:World} {env:HH} {H:GH} {Q:Exit->Act->World->Prop} {ops:Array Oper} {rest:List Oper}
variable {d:Nat} {op:Op} {ty:TypeId} {pos:String} {af:Array Edge} {g:Option (Nat×Bool)}
theorem Gw (h:XQ n w0 env H .normal Q):XO P n w0 env H ops [] Q:=fun a w ha hs=>h a w ha hs
theorem Gr {id:Nat} {l:List Oper} (h:XO P n w0 env H l.toArray l Q):XW P n w0 env H (.region id l.toArray false) Q:=
 fun a w ha hs=>wp_region_lit (h a w ha hs)
theorem Af2 {o:Oper} (hw:Wt ops env o.guard) {R:Value->GH->Prop} (h:OT P w0 env H o R) (k:∀ a w v H',Ag n env a->St w0 H' w->R v H'->wpList P ops Q rest (a.put o.dst v) w):XO P n w0 env H ops (o::rest) Q:=by
 intro a w ha hs
 refine wpList_step fun K hK=>?_
 rw[Ae (hw.wanted ha.get)]
 refine I3 ?_ (fun _ _ _ h=>h.elim) (h a w ha.get hs)
 rintro a' w' ⟨v,H',rfl,hs',hr⟩
 exact hK _ _ (k a w' v H' ha hs' hr)
theorem xo (hd:Nat.blt d n=true) (hw:Wt ops env g) {R:Value->GH->Prop} (h:OT P w0 env H ⟨some d,op,ty,pos,af,g⟩ R) (k:∀ v H',R v H'->XO P n w0 ((d,v)::env) H' ops rest Q):XO P n w0 env H ops (⟨some d,op,ty,pos,af,g⟩::rest) Q:=
 Af2 (o:=⟨some d,op,ty,pos,af,g⟩) hw h fun _ w v H' ha hs hr=>k v H' hr _ w (ha.put (by simpa [Nat.blt_eq] using hd) v) hs
theorem xo0 (hw:Wt ops env g) {R:Value->GH->Prop} (h:OT P w0 env H ⟨none,op,ty,pos,af,g⟩ R) (k:∀ v H',R v H'->XO P n w0 env H' ops rest Q):XO P n w0 env H ops (⟨none,op,ty,pos,af,g⟩::rest) Q:=
 Af2 (o:=⟨none,op,ty,pos,af,g⟩) hw h fun a w v H' ha hs hr=>k v H' hr a w ha hs
theorem xq (hd:Nat.blt d n=true) (hw:Wt ops env g) {v:Value} {H':GH} (h:OT P w0 env H ⟨some d,op,ty,pos,af,g⟩ (Is v H')) (k:XO P n w0 ((d,v)::env) H' ops rest Q):XO P n w0 env H ops (⟨some d,op,ty,pos,af,g⟩::rest) Q:=
 xo hd hw h (by rintro _ _ ⟨rfl,rfl⟩;exact k)
theorem xq0 (hw:Wt ops env g) {v:Value} {H':GH} (h:OT P w0 env H ⟨none,op,ty,pos,af,g⟩ (Is v H')) (k:XO P n w0 env H' ops rest Q):XO P n w0 env H ops (⟨none,op,ty,pos,af,g⟩::rest) Q:=
 xo0 hw h (by rintro _ _ ⟨rfl,rfl⟩;exact k)
theorem xs (hd:Nat.blt d n=true) (hw:WtNot ops env g) (k:XO P n w0 ((d,undef)::env) H ops rest Q):XO P n w0 env H ops (⟨some d,op,ty,pos,af,g⟩::rest) Q:=by
 intro a w ha hs
 unfold wpList
 rw[Af (by rw[WtNot.wanted (o:=⟨some d,op,ty,pos,af,g⟩) ha.get hw];simp)]
 exact k _ w (ha.put (by simpa [Nat.blt_eq] using hd) undef) hs
theorem TZ (s:Nat) {b:Bool} (hs:lk s env=some (.bool b)) (ht:b=true->XO P n w0 ((s,.bool true)::env) H ops rest Q) (hf:b=false->XO P n w0 ((s,.bool false)::env) H ops rest Q):XO P n w0 env H ops rest Q:=by
 intro a w ha hst
 have hput:∀ v,lk s env=some v->Ag n ((s,v)::env) a:=fun v hv=>⟨ha.size,ha.defers,fun t u hu=>by
  rw[Mh] at hu
  by_cases h:s=t
  .rw[Ae h] at hu;cases hu;subst h;exact ha.get _ _ hv
  .rw[Af h] at hu;exact ha.get _ _ hu⟩
 cases b
 .exact hf rfl a w (hput _ hs) hst
 .exact ht rfl a w (hput _ hs) hst
theorem QJ (s:Nat) {v v':Value} (hs:lk s env=some v) (he:v=v') (k:XO P n w0 ((s,v')::env) H ops rest Q):XO P n w0 env H ops rest Q:=by
 intro a w ha hst
 refine k a w ⟨ha.size,ha.defers,fun t u hu=>?_⟩ hst
 rw[Mh] at hu
 by_cases h:s=t
 .rw[Ae h] at hu;cases hu;subst h;rw[<- he];exact ha.get _ _ hs
 .rw[Af h] at hu;exact ha.get _ _ hu
theorem AcU {c:Code} (s:Nat) {v v':Value} (hs:lk s env=some v) (he:v=v') (k:XW P n w0 ((s,v')::env) H c Q):XW P n w0 env H c Q:=by
 intro a w ha hst
 refine k a w ⟨ha.size,ha.defers,fun t u hu=>?_⟩ hst
 rw[Mh] at hu
 by_cases h:s=t
 .rw[Ae h] at hu;cases hu;subst h;rw[<- he];exact ha.get _ _ hs
 .rw[Af h] at hu;exact ha.get _ _ hu
theorem AaB {c:Code} (s:Nat) {b:Bool} (hs:lk s env=some (.bool b)) (ht:b=true->XW P n w0 ((s,.bool true)::env) H c Q) (hf:b=false->XW P n w0 ((s,.bool false)::env) H c Q):XW P n w0 env H c Q:=by
 cases b
 .exact hf rfl |> fun h=>AcU s hs rfl h
 .exact ht rfl |> fun h=>AcU s hs rfl h
def AeU (n:Nat) (w0:World) (e:HH) (H:GH):Exit->Act->World->Prop:=fun ex a w=>ex=.normal/\Ag n e a/\St w0 H w
theorem Agy {c:Code} (k:HH) (_hk:Live env k) (l:HH) (h1:XW P n w0 env H c (AeU n w0 (l++k) H)) (h2:XQ n w0 (l++k) H .normal Q):XW P n w0 env H c Q:=
 fun a w ha hs=>wp_mono (h1 a w ha hs) fun e a' w' ⟨he,ha',hs'⟩=>by subst he;exact h2 a' w' ha' hs'
theorem AeZ {c:Code} (k:HH) (_hk:Live env k) (l:HH) (H':GH) (h1:XW P n w0 env H c (AeU n w0 (l++k) H')) (h2:XQ n w0 (l++k) H' .normal Q):XW P n w0 env H c Q:=
 fun a w ha hs=>wp_mono (h1 a w ha hs) fun e a' w' ⟨he,ha',hs'⟩=>by subst he;exact h2 a' w' ha' hs'
theorem Mv {l:HH} {H':GH} (hl:Live env l) (hH:∀ w,St w0 H w->St w0 H' w):XQ n w0 env H .normal (AeU n w0 l H'):=
 fun a w ha hs=>⟨rfl,ha.live hl,hH w hs⟩
theorem lce {env l:HH} {t:Nat} {v v':Value} (h:lk t env=some v) (he:v=v') (k:Live env l):Live env ((t,v')::l):=⟨by rw[h,he],k⟩
theorem OT.val {o:Oper} {R:Value->GH->Prop} (h:∀ a w,AgV env a->St w0 H w->∃ v w' H',(execOp a.eval o).run P w=.ok (.value v) w'/\St w0 H' w'/\R v H'):OT P w0 env H o R:=by
 intro a w ha hs
 obtain⟨v,w',H',hr,hs',hR⟩:=h a w ha hs
 unfold Oper.wp
 rw[hr,Oper.upon_value]
 exact⟨v,H',rfl,hs',hR⟩
theorem OT.skip {o:Oper} {R:Value->GH->Prop} (h:∀ a w,AgV env a->St w0 H w->∃ w' H',(execOp a.eval o).run P w=.ok .skip w'/\St w0 H' w'/\R undef H'):OT P w0 env H o R:=by
 intro a w ha hs
 obtain⟨w',H',hr,hs',hR⟩:=h a w ha hs
 unfold Oper.wp
 rw[hr,Oper.upon_skip]
 exact⟨_,H',rfl,hs',hR⟩
theorem aD {o:Oper} {v:Value} (h:∀ a w,AgV env a->(execOp a.eval o).run P w=.ok (.value v) w):OT P w0 env H o (Is v H):=
 OT.val fun a w ha hs=>⟨v,w,H,h a w ha,hs,rfl,rfl⟩
def Con (P:Program) (f:FuncId) (args:Array Value) (w:World) (G:Value->GH->Prop):Prop:=
 Calls P f args w fun e w'=>∃ v F,e=.returned v/\St w F w'/\G v F
theorem Con.mono {f:FuncId} {args:Array Value} {w:World} {G G':Value->GH->Prop} (h:Con P f args w G) (hg:∀ v F,G v F->G' v F):Con P f args w G':=
 Calls.mono h fun _ _ ⟨v,F,he,hs,hG⟩=>⟨v,F,he,hs,hg v F hG⟩
def LiveA (args:List Value):HH->Prop
 | []=>True
 | (t,v)::l=>args[t]? = some v/\LiveA args l
theorem lan {args:List Value}:LiveA args []:=trivial
theorem lac {args:List Value} {l:HH} {t:Nat} {v:Value} (h:args[t]? = some v) (k:LiveA args l):LiveA args ((t,v)::l):=⟨h,k⟩
theorem LiveA.get {args:List Value} {l:HH} (h:LiveA args l):∀ t v,lk t l=some v->args[t]? = some v:=by
 induction l with
 | nil=>intro t v ht;cases ht
 | cons x l ih=>
  obtain⟨s,u⟩:=x
  intro t v ht
  rw[Mh] at ht
  by_cases hs:s=t
  .rw[Ae hs] at ht;cases ht;subst hs;exact h.1
  .rw[Af hs] at ht;exact ih h.2 t v ht
def Ic (w:World) (G:Value->GH->Prop):Ending->World->Prop:=fun e w'=>∃ v F,e=.returned v/\St w F w'/\G v F
theorem AcE {f:FuncId} {fn:Func} {c:Code} {args:List Value} {w:World} {G:Value->GH->Prop} (l:HH) (hf:P.funcs[f]? = some fn) (hb:fn.body=some c) (hn:fn.ntmps=n) (hsz:Nat.ble args.length n=true) (hl:LiveA args l) (h:XW P n w l [] c (bodyPost P fn (Ic w G))):Con P f args.toArray w G:=by
 refine calls_of_wp hf hb (h _ w ⟨?_,rfl,?_⟩ (St.refl w))
 .have:=Nat.le_of_ble_eq_true hsz
  simp only[Array.size_append,Array.size_replicate,hn,List.size_toArray]
  omega
 .intro t v ht
  have h1:args.toArray[t]? = some v:=by rw[List.getElem?_toArray];exact hl.get t v ht
  have hlt:=(Array.getElem?_eq_some_iff.1 h1).1
  simp only[Array.getD_eq_getD_getElem?]
  rw[Array.getElem?_append_left hlt,h1]
  rfl
theorem J5 {fn:Func} {w:World} {G:Value->GH->Prop} {e:Exit} (he:e=.ret∨e=.normal) (hr:fn.results=#[]) (F:GH) (hF:∀ w',St w H w'->St w F w') (hG:G (.tuple #[]) F) :
  XQ n w env H e (bodyPost P fn (Ic w G)):=by
 intro a w' ha hs
 rcases he with rfl | rfl <;> exact⟨ha.defers,_,results_none hr _ _ _,_,F,rfl,hF w' hs,hG⟩
theorem Y0 {fn:Func} {w:World} {G:Value->GH->Prop} {t:Nat} {v:Value} {e:Exit} (he:e=.ret∨e=.normal) (hr:fn.results=#[.tmp t]) (hv:lk t env=some v) (F:GH) (hF:∀ w',St w H w'->St w F w') (hG:G v F):XQ n w env H e (bodyPost P fn (Ic w G)):=by
 intro a w' ha hs
 have h1:=ha.get t v hv
 rcases he with rfl | rfl <;> exact⟨ha.defers,_,by rw[results_tmp hr,h1],_,F,rfl,hF w' hs,hG⟩
theorem YZ {fn:Func} {w:World} {G:Value->GH->Prop} {t u:Nat} {v x:Value} {e:Exit} (he:e=.ret∨e=.normal) (hr:fn.results=#[.tmp t,.tmp u]) (hv:lk t env=some v) (hx:lk u env=some x) (F:GH) (hF:∀ w',St w H w'->St w F w') (hG:G (.tuple #[v,x]) F):XQ n w env H e (bodyPost P fn (Ic w G)):=by
 intro a w' ha hs
 have h1:=ha.get t v hv
 have h2:=ha.get u x hx
 rcases he with rfl | rfl <;> exact⟨ha.defers,_,by rw[results_tmp2 hr,h1,h2],_,F,rfl,hF w' hs,hG⟩
theorem I9 {fn:Func} {w:World} {G:Value->GH->Prop} {t u s:Nat} {v x y:Value} {e:Exit} (he:e=.ret∨e=.normal) (hr:fn.results=#[.tmp t,.tmp u,.tmp s]) (hv:lk t env=some v) (hx:lk u env=some x) (hy:lk s env=some y) (F:GH) (hF:∀ w',St w H w'->St w F w') (hG:G (.tuple #[v,x,y]) F):XQ n w env H e (bodyPost P fn (Ic w G)):=by
 intro a w' ha hs
 have h1:=ha.get t v hv
 have h2:=ha.get u x hx
 have h3:=ha.get s y hy
 have hrun:(results fn a.tmps).run P w' = .ok (.tuple #[v,x,y]) w':=by
  simp only[results,hr,List.mapM_toArray]
  simp[<- h1,<- h2,<- h3]
 rcases he with rfl | rfl <;> exact⟨ha.defers,_,hrun,_,F,rfl,hF w' hs,hG⟩
inductive Swp:GH->Nat->Nat×Obj->GH->Prop
 | here (b:Nat) (o:Obj) (x:Nat×Obj) (t:GH):Swp ((b,o)::t) b x (x::t)
 | there (y:Nat×Obj) (t t':GH) (b:Nat) (x:Nat×Obj) (h:Swp t b x t'):Swp (y::t) b x (y::t')
theorem Swp.mem {T T':GH} {b:Nat} {x:Nat×Obj} (h:Swp T b x T'):∀ y,y∈T'->y=x∨y∈T:=by
 induction h with
 | here b o x t=>intro y hy;rcases List.mem_cons.1 hy with h | h;exact .inl h;exact .inr (List.mem_cons_of_mem _ h)
 | there z t t' b x h ih=>
  intro y hy
  rcases List.mem_cons.1 hy with h | h
  .exact .inr (h▸List.mem_cons_self ..)
  .rcases ih y h with h | h
   .exact .inl h
   .exact .inr (List.mem_cons_of_mem _ h)
theorem Swp.memb {T T':GH} {b:Nat} {x:Nat×Obj} (h:Swp T b x T'):b∈E.keys T:=by
 induction h with
 | here=>simp
 | there z t t' b x h ih=>exact List.mem_cons_of_mem _ ih
theorem Swp.isin {T T':GH} {b:Nat} {x:Nat×Obj} (h:Swp T b x T'):x∈T':=by
 induction h with
 | here=>exact List.mem_cons_self ..
 | there y t t' b x h ih=>exact List.mem_cons_of_mem _ ih
theorem Swp.keys {T T':GH} {b:Nat} {x:Nat×Obj} (h:Swp T b x T'):∀ k,k∈E.keys T'↔k=x.1∨(k∈E.keys T/\(k≠b∨1<(E.keys T).count b)):=by
 induction h with
 | here b o x t=>
  intro k
  obtain⟨xb,xo⟩:=x
  by_cases hkb:k=b
  .subst hkb
   simp only[keys_cons,List.mem_cons,List.count_cons_self,ne_eq,not_true_eq_false,false_or]
   have:k∈E.keys t↔0<(E.keys t).count k:=List.count_pos_iff.symm
   rw[this]
   omega
  .simp[hkb]
 | there y t t' b x h ih=>
  intro k
  obtain⟨yb,yo⟩:=y
  simp only[keys_cons,List.mem_cons,ih k]
  have hm:0<(E.keys t).count b:=List.count_pos_iff.2 h.memb
  by_cases hyb:yb=b
  .subst hyb
   simp only[List.count_cons_self]
   constructor
   .rintro(h1 | h1 | ⟨h1,h2⟩)
    .exact .inr ⟨.inl h1,.inr Aa⟩
    .exact .inl h1
    .exact .inr ⟨.inr h1,.inr Aa⟩
   .rintro(h1 | ⟨h1 | h1,h2⟩)
    .exact .inr (.inl h1)
    .exact .inl h1
    .by_cases hk:k=yb
     .exact .inl hk
     .exact .inr (.inr ⟨h1,.inl hk⟩)
  .rw[List.count_cons_of_ne hyb]
   constructor
   .rintro(h1 | h1 | ⟨h1,h2⟩)
    .exact .inr ⟨.inl h1,.inl (h1▸hyb)⟩
    .exact .inl h1
    .exact .inr ⟨.inr h1,h2⟩
   .rintro(h1 | ⟨h1 | h1,h2⟩)
    .exact .inr (.inl h1)
    .exact .inl h1
    .exact .inr (.inr ⟨h1,h2⟩)
theorem Swp.nodup {T T':GH} {b:Nat} {x:Nat×Obj} (h:Swp T b x T') (hn:(E.keys T).Nodup) (hx:x.1=b∨x.1∉E.keys T):(E.keys T').Nodup:=by
 induction h with
 | here b o x t=>
  obtain⟨xb,xo⟩:=x
  simp only[keys_cons,List.nodup_cons] at *
  refine⟨?_,hn.2⟩
  rcases hx with h | h
  .have h':xb=b:=h
   rw[h'];exact hn.1
  .exact fun hh=>h (List.mem_cons_of_mem _ hh)
 | there y t t' b x h ih=>
  obtain⟨yb,yo⟩:=y
  simp only[keys_cons,List.nodup_cons] at *
  refine⟨?_,ih hn.2 (hx.imp id fun h hh=>h (List.mem_cons_of_mem _ hh))⟩
  intro hh
  rcases(h.keys yb).1 hh with h1 | ⟨h1,_⟩
  .rcases hx with h2 | h2
   .exact hn.1 (by rw[h1,h2];exact h.memb)
   .exact h2 (by rw[<- h1];exact List.mem_cons_self ..)
  .exact hn.1 h1
inductive Mg (w0 w:World):GH->GH->GH->Prop
 | nil (H:GH):Mg w0 w H [] H
 | new {H F H':GH} {b:Nat} {o:Obj} (hb:w.heap.size<=b) (h:Mg w0 w H F H'):Mg w0 w H ((b,o)::F) ((b,o)::H')
 | old {H F H':GH} {b:Nat} {o:Obj} (hb:b<w.heap.size) (hn:b∉keys H) (h:Mg w0 w H F H'):Mg w0 w H ((b,o)::F) ((b,o)::H')
 | upd {H F H' H'':GH} {b:Nat} {o:Obj} (hu:Swp H' b (b,o) H'') (hb:b∈keys H) (h:Mg w0 w H F H'):Mg w0 w H ((b,o)::F) H''
 | swp {H F H' H'':GH} {b b':Nat} {o:Obj} (h0:w0.heap.size<=b) (hb':b'=b∨w.heap.size<=b') (hu:Swp H' b (b',o) H'') (hb:b∈keys H) (hF:b∉keys F) (h:Mg w0 w H F H'):Mg w0 w H ((b',o)::F) H''
theorem Mg.keysIn {w0 w:World} {H F H':GH} (h:Mg w0 w H F H'):∀ k,k∈keys H'->k∈keys H∨k∈keys F:=by
 induction h with
 | nil=>exact fun k hk=>.inl hk
 | new hb h ih=>intro k hk;simp only[keys_cons,List.mem_cons] at hk ⊢;rcases hk with hk | hk;exact .inr (.inl hk);exact(ih k hk).imp id .inr
 | old hb hn h ih=>intro k hk;simp only[keys_cons,List.mem_cons] at hk ⊢;rcases hk with hk | hk;exact .inr (.inl hk);exact(ih k hk).imp id .inr
 | upd hu hb h ih=>intro k hk;simp only[keys_cons,List.mem_cons];rcases(hu.keys k).1 hk with hk | ⟨hk,_⟩;exact .inr (.inl hk);exact(ih k hk).imp id .inr
 | swp h0 hb' hu hb hF h ih=>intro k hk;simp only[keys_cons,List.mem_cons];rcases(hu.keys k).1 hk with hk | ⟨hk,_⟩;exact .inr (.inl hk);exact(ih k hk).imp id .inr
theorem Mg.sound {w0 w:World} {H F H':GH} (h:Mg w0 w H F H') (hlt:∀ k,k∈keys H->k<w.heap.size) (hnH:(keys H).Nodup):(keys F).Nodup ->
  (keys H').Nodup/\(∀ b o,(b,o)∈H'->(b,o)∈F∨((b,o)∈H/\b∉keys F))/\(∀ b,b∈keys F->b∈keys H')/\(∀ b,b∈keys H->b<w0.heap.size->b∈keys H'):=by
 induction h with
 | nil=>exact fun _=>⟨hnH,fun b o hm=>.inr ⟨hm,by simp⟩,fun b hb=>absurd hb (by simp),fun b hb _=>hb⟩
 | @new F H' b o hb h ih=>
  intro hn
  simp only[keys_cons,List.nodup_cons] at hn
  obtain⟨i1,i2,i3,i4⟩:=ih hn.2
  have hbH:b∉keys H:=fun hh=>by have:=hlt b hh;omega
  refine⟨List.nodup_cons.2 ⟨fun hh=>(h.keysIn b hh).elim hbH hn.1,i1⟩,?_,?_,fun k hk tp=>List.mem_cons_of_mem _ (i4 k hk tp)⟩
  .intro k u hm
   rcases List.mem_cons.1 hm with hm | hm
   .exact .inl (hm▸List.mem_cons_self ..)
   .rcases i2 k u hm with h1 | ⟨h1,h2⟩
    .exact .inl (List.mem_cons_of_mem _ h1)
    .refine .inr ⟨h1,?_⟩
     simp only[keys_cons,List.mem_cons,not_or]
     exact⟨fun e=>hbH (e▸K0 h1),h2⟩
  .intro k hk
   simp only[keys_cons,List.mem_cons] at hk ⊢
   exact hk.imp id (i3 k)
 | @old F H' b o hb hbH h ih=>
  intro hn
  simp only[keys_cons,List.nodup_cons] at hn
  obtain⟨i1,i2,i3,i4⟩:=ih hn.2
  refine⟨List.nodup_cons.2 ⟨fun hh=>(h.keysIn b hh).elim hbH hn.1,i1⟩,?_,?_,fun k hk tp=>List.mem_cons_of_mem _ (i4 k hk tp)⟩
  .intro k u hm
   rcases List.mem_cons.1 hm with hm | hm
   .exact .inl (hm▸List.mem_cons_self ..)
   .rcases i2 k u hm with h1 | ⟨h1,h2⟩
    .exact .inl (List.mem_cons_of_mem _ h1)
    .refine .inr ⟨h1,?_⟩
     simp only[keys_cons,List.mem_cons,not_or]
     exact⟨fun e=>hbH (e▸K0 h1),h2⟩
  .intro k hk
   simp only[keys_cons,List.mem_cons] at hk ⊢
   exact hk.imp id (i3 k)
 | @upd F H' H'' b o hu hb h ih=>
  intro hn
  simp only[keys_cons,List.nodup_cons] at hn
  obtain⟨i1,i2,i3,i4⟩:=ih hn.2
  have hone:¬ 1<(keys H').count b:=by have:=List.nodup_iff_count.1 i1 b;omega
  refine⟨hu.nodup i1 (.inl rfl),?_,?_,?_⟩
  .intro k u hm
   rcases hu.mem _ hm with h1 | h1
   .exact .inl (h1▸List.mem_cons_self ..)
   .have hkb:k≠b∨(k,u)=(b,o):=by
     by_cases hkb:k=b
     .right
      subst hkb
      have hnd:=hu.nodup i1 (.inl rfl)
      have hin:(k,o)∈H'':=hu.isin
      have:∀ (T:GH),(keys T).Nodup->∀ k u v,(k,u)∈T->(k,v)∈T->u=v:=by
       intro T
       induction T with
       | nil=>intro _ k u v h;exact absurd h (by simp)
       | cons x T ihT=>
        obtain⟨xb,xo⟩:=x
        intro hT k u v h1 h2
        simp only[keys_cons,List.nodup_cons] at hT
        rcases List.mem_cons.1 h1 with h1 | h1 <;> rcases List.mem_cons.1 h2 with h2 | h2
        .cases h1;cases h2;rfl
        .cases h1;exact absurd (K0 h2) hT.1
        .cases h2;exact absurd (K0 h1) hT.1
        .exact ihT hT.2 k u v h1 h2
      rw[this H'' hnd k u o hm hin]
     .exact .inl hkb
    rcases hkb with hkb | hkb
    .rcases i2 k u h1 with h2 | ⟨h2,h3⟩
     .exact .inl (List.mem_cons_of_mem _ h2)
     .refine .inr ⟨h2,?_⟩
      simp only[keys_cons,List.mem_cons,not_or]
      exact⟨hkb,h3⟩
    .exact .inl (hkb▸List.mem_cons_self ..)
  .intro k hk
   simp only[keys_cons,List.mem_cons] at hk
   refine(hu.keys k).2 ?_
   rcases hk with hk | hk
   .exact .inl hk
   .exact .inr ⟨i3 k hk,.inl (fun e=>hn.1 (e▸hk))⟩
  .intro k hk tp
   refine(hu.keys k).2 ?_
   by_cases hkb:k=b
   .exact .inl hkb
   .exact .inr ⟨i4 k hk tp,.inl hkb⟩
 | @swp F H' H'' b b' o h0 hb' hu hb hF h ih=>
  intro hn
  simp only[keys_cons,List.nodup_cons] at hn
  obtain⟨i1,i2,i3,i4⟩:=ih hn.2
  have hb'H:b'=b∨b'∉keys H':=by
   rcases hb' with e | e
   .exact .inl e
   .refine .inr fun hh=>(h.keysIn b' hh).elim (fun hH=>?_) hn.1
    have:=hlt b' hH;omega
  have hnd:=hu.nodup i1 hb'H
  have huniq:∀ (T:GH),(keys T).Nodup->∀ k u v,(k,u)∈T->(k,v)∈T->u=v:=by
   intro T
   induction T with
   | nil=>intro _ k u v h;exact absurd h (by simp)
   | cons x T ihT=>
    obtain⟨xb,xo⟩:=x
    intro hT k u v h1 h2
    simp only[keys_cons,List.nodup_cons] at hT
    rcases List.mem_cons.1 h1 with h1 | h1 <;> rcases List.mem_cons.1 h2 with h2 | h2
    .cases h1;cases h2;rfl
    .cases h1;exact absurd (K0 h2) hT.1
    .cases h2;exact absurd (K0 h1) hT.1
    .exact ihT hT.2 k u v h1 h2
  have hin:(b',o)∈H'':=hu.isin
  refine⟨hnd,?_,?_,?_⟩
  .intro k u hm
   by_cases hkb:k=b'
   .subst hkb
    rw[huniq H'' hnd k u o hm hin]
    exact .inl (List.mem_cons_self ..)
   .rcases hu.mem _ hm with h1 | h1
    .cases h1;exact absurd rfl hkb
    .rcases i2 k u h1 with h2 | ⟨h2,h3⟩
     .exact .inl (List.mem_cons_of_mem _ h2)
     .refine .inr ⟨h2,?_⟩
      simp only[keys_cons,List.mem_cons,not_or]
      exact⟨hkb,h3⟩
  .intro k hk
   simp only[keys_cons,List.mem_cons] at hk
   refine(hu.keys k).2 ?_
   rcases hk with hk | hk
   .exact .inl hk
   .exact .inr ⟨i3 k hk,.inl (fun e=>hF (e▸hk))⟩
  .intro k hk tp
   exact(hu.keys k).2 (.inr ⟨i4 k hk tp,.inl (fun e=>by subst e;omega)⟩)
theorem Mg.st {w0 w w':World} {H F H':GH} (h:Mg w0 w H F H') (hs:St w0 H w) (hf:St w F w'):St w0 H' w':=by
 obtain⟨h1,h2,h3,h4⟩:=h.sound (fun k hk=>hs.klt hk) hs.nd hf.nd
 exact hs.trans hf h1 h2 (fun b hb _=>h3 b hb) h4
def Ui (env:HH):List Operand->Option (List Value)
 | []=>some []
 | x::r=>match ev env x,Ui env r with
  | some v,some vs=>some (v::vs)
  | _,_=>none
theorem La {a:Act} (ha:AgV env a):∀ (l:List Operand) (vs:List Value),Ui env l=some vs->l.map a.eval=vs:=by
 intro l
 induction l with
 | nil=>intro vs h;cases h;rfl
 | cons x l ih=>
  intro vs h
  simp only[Ui] at h
  split at h
  .rename_i v vs' h1 h2
   cases h
   simp[ha.ev h1,ih vs' h2]
  .cases h
def G7 (P : Program) (f : FuncId) : Prop := ∃ fn, P.funcs[f]? = some fn ∧ (fn.name == "runtime.NumGoroutine") = false ∧ fn.body.isNone = false
theorem Ow {f:FuncId} (h:G7 P f) (args:Array Value) (w:World):(callFunc f args).run P w=.ok (.enter f args) w:=by
 obtain⟨fn,h1,h2,h3⟩:=h
 have h4 : fn.name ≠ "runtime.NumGoroutine" := by simpa using h2
 have h5:¬ fn.body=none:=fun e=>by rw[e] at h3;simp at h3
 simp[callFunc,h1,h4,h5]
theorem Aa0 {o:Oper} {f:FuncId} {args:Array Value} {G:World->Value->GH->Prop} {R:Value->GH->Prop} (hrun:∀ a w,AgV env a->(execOp a.eval o).run P w=.ok (.enter f args) w) (h:∀ w,St w0 H w->Con P f args w (G w)) (k:∀ w v F,St w0 H w->G w v F->∃ H',Mg w0 w H F H'/\R v H'):OT P w0 env H o R:=by
 intro a w ha hs
 unfold Oper.wp
 rw[hrun a w ha,Oper.upon_enter]
 refine Calls.mono (h w hs) ?_
 rintro e w' ⟨v,F,rfl,hst,hG⟩
 obtain⟨H',hm,hR⟩:=k w v F hs hG
 exact⟨v,H',rfl,hm.st hs hst,hR⟩
theorem RL {f:FuncId} {args:Array Operand} {ts:Array TypeId} {vs:List Value} (hf:G7 P f) (hargs:Ui env args.toList=some vs) :
  ∀ a w,AgV env a->(execOp a.eval ⟨some d,.call ⟨.value (.func f),args,ts⟩,ty,pos,af,g⟩).run P w=.ok (.enter f vs.toArray) w:=by
 intro a w ha
 have hm:args.map a.eval=vs.toArray:=by
  have:=La ha _ _ hargs
  apply Array.toList_inj.1
  simpa using this
 simp only[execOp,resolve,Sem.run_bind,Act.eval,Deferred.ofValue,Sem.run_pure,Result.andThen_ok,invoke,hm]
 simpa using Ow hf vs.toArray w
theorem Ir {f:FuncId} {args:Array Operand} {ts:Array TypeId} {vs:List Value} {G:World->Value->GH->Prop} (hd:Nat.blt d n=true) (hw:Wt ops env g) (hf:G7 P f) (hargs:Ui env args.toList=some vs) (h:∀ w,St w0 H w->Con P f vs.toArray w (G w)) (k:∀ w v F,St w0 H w->G w v F->∃ H',Mg w0 w H F H'/\XO P n w0 ((d,v)::env) H' ops rest Q) :
  XO P n w0 env H ops (⟨some d,.call ⟨.value (.func f),args,ts⟩,ty,pos,af,g⟩::rest) Q:=
 xo hd hw (Aa0 (R:=fun v H'=>XO P n w0 ((d,v)::env) H' ops rest Q) (RL hf hargs) h k) fun _ _ hh=>hh
theorem AgA {f:FuncId} {args:Array Operand} {ts:Array TypeId} {vs:List Value} {v:Value} (hd:Nat.blt d n=true) (hw:Wt ops env g) (hf:G7 P f) (hargs:Ui env args.toList=some vs) (h:∀ w,St w0 H w->Con P f vs.toArray w (Is v [])) (k:XO P n w0 ((d,v)::env) H ops rest Q) :
  XO P n w0 env H ops (⟨some d,.call ⟨.value (.func f),args,ts⟩,ty,pos,af,g⟩::rest) Q:=
 Ir hd hw hf hargs h fun _ _ _ _ ⟨e1,e2⟩=>by subst e1 e2;exact⟨H,.nil H,k⟩
theorem JW {f:FuncId} {args:Array Operand} {ts:Array TypeId} {vs:List Value} {v:Value} {d:Nat} (hf:G7 P f) (hargs:Ui env args.toList=some vs) (h:∀ w,St w0 H w->Con P f vs.toArray w (Is v [])) :
  OT P w0 env H ⟨some d,.call ⟨.value (.func f),args,ts⟩,ty,pos,af,g⟩ (Is v H):=
 Aa0 (RL hf hargs) h fun _ _ _ _ ⟨e1,e2⟩=>by subst e1 e2;exact⟨H,.nil H,rfl,rfl⟩
inductive Kp (w0:World):GH->GH->Prop
 | nil:Kp w0 [] []
 | keep {x:Nat×Obj} {H F:GH} (h:Kp w0 H F):Kp w0 (x::H) (x::F)
 | new {b:Nat} {o:Obj} {H F:GH} (hb:w0.heap.size<=b) (h:Kp w0 H F):Kp w0 ((b,o)::H) F
 | same {b:Nat} {o:Obj} {H F:GH} (hb:w0.heap[b]? = some o) (h:Kp w0 H F):Kp w0 ((b,o)::H) F
theorem Kp.sub {H F:GH} (h:Kp w0 H F):List.Sublist F H:=by
 induction h with
 | nil=>exact List.Sublist.slnil
 | keep h ih=>exact ih.cons_cons _
 | new hb h ih=>exact ih.cons _
 | same hb h ih=>exact ih.cons _
theorem Kp.all {H F:GH} (h:Kp w0 H F):∀ b o,(b,o)∈H->b∈keys F∨w0.heap.size<=b∨w0.heap[b]? = some o:=by
 induction h with
 | nil=>intro b o h;exact absurd h (by simp)
 | @keep x H F h ih=>
  obtain⟨xb,xo⟩:=x
  intro b o hm
  rcases List.mem_cons.1 hm with hm | hm
  .cases hm;exact .inl Ad
  .exact(ih b o hm).imp (fun h=>by simp[h]) id
 | new hb h ih=>
  intro b o hm
  rcases List.mem_cons.1 hm with hm | hm
  .cases hm;exact .inr (.inl hb)
  .exact ih b o hm
 | same hb h ih=>
  intro b o hm
  rcases List.mem_cons.1 hm with hm | hm
  .cases hm;exact .inr (.inr hb)
  .exact ih b o hm
theorem Kp.st {H F:GH} (h:Kp w0 H F):∀ w,St w0 H w->St w0 F w:=fun _ hs=>
 hs.drop (fun _ _ hm=>h.sub.subset hm) ((h.sub.map _).nodup hs.nd) h.all
end
end Go.E
namespace Go.E
open Go
def CV (n:Nat) (f:Nat->Value):Array Value:=((List.range n).map f).toArray
def AG (n:Nat) (f:Nat->Value):Value:=.agg (CV n f)
def iv (m:Nat->Int):Nat->Value:=fun i=>.int .i64 (m i)
abbrev AI (n:Nat) (m:Nat->Int):Value:=AG n (iv m)
def BK (n:Nat) (f:Nat->Value) (T:TypeId):Obj:=.cells (CV n f) T (0,0)
def upd (f:Nat->Value) (o:Nat) (v:Value):Nat->Value:=fun i=>if i=o then v else f i
def Gq (m:Nat->Int) (o:Nat) (x:Int):Nat->Int:=fun i=>if i=o then x else m i
def J9 (f:Nat->Value) (o s:Nat) (g:Nat->Value):Nat->Value:=fun i=>if o<=i/\i<o+s then g (i-o) else f i
def GX (m:Nat->Int) (o s:Nat) (g:Nat->Int):Nat->Int:=fun i=>if o<=i/\i<o+s then g (i-o) else m i
theorem WL (m:Nat->Int) (o:Nat) (x:Int):upd (iv m) o (.int .i64 x)=iv (Gq m o x):=by
 funext i;simp only[upd,iv,Gq];split <;> rfl
theorem Uq (m:Nat->Int) (o s:Nat) (g:Nat->Int):J9 (iv m) o s (iv g)=iv (GX m o s g):=by
 funext i;simp only[J9,iv,GX];split <;> rfl
@[simp] theorem CV_size (n:Nat) (f:Nat->Value):(CV n f).size=n:=by simp[CV]
theorem KB {n:Nat} {f:Nat->Value} {i:Nat} (h:i<n):(CV n f)[i]? = some (f i):=by simp[CV,h]
theorem Zb {n:Nat} {f:Nat->Value} {i:Nat} (h:n<=i):(CV n f)[i]? = none:=by simp[CV,h]
theorem AeV {n:Nat} {f g:Nat->Value} (h:∀ i,i<n->f i=g i):CV n f=CV n g:=by
 unfold CV;congr 1;exact List.map_congr_left fun i hi=>h i (List.mem_range.1 hi)
theorem Sf {c:Array Value} {n:Nat} {f:Nat->Value} (hs:c.size=n) (h:∀ i,i<n->c[i]? = some (f i)):c=CV n f:=by
 apply Array.ext_getElem?
 intro i
 by_cases hi:i<n
 .rw[h i hi,KB hi]
 .rw[Zb Aa,Array.getElem?_eq_none Aa]
theorem AbF (c:Array Value):c=CV c.size (fun i=>c.getD i undef):=Sf rfl fun i hi=>by simp[hi]
theorem Rn {n:Nat} {f g:Nat->Value} (h:∀ i,i<n->f i=g i):AG n f=AG n g:=by unfold AG;rw[AeV h]
theorem Rm {n:Nat} {f g:Nat->Value} {T:TypeId} (h:∀ i,i<n->f i=g i):BK n f T=BK n g T:=by unfold BK;rw[AeV h]
theorem Aaz {n o s:Nat} {f:Nat->Value} (h:o+s<=n):(CV n f).extract o (o+s)=CV s (fun i=>f (o+i)):=by
 refine Sf (by simp;omega) fun i hi=>?_
 rw[Array.getElem?_extract]
 simp only[CV_size]
 rw[Ae Aa,KB Aa]
theorem Km (n:Nat) (f:Nat->Value):(AG n f).cells=CV n f:=rfl
def Xq:TypeDesc->Bool
 | .struct _ | .array _ _=>true
 | _=>false
def TyS (P:Program) (t:TypeId) (n:Nat) (ag:Bool):Prop:=(P.underlying t).map Xq=some ag/\(P.info? t).map (·.size)=some n
def ZeroT (P:Program) (t:TypeId) (z:Value):Prop:=(P.info? t).map (·.zero)=some (some z)
section
variable {P:Program} {n:Nat} {w0:World} {env:HH} {H:GH} {Q:Exit->Act->World->Prop} {ops:Array Oper} {rest:List Oper}
variable {d:Option Nat} {op:Op} {ty:TypeId} {pos:String} {af:Array Edge} {g:Option (Nat×Bool)}
theorem TyS.sizeOf {t:TypeId} {k:Nat} {ag:Bool} (h:TyS P t k ag) (w:World):(Go.sizeOf t).run P w=.ok k w:=by
 obtain⟨i,h1,h2⟩:=Option.map_eq_some_iff.1 h.2
 simp[Go.sizeOf,typeInfo,h1,h2]
theorem TyS.isAgg {t:TypeId} {k:Nat} {ag:Bool} (h:TyS P t k ag) (w:World):(Go.isAgg t).run P w=.ok ag w:=by
 obtain⟨x,h1,h2⟩:=Option.map_eq_some_iff.1 h.1
 simp only[Go.isAgg,Sem.run_bind,run_underlying h1,Result.andThen_ok]
 cases x <;> simp_all[Xq]
theorem ZeroT.run {t:TypeId} {z:Value} (h:ZeroT P t z) (w:World):(zeroValue t).run P w=.ok z w:=by
 obtain⟨i,h1,h2⟩:=Option.map_eq_some_iff.1 h
 simp[zeroValue,typeInfo,h1,h2]
theorem AhS {x:Operand} {v:Value} (hx:ev env x=some v):OT P w0 env H ⟨d,.move x,ty,pos,af,g⟩ (Is v H):=
 aD fun a w ha=>by simp[execOp,ha.ev hx]
theorem AhV {x:Operand} {v:Value} (hx:ev env x=some v):OT P w0 env H ⟨d,.assign x,ty,pos,af,g⟩ (Is v H):=
 aD fun a w ha=>by simp[execOp,ha.ev hx]
theorem HW {c x y:Operand} {v:Value} (hc:ev env c=some (.bool true)) (hx:ev env x=some v) :
  OT P w0 env H ⟨d,.pick c x y,ty,pos,af,g⟩ (Is v H):=
 aD fun a w ha=>by simp[execOp,ha.ev hx,ha.ev hc,asBool]
theorem H4 {c x y:Operand} {v:Value} (hc:ev env c=some (.bool false)) (hy:ev env y=some v) :
  OT P w0 env H ⟨d,.pick c x y,ty,pos,af,g⟩ (Is v H):=
 aD fun a w ha=>by simp[execOp,ha.ev hy,ha.ev hc,asBool]
theorem JD {bop:BinOp} {t yt:TypeId} {x y:Operand} {k:IntKind} {i j:Int} {v:Value} {a:Act} {w:World} (hx:a.eval x=.int k i) (hy:a.eval y=.int k j) (h:(binOp bop t (.int k i) (.int k j)).run P w=.ok v w) :
  (execOp a.eval ⟨d,.binOp bop t x y yt,ty,pos,af,g⟩).run P w=.ok (.value v) w:=by
 have hg:(eqGuard bop t x y (.int k i) (.int k j)).run P w=.ok () w:=by
  unfold eqGuard
  cases bop <;> simp
 simp only[execOp,hx,hy,Sem.run_bind,hg,h,Result.andThen_ok,Sem.run_pure]
abbrev GN (x:Int):Prop:=-9223372036854775808<=x/\x<=9223372036854775807
theorem WH {x:Int} (h:GN x):IntKind.i64.wrap x=x:=IntWalk.i64_in x h
section
variable {t yt:TypeId} {x y:Operand} {k:IntKind} {i j:Int}
theorem Hk {z:Int} (hx:ev env x=some (.int .i64 i)) (hy:ev env y=some (.int .i64 j)) (hz:i+j=z) (hb:GN z) :
  OT P w0 env H ⟨d,.binOp .add t x y yt,ty,pos,af,g⟩ (Is (.int .i64 z) H):=
 aD fun a w ha=>JD (ha.ev hx) (ha.ev hy) (by subst hz;simp[binOp,Op.intArith,WH hb])
theorem Ke {z:Int} (hx:ev env x=some (.int .i64 i)) (hy:ev env y=some (.int .i64 j)) (hz:i-j=z) (hb:GN z) :
  OT P w0 env H ⟨d,.binOp .sub t x y yt,ty,pos,af,g⟩ (Is (.int .i64 z) H):=
 aD fun a w ha=>JD (ha.ev hx) (ha.ev hy) (by subst hz;simp[binOp,Op.intArith,WH hb])
theorem AdG {z:Int} (hx:ev env x=some (.int k i)) (hy:ev env y=some (.int k j)) (hj:j≠0) (hz:i.tmod j=z) :
  OT P w0 env H ⟨d,.binOp .rem t x y yt,ty,pos,af,g⟩ (Is (.int k z) H):=
 aD fun a w ha=>JD (ha.ev hx) (ha.ev hy) (by subst hz;simp[binOp,Op.intDiv,hj])
theorem GI (hx:ev env x=some (.int k i)) (hy:ev env y=some (.int k j)) :
  OT P w0 env H ⟨d,.binOp .eql t x y yt,ty,pos,af,g⟩ (Is (.bool (decide (i=j))) H):=
 aD fun a w ha=>JD (ha.ev hx) (ha.ev hy) (by simp[binOp,Op.intCmp];rfl)
theorem Hr (hx:ev env x=some (.int k i)) (hy:ev env y=some (.int k j)) :
  OT P w0 env H ⟨d,.binOp .neq t x y yt,ty,pos,af,g⟩ (Is (.bool (!decide (i=j))) H):=
 aD fun a w ha=>JD (ha.ev hx) (ha.ev hy) (by simp[binOp,Op.intCmp];rfl)
theorem G6 (hx:ev env x=some (.int k i)) (hy:ev env y=some (.int k j)) :
  OT P w0 env H ⟨d,.binOp .lss t x y yt,ty,pos,af,g⟩ (Is (.bool (decide (i<j))) H):=
 aD fun a w ha=>JD (ha.ev hx) (ha.ev hy) (by simp[binOp,Op.intCmp])
theorem J1 (hx:ev env x=some (.int k i)) (hy:ev env y=some (.int k j)) :
  OT P w0 env H ⟨d,.binOp .leq t x y yt,ty,pos,af,g⟩ (Is (.bool (decide (i<=j))) H):=
 aD fun a w ha=>JD (ha.ev hx) (ha.ev hy) (by simp[binOp,Op.intCmp])
theorem Hz (hx:ev env x=some (.int k i)) (hy:ev env y=some (.int k j)) :
  OT P w0 env H ⟨d,.binOp .gtr t x y yt,ty,pos,af,g⟩ (Is (.bool (decide (j<i))) H):=
 aD fun a w ha=>JD (ha.ev hx) (ha.ev hy) (by simp[binOp,Op.intCmp])
theorem Ie (hx:ev env x=some (.int k i)) (hy:ev env y=some (.int k j)) :
  OT P w0 env H ⟨d,.binOp .geq t x y yt,ty,pos,af,g⟩ (Is (.bool (decide (j<=i))) H):=
 aD fun a w ha=>JD (ha.ev hx) (ha.ev hy) (by simp[binOp,Op.intCmp])
theorem Hh {b:Bool} (hx:ev env x=some (.bool b)):OT P w0 env H ⟨d,.unOp .not t x,ty,pos,af,g⟩ (Is (.bool !b) H):=
 aD fun a w ha=>by simp[execOp,ha.ev hx,Op.unary]
theorem AdM {s:TypeId} {k':IntKind} {ds:TypeDesc} (hx:ev env x=some (.int k i)) (h1:P.underlying s=some ds) (h2:P.underlying t=some (.int k')) :
  OT P w0 env H ⟨d,.convert s t x,ty,pos,af,g⟩ (Is (.int k' (k'.wrap i)) H):=
 aD fun a w ha=>by simp[execOp,ha.ev hx,convert,run_underlying h1,run_underlying h2,Conv.intToInt]
theorem KK {l:List Value} {v:Value} {m:Nat} (hx:ev env x=some (.tuple l.toArray)) (hv:l[m]? = some v):OT P w0 env H ⟨d,.extract x m,ty,pos,af,g⟩ (Is v H):=
 aD fun a w ha=>by simp[execOp,ha.ev hx,Instr.extract,hv]
theorem AdH {b:Addr} (hx:ev env x=some (.pointer (some b))):OT P w0 env H ⟨d,.nilCheck x,ty,pos,af,g⟩ (Is (.pointer (some b)) H):=
 aD fun a w ha=>by simp[execOp,ha.ev hx]
theorem AaZ {fn:Fn} {fi ca:Array Operand} {v1 v2:List Value} (h1:Ui env fi.toList=some v1) (h2:Ui env ca.toList=some v2) :
  OT P w0 env H ⟨d,.makeFunc fn fi ca,ty,pos,af,g⟩ (Is (.func fn v1.toArray v2.toArray) H):=
 aD fun a w ha=>by
  have e1:fi.map a.eval=v1.toArray:=Array.toList_inj.1 (by simpa using La ha _ _ h1)
  have e2:ca.map a.eval=v2.toArray:=Array.toList_inj.1 (by simpa using La ha _ _ h2)
  simp[execOp,Instr.makeFunc,e1,e2]
theorem HE {v:Value} {ds:TypeDesc} (hx:ev env x=some v) (h1:P.underlying t=some ds) (h2:(match ds with | .interface _=>false | _=>true)=true) :
  OT P w0 env H ⟨d,.makeInterface t x,ty,pos,af,g⟩ (Is (.iface t v) H):=
 aD fun a w ha=>by
  simp only[execOp,Instr.makeInterface,ha.ev hx,Sem.run_bind,run_underlying h1,Result.andThen_ok]
  cases ds <;> simp_all
theorem XE (ht:P.underlying t=some .bool) (b c:Bool) (w:World):(Op.equal t (.bool b) (.bool c)).run P w=.ok (b == c) w:=by
 show(Op.equalIn (9999+1) t (.bool b) (.bool c)).run P w=_
 rw[Op.equalIn]
 simp[run_underlying ht]
theorem AgM {b c:Bool} (ht:P.underlying t=some .bool) (hx:ev env x=some (.bool b)) (hy:ev env y=some (.bool c)) :
  OT P w0 env H ⟨d,.binOp .neq t x y yt,ty,pos,af,g⟩ (Is (.bool (!(b == c))) H):=
 aD fun a w ha=>by simp[execOp,ha.ev hx,ha.ev hy,eqGuard,binOp,XE ht]
end
end
end Go.E
namespace Go.E
open Go
theorem Kc {w:World} {b o N:Nat} {F:Nat->Value} {T:TypeId} (h:w.heap[b]? = some (BK N F T)) (ho:o<N):w.cell? ⟨b,o,none⟩=some (F o):=by
 simp[World.cell?,h,BK,KB ho]
theorem AcJ {w0 w:World} {H:GH} (hs:St w0 H w) {b o:Nat} {v:Value} (hc:w0.cell? ⟨b,o,none⟩=some v) (hn:b∉keys H):w.cell? ⟨b,o,none⟩=some v:=by
 have hlt:=World.block_lt_of_cell? w0 _ hc
 rw[<- hc]
 exact World.cell?_of_block (hs.keep b hlt hn)
section
variable {P:Program} {n:Nat} {w0:World} {env:HH} {H:GH} {Q:Exit->Act->World->Prop} {ops:Array Oper} {rest:List Oper}
variable {d:Option Nat} {op:Op} {ty:TypeId} {pos:String} {af:Array Edge} {g:Option (Nat×Bool)}
variable {t:TypeId} {x y:Operand} {b o N s:Nat} {F:Nat->Value} {m:Nat->Int} {T:TypeId}
theorem We {a:Act} {w:World} {v:Value} {k:Nat} (hx:a.eval x=.pointer (some ⟨b,o,none⟩)) (ht:TyS P t k false) (hc:w.cell? ⟨b,o,none⟩=some v) :
  (execOp a.eval ⟨d,.load t x,ty,pos,af,g⟩).run P w=.ok (.value v) w:=by
 simp[execOp,hx,Instr.loadAt,Instr.sureAddr,loadVar,ht.isAgg,hc]
theorem UQ {v:Value} {k:Nat} (hx:ev env x=some (.pointer (some ⟨b,o,none⟩))) (ht:TyS P t k false) (hm:(b,BK N F T)∈H) (ho:o<N) (hv:F o=v) :
  OT P w0 env H ⟨d,.load t x,ty,pos,af,g⟩ (Is v H):=
 OT.val fun a w ha hs=>⟨v,w,H,We (ha.ev hx) ht (by rw[<- hv];exact Kc (hs.own _ _ hm) ho),hs,rfl,rfl⟩
theorem TH {v:Int} {k:Nat} (hx:ev env x=some (.pointer (some ⟨b,o,none⟩))) (ht:TyS P t k false) (hm:(b,BK N (iv m) T)∈H) (ho:o<N) (hv:m o=v) :
  OT P w0 env H ⟨d,.load t x,ty,pos,af,g⟩ (Is (.int .i64 v) H):=UQ hx ht hm ho (by rw[<- hv];rfl)
theorem JV {v:Value} {k:Nat} (hx:ev env x=some (.pointer (some ⟨b,0,none⟩))) (ht:TyS P t k false) (hm:(b,BK 1 (fun _=>v) T)∈H) :
  OT P w0 env H ⟨d,.load t x,ty,pos,af,g⟩ (Is v H):=UQ hx ht hm Aa rfl
theorem SO {a:Act} {w:World} {f:Nat->Value} (hx:a.eval x=.pointer (some ⟨b,o,none⟩)) (ht:TyS P t s true) (hc:∀ i,i<s->w.cell? ⟨b,o+i,none⟩=some (f i)) :
  (execOp a.eval ⟨d,.load t x,ty,pos,af,g⟩).run P w=.ok (.value (AG s f)) w:=by
 have:=run_loadCells (P:=P) w ⟨b,o,none⟩ s f (fun j hj=>by rw[Addr.add_lit];exact hc j hj)
 simp[execOp,hx,Instr.loadAt,Instr.sureAddr,loadVar,ht.isAgg,ht.sizeOf,this,AG,CV]
theorem GA (hx:ev env x=some (.pointer (some ⟨b,0,none⟩))) (ht:TyS P t s true) (hm:(b,BK s F T)∈H):OT P w0 env H ⟨d,.load t x,ty,pos,af,g⟩ (Is (AG s F) H):=
 OT.val fun a w ha hs=>⟨_,w,H,SO (ha.ev hx) ht (fun i hi=>by rw[Nat.zero_add];exact Kc (hs.own _ _ hm) hi),hs,rfl,rfl⟩
theorem Nv {f:Nat->Value} (hx:ev env x=some (.pointer (some ⟨b,o,none⟩))) (ht:TyS P t s true) (hm:(b,BK N F T)∈H) (ho:o+s<=N) (hf:∀ i,i<s->F (o+i)=f i):OT P w0 env H ⟨d,.load t x,ty,pos,af,g⟩ (Is (AG s f) H):=
 OT.val fun a w ha hs=>⟨_,w,H,SO (ha.ev hx) ht (fun i hi=>by rw[Kc (hs.own _ _ hm) Aa,hf i hi]),hs,rfl,rfl⟩
theorem Jx {f:Nat->Int} (hx:ev env x=some (.pointer (some ⟨b,o,none⟩))) (ht:TyS P t s true) (hm:(b,BK N (iv m) T)∈H) (ho:o+s<=N) (hf:∀ i,i<s->m (o+i)=f i):OT P w0 env H ⟨d,.load t x,ty,pos,af,g⟩ (Is (AI s f) H):=
 Nv hx ht hm ho (fun i hi=>by simp only[iv,hf i hi])
theorem AbZ {w:World} {f':Nat->Value} {c:Array Value} (hb:w.heap[b]? = some (BK N F T)) (hc:c=CV N f'):(w.setRow b c).heap[b]? = some (BK N f' T):=by
 rw[setRow_heap w b (CV N F) c T (0,0) hb,hc];rfl
theorem St.setRow {w:World} {H':GH} {f':Nat->Value} {c:Array Value} (hs:St w0 H w) (hm:(b,BK N F T)∈H) (hc:c=CV N f') (hu:Upd H b (BK N f' T) H'):St w0 H' (w.setRow b c):=
 hs.upd hu (AbZ (hs.own _ _ hm) hc) (fun k hk=>setRow_other w b k c hk) rfl rfl rfl Ad
theorem Upd.get {H H':GH} {b:Nat} {o':Obj} (h:Upd H b o' H'):∃ o,(b,o)∈H:=by
 induction h with
 | here b o o' t=>exact⟨o,List.mem_cons_self ..⟩
 | there x t t' b o' h ih=>exact ih.imp fun _ h=>List.mem_cons_of_mem _ h
theorem SC {f:Nat->Value} {gs:List Value} {k:Nat->Value} (hl:o+gs.length<=N) (hin:∀ i,i<gs.length->gs[i]? = some (k (o+i))) (hout:∀ i,i<N->(i<o∨o+gs.length<=i)->f i=k i) :
  ((CV N f).toList.take o++gs++(CV N f).toList.drop (o+gs.length)).toArray=CV N k:=by
 refine Sf (by simp;omega) fun i hi=>?_
 simp only[List.getElem?_toArray]
 by_cases h1:i<o
 .rw[List.append_assoc,List.getElem?_append_left (by simp;omega),List.getElem?_take,Ae h1]
  rw[Array.getElem?_toList,KB hi,hout i hi (.inl h1)]
 .by_cases h2:i<o+gs.length
  .rw[List.getElem?_append_left (by simp;omega),List.getElem?_append_right (by simp;omega)]
   have hmin:(List.take o (CV N f).toList).length=o:=by simp;omega
   rw[hmin,hin (i-o) Aa]
   congr 2;omega
  .rw[List.getElem?_append_right (by simp;omega)]
   have hlen:(List.take o (CV N f).toList++gs).length=o+gs.length:=by simp;omega
   rw[hlen,List.getElem?_drop,Array.getElem?_toList]
   rw[KB Aa]
   rw[hout _ Aa Aa]
   congr 2;omega
theorem Adp {a:Act} {w:World} {v:Value} {f':Nat->Value} (hx:a.eval x=.pointer (some ⟨b,o,none⟩)) (hy:a.eval y=v) (hsz:(P.info? t).map (·.size)=some s) (hvs:v.cells.size=s) (h1:∀ u∈v.cells.toList,u.oneCell'=true) (hb:w.heap[b]? = some (BK N F T)) (hl:o+s<=N) (hin:∀ i,i<s->v.cells[i]? = some (f' (o+i))) (hout:∀ i,i<N->(i<o∨o+s<=i)->F i=f' i) :
  ∃ c,c=CV N f'/\(execOp a.eval ⟨d,.store t x y,ty,pos,af,g⟩).run P w=.ok .skip (w.setRow b c):=by
 obtain⟨i0,tu,qO⟩:=Option.map_eq_some_iff.1 hsz
 have hst:=run_storeCells_at P b o T v.cells.toList 0 (CV N F) w hb (by simp;omega) h1
 simp only[Nat.add_zero] at hst
 refine⟨_,SC (N:=N) (o:=o) (f:=F) (gs:=v.cells.toList) (k:=f') (by simp;omega) (fun i hi=>by rw[Array.getElem?_toList];exact hin i (by simpa [hvs] using hi)) (fun i hi hh=>hout i hi (by simpa [hvs] using hh)),?_⟩
 simp[execOp,hx,hy,Instr.storeAt,Instr.sureAddr,storeVar,Go.sizeOf,typeInfo,tu,qO,hvs,hst]
theorem Acb {H':GH} {v:Value} (hx:ev env x=some (.pointer (some ⟨b,o,none⟩))) (hy:ev env y=some v) (ht:TyS P t 1 false) (h1:v.oneCell'=true) (hm:(b,BK N F T)∈H) (ho:o<N) (hu:Upd H b (BK N (upd F o v) T) H'):OT P w0 env H ⟨none,.store t x y,ty,pos,af,g⟩ (Is undef H'):=
 OT.skip fun a w ha hs=>by
  have hc:v.cells=#[v]:=by cases v <;> first | rfl | simp[Value.oneCell'] at h1
  obtain⟨c,hc',hr⟩:=Adp (d:=none) (ty:=ty) (pos:=pos) (af:=af) (g:=g) (f':=upd F o v) (ha.ev hx) (ha.ev hy) ht.2 (by rw[hc];rfl) (by rw[hc];simpa using h1) (hs.own _ _ hm) Aa
   (fun i hi=>by
    obtain rfl:i=0:=Aa
    simp[hc,upd]) (fun i _ hh=>by simp only[upd];rw[Af Aa])
  exact⟨_,H',hr,hs.setRow hm hc' hu,rfl,rfl⟩
theorem AaV {H':GH} {v:Value} (hx:ev env x=some (.pointer (some ⟨b,0,none⟩))) (hy:ev env y=some v) (ht:TyS P t 1 false) (h1:v.oneCell'=true) (hm:(b,BK 1 F T)∈H) (hu:Upd H b (BK 1 (fun _=>v) T) H'):OT P w0 env H ⟨none,.store t x y,ty,pos,af,g⟩ (Is undef H'):=
 Acb hx hy ht h1 hm Aa (by rw[Rm (g:=fun _=>v) (fun i hi=>by obtain rfl:i=0:=Aa;simp[upd])];exact hu)
theorem HS {H':GH} {v:Int} (hx:ev env x=some (.pointer (some ⟨b,o,none⟩))) (hy:ev env y=some (.int .i64 v)) (ht:TyS P t 1 false) (hm:(b,BK N (iv m) T)∈H) (ho:o<N) (hu:Upd H b (BK N (iv (Gq m o v)) T) H'):OT P w0 env H ⟨none,.store t x y,ty,pos,af,g⟩ (Is undef H'):=
 Acb hx hy ht rfl hm ho (by rw[WL];exact hu)
theorem AaW {H':GH} {f:Nat->Value} (hx:ev env x=some (.pointer (some ⟨b,o,none⟩))) (hy:ev env y=some (AG s f)) (ht:TyS P t s true) (h1:∀ i,i<s->(f i).oneCell'=true) (hm:(b,BK N F T)∈H) (ho:o+s<=N) (hu:Upd H b (BK N (J9 F o s f) T) H'):OT P w0 env H ⟨none,.store t x y,ty,pos,af,g⟩ (Is undef H'):=
 OT.skip fun a w ha hs=>by
  obtain⟨c,hc',hr⟩:=Adp (d:=none) (ty:=ty) (pos:=pos) (af:=af) (g:=g) (f':=J9 F o s f) (ha.ev hx) (ha.ev hy) ht.2 (by rw[Km];simp)
   (fun u hu=>by rw[Km,CV] at hu;simp at hu;obtain⟨i,hi,rfl⟩:=hu;exact h1 i hi) (hs.own _ _ hm) Aa
   (fun i hi=>by rw[Km,KB hi];simp only[J9];rw[Ae Aa];congr 2;omega) (fun i _ hh=>by simp only[J9];rw[Af Aa])
  exact⟨_,H',hr,hs.setRow hm hc' hu,rfl,rfl⟩
theorem UP {H':GH} {f:Nat->Int} (hx:ev env x=some (.pointer (some ⟨b,o,none⟩))) (hy:ev env y=some (AI s f)) (ht:TyS P t s true) (hm:(b,BK N (iv m) T)∈H) (ho:o+s<=N) (hu:Upd H b (BK N (iv (GX m o s f)) T) H'):OT P w0 env H ⟨none,.store t x y,ty,pos,af,g⟩ (Is undef H'):=
 AaW hx hy ht (fun _ _=>rfl) hm ho (by rw[Uq];exact hu)
theorem TG {H':GH} {f:Nat->Value} (hx:ev env x=some (.pointer (some ⟨b,0,none⟩))) (hy:ev env y=some (AG s f)) (ht:TyS P t s true) (h1:∀ i,i<s->(f i).oneCell'=true) (hm:(b,BK s F T)∈H) (hu:Upd H b (BK s f T) H'):OT P w0 env H ⟨none,.store t x y,ty,pos,af,g⟩ (Is undef H'):=
 AaW hx hy ht h1 hm Aa (by rw[Rm (g:=f) (fun i hi=>by simp only[J9];rw[Ae Aa,Nat.sub_zero])];exact hu)
theorem JF {H':GH} {f:Nat->Int} (hx:ev env x=some (.pointer (some ⟨b,0,none⟩))) (hy:ev env y=some (AI s f)) (ht:TyS P t s true) (hm:(b,BK s F T)∈H) (hu:Upd H b (BK s (iv f) T) H'):OT P w0 env H ⟨none,.store t x y,ty,pos,af,g⟩ (Is undef H'):=
 TG hx hy ht (fun _ _=>rfl) hm hu
def VT (w0:World) (o:Obj) (H:GH):Value->GH->Prop:=fun v H'=>∃ b,w0.heap.size<=b/\v=.pointer (some ⟨b,0,none⟩)/\H'=(b,o)::H
theorem Adx {o:Oper} {z:Obj} (hr:∀ a w,AgV env a->(execOp a.eval o).run P w=.ok (.value (.pointer (some ⟨w.heap.size,0,none⟩))) (w.alloc z)):OT P w0 env H o (VT w0 z H):=
 OT.val fun a w ha hs=>⟨_,_,_,hr a w ha,hs.alloc z,w.heap.size,hs.size,rfl,rfl⟩
theorem H8 {e:TypeId} {z:Value} {k:Nat} {f:Nat->Value} (hz:ZeroT P e z) (hc:z.cells=CV k f):OT P w0 env H ⟨d,.alloc e,ty,pos,af,g⟩ (VT w0 (BK k f e) H):=
 Adx fun a w _=>by simp[execOp,Instr.alloc,hz.run,newVar,newRow,hc,BK]
theorem Af9 {e:TypeId} {v:Value} {k:Nat} {f:Nat->Value} (hx:ev env x=some v) (hc:v.cells=CV k f):OT P w0 env H ⟨d,.box e x,ty,pos,af,g⟩ (VT w0 (BK k f e) H):=
 Adx fun a w ha=>by simp[execOp,ha.ev hx,Instr.box,newVar,newRow,hc,BK]
theorem He {e:TypeId} {k:Nat} {f:Nat->Value} (hx:ev env x=some (AG k f)):OT P w0 env H ⟨d,.box e x,ty,pos,af,g⟩ (VT w0 (BK k f e) H):=Af9 hx (Km k f)
theorem HD {v:Value} (h:v.oneCell'=true):v.cells=CV 1 (fun _=>v):=by cases v <;> first | rfl | simp[Value.oneCell'] at h
theorem W6 {e:TypeId} {v:Value} (hx:ev env x=some v) (h:v.oneCell'=true):OT P w0 env H ⟨d,.box e x,ty,pos,af,g⟩ (VT w0 (BK 1 (fun _=>v) e) H):=Af9 hx (HD h)
def IQ (P:Program) (t:TypeId) (f off size:Nat) (ag:Bool):Prop:=
 ∃ fs fd,P.underlying t=some (.struct fs)/\fs[f]? = some fd/\fd.offset=off/\TyS P fd.type size ag/\Nat.ble 1 size=true
theorem L4 {f off:Nat} {ag:Bool} (hf:IQ P t f off s ag) (hx:ev env x=some (.pointer (some ⟨b,o,none⟩))):OT P w0 env H ⟨d,.fieldAddr t x f,ty,pos,af,g⟩ (Is (.pointer (some ⟨b,o+off,none⟩)) H):=
 aD fun a w ha=>by
  obtain⟨fs,fd,h1,h2,h3,h4,h5⟩:=hf
  have:s≠0:=by have:=Nat.le_of_ble_eq_true h5;omega
  simp[execOp,ha.ev hx,Instr.fieldAt,run_underlying h1,h2,Instr.sureAddr,fieldPlace,h4.sizeOf,this,Addr.add_lit,h3]
theorem AdJ {f off:Nat} {ag:Bool} (hf:IQ P t f off s ag) (hx:ev env x=some (.pointer (some ⟨b,0,none⟩))):OT P w0 env H ⟨d,.fieldAddr t x f,ty,pos,af,g⟩ (Is (.pointer (some ⟨b,off,none⟩)) H):=by
 have:=L4 (P:=P) (w0:=w0) (H:=H) (d:=d) (ty:=ty) (pos:=pos) (af:=af) (g:=g) hf hx
 rwa[Nat.zero_add] at this
theorem Uy {u:TypeId} {k s o:Nat} {ag:Bool} (ht:TyS P u s ag) {f:Nat->Value} (ho:o+s<=k) (hs:ag=false->s=1) (w:World) :
  (part u (CV k f) o).run P w=.ok (if ag then AG s (fun i=>f (o+i)) else f o) w:=by
 cases ag
 .have:s=1:=hs rfl
  simp[part,ht.isAgg,KB (show o<k by omega)]
 .simp[part,ht.isAgg,ht.sizeOf,Aaz ho,AG]
theorem AhU {f off k:Nat} {v:Value} (hf:IQ P t f off 1 false) (hx:ev env x=some (AG k F)) (ho:Nat.ble (off+1) k=true) (hv:F off=v):OT P w0 env H ⟨d,.field t x f,ty,pos,af,g⟩ (Is v H):=
 aD fun a w ha=>by
  obtain⟨fs,fd,h1,h2,h3,h4,h5⟩:=hf
  subst h3
  have:=Uy h4 (f:=F) (Nat.le_of_ble_eq_true ho) (fun _=>rfl) w
  simp[execOp,ha.ev hx,Instr.field,run_underlying h1,h2,AG,asAgg,this,hv]
def Zf (P:Program) (t e:TypeId) (size:Nat) (ag:Bool):Prop:=P.underlying t=some (.slice e)/\TyS P e size ag
def Aay (P:Program) (t:TypeId) (len:Nat) (e:TypeId) (size:Nat) (ag:Bool):Prop:=P.underlying t=some (.array len e)/\TyS P e size ag
theorem Kf {e:TypeId} {ag:Bool} {k:IntKind} {i:Int} {j len cap:Nat} (he:Zf P t e s ag) (hx:ev env x=some (.slice (some ⟨b,o,none⟩) len cap)) (hy:ev env y=some (.int k i)) (h0:0<=i/\i<len) (hj:i.toNat=j) :
  OT P w0 env H ⟨d,.indexAddr t x y,ty,pos,af,g⟩ (Is (.pointer (some ⟨b,o+j*s,none⟩)) H):=
 aD fun a w ha=>by
  subst hj
  simp[execOp,ha.ev hx,ha.ev hy,Instr.indexAt,asIntOf,run_underlying he.1,he.2.sizeOf,h0,Addr.add_lit]
theorem KY {e:TypeId} {ag:Bool} {k:IntKind} {i:Int} {j len:Nat} (he:Aay P t len e s ag) (hx:ev env x=some (.pointer (some ⟨b,o,none⟩))) (hy:ev env y=some (.int k i)) (h0:0<=i/\i<len) (hj:i.toNat=j) :
  OT P w0 env H ⟨d,.indexAddr t x y,ty,pos,af,g⟩ (Is (.pointer (some ⟨b,o+j*s,none⟩)) H):=
 aD fun a w ha=>by
  subst hj
  simp[execOp,ha.ev hx,ha.ev hy,Instr.indexAt,asIntOf,run_underlying he.1,he.2.sizeOf,h0,Addr.add_lit,Instr.sureAddr]
theorem AdI {e:TypeId} {k:IntKind} {i:Int} {j len q:Nat} {h:Nat->Value} (he:Aay P t len e s true) (hx:ev env x=some (AG q F)) (hy:ev env y=some (.int k i)) (h0:0<=i/\i<len) (hj:i.toNat=j) (hq:len*s<=q) (hv:∀ l,l<s->F (j*s+l)=h l) :
  OT P w0 env H ⟨d,.index t x y,ty,pos,af,g⟩ (Is (AG s h) H):=
 aD fun a w ha=>by
  subst hj
  have hle:i.toNat*s+s<=q:=by
   have h1:i.toNat+1<=len:=Aa
   have h2:=Nat.mul_le_mul_right s h1
   rw[Nat.add_mul,Nat.one_mul] at h2
   omega
  have:=Uy he.2 (f:=F) (k:=q) (o:=i.toNat*s) hle Ad w
  rw[show AG s h=AG s (fun l=>F (i.toNat*s+l)) from Rn fun l hl=>(hv l hl).symm]
  simp only[execOp,ha.ev hx,ha.ev hy,Instr.index,asIntOf,Sem.run_bind,Sem.run_pure,Result.andThen_ok,run_underlying he.1,AG,Ae h0,he.2.sizeOf,this]
  rfl
theorem AgS {e:TypeId} {k:IntKind} {i:Int} {j len q:Nat} {h:Nat->Int} (he:Aay P t len e s true) (hx:ev env x=some (AI q m)) (hy:ev env y=some (.int k i)) (h0:0<=i/\i<len) (hj:i.toNat=j) (hq:len*s<=q) (hv:∀ l,l<s->m (j*s+l)=h l) :
  OT P w0 env H ⟨d,.index t x y,ty,pos,af,g⟩ (Is (AI s h) H):=AdI he hx hy h0 hj hq (fun l hl=>by simp only[iv,hv l hl])
theorem PD {e:TypeId} {ts:Array TypeId} {c:Option Addr} {len cap:Nat} (ht:ts=#[t]) (he:P.underlying t=some (.slice e)) {args:Array Operand} (hargs:Ui env args.toList=some [.slice c len cap]) :
  OT P w0 env H ⟨d,.call ⟨.builtin .len,args,ts⟩,ty,pos,af,g⟩ (Is (.int .i64 len) H):=
 aD fun a w ha=>by
  subst ht
  have e1:args.map a.eval=#[.slice c len cap]:=Array.toList_inj.1 (by simpa using La ha _ _ hargs)
  simp[execOp,resolve,invoke,builtin,e1,Builtin.len_,run_underlying he,goInt]
end
end Go.E
namespace Go.E
open Go
def IJ (n:Nat) (f g:Nat->Int):Bool:=(List.range n).all fun i=>f i == g i
theorem H6 {n:Nat} {f g:Nat->Int}:IJ n f g=true↔∀ i,i<n->f i=g i:=by simp[IJ]
theorem Ahl {n:Nat} {f g:Nat->Int} (h:∀ i,i<n->f i=g i):IJ n f g=true:=H6.2 h
theorem YX {n:Nat} {f:Nat->Int}:IJ n f f=true:=Ahl fun _ _=>rfl
def Vl (P:Program) (rec:TypeId->Option (Nat×Bool)):List Field->Nat->Option Nat
 | [],o=>some o
 | f :: fs, o => if f.name == "_" || f.offset != o then none else
  match rec f.type with
  | some (s,ag)=>if(P.info? f.type).map (·.size) == some s&&(P.underlying f.type).map Xq == some ag then Vl P rec fs (o+s) else none
  | none=>none
def V1 (P:Program):Nat->TypeId->Option (Nat×Bool)
 | 0,_=>none
 | k+1,t=>match P.underlying t with
  | some (.int .i64)=>some (1,false)
  | some (.struct fs)=>if P.stoodInHeld t then none else(Vl P (V1 P k) fs.toList 0).map (·,true)
  | some (.array len e)=>match V1 P k e with
   | some (s,ag)=>if(P.info? e).map (·.size) == some s&&(P.underlying e).map Xq == some ag then some (len*s,true) else none
   | none=>none
  | _=>none
def fv (ag:Bool) (n:Nat) (f:Nat->Int):Value:=if ag then AI n f else .int .i64 (f 0)
section
variable {P:Program}
theorem Nn {u:TypeId} {s o N:Nat} {ag:Bool} (ht:TyS P u s ag) (hs:ag=false->s=1) (ho:o+s<=N) (f:Nat->Int) (w:World) :
  (part u (CV N (iv f)) o).run P w=.ok (fv ag s (fun i=>f (o+i))) w:=by
 rw[Uy ht ho hs]
 cases ag <;> rfl
theorem YT {k:Nat} {t:TypeId} {n:Nat} {ag:Bool} (h:V1 P k t=some (n,ag)):ag=false->n=1:=by
 intro he
 subst he
 cases k with
 | zero=>simp[V1] at h
 | succ k=>
  simp only[V1] at h
  split at h
  .simp_all
  .split at h <;> simp_all
  .split at h
   .split at h <;> simp_all
   .simp at h
  .simp at h
theorem AfE:∀ (k d:Nat),k<=d->∀ (t:TypeId) (n:Nat) (ag:Bool),V1 P k t=some (n,ag)->∀ (f g:Nat->Int) (w:World),
  ∃ r,(Op.equalIn d t (fv ag n f) (fv ag n g)).run P w=.ok r w/\(r=true↔∀ i,i<n->f i=g i):=by
 intro k
 induction k with
 | zero=>intro d _ t n ag h;simp[V1] at h
 | succ k ih=>
  intro d hd t n ag h f g w
  obtain⟨d,rfl⟩:∃ d',d=d'+1:=⟨d-1,Aa⟩
  simp only[V1] at h
  split at h
  .rename_i hu
   simp only[Option.some.injEq,Prod.mk.injEq] at h
   obtain⟨rfl,rfl⟩:=h
   refine⟨f 0 == g 0,run_equalIn_int w d t .i64 .i64 _ _ hu,?_⟩
   simp only[beq_iff_eq]
   refine⟨fun h i hi=>?_,fun h=>h 0 Aa⟩
   obtain rfl:i=0:=Aa
   exact h
  .rename_i fs hu
   split at h
   .cases h
   .rename_i hst
    simp only[Option.map_eq_some_iff,Prod.mk.injEq] at h
    obtain⟨m,hm,rfl,rfl⟩:=h
    have hfo:P.fieldsOf t=fs:=by simp[Program.fieldsOf,hu]
    have key:∀ (l:List Field) (o:Nat),Vl P (V1 P k) l o=some m->o<=m/\∃ r,(Op.eqFields d (CV m (iv f)) (CV m (iv g)) l).run P w=.ok r w/\(r=true↔∀ i,o<=i->i<m->f i=g i):=by
     intro l
     induction l with
     | nil=>
      intro o ho
      simp only[Vl,Option.some.injEq] at ho
      subst ho
      exact⟨Nat.le_refl _,true,by simp[Op.eqFields],by simp;omega⟩
     | cons x l ihl=>
      intro o ho
      simp only[Vl] at ho
      split at ho
      .cases ho
      .rename_i hnm
       simp only[Bool.or_eq_true,beq_iff_eq,bne_iff_ne,ne_eq,not_or,Decidable.not_not] at hnm
       split at ho
       .rename_i s ag' hrec
        split at ho
        .rename_i hsz
         simp only[Bool.and_eq_true,beq_iff_eq] at hsz
         obtain⟨hle,r2,Db,lv⟩:=ihl (o+s) ho
         have hty:TyS P x.type s ag':=⟨hsz.2,hsz.1⟩
         obtain⟨r1,Dc,qO⟩:=ih d Aa x.type s ag' hrec (fun i=>f (o+i)) (fun i=>g (o+i)) w
         have hone:=YT hrec
         have p1:=Nn hty hone (by omega:o+s<=m) f w
         have p2:=Nn hty hone (by omega:o+s<=m) g w
         refine⟨Aa,r1&&r2,?_,?_⟩
         ·simp only [Op.eqFields, Ae (show x.name ≠ "_" from hnm.1), Sem.run_bind, hnm.2, p1, p2, Dc, Result.andThen_ok]
          cases r1
          .simp
          .simpa using Db
         .simp only[Bool.and_eq_true,qO,lv]
          constructor
          .rintro⟨h1,h2⟩ i hi hi'
           by_cases hio:i<o+s
           .have:=h1 (i-o) Aa
            rwa[show o+(i-o)=i from by omega] at this
           .exact h2 i Aa hi'
          .intro h
           exact⟨fun i hi=>h (o+i) Aa Aa,fun i hi hi'=>h i Aa hi'⟩
        .cases ho
       .cases ho
    obtain⟨_,r,hr,hi⟩:=key fs.toList 0 hm
    refine⟨r,?_,by rw[hi];exact⟨fun h i hi=>h i (Nat.zero_le _) hi,fun h i _ hi=>h i hi⟩⟩
    show(Op.equalIn (d+1) t (.agg (CV m (iv f))) (.agg (CV m (iv g)))).run P w=_
    rw[run_equalIn_struct w d t _ _ (by rw[hfo];exact hu) (by simpa using hst),hfo]
    exact hr
  .rename_i len e hu
   split at h
   .rename_i s ag' hrec
    split at h
    .rename_i hsz
     simp only[Bool.and_eq_true,beq_iff_eq] at hsz
     simp only[Option.some.injEq,Prod.mk.injEq] at h
     obtain⟨rfl,rfl⟩:=h
     have hty:TyS P e s ag':=⟨hsz.2,hsz.1⟩
     obtain⟨i0,tu,qO⟩:=Option.map_eq_some_iff.1 hsz.1
     have hco:P.cellsOf e=s:=by simp[Program.cellsOf,tu,qO]
     have hone:=YT hrec
     have key:∀ (c o:Nat),o+c=len->∃ r,(Op.eqItems d e s (CV (len*s) (iv f)) (CV (len*s) (iv g)) (List.range' o c)).run P w=.ok r w/\(r=true↔∀ i,o*s<=i->i<len*s->f i=g i):=by
      intro c
      induction c with
      | zero=>
       intro o ho
       obtain rfl:o=len:=Aa
       exact⟨true,by simp[Op.eqItems],by simp;omega⟩
      | succ c ihc=>
       intro o ho
       obtain⟨r2,Db,lv⟩:=ihc (o+1) Aa
       obtain⟨r1,Dc,qO⟩:=ih d Aa e s ag' hrec (fun i=>f (o*s+i)) (fun i=>g (o*s+i)) w
       have hle:o*s+s<=len*s:=by
        have:=Nat.mul_le_mul_right s (show o+1<=len by omega)
        rwa[Nat.add_mul,Nat.one_mul] at this
       have p1:=Nn hty hone hle f w
       have p2:=Nn hty hone hle g w
       refine⟨r1&&r2,?_,?_⟩
       .simp only[List.range'_succ,Op.eqItems,Sem.run_bind,p1,p2,Dc,Result.andThen_ok]
        cases r1
        .simp
        .simpa using Db
       .simp only[Bool.and_eq_true,qO,lv]
        constructor
        .rintro⟨h1,h2⟩ i hi hi'
         by_cases hio:i<o*s+s
         .have:=h1 (i-o*s) Aa
          rwa[show o*s+(i-o*s)=i from by omega] at this
         .exact h2 i (by rw[Nat.add_mul,Nat.one_mul];omega) hi'
        .intro h
         exact⟨fun i hi=>h (o*s+i) Aa Aa,fun i hi hi'=>h i (by rw[Nat.add_mul,Nat.one_mul] at hi;omega) hi'⟩
     obtain⟨r,hr,hi⟩:=key len 0 Aa
     refine⟨r,?_,by rw[hi];exact⟨fun h i hi=>h i Ad hi,fun h i _ hi=>h i hi⟩⟩
     show(Op.equalIn (d+1) t (.agg (CV (len*s) (iv f))) (.agg (CV (len*s) (iv g)))).run P w=_
     rw[run_equalIn_array w d _ _ hu tu,hco,List.range_eq_range']
     exact hr
    .cases h
   .cases h
  .cases h
def Flat (P:Program) (t:TypeId) (n:Nat):Prop:=V1 P 9 t=some (n,true)/\P.eqGuardType P.depth t=false
theorem Flat.equal {t:TypeId} {n:Nat} (h:Flat P t n) (f g:Nat->Int) (w:World):(Op.equalIn 10000 t (AI n f) (AI n g)).run P w=.ok (IJ n f g) w:=by
 obtain⟨r,hr,hi⟩:=AfE 9 10000 Aa t n true h.1 f g w
 rw[show r=IJ n f g from by rw[Bool.eq_iff_iff,hi,H6]] at hr
 exact hr
end
section
variable {P:Program} {n:Nat} {w0:World} {env:HH} {H:GH} {Q:Exit->Act->World->Prop} {ops:Array Oper} {rest:List Oper}
variable {d:Option Nat} {op:Op} {ty:TypeId} {pos:String} {af:Array Edge} {g:Option (Nat×Bool)}
variable {t yt:TypeId} {x y:Operand} {b o N s:Nat} {F:Nat->Value} {m k:Nat->Int} {T:TypeId}
theorem Io (ht:Flat P t N) (hx:ev env x=some (AI N m)) (hy:ev env y=some (AI N k)):OT P w0 env H ⟨d,.binOp .eql t x y yt,ty,pos,af,g⟩ (Is (.bool (IJ N m k)) H):=
 aD fun a w ha=>by
  have h1:=run_eqGuard_agg (P:=P) w .eql t x y (CV N (iv m)) (CV N (iv k)) ht.2
  have h2:=run_eql_struct (P:=P) w t (CV N (iv m)) (CV N (iv k))
  have h3:=ht.equal m k w
  simp only[AG] at h3
  simp only[execOp,ha.ev hx,ha.ev hy,AG,Sem.run_bind,h1,h2,h3,Result.andThen_ok,Sem.run_pure]
theorem PC (ht:Flat P t N) (hx:ev env x=some (AI N m)) (hy:ev env y=some (AI N k)):OT P w0 env H ⟨d,.binOp .neq t x y yt,ty,pos,af,g⟩ (Is (.bool (!IJ N m k)) H):=
 aD fun a w ha=>by
  have h1:=run_eqGuard_agg (P:=P) w .neq t x y (CV N (iv m)) (CV N (iv k)) ht.2
  have h2:=run_neq_struct (P:=P) w t (CV N (iv m)) (CV N (iv k))
  have h3:=ht.equal m k w
  simp only[AG] at h3
  simp only[execOp,ha.ev hx,ha.ev hy,AG,Sem.run_bind,h1,h2,h3,Result.andThen_ok,Sem.run_pure]
inductive Fill (P:Program) (t:TypeId) (N:Nat) (env:HH):List (Nat×Operand)->(Nat->Value)->(Nat->Value)->Prop
 | nil (f:Nat->Value):Fill P t N env [] f f
 | one {i off:Nat} {x:Operand} {v:Value} {f f':Nat->Value} {l:List (Nat×Operand)} (hf:IQ P t i off 1 false) (ho:Nat.ble (off+1) N=true) (hx:ev env x=some v) (h1:v.oneCell'=true) (h:Fill P t N env l (upd f off v) f'):Fill P t N env ((i,x)::l) f f'
 | agg {i off s:Nat} {x:Operand} {h:Nat->Value} {f f':Nat->Value} {l:List (Nat×Operand)} (hf:IQ P t i off s true) (ho:Nat.ble (off+s) N=true) (hx:ev env x=some (AG s h)) (hh:Fill P t N env l (J9 f off s h) f'):Fill P t N env ((i,x)::l) f f'
theorem Fill.int {i off:Nat} {x:Operand} {v:Int} {m:Nat->Int} {f':Nat->Value} {l:List (Nat×Operand)} (hf:IQ P t i off 1 false) (ho:Nat.ble (off+1) N=true) (hx:ev env x=some (.int .i64 v)) (h:Fill P t N env l (iv (Gq m off v)) f'):Fill P t N env ((i,x)::l) (iv m) f':=
 .one hf ho hx rfl (by rw[WL];exact h)
theorem Fill.ints {i off s:Nat} {x:Operand} {h m:Nat->Int} {f':Nat->Value} {l:List (Nat×Operand)} (hf:IQ P t i off s true) (ho:Nat.ble (off+s) N=true) (hx:ev env x=some (AI s h)) (hh:Fill P t N env l (iv (GX m off s h)) f'):Fill P t N env ((i,x)::l) (iv m) f':=
 .agg hf ho hx (by rw[Uq];exact hh)
theorem Z9 (off:Nat):∀ (l:List Value) (q:Nat) (c:Array Value),((l.zipIdx q).foldl (fun cs (p:Value×Nat)=>cs.setIfInBounds (off+p.2) p.1) c).size=c.size:=by
 intro l
 induction l with
 | nil=>intro q c;rfl
 | cons v l ih=>intro q c;simp only[List.zipIdx_cons,List.foldl_cons];rw[ih];simp
theorem AcA (off:Nat):∀ (l:List Value) (q:Nat) (c:Array Value) (i:Nat),off+q+l.length<=c.size ->
  ((l.zipIdx q).foldl (fun cs (p:Value×Nat)=>cs.setIfInBounds (off+p.2) p.1) c)[i]? = if off+q<=i/\i<off+q+l.length then l[i-(off+q)]? else c[i]?:=by
 intro l
 induction l with
 | nil=>intro q c i _;simp;omega
 | cons v l ih=>
  intro q c i h
  simp only[List.length_cons] at h
  simp only[List.zipIdx_cons,List.foldl_cons,List.length_cons]
  rw[ih (q+1) _ i (by simp;omega)]
  by_cases h1:i=off+q
  .subst h1
   rw[Af Aa,Ae Aa,Nat.sub_self,List.getElem?_cons_zero,Array.getElem?_setIfInBounds_self_of_lt Aa]
  .by_cases h2:off+(q+1)<=i/\i<off+(q+1)+l.length
   .rw[Ae h2,Ae Aa,show i-(off+q)=(i-(off+(q+1)))+1 from by omega,List.getElem?_cons_succ]
   .rw[Af h2,Af Aa,Array.getElem?_setIfInBounds_ne (fun e=>h1 e.symm)]
theorem R5 {place:Nat->Option (Nat×Nat)} {i off:Nat} {v:Value} {r:List (Nat×Value)} {f f':Nat->Value} (hp:place i=some (off,s)) (hv:v.cells.size=s) (hle:off+s<=N) (hin:∀ j,j<s->v.cells[j]? = some (f' (off+j))) (hout:∀ j,j<N->(j<off∨off+s<=j)->f j=f' j) :
  Instr.fill place (CV N f) ((i,v)::r)=Instr.fill place (CV N f') r:=by
 simp only[Instr.fill,hp]
 rw[Af (by simp[hv];omega)]
 have hz:v.cells.zipIdx.foldl (fun cs (x:Value×Nat)=>cs.setIfInBounds (off+x.2) x.1) (CV N f)=CV N f':=by
  rw[<- Array.foldl_toList,Array.toList_zipIdx]
  refine Sf (by rw[Z9];simp) fun j hj=>?_
  rw[AcA off v.cells.toList 0 (CV N f) j (by simp;omega)]
  simp only[Nat.add_zero,Array.length_toList,hv]
  by_cases h1:off<=j/\j<off+s
  .rw[Ae h1,Array.getElem?_toList,hin (j-off) Aa,show off+(j-off)=j from by omega]
  .rw[Af h1,KB hj,hout j hj Aa]
 rw[hz]
theorem Fill.run {fs:Array Field} (ht:P.underlying t=some (.struct fs)) {a:Act} (ha:AgV env a) {l:List (Nat×Operand)} {f f':Nat->Value} (h:Fill P t N env l f f') {places:Array (Nat×Nat)} (hpl:∀ (i:Nat) (fd:Field) (sz:Nat) (ag:Bool),fs[i]? = some fd->TyS P fd.type sz ag->places[i]? = some (fd.offset,sz)) :
  Instr.fill (places[·]?) (CV N f) (l.map fun p=>(p.1,a.eval p.2))=some (CV N f'):=by
 induction h with
 | nil f=>rfl
 | @one i off x v f f' l hf ho hx h1 h ih=>
  obtain⟨fs',fd,e1,e2,e3,e4,_⟩:=hf
  rw[ht] at e1
  cases e1
  have hp:=hpl i fd 1 false e2 e4
  rw[e3] at hp
  have hc:v.cells=#[v]:=by cases v <;> first | rfl | simp[Value.oneCell'] at h1
  rw[List.map_cons,R5 hp (by rw[ha.ev hx,hc];rfl) (Nat.le_of_ble_eq_true ho) (f':=upd f off v)
   (fun j hj=>by
    obtain rfl:j=0:=Aa
    rw[ha.ev hx,hc];simp[upd]) (fun j _ hh=>by simp only[upd];rw[Af Aa])]
  exact ih
 | @agg i off s x h f f' l hf ho hx hh ih=>
  obtain⟨fs',fd,e1,e2,e3,e4,_⟩:=hf
  rw[ht] at e1
  cases e1
  have hp:=hpl i fd s true e2 e4
  rw[e3] at hp
  rw[List.map_cons,R5 hp (by rw[ha.ev hx,Km];simp) (Nat.le_of_ble_eq_true ho) (f':=J9 f off s h)
   (fun j hj=>by rw[ha.ev hx,Km,KB hj];simp only[J9];rw[Ae Aa];congr 2;omega) (fun j _ hh=>by simp only[J9];rw[Af Aa])]
  exact ih
def KA (P:Program) (t:TypeId):Prop:=∃ fs,P.underlying t=some (.struct fs)/\fs.toList.all (fun f=>(P.info? f.type).isSome)=true
theorem ZC:∀ (fs:List Field),fs.all (fun f=>(P.info? f.type).isSome)=true->∀ w,∃ pl:List (Nat×Nat),
  (fs.mapM fun(f:Field)=>do pure (f.offset,<- Go.sizeOf f.type):Sem (List (Nat×Nat))).run P w=.ok pl w/\∀ (i:Nat) (fd:Field) (sz:Nat) (ag:Bool),fs[i]? = some fd->TyS P fd.type sz ag->pl[i]? = some (fd.offset,sz):=by
 intro fs
 induction fs with
 | nil=>intro _ w;exact⟨[],by simp,by simp⟩
 | cons f fs ih=>
  intro h w
  simp only[List.all_cons,Bool.and_eq_true] at h
  obtain⟨pl,h1,h2⟩:=ih h.2 w
  obtain⟨i0,tu⟩:=Option.isSome_iff_exists.1 h.1
  refine⟨(f.offset,i0.size)::pl,?_,?_⟩
  .rw[List.mapM_cons]
   simp only[Sem.run_bind,Go.sizeOf,typeInfo,run_program,Result.andThen_ok,tu,Sem.run_pure] at h1 ⊢
   rw[h1]
   rfl
  .intro i fd sz ag hi hty
   cases i with
   | zero=>
    simp only[List.getElem?_cons_zero,Option.some.injEq] at hi ⊢
    subst hi
    obtain⟨i1,qO,lv⟩:=Option.map_eq_some_iff.1 hty.2
    rw[tu] at qO
    cases qO
    rw[lv]
   | succ i=>
    simp only[List.getElem?_cons_succ] at hi ⊢
    exact h2 i fd sz ag hi hty
theorem Ht {ps:Array (Nat×Operand)} {f0 f:Nat->Value} (hk:KA P t) (hz:ZeroT P t (AG N f0)) (hf:Fill P t N env ps.toList f0 f):OT P w0 env H ⟨d,.build t ps,ty,pos,af,g⟩ (Is (AG N f) H):=
 aD fun a w ha=>by
  obtain⟨fs,h1,h2⟩:=hk
  obtain⟨pl,p1,p2⟩:=ZC fs.toList h2 w
  have hfill:=hf.run h1 ha (places:=pl.toArray) (fun i fd sz ag hi hty=>by
   rw[List.getElem?_toArray];exact p2 i fd sz ag (by simpa using hi) hty)
  have hm:(ps.map fun(p:Nat×Operand)=>(p.1,a.eval p.2)).toList=ps.toList.map fun p=>(p.1,a.eval p.2):=Ad
  have hpl:(fs.mapM fun(f:Field)=>do pure (f.offset,<- Go.sizeOf f.type):Sem (Array (Nat×Nat))).run P w=.ok pl.toArray w:=by
   rw[Array.mapM_eq_mapM_toList,Sem.run_map,p1]
   rfl
  simp only[execOp,Instr.build,Sem.run_bind,hz.run,Result.andThen_ok,run_underlying h1,hpl,Km,hm,hfill,Sem.run_pure]
  rfl
theorem AgT {e:TypeId} {ag:Bool} {len:Nat} {f0:Nat->Value} (he:Aay P t len e s ag) (hz:ZeroT P t (AG N f0)):OT P w0 env H ⟨d,.build t #[],ty,pos,af,g⟩ (Is (AG N f0) H):=
 aD fun _a w _ha=>by
  simp[execOp,Instr.build,hz.run,run_underlying he.1,he.2.sizeOf,Instr.fill,AG]
  rfl
theorem Ab4 {a:Act} {w:World} {e:TypeId} {ag:Bool} {lo hi:Option Operand} {l h n c:Nat} {p:Option Addr} (he:Zf P t e s ag) (hx:a.eval x=.slice p n c) (hlo:∀ o,lo=some o->∃ k,a.eval o=.int k (l:Int)) (hlo':lo=none->l=0) (hhi:∀ o,hi=some o->∃ k,a.eval o=.int k (h:Int)) (hhi':hi=none->h=n) (hlh:l<=h) (hhc:h<=c) :
  (execOp a.eval ⟨d,.slice t x lo hi none,ty,pos,af,g⟩).run P w=.ok (.value (.slice (if c=l then p else p.map (·.add (l*s))) (h-l) (c-l))) w:=by
 have hb:(Instr.sliceBounds true n c (lo.map a.eval) (hi.map a.eval) none).run P w=.ok (l,h,c) w:=by
  have h1:∀ o,hi=some o->(Instr.sliceBound (a.eval o) c .sliceAcap).run P w=.ok h w:=by
   intro o ho
   obtain⟨k,hk⟩:=hhi o ho
   simp[Instr.sliceBound,hk,asIntOf,show(0:Int)<=(h:Int)/\(h:Int)<=(c:Int) from⟨Aa,Aa⟩]
  have h2:∀ o,lo=some o->(Instr.sliceBound (a.eval o) h .sliceB).run P w=.ok l w:=by
   intro o ho
   obtain⟨k,hk⟩:=hlo o ho
   simp[Instr.sliceBound,hk,asIntOf,show(0:Int)<=(l:Int)/\(l:Int)<=(h:Int) from⟨Aa,Aa⟩]
  cases ys:lo with
  | none=>
   have e1:=hlo' ys
   cases tv:hi with
   | none=>have e2:=hhi' tv;simp[Instr.sliceBounds,e1,e2]
   | some o2=>simp[Instr.sliceBounds,h1 o2 tv,e1]
  | some o1=>
   cases tv:hi with
   | none=>have e2:=hhi' tv;subst e2;simp[Instr.sliceBounds,h2 o1 ys]
   | some o2=>simp[Instr.sliceBounds,h1 o2 tv,h2 o1 ys]
 simp only[execOp,Instr.sliceAt,Instr.slice,Option.map_none,Sem.run_bind,hx,run_underlying he.1,Result.andThen_ok,hb,he.2.sizeOf,Sem.run_pure]
end
end Go.E
namespace Go.E
open Go
structure Rec where
 i:Nat
 l:HH
 rs:GH
 v:Value
def HK (ops:Array Oper) (i:Nat):Option Nat:=(ops[i]?).bind (·.dst)
def Sg (ops:Array Oper) (i:Nat):List Nat:=
 match ops[i]? with
 | some o=>(o.after.toList.filter (Region.binds .any ·)).map (·.on)
 | none=>[]
def If (n:Nat) (ops:Array Oper):Bool:=
 ((List.range ops.size).filterMap (HK ops)).all (fun d=>Nat.blt d n) &&
 (List.range ops.size).all (fun i=>(Sg ops i).all (fun j=>Nat.blt j i)) &&
 (List.range ops.size).all (fun i=>(List.range i).all fun j=>match HK ops i,HK ops j with
  | some a,some b=>!Nat.beq a b
  | _,_=>true)
def Mb (ops:Array Oper) (dn:List Nat):List Nat:=
 (List.range ops.size).filter fun i=>!dn.contains i&&(Sg ops i).all dn.contains
def HO (ops:Array Oper) (dn:List Nat) (i:Nat) (l:List Nat):Bool:=
 l.all fun s=>(List.range ops.size).all fun j=>match HK ops j with
  | some d=>!Nat.beq d s||(if dn.contains j then(Sg ops i).contains j else(Sg ops j).contains i)
  | none=>true
def OTg (P:Program) (ops:Array Oper) (w0:World) (env:HH) (H:GH) (o:Oper) (v:Value):Prop:=
 (Wt ops env o.guard/\OT P w0 env H o (Is v H))∨(WtNot ops env o.guard/\v=undef)
section
variable {P:Program} {n:Nat} {w0:World} {ops:Array Oper} {KS:List Nat}
structure Inv (P:Program) (n:Nat) (ops:Array Oper) (w0:World) (KS:List Nat) (a0:Act) (dl:List Rec) (H:GH) (fuel:Nat) (listed:Array Bool) (a:Act) (w:World):Prop where
 lsize:listed.size=ops.size
 inn:∀ i,listed.getD i false=true->∃ p∈dl,p.i=i
 pend:∀ p∈dl,listed.getD p.i false=false->(∃ o,ops[p.i]? = some o/\∀ H',(∀ x∈p.rs,x∈H')->(∀ k∈keys H',k∈KS∨w0.heap.size<=k)->OTg P ops w0 p.l H' o p.v)/\(∀ x∈p.rs,x∈H) /\
  (∀ s u,lk s p.l=some u->(∃ q∈dl,HK ops q.i=some s/\q.i∈Sg ops p.i/\q.v=u)∨((∀ j,HK ops j=some s->p.i∈Sg ops j)/\a0.tmps.getD s undef=u))
 done:∀ p∈dl,listed.getD p.i false=true->∀ s,HK ops p.i=some s->a.tmps.getD s undef=p.v
 rest:∀ s,(∀ j,HK ops j=some s->listed.getD j false=false)->a.tmps.getD s undef=a0.tmps.getD s undef
 size:a.tmps.size=n
 defers:a.defers=[]
 st:St w0 H w
 ks:∀ k∈keys H,k∈KS∨w0.heap.size<=k
 down:∀ j,listed.getD j false=true->∀ k∈Sg ops j,listed.getD k false=true
 fuel:ops.size<=fuel+(List.range ops.size).countP (fun i=>listed.getD i false)
theorem RO {n:Nat} (h:If n ops=true) {i d:Nat} (hd:HK ops i=some d):d<n:=by
 simp only[If,Bool.and_eq_true,List.all_eq_true] at h
 have hi:i<ops.size:=by
  rcases Nat.lt_or_ge i ops.size with h' | h'
  .exact h'
  .simp[HK,Array.getElem?_eq_none h'] at hd
 have:=h.1.1 d (List.mem_filterMap.2 ⟨i,List.mem_range.2 hi,hd⟩)
 simpa [Nat.blt_eq] using this
theorem UD {n:Nat} (h:If n ops=true) {i j:Nat} (hj:j∈Sg ops i):j<i:=by
 simp only[If,Bool.and_eq_true,List.all_eq_true] at h
 have hi:i<ops.size:=by
  rcases Nat.lt_or_ge i ops.size with h' | h'
  .exact h'
  .simp[Sg,Array.getElem?_eq_none h'] at hj
 have:=h.1.2 i (List.mem_range.2 hi) j hj
 simpa [Nat.blt_eq] using this
theorem Oy {n:Nat} (h:If n ops=true) {i j d:Nat} (hi:HK ops i=some d) (hj:HK ops j=some d):i=j:=by
 simp only[If,Bool.and_eq_true,List.all_eq_true] at h
 have hlt:∀ k,HK ops k=some d->k<ops.size:=by
  intro k hk
  rcases Nat.lt_or_ge k ops.size with h' | h'
  .exact h'
  .simp[HK,Array.getElem?_eq_none h'] at hk
 rcases Nat.lt_trichotomy i j with hlt' | heq | hgt
 .have:=h.2 j (List.mem_range.2 (hlt j hj)) i (List.mem_range.2 hlt')
  rw[hi,hj] at this
  simp at this
 .exact heq
 .have:=h.2 i (List.mem_range.2 (hlt i hi)) j (List.mem_range.2 hgt)
  rw[hi,hj] at this
  simp at this
theorem JG {i:Nat} {listed:Array Bool} (hs:listed.size=ops.size):i∈Region.ready .any ops listed↔i<ops.size/\listed.getD i false=false/\∀ k∈Sg ops i,listed.getD k false=true:=by
 rw[mem_ready]
 constructor
 .rintro⟨h1,o,ho,h2⟩
  have hlt:=(Array.getElem?_eq_some_iff.1 ho).1
  refine⟨hlt,?_,?_⟩
  .rw[Array.getD_eq_getD_getElem?] at h1 ⊢
   rw[Array.getElem?_eq_getElem Aa] at h1 ⊢
   simpa using h1
  .intro k hk
   simp only[Sg,ho,List.mem_map,List.mem_filter] at hk
   obtain⟨e,⟨he,hb⟩,rfl⟩:=hk
   exact h2 e (by simpa using he) hb
 .rintro⟨hlt,h1,h2⟩
  refine⟨?_,ops[i],Array.getElem?_eq_getElem hlt,?_⟩
  .rw[Array.getD_eq_getD_getElem?] at h1 ⊢
   rw[Array.getElem?_eq_getElem Aa] at h1 ⊢
   simpa using h1
  .intro e he hb
   refine h2 e.on ?_
   simp only[Sg,Array.getElem?_eq_getElem hlt,List.mem_map,List.mem_filter]
   exact⟨e,⟨by simpa using he,hb⟩,rfl⟩
theorem HJ {listed:Array Bool} {i k:Nat} (hi:i<listed.size):(listed.setIfInBounds i true).getD k false=if k=i then true else listed.getD k false:=by
 simp only[Array.getD_eq_getD_getElem?]
 by_cases h:k=i
 .subst h
  rw[Ae rfl,Array.getElem?_setIfInBounds_self_of_lt hi];rfl
 .rw[Af h,Array.getElem?_setIfInBounds_ne (fun e=>h e.symm)]
theorem O2 {listed:Array Bool} {i:Nat} (hi:i<listed.size) (h0:listed.getD i false=false) (N:Nat) (hN:i<N) :
  (List.range N).countP (fun k=>(listed.setIfInBounds i true).getD k false)=(List.range N).countP (fun k=>listed.getD k false)+1:=by
 induction N with
 | zero=>omega
 | succ N ih=>
  rw[List.range_succ,List.countP_append,List.countP_append]
  by_cases h:i=N
  .subst h
   have:(List.range i).countP (fun k=>(listed.setIfInBounds i true).getD k false)=(List.range i).countP (fun k=>listed.getD k false):=by
    apply List.countP_congr
    intro k hk
    have:=List.mem_range.1 hk
    rw[HJ hi,Af Aa]
   rw[this]
   have e1:(listed.setIfInBounds i true).getD i false=true:=by rw[HJ hi,Ae rfl]
   simp only[List.countP_cons,List.countP_nil,e1,h0]
   simp
  .rw[ih Aa]
   have e1:(listed.setIfInBounds i true).getD N false=listed.getD N false:=by rw[HJ hi,Af (fun e=>h e.symm)]
   simp only[List.countP_cons,List.countP_nil,e1]
   omega
theorem LP {a:Act} {dst:Option Nat} {v:Value} {s:Nat} (h:dst≠some s):(a.put dst v).tmps.getD s undef=a.tmps.getD s undef:=by
 cases dst with
 | none=>rfl
 | some d=>
  have:d≠s:=fun e=>h (by rw[e])
  simp only[Act.put,Array.getD_eq_getD_getElem?]
  rw[Array.getElem?_setIfInBounds_ne this]
theorem LB {a:Act} {s:Nat} {v:Value} (h:s<a.tmps.size):(a.put (some s) v).tmps.getD s undef=v:=by
 simp only[Act.put,Array.getD_eq_getD_getElem?]
 rw[Array.getElem?_setIfInBounds_self_of_lt h];rfl
theorem RP (a:Act) (dst:Option Nat) (v:Value):(a.put dst v).tmps.size=a.tmps.size:=by cases dst <;> simp[Act.put]
theorem OE (a:Act) (dst:Option Nat) (v:Value):(a.put dst v).defers=a.defers:=by cases dst <;> rfl
theorem Inv.step {a0 a:Act} {dl:List Rec} {H H':GH} {fuel:Nat} {listed:Array Bool} {w w':World} (hok:If n ops=true) (h:Inv P n ops w0 KS a0 dl H (fuel+1) listed a w) {p:Rec} (hp:p∈dl) (hr:p.i∈Region.ready .any ops listed) (hst:St w0 H' w') (hks:∀ k∈keys H',k∈KS∨w0.heap.size<=k) (hrs:∀ q∈dl,listed.getD q.i false=false->q.i≠p.i->∀ x∈q.rs,x∈H') (huni:∀ q∈dl,q.i=p.i->q.v=p.v) :
  Inv P n ops w0 KS a0 dl H' fuel (listed.setIfInBounds p.i true) (a.put (HK ops p.i) p.v) w':=by
 obtain⟨hlt,sk,haft⟩:=(JG h.lsize).1 hr
 have hlt':p.i<listed.size:=by rw[h.lsize];exact hlt
 refine⟨by simpa using h.lsize,?_,?_,?_,?_,by rw[RP];exact h.size,by rw[OE];exact h.defers,hst,hks,?_,?_⟩
 .intro i hi
  rw[HJ hlt'] at hi
  by_cases e:i=p.i
  .exact⟨p,hp,e.symm⟩
  .rw[Af e] at hi;exact h.inn i hi
 .intro q hq lL
  rw[HJ hlt'] at lL
  by_cases e:q.i=p.i
  .rw[Ae e] at lL;cases lL
  .rw[Af e] at lL
   obtain⟨h1,_,h3⟩:=h.pend q hq lL
   exact⟨h1,hrs q hq lL e,h3⟩
 .intro q hq pP s hs
  rw[HJ hlt'] at pP
  by_cases e:q.i=p.i
  .rw[e] at hs
   rw[hs,LB (by rw[h.size];exact RO hok hs)]
   exact(huni q hq e).symm
  .rw[Af e] at pP
   rw[LP (fun hh=>e (Oy hok hs hh))]
   exact h.done q hq pP s hs
 .intro s hs
  have hne:HK ops p.i≠some s:=fun hh=>by
   have:=hs p.i hh
   rw[HJ hlt',Ae rfl] at this
   cases this
  rw[LP hne]
  refine h.rest s fun j hj=>?_
  have:=hs j hj
  rw[HJ hlt'] at this
  split at this
  .cases this
  .exact this
 .intro j hj k hk
  rw[HJ hlt'] at hj ⊢
  by_cases e:k=p.i
  .rw[Ae e]
  .rw[Af e]
   by_cases e2:j=p.i
   .subst e2;exact haft k hk
   .rw[Af e2] at hj;exact h.down j hj k hk
 .rw[O2 hlt' sk _ hlt]
  have:=h.fuel
  omega
theorem Inv.agv {a0 a:Act} {dl:List Rec} {H:GH} {fuel:Nat} {listed:Array Bool} {w:World} (h:Inv P n ops w0 KS a0 dl H fuel listed a w) {i:Nat} {l:HH} (tu:listed.getD i false=false) (haft:∀ k∈Sg ops i,listed.getD k false=true) (hs:∀ s u,lk s l=some u->(∃ q∈dl,HK ops q.i=some s/\q.i∈Sg ops i/\q.v=u)∨((∀ j,HK ops j=some s->i∈Sg ops j)/\a0.tmps.getD s undef=u)):AgV l a:=by
 intro s u hl
 rcases hs s u hl with ⟨q,hq,h1,h2,h3⟩ | ⟨h1,h2⟩
 .rw[<- h3];exact h.done q hq (haft _ h2) s h1
 .rw[<- h2]
  refine h.rest s fun j hj=>?_
  cases hlj:listed.getD j false
  .rfl
  .have:=h.down j hlj i (h1 j hj)
   rw[tu] at this
   cases this
def TQ (ops:Array Oper) (bX:HH) (dl:List Rec) (env:HH):Prop:=
 ∀ s v,lk s env=some v->(∃ p∈dl,HK ops p.i=some s/\p.v=v)∨((∀ p∈dl,HK ops p.i≠some s)/\lk s bX=some v)
def XD (P:Program) (n:Nat) (w0:World) (ops:Array Oper) (KS:List Nat) (bX:HH) (dn:List Nat) (env:HH) (H RS:GH) (Q:Exit->Act->World->Prop):Prop:=
 ∀ (a0:Act) (dl:List Rec),Ag n bX a0->dl.map (·.i)=dn->dn.Nodup->TQ ops bX dl env->(∀ p∈dl,∀ x∈p.rs,x∈RS) ->
  ∀ fuel listed a w,Inv P n ops w0 KS a0 dl H fuel listed a w->wpAny P .any ops Q fuel listed a w
theorem J7 {n:Nat} (hok:If n ops=true) {listed:Array Bool} (hs:listed.size=ops.size) (hr:Region.ready .any ops listed=[]):∀ i,i<ops.size->listed.getD i false=true:=by
 intro i
 induction i using Nat.strongRecOn with
 | _ i ih=>
  intro hi
  cases hl:listed.getD i false
  .have:i∈Region.ready .any ops listed:=(JG hs).2 ⟨hi,hl,fun k hk=>ih k (UD hok hk) (Nat.lt_trans (UD hok hk) hi)⟩
   rw[hr] at this
   cases this
  .rfl
theorem Acd {dl:List Rec} (hn:(dl.map (·.i)).Nodup) {p q:Rec} (hp:p∈dl) (hq:q∈dl) (e:q.i=p.i):q=p:=by
 induction dl with
 | nil=>cases hp
 | cons x dl ih=>
  simp only[List.map_cons,List.nodup_cons,List.mem_map,not_exists,not_and] at hn
  rcases List.mem_cons.1 hp with hp | hp <;> rcases List.mem_cons.1 hq with hq | hq
  .rw[hp,hq]
  .exact absurd (by rw[e,hp]) (hn.1 q hq)
  .exact absurd (by rw[<- e,hq]) (hn.1 p hp)
  .exact ih hn.2 hp hq
theorem Lk {Q:Exit->Act->World->Prop} {a0:Act} {dl:List Rec} {H:GH} (hok:If n ops=true) (hnd:(dl.map (·.i)).Nodup) (hend:∀ a w listed,Region.ready .any ops listed=[]->Inv P n ops w0 KS a0 dl H 0 listed a w->Q .normal a w) (hnext:∀ fuel listed a w i,Inv P n ops w0 KS a0 dl H (fuel+1) listed a w->i∈Region.ready .any ops listed->(∀ p∈dl,p.i≠i)->wpOp P ops Q i (wpAny P .any ops Q fuel (listed.setIfInBounds i true)) a w) :
  ∀ fuel listed a w,Inv P n ops w0 KS a0 dl H fuel listed a w->wpAny P .any ops Q fuel listed a w:=by
 intro fuel
 have weak:∀ fuel listed a w,Inv P n ops w0 KS a0 dl H fuel listed a w->Region.ready .any ops listed=[]->Inv P n ops w0 KS a0 dl H 0 listed a w:=by
  intro fuel listed a w h hr
  refine⟨h.lsize,h.inn,h.pend,h.done,h.rest,h.size,h.defers,h.st,h.ks,h.down,?_⟩
  have hall:=J7 hok h.lsize hr
  have:(List.range ops.size).countP (fun i=>listed.getD i false)=(List.range ops.size).length:=List.countP_eq_length.2 fun i hi=>hall i (List.mem_range.1 hi)
  rw[this];simp
 induction fuel with
 | zero=>
  intro listed a w h
  have hr:Region.ready .any ops listed=[]:=by
   have hf:=h.fuel
   simp only[Nat.zero_add] at hf
   have hle:(List.range ops.size).countP (fun i=>listed.getD i false)<=(List.range ops.size).length:=List.countP_le_length
   have heq:(List.range ops.size).countP (fun i=>listed.getD i false)=(List.range ops.size).length:=by simp only[List.length_range] at *;omega
   have hall:=List.countP_eq_length.1 heq
   refine List.eq_nil_iff_forall_not_mem.2 fun i hi=>?_
   obtain⟨h1,h2,_⟩:=(JG h.lsize).1 hi
   have:=hall i (List.mem_range.2 h1)
   rw[h2] at this
   cases this
  exact⟨hr,hend a w listed hr h⟩
 | succ fuel ih=>
  intro listed a w h
  refine⟨fun hr=>hend a w listed hr (weak _ _ _ _ h hr),fun i hi=>?_⟩
  by_cases hin:∃ p∈dl,p.i=i
  .obtain⟨p,hp,rfl⟩:=hin
   obtain⟨hlt,sk,haft⟩:=(JG h.lsize).1 hi
   obtain⟨⟨o,ho,hot⟩,hrs,hsl⟩:=h.pend p hp sk
   have hagv:=h.agv sk haft hsl
   have hdst:HK ops p.i=o.dst:=by simp[HK,ho]
   have hgo:∀ w',St w0 H w'->wpAny P .any ops Q fuel (listed.setIfInBounds p.i true) (a.put o.dst p.v) w':=by
    intro w' hst
    rw[<- hdst]
    exact ih _ _ _ (h.step hok hp hi hst h.ks (fun q hq lL _=>(h.pend q hq lL).2.1) (fun q hq e=>by rw[Acd hnd hp hq e]))
   unfold wpOp
   simp only[ho]
   rcases hot H hrs h.ks with ⟨hw,ht⟩ | ⟨hw,hv⟩
   .rw[Ae (hw.wanted hagv)]
    refine .inl (I3 ?_ (fun _ _ _ h=>h.elim) (ht a w hagv h.st))
    rintro a' w' ⟨v,H',rfl,hst,rfl,rfl⟩
    exact hgo w' hst
   .rw[Af (by rw[hw.wanted hagv];simp),<- hv]
    exact hgo w h.st
  .exact hnext fuel listed a w i h hi (fun p hp e=>hin ⟨p,hp,e⟩)
variable {bX env:HH} {dn:List Nat} {H RS:GH} {Q:Exit->Act->World->Prop}
theorem OX {dl:List Rec} {p:Rec} (_hok:If n ops=true) (h:TQ ops bX dl env) (hp:p.i∉dl.map (·.i)) :
  (∀ d,HK ops p.i=some d->TQ ops bX (p::dl) ((d,p.v)::env))/\(HK ops p.i=none->TQ ops bX (p::dl) env):=by
 constructor
 .intro d hd s v hs
  rw[Mh] at hs
  by_cases e:d=s
  .rw[Ae e] at hs
   cases hs
   exact .inl ⟨p,List.mem_cons_self ..,by rw[hd,e],rfl⟩
  .rw[Af e] at hs
   rcases h s v hs with ⟨q,hq,h1,h2⟩ | ⟨h1,h2⟩
   .exact .inl ⟨q,List.mem_cons_of_mem _ hq,h1,h2⟩
   .refine .inr ⟨fun q hq=>?_,h2⟩
    rcases List.mem_cons.1 hq with rfl | hq
    .rw[hd];exact fun hh=>e (Option.some.inj hh)
    .exact h1 q hq
 .intro hd s v hs
  rcases h s v hs with ⟨q,hq,h1,h2⟩ | ⟨h1,h2⟩
  .exact .inl ⟨q,List.mem_cons_of_mem _ hq,h1,h2⟩
  .refine .inr ⟨fun q hq=>?_,h2⟩
   rcases List.mem_cons.1 hq with rfl | hq
   .rw[hd];exact fun hh=>by cases hh
   .exact h1 q hq
theorem Oq {dl:List Rec} {i:Nat} {l:HH} {a0:Act} (kp:Ag n bX a0) (he:TQ ops bX dl env) (hdn:dl.map (·.i)=dn) (hl:Live env l) (hs:HO ops dn i (l.map (·.1))=true) :
  ∀ s u,lk s l=some u->(∃ q∈dl,HK ops q.i=some s/\q.i∈Sg ops i/\q.v=u)∨((∀ j,HK ops j=some s->i∈Sg ops j)/\a0.tmps.getD s undef=u):=by
 intro s u hsu
 have hmem:s∈l.map (·.1):=by
  clear hl hs
  induction l with
  | nil=>cases hsu
  | cons x l ih=>
   obtain⟨t,y⟩:=x
   rw[Mh] at hsu
   by_cases e:t=s
   .simp[e]
   .rw[Af e] at hsu
    exact List.mem_cons_of_mem _ (ih hsu)
 simp only[HO,List.all_eq_true] at hs
 have hj:∀ j d,HK ops j=some d->d=s->(if dn.contains j then(Sg ops i).contains j else(Sg ops j).contains i)=true:=by
  intro j d hd e
  have hlt:j<ops.size:=by
   rcases Nat.lt_or_ge j ops.size with h' | h'
   .exact h'
   .simp[HK,Array.getElem?_eq_none h'] at hd
  have:=hs s hmem j (List.mem_range.2 hlt)
  rw[hd] at this
  subst e
  simpa using this
 rcases he s u (hl.get s u hsu) with ⟨q,hq,h1,h2⟩ | ⟨h1,h2⟩
 .left
  refine⟨q,hq,h1,?_,h2⟩
  have:=hj q.i s h1 rfl
  rw[Ae (by rw[<- hdn];simp;exact⟨q,hq,rfl⟩)] at this
  simpa using this
 .right
  refine⟨fun j hd=>?_,kp.get s u h2⟩
  have:=hj j s hd rfl
  rw[Af (by
   rw[<- hdn]
   simp only[List.contains_eq_mem,List.mem_map,decide_eq_true_eq,not_exists,not_and]
   exact fun q hq e=>h1 q hq (by rw[e];exact hd))] at this
  simpa using this
theorem AaC (hok:If n ops=true) (i:Nat) {o:Oper} {d:Nat} {v:Value} (l:HH) (rs:GH) (ho:ops[i]? = some o) (hd:o.dst=some d) (hn:dn.contains i=false) (hl:Live env l) (hs:HO ops dn i (l.map (·.1))=true) (hrs:∀ x∈rs,x∈H) (ht:∀ H',(∀ x∈rs,x∈H')->(∀ k∈keys H',k∈KS∨w0.heap.size<=k)->OTg P ops w0 l H' o v) (k:XD P n w0 ops KS bX (i::dn) ((d,v)::env) H (rs++RS) Q):XD P n w0 ops KS bX dn env H RS Q:=by
 intro a0 dl kp hdn hnd he hrs' fuel listed a w hinv
 have hni:i∉dn:=by simpa using hn
 have hni':i∉dl.map (·.i):=by rw[hdn];exact hni
 have hdst:HK ops i=some d:=by simp[HK,ho,hd]
 have hnl:listed.getD i false=false:=by
  cases hh:listed.getD i false
  .rfl
  .obtain⟨p,hp,e⟩:=hinv.inn i hh
   exact absurd (List.mem_map.2 ⟨p,hp,e⟩) hni'
 refine k a0 (⟨i,l,rs,v⟩::dl) kp (by simp[hdn]) (List.nodup_cons.2 ⟨hni,hnd⟩) ((OX (p:=⟨i,l,rs,v⟩) hok he hni').1 d hdst) ?_ fuel listed a w ?_
 .intro p hp x hx
  rcases List.mem_cons.1 hp with rfl | hp
  .exact List.mem_append_left _ hx
  .exact List.mem_append_right _ (hrs' p hp x hx)
 .refine⟨hinv.lsize,fun j hj=>(hinv.inn j hj).imp fun p hp=>⟨List.mem_cons_of_mem _ hp.1,hp.2⟩,?_,?_,hinv.rest,hinv.size,hinv.defers,hinv.st,hinv.ks,hinv.down,hinv.fuel⟩
  .intro p hp BO
   have hmono:∀ p':Rec,(∀ s u,lk s p'.l=some u->(∃ q∈dl,HK ops q.i=some s/\q.i∈Sg ops p'.i/\q.v=u)∨((∀ j,HK ops j=some s->p'.i∈Sg ops j)/\a0.tmps.getD s undef=u)) ->
     (∀ s u,lk s p'.l=some u->(∃ q∈(⟨i,l,rs,v⟩::dl:List Rec),HK ops q.i=some s/\q.i∈Sg ops p'.i/\q.v=u)∨((∀ j,HK ops j=some s->p'.i∈Sg ops j)/\a0.tmps.getD s undef=u)):=
    fun p' h s u hu=>(h s u hu).imp (fun⟨q,hq,r⟩=>⟨q,List.mem_cons_of_mem _ hq,r⟩) id
   rcases List.mem_cons.1 hp with rfl | hp
   .exact⟨⟨o,ho,ht⟩,hrs,hmono ⟨i,l,rs,v⟩ (Oq kp he hdn hl hs)⟩
   .obtain⟨h1,h2,h3⟩:=hinv.pend p hp BO
    exact⟨h1,h2,hmono p h3⟩
  .intro p hp bB s hs'
   rcases List.mem_cons.1 hp with rfl | hp
   .rw[hnl] at bB;cases bB
   .exact hinv.done p hp bB s hs'
theorem Lr {i:Nat} {listed:Array Bool} {dl:List Rec} (hls:listed.size=ops.size) (hdn:dl.map (·.i)=dn) (hin:∀ i,listed.getD i false=true->∃ p∈dl,p.i=i) (hr:i∈Region.ready .any ops listed) (hni:∀ p∈dl,p.i≠i):i∈Mb ops dn:=by
 obtain⟨h1,_,h3⟩:=(JG hls).1 hr
 refine List.mem_filter.2 ⟨List.mem_range.2 h1,?_⟩
 simp only[Bool.and_eq_true,Bool.not_eq_true',List.all_eq_true,List.contains_eq_mem,decide_eq_false_iff_not,decide_eq_true_eq]
 constructor
 .rw[<- hdn]
  simp only[List.mem_map,not_exists,not_and]
  exact hni
 .intro k hk
  obtain⟨p,hp,e⟩:=hin k (h3 k hk)
  rw[<- hdn]
  exact List.mem_map.2 ⟨p,hp,e⟩
theorem Sj (hok:If n ops=true) {i:Nat} {o:Oper} (l:HH) (ho:ops[i]? = some o) (hl:Live env l) (hs:HO ops dn i (l.map (·.1))=true) (hw:Wt ops l o.guard) {R:Value->GH->Prop} (ht:OT P w0 l H o R) (k:∀ v H',R v H'->(∀ x∈RS,x∈H')/\(∀ k∈keys H',k∈KS∨w0.heap.size<=k)/\XD P n w0 ops KS bX (i::dn) (match o.dst with | some d=>(d,v)::env | none=>env) H' RS Q) {a0:Act} {dl:List Rec} (kp:Ag n bX a0) (hdn:dl.map (·.i)=dn) (hnd:dn.Nodup) (he:TQ ops bX dl env) (hrs:∀ p∈dl,∀ x∈p.rs,x∈RS) {fuel:Nat} {listed:Array Bool} {a:Act} {w:World} (hinv:Inv P n ops w0 KS a0 dl H (fuel+1) listed a w) (hr:i∈Region.ready .any ops listed) (hni:∀ p∈dl,p.i≠i) :
  wpOp P ops Q i (wpAny P .any ops Q fuel (listed.setIfInBounds i true)) a w:=by
 obtain⟨hlt,sk,haft⟩:=(JG hinv.lsize).1 hr
 have hagv:=hinv.agv sk haft (Oq kp he hdn hl hs)
 have hdst:HK ops i=o.dst:=by simp[HK,ho]
 have hni':i∉dl.map (·.i):=by
  simp only[List.mem_map,not_exists,not_and]
  exact hni
 unfold wpOp
 simp only[ho]
 rw[Ae (hw.wanted hagv)]
 refine .inl (I3 ?_ (fun _ _ _ h=>h.elim) (ht a w hagv hinv.st))
 rintro a' w' ⟨v,H',rfl,hst,hR⟩
 obtain⟨k1,k3,k2⟩:=k v H' hR
 have p5:Inv P n ops w0 KS a0 (⟨i,l,[],v⟩::dl) H' fuel (listed.setIfInBounds i true) (a.put o.dst v) w':=by
  have hlt':i<listed.size:=by rw[hinv.lsize];exact hlt
  rw[<- hdst]
  refine⟨by simpa using hinv.lsize,?_,?_,?_,?_,by rw[RP];exact hinv.size,by rw[OE];exact hinv.defers,hst,k3,?_,?_⟩
  .intro j hj
   rw[HJ hlt'] at hj
   by_cases e:j=i
   .exact⟨⟨i,l,[],v⟩,List.mem_cons_self ..,e.symm⟩
   .rw[Af e] at hj
    exact(hinv.inn j hj).imp fun p hp=>⟨List.mem_cons_of_mem _ hp.1,hp.2⟩
  .intro q hq lL
   rw[HJ hlt'] at lL
   rcases List.mem_cons.1 hq with rfl | hq
   .simp at lL
   .have hne:=hni q hq
    rw[Af hne] at lL
    obtain⟨h1,_,h3⟩:=hinv.pend q hq lL
    exact⟨h1,fun x hx=>k1 x (hrs q hq x hx),fun s u hu=>(h3 s u hu).imp (fun⟨r,hr,z⟩=>⟨r,List.mem_cons_of_mem _ hr,z⟩) id⟩
  .intro q hq pP s hs'
   rcases List.mem_cons.1 hq with rfl | hq
   .have hs'':HK ops i=some s:=hs'
    rw[hs'',LB (by rw[hinv.size];exact RO hok hs'')]
   .have hne:=hni q hq
    rw[HJ hlt',Af hne] at pP
    rw[LP (fun hh=>hne (Oy hok hs' hh))]
    exact hinv.done q hq pP s hs'
  .intro s hs'
   have hne:HK ops i≠some s:=fun hh=>by
    have:=hs' i hh
    rw[HJ hlt',Ae rfl] at this
    cases this
   rw[LP hne]
   refine hinv.rest s fun j hj=>?_
   have:=hs' j hj
   rw[HJ hlt'] at this
   split at this
   .cases this
   .exact this
  .intro j hj k' hk
   rw[HJ hlt'] at hj ⊢
   by_cases e:k'=i
   .rw[Ae e]
   .rw[Af e]
    by_cases e2:j=i
    .subst e2;exact haft k' hk
    .rw[Af e2] at hj;exact hinv.down j hj k' hk
  .rw[O2 hlt' sk _ hlt]
   have:=hinv.fuel
   omega
 have henv:=OX (p:=⟨i,l,[],v⟩) hok he hni'
 refine k2 a0 (⟨i,l,[],v⟩::dl) kp (by simp[hdn]) (List.nodup_cons.2 ⟨by rw[<- hdn];exact hni',hnd⟩) ?_ ?_ _ _ _ _ p5
 .cases hd:o.dst with
  | none=>exact henv.2 (by rw[hdst,hd])
  | some d=>exact henv.1 d (by rw[hdst,hd])
 .intro p hp x hx
  rcases List.mem_cons.1 hp with rfl | hp
  .cases hx
  .exact hrs p hp x hx
theorem GV (hok:If n ops=true) (i:Nat) {o:Oper} {d:Nat} (l:HH) (ho:ops[i]? = some o) (hd:o.dst=some d) (hf:Mb ops dn=[i]) (hl:Live env l) (hs:HO ops dn i (l.map (·.1))=true) (hw:Wt ops l o.guard) {R:Value->GH->Prop} (ht:OT P w0 l H o R) (k:∀ v H',R v H'->(∀ x∈RS,x∈H')/\(∀ k∈keys H',k∈KS∨w0.heap.size<=k)/\XD P n w0 ops KS bX (i::dn) ((d,v)::env) H' RS Q):XD P n w0 ops KS bX dn env H RS Q:=by
 intro a0 dl kp hdn hnd he hrs
 refine Lk hok (by rw[hdn];exact hnd) ?_ ?_
 .intro a w listed hr hinv
  exfalso
  have hi:i∈Mb ops dn:=by rw[hf];exact List.mem_singleton.2 rfl
  obtain⟨h1,h2⟩:=List.mem_filter.1 hi
  have:=J7 hok hinv.lsize hr i (List.mem_range.1 h1)
  obtain⟨p,hp,e⟩:=hinv.inn i this
  simp only[Bool.and_eq_true,Bool.not_eq_true',List.contains_eq_mem,decide_eq_false_iff_not] at h2
  exact h2.1 (by rw[<- hdn];exact List.mem_map.2 ⟨p,hp,e⟩)
 .intro fuel listed a w j hinv hr hni
  have hj:=Lr hinv.lsize hdn hinv.inn hr hni
  rw[hf] at hj
  obtain rfl:=List.mem_singleton.1 hj
  exact Sj hok l ho hl hs hw ht (fun v H' hR=>by rw[hd];exact k v H' hR) kp hdn hnd he hrs hinv hr hni
theorem LI (hok:If n ops=true) (i:Nat) {o:Oper} (l:HH) (ho:ops[i]? = some o) (hd:o.dst=none) (hf:Mb ops dn=[i]) (hl:Live env l) (hs:HO ops dn i (l.map (·.1))=true) (hw:Wt ops l o.guard) {R:Value->GH->Prop} (ht:OT P w0 l H o R) (k:∀ v H',R v H'->(∀ x∈RS,x∈H')/\(∀ k∈keys H',k∈KS∨w0.heap.size<=k)/\XD P n w0 ops KS bX (i::dn) env H' RS Q):XD P n w0 ops KS bX dn env H RS Q:=by
 intro a0 dl kp hdn hnd he hrs
 refine Lk hok (by rw[hdn];exact hnd) ?_ ?_
 .intro a w listed hr hinv
  exfalso
  have hi:i∈Mb ops dn:=by rw[hf];exact List.mem_singleton.2 rfl
  obtain⟨h1,h2⟩:=List.mem_filter.1 hi
  have:=J7 hok hinv.lsize hr i (List.mem_range.1 h1)
  obtain⟨p,hp,e⟩:=hinv.inn i this
  simp only[Bool.and_eq_true,Bool.not_eq_true',List.contains_eq_mem,decide_eq_false_iff_not] at h2
  exact h2.1 (by rw[<- hdn];exact List.mem_map.2 ⟨p,hp,e⟩)
 .intro fuel listed a w j hinv hr hni
  have hj:=Lr hinv.lsize hdn hinv.inn hr hni
  rw[hf] at hj
  obtain rfl:=List.mem_singleton.1 hj
  exact Sj hok l ho hl hs hw ht (fun v H' hR=>by rw[hd];exact k v H' hR) kp hdn hnd he hrs hinv hr hni
theorem Pg (hok:If n ops=true) (i j:Nat) {o o':Oper} {d d':Nat} (l l':HH) (ho:ops[i]? = some o) (ho':ops[j]? = some o') (hd:o.dst=some d) (hd':o'.dst=some d') (hf:Mb ops dn=[i,j]) (hl:Live env l) (hl':Live env l') (hs:HO ops dn i (l.map (·.1))=true) (hs':HO ops dn j (l'.map (·.1))=true) (hw:Wt ops l o.guard) (hw':Wt ops l' o'.guard) {R R':Value->GH->Prop} (ht:OT P w0 l H o R) (ht':OT P w0 l' H o' R') (k:∀ v H',R v H'->(∀ x∈RS,x∈H')/\(∀ k∈keys H',k∈KS∨w0.heap.size<=k)/\XD P n w0 ops KS bX (i::dn) ((d,v)::env) H' RS Q) (k':∀ v H',R' v H'->(∀ x∈RS,x∈H')/\(∀ k∈keys H',k∈KS∨w0.heap.size<=k)/\XD P n w0 ops KS bX (j::dn) ((d',v)::env) H' RS Q):XD P n w0 ops KS bX dn env H RS Q:=by
 intro a0 dl kp hdn hnd he hrs
 refine Lk hok (by rw[hdn];exact hnd) ?_ ?_
 .intro a w listed hr hinv
  exfalso
  have hi:i∈Mb ops dn:=by rw[hf];simp
  obtain⟨h1,h2⟩:=List.mem_filter.1 hi
  have:=J7 hok hinv.lsize hr i (List.mem_range.1 h1)
  obtain⟨p,hp,e⟩:=hinv.inn i this
  simp only[Bool.and_eq_true,Bool.not_eq_true',List.contains_eq_mem,decide_eq_false_iff_not] at h2
  exact h2.1 (by rw[<- hdn];exact List.mem_map.2 ⟨p,hp,e⟩)
 .intro fuel listed a w q hinv hr hni
  have hj:=Lr hinv.lsize hdn hinv.inn hr hni
  rw[hf] at hj
  simp only[List.mem_cons,List.not_mem_nil,or_false] at hj
  rcases hj with rfl | rfl
  .exact Sj hok l ho hl hs hw ht (fun v H' hR=>by rw[hd];exact k v H' hR) kp hdn hnd he hrs hinv hr hni
  .exact Sj hok l' ho' hl' hs' hw' ht' (fun v H' hR=>by rw[hd'];exact k' v H' hR) kp hdn hnd he hrs hinv hr hni
theorem AcX (s:Nat) {v v':Value} (hs:lk s env=some v) (he:v=v') (k:XD P n w0 ops KS bX dn ((s,v')::env) H RS Q):XD P n w0 ops KS bX dn env H RS Q:=by
 intro a0 dl kp hdn hnd henv
 refine k a0 dl kp hdn hnd fun t u hu=>?_
 rw[Mh] at hu
 by_cases h:s=t
 .rw[Ae h] at hu;cases hu;subst h;subst he;exact henv _ _ hs
 .rw[Af h] at hu;exact henv _ _ hu
theorem WG (s:Nat) {b:Bool} (hs:lk s env=some (.bool b)) (ht:b=true->XD P n w0 ops KS bX dn ((s,.bool true)::env) H RS Q) (hf:b=false->XD P n w0 ops KS bX dn ((s,.bool false)::env) H RS Q):XD P n w0 ops KS bX dn env H RS Q:=by
 cases b
 .exact AcX s hs rfl (hf rfl)
 .exact AcX s hs rfl (ht rfl)
theorem Ae1 (hok:If n ops=true) (i:Nat) {o:Oper} {d:Nat} (l:HH) (ho:ops[i]? = some o) (hd:o.dst=some d) (hn:dn.contains i=false) (hl:Live env l) (hs:HO ops dn i (l.map (·.1))=true) (hw:WtNot ops l o.guard) (k:XD P n w0 ops KS bX (i::dn) ((d,undef)::env) H RS Q):XD P n w0 ops KS bX dn env H RS Q:=
 AaC hok i l [] ho hd hn hl hs Ad (fun _ _ _=>.inr ⟨hw,rfl⟩) k
theorem GM (hok:If n ops=true) (hall:(List.range ops.size).all dn.contains=true) (k:XQ n w0 env H .normal Q):XD P n w0 ops KS bX dn env H RS Q:=by
 intro a0 dl kp hdn hnd he hrs
 refine Lk hok (by rw[hdn];exact hnd) ?_ ?_
 .intro a w listed hr hinv
  have hlist:=J7 hok hinv.lsize hr
  refine k a w ⟨hinv.size,hinv.defers,fun s v hs=>?_⟩ hinv.st
  rcases he s v hs with ⟨p,hp,h1,h2⟩ | ⟨h1,h2⟩
  .have hlt:p.i<ops.size:=by
    rcases Nat.lt_or_ge p.i ops.size with h' | h'
    .exact h'
    .simp[HK,Array.getElem?_eq_none h'] at h1
   rw[<- h2]
   exact hinv.done p hp (hlist _ hlt) s h1
  .rw[hinv.rest s (fun j hj=>?_)]
   .exact kp.get s v h2
   .exfalso
    have hlt:j<ops.size:=by
     rcases Nat.lt_or_ge j ops.size with h' | h'
     .exact h'
     .simp[HK,Array.getElem?_eq_none h'] at hj
    obtain⟨p,hp,e⟩:=hinv.inn j (hlist j hlt)
    exact h1 p hp (by rw[e];exact hj)
 .intro fuel listed a w q hinv hr hni
  exfalso
  obtain⟨h1,_,_⟩:=(JG hinv.lsize).1 hr
  simp only[List.all_eq_true,List.contains_eq_mem,decide_eq_true_eq] at hall
  have:=hall q (List.mem_range.2 h1)
  rw[<- hdn] at this
  obtain⟨p,hp,e⟩:=List.mem_map.1 this
  exact hni p hp e
theorem GK {id:Nat} (hm:P.follows .mixedOrders=true) (hok:If n ops=true) (k:If n ops=true->XD P n w0 ops (keys H) env [] env H [] Q):XW P n w0 env H (.region id ops true) Q:=by
 intro a w ha hs
 refine wp_region_any hm (k hok a [] ha rfl List.nodup_nil (fun s v h=>.inr ⟨(fun _ hp=>absurd hp Ad),h⟩) (fun _ hp=>absurd hp Ad) _ _ _ _ ?_)
 have hrep:∀ i,(Array.replicate ops.size false).getD i false=false:=by
  intro i
  simp only[Array.getD_eq_getD_getElem?,Array.getElem?_replicate]
  split <;> rfl
 exact {
  lsize:=Ad
  inn:=fun i hi=>by rw[hrep] at hi;cases hi
  pend:=fun _ hp=>absurd hp Ad
  done:=fun _ hp=>absurd hp Ad
  rest:=fun _ _=>rfl
  size:=ha.size
  defers:=ha.defers
  st:=hs.drew
  ks:=fun k hk=>.inl hk
  down:=fun j hj=>by rw[hrep] at hj;cases hj
  fuel:=by omega}
end
end Go.E
namespace Go.E
open Go
def SrcAt (w:World) (q:Option Addr) (k:Nat) (S:Nat->Value):Prop:=k=0∨∃ b o,q=some ⟨b,o,none⟩/\∀ i,i<k->w.cell? ⟨b,o+i,none⟩=some (S i)
def Own (w0:World) (T:TypeId) (s:Nat) (B:GH) (v:Value) (n:Nat) (G:Nat->Value):Prop:=
 (B=[]/\v=.slice none 0 0/\n=0)∨∃ b o c N F,B=[(b,BK N F T)]/\w0.heap.size<=b/\v=.slice (some ⟨b,o,none⟩) n c/\n<=c/\o+c*s<=N/\c<=maxLen/\∀ i,i<n*s->F (o+i)=G i
def Sl (w:World) (s:Nat) (v:Value) (n:Nat) (G:Nat->Value):Prop:=∃ p c,v=.slice p n c/\n<=c/\c<=maxLen/\(p=none->c=0)/\SrcAt w p (n*s) G
def app (G:Nat->Value) (k:Nat) (S:Nat->Value):Nat->Value:=fun i=>if i<k then G i else S (i-k)
theorem Own.nil {w0:World} {T:TypeId} {s:Nat} (G:Nat->Value):Own w0 T s [] (.slice none 0 0) 0 G:=.inl ⟨rfl,rfl,rfl⟩
theorem Own.mk {w0:World} {T:TypeId} {s b o n c N:Nat} {F G:Nat->Value} (hb:w0.heap.size<=b) (hn:n<=c) (hN:o+c*s<=N) (hc:c<=maxLen) (hF:∀ i,i<n*s->F (o+i)=G i) :
  Own w0 T s [(b,BK N F T)] (.slice (some ⟨b,o,none⟩) n c) n G:=.inr ⟨b,o,c,N,F,rfl,hb,rfl,hn,hN,hc,hF⟩
theorem Own.ext {w0:World} {T:TypeId} {s n:Nat} {B:GH} {v:Value} {G G':Nat->Value} (h:Own w0 T s B v n G) (hG:∀ i,i<n*s->G i=G' i):Own w0 T s B v n G':=by
 rcases h with h | ⟨b,o,c,N,F,h1,h2,h3,h4,h5,h6,h7⟩
 .exact .inl h
 .exact .inr ⟨b,o,c,N,F,h1,h2,h3,h4,h5,h6,fun i hi=>(h7 i hi).trans (hG i hi)⟩
theorem Own.val {w0:World} {T:TypeId} {s n:Nat} {B:GH} {v:Value} {G:Nat->Value} (h:Own w0 T s B v n G):∃ p c,v=.slice p n c/\n<=c/\c<=maxLen/\(p=none->c=0):=by
 rcases h with ⟨_,h2,h3⟩ | ⟨b,o,c,N,F,h1,h2,h3,h4,h5,h6,h7⟩
 .subst h3;exact⟨none,0,h2,Nat.le_refl _,Nat.zero_le _,fun _=>rfl⟩
 .exact⟨_,c,h3,h4,h6,fun h=>by cases h⟩
theorem Own.fresh {w0:World} {T:TypeId} {s n:Nat} {B:GH} {v:Value} {G:Nat->Value} (h:Own w0 T s B v n G):∀ b,b∈keys B->w0.heap.size<=b:=by
 rcases h with ⟨h1,_⟩ | ⟨b,o,c,N,F,h1,h2,_⟩
 .subst h1;simp
 .subst h1;simpa using h2
theorem SrcAt.keep {w0 w:World} {H:GH} {q:Option Addr} {k:Nat} {S:Nat->Value} (h:SrcAt w0 q k S) (hs:St w0 H w) (hn:∀ b o,q=some ⟨b,o,none⟩->b<w0.heap.size->b∉keys H):SrcAt w q k S:=by
 rcases h with h | ⟨b,o,h1,h2⟩
 .exact .inl h
 .rcases Nat.eq_zero_or_pos k with hk | hk
  .exact .inl hk
  .have hlt:=World.block_lt_of_cell? w0 _ (h2 0 hk)
   exact .inr ⟨b,o,h1,fun i hi=>AcJ hs (h2 i hi) (hn b o h1 hlt)⟩
theorem Sl.keep {w0 w:World} {H:GH} {s n:Nat} {v:Value} {G:Nat->Value} (h:Sl w0 s v n G) (hs:St w0 H w) (hn:∀ b,b∈keys H->w0.heap.size<=b):Sl w s v n G:=by
 obtain⟨p,c,h1,h2,h3,h4,h5⟩:=h
 exact⟨p,c,h1,h2,h3,h4,h5.keep hs fun b o _ hlt hb=>by have:=hn b hb;omega⟩
theorem Sl.nil {w:World} {s:Nat} (G:Nat->Value):Sl w s (.slice none 0 0) 0 G:=⟨none,0,rfl,Nat.le_refl _,Nat.zero_le _,fun _=>rfl,.inl Ad⟩
theorem Sl.ext {w:World} {s n:Nat} {v:Value} {G G':Nat->Value} (h:Sl w s v n G) (hG:∀ i,i<n*s->G i=G' i):Sl w s v n G':=by
 obtain⟨p,c,h1,h2,h3,h4,h5⟩:=h
 refine⟨p,c,h1,h2,h3,h4,?_⟩
 rcases h5 with h5 | ⟨b,o,e1,e2⟩
 .exact .inl h5
 .exact .inr ⟨b,o,e1,fun i hi=>by rw[e2 i hi,hG i hi]⟩
theorem SrcAt.own {w0 w:World} {H:GH} {b o k N:Nat} {F S:Nat->Value} {T:TypeId} (hs:St w0 H w) (hm:(b,BK N F T)∈H) (ho:o+k<=N) (hF:∀ i,i<k->F (o+i)=S i):SrcAt w (some ⟨b,o,none⟩) k S:=
 .inr ⟨b,o,rfl,fun i hi=>by rw[Kc (hs.own _ _ hm) Aa,hF i hi]⟩
theorem Sl.at {w:World} {s n i:Nat} {v:Value} {G:Nat->Value} (h:Sl w s v n G) (hi:i<n) (hs:0<s):∃ b o c,v=.slice (some ⟨b,o,none⟩) n c/\n<=c/\c<=maxLen/\b<w.heap.size/\∀ l,l<n*s->w.cell? ⟨b,o+l,none⟩=some (G l):=by
 obtain⟨p,c,rfl,h2,h3,h4,h5⟩:=h
 have hpos:0<n*s:=Nat.mul_pos Aa hs
 rcases h5 with h5 | ⟨b,o,rfl,hc⟩
 .omega
 .exact⟨b,o,c,rfl,h2,h3,World.block_lt_of_cell? w _ (hc 0 hpos),hc⟩
theorem Own.at {w0:World} {T:TypeId} {s n i:Nat} {B:GH} {v:Value} {G:Nat->Value} (h:Own w0 T s B v n G) (hi:i<n):∃ b o c N F,B=[(b,BK N F T)]/\w0.heap.size<=b/\v=.slice (some ⟨b,o,none⟩) n c/\n<=c/\o+c*s<=N/\c<=maxLen/\∀ i,i<n*s->F (o+i)=G i:=by
 rcases h with ⟨_,_,h⟩ | h
 .omega
 .exact h
section
variable {P:Program} {n:Nat} {w0:World} {env:HH} {H:GH} {Q:Exit->Act->World->Prop} {ops:Array Oper} {rest:List Oper}
variable {d:Option Nat} {op:Op} {ty:TypeId} {pos:String} {af:Array Edge} {g:Option (Nat×Bool)}
variable {t yt:TypeId} {x y:Operand} {b o N s:Nat} {F:Nat->Value} {m k:Nat->Int} {T:TypeId}
def K7:Value->Option Bool
 | .pointer p=>some p.isNone
 | .slice p _ _=>some p.isNone
 | .map p=>some p.isNone
 | .nilIface=>some true
 | .iface _ _=>some false
 | .nilFunc=>some true
 | .func _ _ _=>some false
 | _=>none
def QE:TypeDesc->Option Value
 | .pointer _=>some (.pointer none)
 | .slice _=>some (.slice none 0 0)
 | .map _ _=>some (.map none)
 | .interface _=>some .nilIface
 | .func _ _ _=>some .nilFunc
 | _=>none
def Il:TypeDesc->Value->Bool
 | .pointer _,.pointer _=>true
 | .slice _,.slice _ _ _=>true
 | .map _ _,.map _=>true
 | .interface _,.nilIface=>true
 | .interface _,.iface _ _=>true
 | .func _ _ _,.nilFunc=>true
 | .func _ _ _,.func _ _ _=>true
 | _,_=>false
theorem Uz {ds:TypeDesc} {v z:Value} {r:Bool} (ht:P.underlying t=some ds) (hz:QE ds=some z) (hk:Il ds v=true) (hr:K7 v=some r) (w:World):(Op.equal t v z).run P w=.ok r w:=by
 show(Op.equalIn (9999+1) t v z).run P w=_
 cases ds <;> simp only[QE,Option.some.injEq,reduceCtorEq] at hz <;> subst hz <;> cases v <;> simp only[Il,Bool.false_eq_true,K7,Option.some.injEq] at hk hr <;> subst hr
 case pointer.pointer e p=>cases p <;> (rw[Op.equalIn];simp[run_underlying ht])
 case slice.slice e p _ _=>cases p <;> (rw[Op.equalIn];simp[run_underlying ht])
 case map.map e p=>cases p <;> (rw[Op.equalIn];simp[run_underlying ht])
 all_goals (rw[Op.equalIn];simp[run_underlying ht])
theorem Wv {bop:BinOp} {ds:TypeDesc} {v z:Value} (hz:QE ds=some z) (hk:Il ds v=true) {a:Act} (_ha:a.eval x=v) (w:World):(eqGuard bop t x (.const z) v z).run P w=.ok () w:=by
 cases ds <;> simp only[QE,Option.some.injEq,reduceCtorEq] at hz <;> subst hz <;> cases v <;> simp only[Il,Bool.false_eq_true] at hk <;> (unfold eqGuard;cases bop <;> simp)
theorem HP {ds:TypeDesc} {v z:Value} {r:Bool} (ht:P.underlying t=some ds) (hz:QE ds=some z) (hx:ev env x=some v) (hk:Il ds v=true) (hr:K7 v=some r) :
  OT P w0 env H ⟨d,.binOp .eql t x (.const z) yt,ty,pos,af,g⟩ (Is (.bool r) H):=
 aD fun a w ha=>by
  have hb:(binOp .eql t v z).run P w=.ok (.bool r) w:=by
   have:=Uz ht hz hk hr w
   cases ds <;> simp only[QE,Option.some.injEq,reduceCtorEq] at hz <;> subst hz <;> cases v <;> simp only[Il,Bool.false_eq_true] at hk <;> simp[binOp,this]
  have hc:a.eval (.const z)=z:=rfl
  simp only[execOp,ha.ev hx,hc,Sem.run_bind,Wv hz hk (ha.ev hx),hb,Result.andThen_ok,Sem.run_pure]
theorem I6 {ds:TypeDesc} {v z:Value} {r:Bool} (ht:P.underlying t=some ds) (hz:QE ds=some z) (hx:ev env x=some v) (hk:Il ds v=true) (hr:K7 v=some r) :
  OT P w0 env H ⟨d,.binOp .neq t x (.const z) yt,ty,pos,af,g⟩ (Is (.bool (!r)) H):=
 aD fun a w ha=>by
  have hb:(binOp .neq t v z).run P w=.ok (.bool !r) w:=by
   have:=Uz ht hz hk hr w
   cases ds <;> simp only[QE,Option.some.injEq,reduceCtorEq] at hz <;> subst hz <;> cases v <;> simp only[Il,Bool.false_eq_true] at hk <;> simp[binOp,this]
  have hc:a.eval (.const z)=z:=rfl
  simp only[execOp,ha.ev hx,hc,Sem.run_bind,Wv hz hk (ha.ev hx),hb,Result.andThen_ok,Sem.run_pure]
structure App (P:Program) (t e:TypeId) (s by_:Nat) (z:Value):Prop where
 u:P.underlying t=some (.slice e)
 i:(P.info? e).map (fun i=>(i.size,i.bytes,i.zero))=some (s,by_,some z)
 z:z.cells.size=s
 pos:Nat.blt 0 s=true
theorem YA {w:World} {b o k:Nat} {S:Nat->Value} (h:∀ i,i<k->w.cell? ⟨b,o+i,none⟩=some (S i)):∀ j v,((List.range k).map S)[j]? = some v->w.cell? ((⟨b,o,none⟩:Addr).add j)=some v:=by
 intro j v hj
 rw[Addr.add_lit]
 by_cases hjk:j<k
 .rw[h j hjk];simpa [hjk] using hj
 .simp[hjk] at hj
inductive FillS (P:Program) (s N:Nat) (env:HH):List (Nat×Operand)->(Nat->Value)->(Nat->Value)->Prop
 | nil (f:Nat->Value):FillS P s N env [] f f
 | one {i:Nat} {x:Operand} {v:Value} {f f':Nat->Value} {l:List (Nat×Operand)} (h1:s=1) (ho:Nat.ble (i+1) N=true) (hx:ev env x=some v) (hv:v.oneCell'=true) (h:FillS P s N env l (upd f i v) f'):FillS P s N env ((i,x)::l) f f'
 | agg {i:Nat} {x:Operand} {h:Nat->Value} {f f':Nat->Value} {l:List (Nat×Operand)} (ho:Nat.ble (i*s+s) N=true) (hx:ev env x=some (AG s h)) (hh:FillS P s N env l (J9 f (i*s) s h) f'):FillS P s N env ((i,x)::l) f f'
theorem FillS.int {i:Nat} {x:Operand} {v:Int} {m:Nat->Int} {f':Nat->Value} {l:List (Nat×Operand)} (ho:Nat.ble (i+1) N=true) (hx:ev env x=some (.int .i64 v)) (h:FillS P 1 N env l (iv (Gq m i v)) f'):FillS P 1 N env ((i,x)::l) (iv m) f':=
 .one rfl ho hx rfl (by rw[WL];exact h)
theorem FillS.ints {i:Nat} {x:Operand} {h m:Nat->Int} {f':Nat->Value} {l:List (Nat×Operand)} (ho:Nat.ble (i*s+s) N=true) (hx:ev env x=some (AI s h)) (hh:FillS P s N env l (iv (GX m (i*s) s h)) f'):FillS P s N env ((i,x)::l) (iv m) f':=
 .agg ho hx (by rw[Uq];exact hh)
theorem FillS.run {a:Act} (ha:AgV env a) {l:List (Nat×Operand)} {f f':Nat->Value} (h:FillS P s N env l f f') :
  Instr.fill (fun i=>some (i*s,s)) (CV N f) (l.map fun p=>(p.1,a.eval p.2))=some (CV N f'):=by
 induction h with
 | nil f=>rfl
 | @one i x v f f' l h1 ho hx hv h ih=>
  subst h1
  have hc:v.cells=#[v]:=by cases v <;> first | rfl | simp[Value.oneCell'] at hv
  have hle:=Nat.le_of_ble_eq_true ho
  rw[List.map_cons,R5 (off:=i*1) (s:=1) rfl (by rw[ha.ev hx,hc];rfl) Aa (f':=upd f i v)
   (fun j hj=>by
    obtain rfl:j=0:=Aa
    rw[ha.ev hx,hc];simp[upd]) (fun j _ hh=>by simp only[upd];rw[Af Aa])]
  exact ih
 | @agg i x h f f' l ho hx hh ih=>
  rw[List.map_cons,R5 (off:=i*s) (s:=s) rfl (by rw[ha.ev hx,Km];simp) (Nat.le_of_ble_eq_true ho) (f':=J9 f (i*s) s h)
   (fun j hj=>by rw[ha.ev hx,Km,KB hj];simp only[J9];rw[Ae Aa];congr 2;omega) (fun j _ hh=>by simp only[J9];rw[Af Aa])]
  exact ih
def AiR (w0:World) (o:Obj) (len:Nat) (H:GH):Value->GH->Prop:=fun v H'=>∃ b,w0.heap.size<=b/\v=.slice (some ⟨b,0,none⟩) len len/\H'=(b,o)::H
theorem Ho {e:TypeId} {ag:Bool} {ps:Array (Nat×Operand)} {len:Nat} {z:Value} {zf f:Nat->Value} (he:Zf P t e s ag) (hz:ZeroT P e z) (hzc:z.cells=CV s zf) (hN:N=len*s) (hlen:Nat.ble (len*s) 16777216=true) (hf:FillS P s N env ps.toList (fun i=>zf (i % s)) f):OT P w0 env H ⟨d,.buildSlice t len ps,ty,pos,af,g⟩ (AiR w0 (BK N f e) len H):=
 OT.val fun a w ha hs=>by
  subst hN
  have hle:=Nat.le_of_ble_eq_true hlen
  have hm:(ps.map fun(p:Nat×Operand)=>(p.1,a.eval p.2)).toList=ps.toList.map fun p=>(p.1,a.eval p.2):=Ad
  have hinit:(Array.range (len*s)).map (fun i=>z.cells[i % z.cells.size]!)=CV (len*s) (fun i=>zf (i % s)):=by
   refine Sf Ad fun i hi=>?_
   have dK:0<s:=Nat.pos_of_ne_zero fun e=>by subst e;simp at hi
   rw[hzc]
   simp only[CV_size]
   rw[Array.getElem?_map,Array.getElem?_range,Ae hi]
   simp only[Option.map_some,getElem!_def,KB (Nat.mod_lt i dK)]
  have hfill:=hf.run ha
  have hrun:(execOp a.eval ⟨d,.buildSlice t len ps,ty,pos,af,g⟩).run P w=.ok (.value (.slice (some ⟨w.heap.size,0,none⟩) len len)) (w.alloc (BK (len*s) f e)):=by
   have hnot:¬ 16777216<len*s:=Aa
   by_cases h0:len*s=0
   .have tq:(Array.range (len*s)).map (fun i=>(#[]:Array Value)[i % (#[]:Array Value).size]!)=CV (len*s) (fun i=>zf (i % s)):=by rw[h0];simp[CV]
    simp only[execOp,Instr.buildSlice,Sem.run_bind,run_underlying he.1,Result.andThen_ok,he.2.sizeOf]
    rw[Af (by simpa using hnot)]
    simp only[h0,if_true,Sem.run_pure,Result.andThen_ok,hm,Sem.run_bind]
    rw[h0] at hfill tq
    rw[tq,hfill]
    simp[newRow,BK]
   .simp only[execOp,Instr.buildSlice,Sem.run_bind,run_underlying he.1,Result.andThen_ok,he.2.sizeOf]
    rw[Af (by simpa using hnot)]
    simp only[h0,if_false,Sem.run_pure,Result.andThen_ok,hm,Sem.run_bind,hz.run,hinit,hfill]
    simp[newRow,BK]
  exact⟨_,_,_,hrun,hs.alloc _,w.heap.size,hs.size,rfl,rfl⟩
theorem AdF {e:TypeId} {ag:Bool} {len h:Nat} {o2:Operand} {k:IntKind} {i:Int} (he:Aay P t len e s ag) (hx:ev env x=some (.pointer (some ⟨b,o,none⟩))) (hy:ev env o2=some (.int k i)) (hi:i=(h:Int)) (hl:h<=len) :
  OT P w0 env H ⟨d,.slice t x none (some o2) none,ty,pos,af,g⟩ (Is (.slice (some ⟨b,o,none⟩) h len) H):=
 aD fun a w ha=>by
  subst hi
  have hb:(Instr.sliceBounds false len len none (some (.int k (h:Int))) none).run P w=.ok (0,h,len) w:=by
   simp[Instr.sliceBounds,Instr.sliceBound,asIntOf,hl]
  simp[execOp,ha.ev hx,ha.ev hy,Instr.sliceAt,run_underlying he.1,Instr.sureAddr,hb,he.2.sizeOf,Addr.add]
theorem AgR {e:TypeId} {ts:Array TypeId} {n:Nat} {v:Value} (ht:ts=#[t]) (he:P.underlying t=some (.slice e)) {args:Array Operand} (hargs:Ui env args.toList=some [v]) (hv:∃ p c,v=.slice p n c) :
  OT P w0 env H ⟨d,.call ⟨.builtin .len,args,ts⟩,ty,pos,af,g⟩ (Is (.int .i64 n) H):=by
 obtain⟨p,c,rfl⟩:=hv
 exact PD ht he hargs
end
end Go.E
